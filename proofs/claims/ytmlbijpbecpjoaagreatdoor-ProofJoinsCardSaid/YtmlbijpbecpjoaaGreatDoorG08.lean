/-
  Am13, Am14, Am15.
-/
import Derived.Test.YtmlbijpbecpjoaaGreatDoorG07
import Derived.LoopN
set_option linter.all false
namespace Go.Am
def rdO:AO->VH
 | .t n=>[n]
 | .c _=>[]
def SA (xs:Ug):VH:=xs.flatMap rdO
def RK:Option AO->VH
 | some x=>rdO x
 | none=>[]
def Q1:AOp->VH
 | .mov x=>rdO x
 | .mvs n=>[n]
 | .box x=>rdO x
 | .alloc _=>[]
 | .gbox x=>rdO x
 | .gbxn x _=>rdO x
 | .galloc _=>[]
 | .galt _ _=>[]
 | .fad s _=>[s]
 | .fadr p _=>[p]
 | .ldf s _ _ _=>[s]
 | .ldfm s _=>[s]
 | .ld p _ _=>[p]
 | .ldg p _ _=>[p]
 | .ldm p=>[p]
 | .stf s _ _ x=>s:: rdO x
 | .stn s _ _ x _=>s:: rdO x
 | .stfm s _ n=>[s,n]
 | .st p _ x=>p:: rdO x
 | .stm p n=>[p,n]
 | .bin _ x y=>rdO x ++ rdO y
 | .eqb _ x y=>rdO x ++ rdO y
 | .eqn _ x=>rdO x
 | .eqa _ _ x y=>rdO x ++ rdO y
 | .isn _ x=>rdO x
 | .un _ x=>rdO x
 | .conv _ x=>rdO x
 | .call _ args=>SA args
 | .callq _ args=>SA args
 | .callv g args=>rdO g ++ SA args
 | .lens x=>rdO x
 | .lenl x=>rdO x
 | .app _ _ s x=>rdO s ++ rdO x
 | .appg _ _ s x=>rdO s ++ rdO x
 | .appz _ _ n x=>n:: rdO x
 | .frz n _=>[n]
 | .zlit=>[]
 | .nilp=>[]
 | .appzz s x=>rdO s ++ rdO x
 | .clr _ x=>rdO x
 | .mx x y=>rdO x ++ rdO y
 | .mn x y=>rdO x ++ rdO y
 | .mksl _ parts=>SA parts
 | .mksg _ parts=>SA parts
 | .mkst _ parts=>SA (parts.map fun p=>p.2.2)
 | .idxa _ x i=>rdO x ++ rdO i
 | .idx x i=>rdO x ++ rdO i
 | .slcs x lo hi=>rdO x ++ (RK lo ++ RK hi)
 | .slcl _ x lo hi=>rdO x ++ (RK lo ++ RK hi)
 | .slz _ x=>rdO x
 | .slcf _ x hi mx=>rdO x ++ (rdO hi ++ rdO mx)
 | .pick c a b=>rdO c ++ (rdO a ++ rdO b)
 | .ext x _=>rdO x
 | .mkfn _ caps=>SA caps
 | .mkfb _ caps=>SA caps
 | .nilck x=>rdO x
 | .mkm=>[]
 | .ldfz s _ _ _ _=>[s]
 | .mkg _ _ _ x=>rdO x
 | .mkz _ _ _ x=>rdO x
 | .mkp _ _ _ x=>rdO x
 | .extm n=>[n]
 | .mkstP n _ parts=>n:: SA (parts.map fun p=>p.2.2)
 | .bstr x=>rdO x
 | .fld _ _ _ x=>rdO x
 | .appM _ _ s x=>rdO s ++ rdO x
 | .apps _ s x=>rdO s ++ rdO x
 | .appb _ s x=>rdO s ++ rdO x
 | .lgb _=>[]
 | .usd x=>rdO x
 | .ust _ q p x=>q:: p:: rdO x
 | .apn _ _ _ s x=>rdO s ++ rdO x
 | .stq p _ x q=>p:: q:: rdO x
 | .stp p _ x q=>p:: q:: rdO x
 | .slcx _ x lo hi=>rdO x ++ (RK lo ++ RK hi)
 | .slcc _ x lo hi mx=>rdO x ++ (RK lo ++ (rdO hi ++ rdO mx))
 | .lkm _ _ x i _=>rdO x ++ rdO i
 | .upm _ x k y=>rdO x ++ (rdO k ++ rdO y)
 | .mpe _ x k _=>rdO x ++ rdO k
 | .ens x st y=>rdO x ++ (rdO st ++ rdO y)
 | .ensf x st n _=>n:: (rdO x ++ rdO st)
def YD:AOp->VH
 | .mvs n=>[n]
 | .ldfm s _=>[s]
 | .stf s _ _ _=>[s]
 | .stn s _ _ _ _=>[s]
 | .stfm s _ n=>[s,n]
 | .stm _ n=>[n]
 | .app _ _ s _=>rdO s
 | .appg _ _ s _=>rdO s
 | .appz _ _ n _=>[n]
 | .frz n _=>[n]
 | .ldfz s _ _ _ _=>[s]
 | .extm n=>[n]
 | .ensf _ _ n _=>[n]
 | .mkstP n _ _=>[n]
 | _=>[]
def Zj:AOp->Nat
 | .gbox _=>2
 | .gbxn _ _=>2
 | .galloc _=>2
 | .galt _ _=>2
 | .ldg _ _ _=>1
 | .ldm _=>2
 | .st _ _ _=>2
 | .stm _ _=>2
 | .call _ _=>2
 | .callq _ _=>1
 | .callv _ _=>2
 | .appg _ _ _ _=>2
 | .appz _ _ _ _=>2
 | .frz _ _=>2
 | .clr _ _=>2
 | .mkm=>2
 | .ldfz _ _ _ _ _=>2
 | .mkg _ _ _ _=>2
 | .mkstP _ _ _=>2
 | .mksg _ _=>2
 | .lkm _ _ _ _ _=>1
 | .appM _ _ _ _=>2
 | .apps _ _ _=>2
 | .appb _ _ _=>2
 | .ust _ _ _ _=>2
 | .apn _ _ _ _ _=>2
 | .slcx _ _ _ _=>1
 | .stq _ _ _ _=>2
 | .stp _ _ _ _=>2
 | .upm _ _ _ _=>2
 | .mpe _ _ _ _=>2
 | .ens _ _ _=>2
 | .ensf _ _ _ _=>2
 | _=>0
def QA (op:AOp) (τ s:St):St:={env:=fun j=>if j∈YD op then s.env j else τ.env j,bs:=if Zj op=2 then s.bs else τ.bs}
def QX {op:AOp} {τ s:St} (h:YD op=[]) (hb:Zj op≠2):QA op τ s=τ:=by
 unfold QA;rw[h];simp[hb]
def Qs {ρ ρ':Ql} {x:AO} (h: ∀j∈rdO x,ρ' j=ρ j):val ρ' x=val ρ x:=by
 cases x with
 | t n=>simp only[val];rw[h n (by simp[rdO])]
 | c v=>rfl
def Wc:=@List.mem_append
def VW [Dr] {ρ ρ':Ql}: ∀{xs:Ug},(∀j∈SA xs,ρ' j=ρ j)->xs.map (val ρ')=xs.map (val ρ)
 | [],_=>rfl
 | x:: xs,h=>by
  simp only[Yf];rw[Qs (fun j hj=>h j (by simp[SA];exact .inl hj)),VW (fun j hj=>h j (by simp only[SA,List.flatMap_cons,Wc];exact .inr hj))]
def U1 [Dr] {ρ ρ':Ql} {x:Option AO} (h: ∀j∈RK x,ρ' j=ρ j):x.map (val ρ')=x.map (val ρ):=by
 cases x with
 | none=>rfl
 | some x=>simp only[QS];rw[Qs (by simpa[RK]using h)]
def Ys {s t:St} (h1: ∀j,s.env j=t.env j) (h2:s.bs=t.bs):s=t:=by
 cases s;cases t
 simp only[St.mk.injEq];exact⟨funext h1,h2⟩
def MT {σ τ:St} {n sz:Nat} (h0:τ.env n=σ.env n) (h1:τ.bs=σ.bs):Yk τ n sz=(Yk σ n sz).map fun p=>(p.1,{env:=upd τ.env n .undef,bs:=p.2.bs}):=by
 unfold Yk;rw[h0,h1];split
 ·split
  ·split
   ·simp
   ·rename_i id _ _ _ _ _ _;cases σ.bs[id]? with
    | none=>rfl
    | some cs=>
     simp only[QC];split <;> rfl
  ·split <;> simp
 ·rfl
def RV {σ:St} {n sz:Nat} {p:AV×St} (h:Yk σ n sz=some p):p.2.env=upd σ.env n .undef:=by
 unfold Yk at h;split at h
 ·split at h
  ·split at h
   ·injection h with h;subst h;rfl
   ·rename_i id _ _ _ _ _ _;cases hb:σ.bs[id]? with
    | none=>rw[hb]at h;cases h
    | some cs=>
     rw[hb]at h;simp only[QC]at h;split at h
     ·injection h with h;subst h;rfl
     ·cases h
  ·split at h
   ·injection h with h;subst h;rfl
   ·cases h
 ·cases h
def LG {σ τ:St} {x st v:AV} (h:τ.bs=σ.bs):Sq τ x st v=(Sq σ x st v).map fun p=>(p.1,{env:=τ.env,bs:=p.2.bs}):=by
 unfold Sq;split
 ·rw[h];rename_i id n;cases σ.bs[id]? with
  | none=>rfl
  | some cs=>
   simp only[QC];split
   ·rfl
   ·split <;> rfl
 ·rfl
def IW {σ:St} {x st v:AV} {p:AV×St} (h:Sq σ x st v=some p):p.2.env=σ.env:=by
 unfold Sq at h;split at h
 ·rename_i id n;cases hb:σ.bs[id]? with
  | none=>rw[hb]at h;cases h
  | some cs=>
   rw[hb]at h;simp only[QC]at h;split at h
   ·cases h
   ·split at h
    ·injection h with h;subst h;rfl
    ·cases h
 ·cases h
def YA:=@true_and
def Vt:=@List.mem_singleton
def ZS:=@List.mem_cons
def FQ:=@List.not_mem_nil
def Tx:=@Option.map_map
def Pi:=@List.map_congr_left
set_option maxHeartbeats 1000000 in
def Jl [Dr] {K:Yo} {op:AOp} {σ τ:St} (hr: ∀j∈Q1 op,τ.env j=σ.env j) (hb:Zj op≠0->τ.bs=σ.bs):
  Qi K op τ=(Qi K op σ).map fun p=>(p.1,QA op τ p.2):=by
 cases op
 case mov x=>
  have hm: ∀s':St,QA (.mov x) τ s'=τ:=fun _=>QX rfl (show(0:Nat)≠2 by omega);simp only[Qi];rw[Qs hr];split <;> simp[hm]
 case mvs n=>
  have h0:=hr n (by simp[Q1]);simp only[Qi,h0];split
  ·simp only[QS,QD,QV,YA];exact Ys (fun j=>by simp only[QA,YD,upd,Vt];split <;> rfl) (by simp[QA,Zj])
  ·rfl
 case box x=>
  have hm: ∀s':St,QA (.box x) τ s'=τ:=fun _=>QX rfl (show(0:Nat)≠2 by omega);simp only[Qi];rw[Qs hr];simp[hm,Y1]
 case alloc zs=>
  have hm: ∀s':St,QA (.alloc zs) τ s'=τ:=fun _=>QX rfl (show(0:Nat)≠2 by omega);simp[Qi,hm]
 case gbxn x zs=>
  have h0:=hb (by simp[Zj]);simp only[Qi,h0];rw[Qs hr]
  cases cellsOf (val σ.env x)with
  | none=>rfl
  | some cs=>
   simp only[QS,QD,QV,YA];exact Ys (fun j=>by simp[QA,YD]) (by simp[QA,Zj])
 case gbox x=>
  have h0:=hb (by simp[Zj]);simp only[Qi,h0];rw[Qs hr]
  cases cellsOf (val σ.env x)with
  | none=>rfl
  | some cs=>
   simp only[QS,QD,QV,YA];exact Ys (fun j=>by simp[QA,YD]) (by simp[QA,Zj])
 case galt T zs=>
  have h0:=hb (by simp[Zj]);simp only[Qi,h0];split
  ·simp only[QS,QD,QV,YA];exact Ys (fun j=>by simp[QA,YD]) (by simp[QA,Zj])
  ·rfl
 case galloc zs=>
  have h0:=hb (by simp[Zj]);simp only[Qi,h0,QS,QD,QV,YA];exact Ys (fun j=>by simp[QA,YD]) (by simp[QA,Zj])
 case fad s off=>
  have hm: ∀s':St,QA (.fad s off) τ s'=τ:=fun _=>QX rfl (show(0:Nat)≠2 by omega)
  
  have h0:=hr s (by simp[Q1]);simp only[Qi,h0];split <;> simp[hm]
 case fadr p off=>
  have hm: ∀s':St,QA (.fadr p off) τ s'=τ:=fun _=>QX rfl (show(0:Nat)≠2 by omega)
  
  have h0:=hr p (by simp[Q1]);simp only[Qi,h0];split <;> simp[hm]
 case ldf s off sz ag=>
  have hm: ∀s':St,QA (.ldf s off sz ag) τ s'=τ:=fun _=>QX rfl (show(0:Nat)≠2 by omega)
  
  have h0:=hr s (by simp[Q1]);simp only[Qi,h0];split <;> simp[hm,Y1]
 case ldfm s off=>
  have h0:=hr s (by simp[Q1]);simp only[Qi,h0];split
  ·rename_i cs hcs;cases cs[off]? with
   | none=>rfl
   | some c=>
    simp only[QC];split
    ·simp only[QS,QD,QV,YA];exact Ys (fun j=>by simp only[QA,YD,upd,Vt];split <;> rfl) (by simp[QA,Zj])
    ·rfl
  ·rfl
 case ld p sz ag=>
  have hm: ∀s':St,QA (.ld p sz ag) τ s'=τ:=fun _=>QX rfl (show(0:Nat)≠2 by omega)
  
  have h0:=hr p (by simp[Q1]);simp only[Qi,h0];split <;> simp[hm,Y1]
 case ldg p sz ag=>
  have hm: ∀s':St,QA (.ldg p sz ag) τ s'=τ:=fun _=>QX rfl (show(1:Nat)≠2 by omega)
  
  have h0:=hr p (by simp[Q1]);have h1:=hb (by simp[Zj]);simp only[Qi,h0,h1];split
  ·rename_i i of hcs;cases σ.bs[i]? with
   | none=>rfl
   | some cs=>simp[hm,Y1]
  ·rfl
 case ldm p=>
  have h0:=hr p (by simp[Q1]);have h1:=hb (by simp[Zj]);simp only[Qi,h0,h1];split
  ·rename_i i of hcs;cases σ.bs[i]? with
   | none=>rfl
   | some cs=>
    simp only[QC];cases cs[of]? with
    | none=>rfl
    | some c=>
     simp only[QC];split
     ·simp only[QS,QD,QV,YA];exact Ys (fun j=>by simp[QA,YD]) (by simp[QA,Zj])
     ·rfl
  ·rfl
 case stf s off sz x=>
  have h0:=hr s (by simp[Q1]);simp only[Qi,h0];rw[Qs (fun j hj=>hr j (by simp[Q1,hj]))]
  split
  ·rename_i cs hcs;cases cellsOf (val σ.env x)with
   | none=>rfl
   | some vs=>
    simp only[QC];split
    ·simp only[QS,QD,QV,YA];exact Ys (fun j=>by simp only[QA,YD,upd,Vt];split <;> rfl) (by simp[QA,Zj])
    ·rfl
  ·rfl
 case stn s off sz x zs=>
  have h0:=hr s (by simp[Q1]);simp only[Qi,h0];rw[Qs (fun j hj=>hr j (by simp[Q1,hj]))]
  split
  ·rename_i cs hcs;cases cellsOf (val σ.env x)with
   | none=>rfl
   | some vs=>
    simp only[QC];split
    ·simp only[QS,QD,QV,YA];exact Ys (fun j=>by simp only[QA,YD,upd,Vt];split <;> rfl) (by simp[QA,Zj])
    ·rfl
  ·rfl
 case stfm s off n=>
  have h0:=hr s (by simp[Q1]);have h1:=hr n (by simp[Q1]);simp only[Qi,h0,h1];split
  ·rename_i cs hcs;split
   ·simp only[QS,QD,QV,YA];refine Ys (fun j=> ?_) (by simp[QA,Zj]);simp only[QA,YD,upd,ZS,FQ,or_false];by_cases e1:j=s <;> by_cases e2:j=n <;> simp[e1,e2]
   ·rfl
  ·rfl
 case st p sz x=>
  have h0:=hr p (by simp[Q1]);have h1:=hb (by simp[Zj]);simp only[Qi,h0,h1];rw[Qs (fun j hj=>hr j (by simp[Q1,hj]))]
  split
  ·rename_i i of hcs;cases σ.bs[i]? with
   | none=>rfl
   | some cs=>
    simp only[QC];cases cellsOf (val σ.env x)with
    | none=>rfl
    | some vs=>
     simp only[QC];split
     ·simp only[QS,QD,QV,YA];exact Ys (fun j=>by simp[QA,YD]) (by simp[QA,Zj])
     ·rfl
  ·rfl
 case stm p n=>
  have h0:=hr p (by simp[Q1]);have h1:=hb (by simp[Zj]);have h2:=hr n (by simp[Q1]);simp only[Qi,h0,h1,h2];split
  ·rename_i i of hcs;cases σ.bs[i]? with
   | none=>rfl
   | some cs=>
    simp only[QC];split
    ·simp only[QS,QD,QV,YA];exact Ys (fun j=>by simp only[QA,YD,upd,Vt];split <;> rfl) (by simp[QA,Zj])
    ·rfl
  ·rfl
 case bin op x y=>
  have hm: ∀s':St,QA (.bin op x y) τ s'=τ:=fun _=>QX rfl (show(0:Nat)≠2 by omega);simp only[Qi];rw[Qs (fun j hj=>hr j (by simp[Q1,hj])),Qs (x:=y) (fun j hj=>hr j (by simp[Q1,hj]))];simp[hm,Y1]
 case eqb ne x y=>
  have hm: ∀s':St,QA (.eqb ne x y) τ s'=τ:=fun _=>QX rfl (show(0:Nat)≠2 by omega);simp only[Qi];rw[Qs (fun j hj=>hr j (by simp[Q1,hj])),Qs (x:=y) (fun j hj=>hr j (by simp[Q1,hj]))];split <;> simp[hm]
 case eqn ne x=>
  have hm: ∀s':St,QA (.eqn ne x) τ s'=τ:=fun _=>QX rfl (show(0:Nat)≠2 by omega);simp only[Qi];rw[Qs hr];split <;> simp[hm]
 case eqa ne ks x y=>
  have hm: ∀s':St,QA (.eqa ne ks x y) τ s'=τ:=fun _=>QX rfl (show(0:Nat)≠2 by omega);simp only[Qi];rw[Qs (fun j hj=>hr j (by simp[Q1,hj])),Qs (x:=y) (fun j hj=>hr j (by simp[Q1,hj]))];split <;> simp[hm,Y1]
 case isn ne x=>
  have hm: ∀s':St,QA (.isn ne x) τ s'=τ:=fun _=>QX rfl (show(0:Nat)≠2 by omega);simp only[Qi];rw[Qs hr];split <;> simp[hm]
 case un op x=>
  have hm: ∀s':St,QA (.un op x) τ s'=τ:=fun _=>QX rfl (show(0:Nat)≠2 by omega);simp only[Qi];rw[Qs hr];simp[hm,Y1]
 case conv k x=>
  have hm: ∀s':St,QA (.conv k x) τ s'=τ:=fun _=>QX rfl (show(0:Nat)≠2 by omega);simp only[Qi];rw[Qs hr];split <;> simp[hm]
 case call f args=>
  have h0:=hb (by simp[Zj]);simp only[Qi,h0];rw[VW hr]
  split
  ·simp only[Tx,Y1];congr 1
  ·rfl
 case callq f args=>
  have h0:=hb (by simp[Zj]);have hm: ∀s':St,QA (.callq f args) τ s'=τ:=fun _=>QX rfl (show(1:Nat)≠2 by omega);simp only[Qi,h0];rw[VW hr]
  split
  ·cases K f (args.map (val σ.env)) σ.bs with
   | none=>rfl
   | some p=>
    simp only[QC];split
    ·simp[hm]
    ·rfl
  ·rfl
 case callv g args=>
  have h0:=hb (by simp[Zj]);simp only[Qi,h0];rw[VW (fun j hj=>hr j (by simp[Q1,hj])),Qs (fun j hj=>hr j (by simp[Q1,hj]))]
  split
  ·split
   ·simp only[Tx,Y1];congr 1
   ·rfl
  ·split
   ·simp only[Tx,Y1];congr 1
   ·rfl
  ·rfl
 case lens x=>
  have hm: ∀s':St,QA (.lens x) τ s'=τ:=fun _=>QX rfl (show(0:Nat)≠2 by omega);simp only[Qi];rw[Qs hr];split <;> simp[hm]
 case lenl x=>
  have hm: ∀s':St,QA (.lenl x) τ s'=τ:=fun _=>QX rfl (show(0:Nat)≠2 by omega);simp only[Qi];rw[Qs hr];split <;> simp[hm]
 case app bytes sz s x=>
  simp only[Qi];rw[Qs (x:=x) (fun j hj=>hr j (by simp[Q1,hj]))]
  cases s with
  | t n=>
   have h0:=hr n (by simp[Q1,rdO]);simp only[h0];split
   ·rename_i sz1 xs ρ o2 sz2 ys e1 e2;simp only[QV]at e1;obtain⟨e1,rfl⟩:=e1;simp only[e1,e2];split
    ·simp only[QS,QD,QV,YA];exact Ys (fun j=>by simp only[QA,YD,rdO,upd,Vt];split <;> rfl) (by simp[QA,Zj])
    ·rfl
   ·rename_i hne;split
    ·rename_i sz1 xs ρ o2 sz2 ys e1 e2;simp only[QV]at e1;exact(hne sz1 xs _ o2 sz2 ys (by simp only[QV];exact⟨e1.1,rfl⟩) e2).elim
    ·rfl
  | c vc=>
   have hm: ∀s':St,QA (.app bytes sz (.c vc) x) τ s'=τ:=fun _=>QX rfl (show(0:Nat)≠2 by omega);simp only[hm];split
   ·rename_i sz1 xs ρ o2 sz2 ys e1 e2;simp only[QV]at e1;obtain⟨rfl,rfl⟩:=e1;simp only[e2];split <;> rfl
   ·rename_i hne;split
    ·rename_i sz1 xs ρ o2 sz2 ys e1 e2;simp only[QV]at e1;exact(hne sz1 xs _ o2 sz2 ys (by simp only[QV];exact⟨e1.1,rfl⟩) e2).elim
    ·rfl
 case frz n sz=>
  have h0:=hr n (by simp[Q1]);have h1:=hb (by simp[Zj]);simp only[Qi,MT h0 h1];cases hf:Yk σ n sz with
  | none=>rfl
  | some p=>
   simp only[QS,QD,QV,YA];exact Ys (fun j=>by simp only[QA,YD,RV hf,upd,Vt];split <;> rfl) (by simp[QA,Zj])
 case appz bytes sz n x=>
  have h0:=hr n (by simp[Q1]);have h1:=hb (by simp[Zj]);simp only[Qi,MT h0 h1];rw[Qs (x:=x) (fun j hj=>hr j (by simp[Q1,hj]))]
  cases hf:Yk σ n sz with
  | none=>rfl
  | some p=>
   obtain⟨v,s⟩:=p;have he:=RV hf;simp only at he;cases v <;> simp only[QS] <;> try rfl
   rename_i ow sz1 xs;cases ow <;> try rfl
   cases hx:val σ.env x <;> (try simp only[]) <;> try rfl
   split
   ·simp only[QS,QD,QV,YA];exact Ys (fun j=>by simp only[QA,YD,he,upd,Vt];split <;> rfl) (by simp[QA,Zj])
   ·rfl
 case clr sz x=>
  have h1:=hb (by simp[Zj]);simp only[Qi,h1];rw[Qs hr]
  split
  ·split
   ·split
    ·simp only[QS,QD,QV,YA];exact Ys (fun j=>by simp[QA,YD]) (by simp[QA,Zj,h1])
    ·rename_i id _ _ _ _ _ _;cases σ.bs[id]? with
     | none=>rfl
     | some cs=>
      simp only[QC];split
      ·simp only[QS,QD,QV,YA];exact Ys (fun j=>by simp[QA,YD]) (by simp[QA,Zj])
      ·rfl
   ·rfl
  ·rfl
 case appg bytes sz s x=>
  have hb1:=hb (by simp[Zj]);simp only[Qi,hb1];rw[Qs (x:=x) (fun j hj=>hr j (by simp[Q1,hj]))]
  cases s with
  | t n=>
   have h0:=hr n (by simp[Q1,rdO]);simp only[h0];cases hn:σ.env n <;> (try simp only[]) <;> try rfl
   rename_i ow sz1 xs;cases ow <;> try rfl
   cases xs <;> try rfl
   cases hx:val σ.env x <;> (try simp only[]) <;> try rfl
   split
   ·split
    ·rfl
    ·simp only[QS,QD,QV,YA];exact Ys (fun j=>by simp only[QA,YD,rdO,upd,Vt];split <;> rfl) (by simp[QA,Zj])
   ·rfl
  | c vc=>
   cases vc <;> (try simp only[]) <;> try rfl
   rename_i ow sz1 xs;cases ow <;> try rfl
   cases xs <;> try rfl
   cases hx:val σ.env x <;> (try simp only[]) <;> try rfl
   split
   ·split
    ·rfl
    ·simp only[QS,QD,QV,YA];exact Ys (fun j=>by simp[QA,YD,rdO]) (by simp[QA,Zj])
   ·rfl
 case zlit=>
  have hm: ∀s':St,QA .zlit τ s'=τ:=fun _=>QX rfl (show(0:Nat)≠2 by omega);simp[Qi,hm]
 case nilp=>
  have hm: ∀s':St,QA .nilp τ s'=τ:=fun _=>QX rfl (show(0:Nat)≠2 by omega);simp[Qi,hm]
 case appzz s x=>
  have hm: ∀s':St,QA (.appzz s x) τ s'=τ:=fun _=>QX rfl (show(0:Nat)≠2 by omega);simp only[Qi];rw[Qs (fun j hj=>hr j (by simp[Q1,hj])),Qs (x:=x) (fun j hj=>hr j (by simp[Q1,hj]))];split
  ·simp[hm]
  ·rfl
 case mx x y=>
  have hm: ∀s':St,QA (.mx x y) τ s'=τ:=fun _=>QX rfl (show(0:Nat)≠2 by omega);simp only[Qi];rw[Qs (fun j hj=>hr j (by simp[Q1,hj])),Qs (x:=y) (fun j hj=>hr j (by simp[Q1,hj]))];split
  ·split <;> simp[hm]
  ·rfl
 case mn x y=>
  have hm: ∀s':St,QA (.mn x y) τ s'=τ:=fun _=>QX rfl (show(0:Nat)≠2 by omega);simp only[Qi];rw[Qs (fun j hj=>hr j (by simp[Q1,hj])),Qs (x:=y) (fun j hj=>hr j (by simp[Q1,hj]))];split
  ·split <;> simp[hm]
  ·rfl
 case mksl sz parts=>
  have hm: ∀s':St,QA (.mksl sz parts) τ s'=τ:=fun _=>QX rfl (show(0:Nat)≠2 by omega);simp only[Qi];rw[VW hr];simp[hm,Y1]
 case mksg sz parts=>
  have h0:=hb (by simp[Zj]);simp only[Qi,h0];rw[VW hr]
  cases Xy sz (parts.map (val σ.env))with
  | none=>rfl
  | some xs=>
   simp only[QS,QD,QV,YA];exact Ys (fun j=>by simp[QA,YD]) (by simp[QA,Zj])
 case mkst zs parts=>
  have hm: ∀s':St,QA (.mkst zs parts) τ s'=τ:=fun _=>QX rfl (show(0:Nat)≠2 by omega)
  
  simp only[Qi];have:parts.map (fun p=>(p.1,p.2.1,val τ.env p.2.2))=parts.map (fun p=>(p.1,p.2.1,val σ.env p.2.2)):=by
   apply Pi;intro p hp;rw[Qs (fun j hj=>hr j (by simp only[Q1,SA,List.mem_flatMap,W8];exact⟨p.2.2,⟨p,hp,rfl⟩,hj⟩))]
  rw[this];simp[hm,Y1]
 case idxa sz x i=>
  have hm: ∀s':St,QA (.idxa sz x i) τ s'=τ:=fun _=>QX rfl (show(0:Nat)≠2 by omega);simp only[Qi];rw[Qs (fun j hj=>hr j (by simp[Q1,hj])),Qs (x:=i) (fun j hj=>hr j (by simp[Q1,hj]))];split
  ·split <;> simp[hm,Y1]
  ·split <;> simp[hm]
  ·rfl
 case idx x i=>
  have hm: ∀s':St,QA (.idx x i) τ s'=τ:=fun _=>QX rfl (show(0:Nat)≠2 by omega);simp only[Qi];rw[Qs (fun j hj=>hr j (by simp[Q1,hj])),Qs (x:=i) (fun j hj=>hr j (by simp[Q1,hj]))];split
  ·split <;> simp[hm,Y1]
  ·rfl
 case slcs x lo hi=>
  have hm: ∀s':St,QA (.slcs x lo hi) τ s'=τ:=fun _=>QX rfl (show(0:Nat)≠2 by omega)
  
  simp only[Qi];rw[Qs (fun j hj=>hr j (by simp[Q1,hj])),U1 (x:=lo) (fun j hj=>hr j (by simp[Q1,hj])),U1 (x:=hi) (fun j hj=>hr j (by simp[Q1,hj]))]
  split
  ·cases ZG _ _ (hi.map (val σ.env))with
   | none=>rfl
   | some H=>simp[hm,Y1]
  ·rfl
 case slcl sz x lo hi=>
  have hm: ∀s':St,QA (.slcl sz x lo hi) τ s'=τ:=fun _=>QX rfl (show(0:Nat)≠2 by omega)
  
  simp only[Qi];rw[Qs (fun j hj=>hr j (by simp[Q1,hj])),U1 (x:=lo) (fun j hj=>hr j (by simp[Q1,hj])),U1 (x:=hi) (fun j hj=>hr j (by simp[Q1,hj]))]
  split
  ·split
   ·cases ZG _ _ (hi.map (val σ.env))with
    | none=>rfl
    | some H=>simp[hm,Y1]
   ·rfl
  ·split
   ·cases ZG _ _ (hi.map (val σ.env))with
    | none=>rfl
    | some H=>simp[hm,Y1]
   ·split
    ·cases ZG _ _ (hi.map (val σ.env))with
     | none=>rfl
     | some H=>simp[hm,Y1]
    ·rfl
  ·rfl
 case slz sz x=>
  have hm: ∀s':St,QA (.slz sz x) τ s'=τ:=fun _=>QX rfl (show(0:Nat)≠2 by omega);simp only[Qi];rw[Qs hr];split
  ·split <;> simp[hm]
  ·rfl
 case pick c x y=>
  have hm: ∀s':St,QA (.pick c x y) τ s'=τ:=fun _=>QX rfl (show(0:Nat)≠2 by omega)
  
  simp only[Qi];rw[Qs (fun j hj=>hr j (by simp[Q1,hj])),Qs (x:=x) (fun j hj=>hr j (by simp[Q1,hj])),Qs (x:=y) (fun j hj=>hr j (by simp[Q1,hj]))]
  split
  ·split <;> simp[hm]
  ·split <;> simp[hm]
  ·rfl
 case ext x i=>
  have hm: ∀s':St,QA (.ext x i) τ s'=τ:=fun _=>QX rfl (show(0:Nat)≠2 by omega)
  
  simp only[Qi];rw[Qs hr]
  split
  ·rename_i vs hv;cases vs[i]? with
   | none=>rfl
   | some c=>simp only[QC];split <;> simp[hm]
  ·rfl
 case mkfn f caps=>
  have hm: ∀s':St,QA (.mkfn f caps) τ s'=τ:=fun _=>QX rfl (show(0:Nat)≠2 by omega);simp only[Qi];rw[VW hr];split <;> simp[hm]
 case mkfb f caps=>
  have hm: ∀s':St,QA (.mkfb f caps) τ s'=τ:=fun _=>QX rfl (show(0:Nat)≠2 by omega);simp only[Qi];rw[VW hr];split <;> simp[hm]
 case nilck x=>
  have hm: ∀s':St,QA (.nilck x) τ s'=τ:=fun _=>QX rfl (show(0:Nat)≠2 by omega);simp only[Qi];rw[Qs hr];split <;> simp[hm]
 case fld off sz ag x=>
  have hm: ∀s':St,QA (.fld off sz ag x) τ s'=τ:=fun _=>QX rfl (show(0:Nat)≠2 by omega);simp only[Qi];rw[Qs hr];split <;> simp[hm,Y1]
 case mkg bytes sz zs x=>
  have h0:=hb (by simp[Zj]);simp only[Qi,h0];rw[Qs hr]
  split
  ·split
   ·simp only[QS,QD,QV,YA];exact Ys (fun j=>by simp[QA,YD]) (by simp[QA,Zj])
   ·rfl
  ·rfl
 case bstr x=>
  have hm: ∀s':St,QA (.bstr x) τ s'=τ:=fun _=>QX rfl (show(0:Nat)≠2 by omega);simp only[Qi];rw[Qs hr]
  split
  ·rename_i o xs _;cases Oh xs <;> simp[hm]
  ·rfl
 case mkz bytes sz zs x=>
  have hm: ∀s':St,QA (.mkz bytes sz zs x) τ s'=τ:=fun _=>QX rfl (show(0:Nat)≠2 by omega);simp only[Qi];rw[Qs hr]
  split
  ·split
   ·simp[hm]
   ·rfl
  ·rfl
 case ldfz s off sz fo fz=>
  have h0:=hr s (by simp[Q1]);have h1:=hb (by simp[Zj]);simp only[Qi,h0,h1];split
  ·rename_i cs hcs;split
   ·rename_i id o sz1 k hfo;split
    ·cases σ.bs[id]? with
     | none=>rfl
     | some c2=>
      simp only[QC];split
      ·cases YY (cs.set fo (.sl false fz (ZX c2 o fz k))) off sz true with
       | none=>rfl
       | some v2=>
        simp only[QS,QD,QV,YA];exact Ys (fun j=>by simp only[QA,YD,upd,Vt];split <;> rfl) (by simp[QA,Zj])
      ·rfl
    ·split
     ·cases YY (cs.set fo (.sl false fz [])) off sz true with
      | none=>rfl
      | some v2=>
       simp only[QS,QD,QV,YA];exact Ys (fun j=>by simp only[QA,YD,Vt];split <;> simp_all) (by simp[QA,Zj,h1])
     ·rfl
   ·rfl
  ·rfl
 case apps T s x=>
  have h0:=hb (by simp[Zj]);simp only[Qi,h0];rw[Qs (x:=s) (fun j hj=>hr j (by simp[Q1,hj])),Qs (x:=x) (fun j hj=>hr j (by simp[Q1,hj]))]
  split
  ·simp only[Tx,Y1];congr 1
  ·rfl
 case appb T s x=>
  have h0:=hb (by simp[Zj]);simp only[Qi,h0];rw[Qs (x:=s) (fun j hj=>hr j (by simp[Q1,hj])),Qs (x:=x) (fun j hj=>hr j (by simp[Q1,hj]))]
  cases Wt 1 (val σ.env x) σ.bs with
  | none=>rfl
  | some q=>
   simp only[QC,Tx,Y1];congr 1
 case lgb k=>
  have hm: ∀s':St,QA (.lgb k) τ s'=τ:=fun _=>QX rfl (show(0:Nat)≠2 by omega);simp only[Qi];split <;> simp[hm]
 case usd x=>
  have hm: ∀s':St,QA (.usd x) τ s'=τ:=fun _=>QX rfl (show(0:Nat)≠2 by omega);simp only[Qi];rw[Qs hr];simp[hm,Tx,Y1]
 case ust T q p x=>
  have h0:=hr p (by simp[Q1]);have h2:=hr q (by simp[Q1]);have h1:=hb (by simp[Zj]);simp only[Qi,HT,h0,h1,h2];rw[Qs (fun j hj=>hr j (by simp[Q1,hj]))]
  split
  ·split
   ·rename_i T' id n k _ _;split
    ·cases σ.bs[id]? with
     | none=>rfl
     | some cs=>
      simp only[QC];split
      ·simp only[Tx,Y1];congr 1
      ·rfl
    ·rfl
   ·rfl
  ·split
   ·split
    ·simp only[QS,QD,QV,YA];exact Ys (fun j=>by simp[QA,YD]) (by simp[QA,Zj,h1])
    ·rfl
   ·rfl
  ·rfl
 case appM bytes sz s x=>
  have h0:=hb (by simp[Zj]);simp only[Qi,h0];rw[Qs (x:=s) (fun j hj=>hr j (by simp[Q1,hj])),Qs (x:=x) (fun j hj=>hr j (by simp[Q1,hj]))]
  simp only[Tx,Y1];congr 1
 case apn bytes sz zs s x=>
  have h0:=hb (by simp[Zj]);simp only[Qi,h0];rw[Qs (x:=s) (fun j hj=>hr j (by simp[Q1,hj])),Qs (x:=x) (fun j hj=>hr j (by simp[Q1,hj]))]
  split
  ·split
   ·simp only[Tx,Y1];congr 1
   ·rfl
  ·rfl
 case stq p sz x q=>
  have h0:=hr p (by simp[Q1]);have h2:=hr q (by simp[Q1]);have h1:=hb (by simp[Zj]);simp only[Qi,h0,h1,h2];rw[Qs (fun j hj=>hr j (by simp[Q1,hj]))]
  split
  ·rename_i i of i2 of2 hcs hcs2;split
   ·rfl
   ·cases σ.bs[i]? with
    | none=>rfl
    | some cs=>
     simp only[QC];cases cellsOf (val σ.env x)with
     | none=>rfl
     | some vs=>
      simp only[QC];split
      ·simp only[QS,QD,QV,YA];exact Ys (fun j=>by simp[QA,YD]) (by simp[QA,Zj])
      ·rfl
  ·rfl
 case stp p sz x q=>
  have h0:=hr p (by simp[Q1]);have h2:=hr q (by simp[Q1]);have h1:=hb (by simp[Zj]);simp only[Qi,h0,h1,h2];rw[Qs (fun j hj=>hr j (by simp[Q1,hj]))]
  split
  ·rename_i i of i2 of2 hcs hcs2;split
   ·rfl
   ·cases σ.bs[i]? with
    | none=>rfl
    | some cs=>
     simp only[QC];cases cellsOf (val σ.env x)with
     | none=>rfl
     | some vs=>
      simp only[QC];split
      ·simp only[QS,QD,QV,YA];exact Ys (fun j=>by simp[QA,YD]) (by simp[QA,Zj])
      ·rfl
  ·rfl
 case slcx sz x lo hi=>
  have hm: ∀s':St,QA (.slcx sz x lo hi) τ s'=τ:=fun _=>QX rfl (show(1:Nat)≠2 by omega);have h0:=hb (by simp[Zj]);simp only[Qi,h0];rw[Qs (fun j hj=>hr j (by simp[Q1,hj])),U1 (x:=lo) (fun j hj=>hr j (by simp[Q1,hj])),U1 (x:=hi) (fun j hj=>hr j (by simp[Q1,hj]))]
  split
  ·rename_i id of sz1 kn hA;split
   ·cases σ.bs[id]? with
    | none=>rfl
    | some cs=>
     simp only[QC];cases ZG _ _ (hi.map (val σ.env))with
     | none=>rfl
     | some H=>simp[hm,Y1]
   ·rfl
  ·rfl
 case slcf sz x hi mx=>
  have hm: ∀s':St,QA (.slcf sz x hi mx) τ s'=τ:=fun _=>QX rfl (show(0:Nat)≠2 by omega);simp only[Qi];rw[Qs (x:=x) (fun j hj=>hr j (by simp[Q1,hj])),Qs (x:=hi) (fun j hj=>hr j (by simp[Q1,hj])),Qs (x:=mx) (fun j hj=>hr j (by simp[Q1,hj]))]
  split
  ·split
   ·cases ZG _ _ (some (val σ.env mx))with
    | none=>rfl
    | some M=>
     simp only[QC];cases ZG _ _ (some (val σ.env hi))with
     | none=>rfl
     | some H=>
      simp only[QC];split
      ·simp[hm]
      ·rfl
   ·rfl
  ·rfl
 case slcc sz x lo hi mx=>
  have hm: ∀s':St,QA (.slcc sz x lo hi mx) τ s'=τ:=fun _=>QX rfl (show(0:Nat)≠2 by omega);simp only[Qi];rw[Qs (x:=x) (fun j hj=>hr j (by simp[Q1,hj])),U1 (x:=lo) (fun j hj=>hr j (by simp[Q1,hj])),Qs (x:=hi) (fun j hj=>hr j (by simp[Q1,hj])),Qs (x:=mx) (fun j hj=>hr j (by simp[Q1,hj]))]
  split
  ·cases ZG _ _ (some (val σ.env mx))with
   | none=>rfl
   | some M=>
    simp only[QC];cases ZG _ _ (some (val σ.env hi))with
    | none=>rfl
    | some H=>simp[hm,Y1]
  ·cases ZG _ _ (some (val σ.env mx))with
   | none=>rfl
   | some M=>
    simp only[QC];cases ZG _ _ (some (val σ.env hi))with
    | none=>rfl
    | some H=>simp[hm,Y1]
  ·rfl
 case mkm=>
  have h0:=hb (by simp[Zj]);simp only[Qi,h0,QS,QD,QV,YA];exact Ys (fun j=>by simp[QA,YD]) (by simp[QA,Zj])
 case lkm s ok x i z=>
  have hm: ∀s':St,QA (.lkm s ok x i z) τ s'=τ:=fun _=>QX rfl (show(1:Nat)≠2 by omega);have h1:=hb (by simp[Zj]);simp only[Qi,h1];rw[Qs (fun j hj=>hr j (by simp[Q1,hj])),Qs (x:=i) (fun j hj=>hr j (by simp[Q1,hj]))]
  split
  ·rename_i id hid;cases σ.bs[id]? with
   | none=>rfl
   | some cs=>
    simp only[QC];split
    ·rfl
    ·cases Vc s (cs.drop 1) (val σ.env i)with
     | none=>rfl
     | some r=>
      simp only[QC];split <;> simp[hm]
  ·rfl
 case upm s x k y=>
  have h1:=hb (by simp[Zj]);simp only[Qi,h1];rw[Qs (fun j hj=>hr j (by simp[Q1,hj])),Qs (x:=k) (fun j hj=>hr j (by simp[Q1,hj])),Qs (x:=y) (fun j hj=>hr j (by simp[Q1,hj]))]
  split
  ·rename_i id hid;cases σ.bs[id]? with
   | none=>rfl
   | some cs=>
    simp only[QC];split
    ·rfl
    ·cases PW s (cs.drop 1) (val σ.env k) (val σ.env y).strip with
     | none=>rfl
     | some ys=>
      simp only[QS,QD,QV,YA];exact Ys (fun j=>by simp[QA,YD]) (by simp[QA,Zj])
  ·rfl
 case mpe s x k z=>
  have h1:=hb (by simp[Zj]);simp only[Qi,h1];rw[Qs (fun j hj=>hr j (by simp[Q1,hj])),Qs (x:=k) (fun j hj=>hr j (by simp[Q1,hj]))]
  split
  ·rename_i id hid;cases σ.bs[id]? with
   | none=>rfl
   | some cs=>
    simp only[QC];split
    ·rfl
    ·cases Vc s (cs.drop 1) (val σ.env k)with
     | none=>rfl
     | some r=>
      cases r with
      | none=>
       simp only[QS,QD,QV,KV,Z3,Zd,YA];exact Ys (fun j=>by simp[QA,YD]) (by simp[QA,Zj])
      | some r=>
       simp only[QS,QD,QV,Option.isSome_some,Zl,YA];exact Ys (fun j=>by simp[QA,YD]) (by simp[QA,Zj,h1])
  ·rfl
 case ens x st y=>
  have h1:=hb (by simp[Zj]);simp only[Qi];rw[Qs (fun j hj=>hr j (by simp[Q1,hj])),Qs (x:=st) (fun j hj=>hr j (by simp[Q1,hj])),Qs (x:=y) (fun j hj=>hr j (by simp[Q1,hj]))]
  rw[LG h1];cases he:Sq σ (val σ.env x) (val σ.env st) (val σ.env y)with
  | none=>rfl
  | some p=>
   simp only[QS,QD,QV,YA];exact Ys (fun j=>by simp[QA,YD]) (by simp[QA,Zj])
 case ensf x st n sz=>
  have h0:=hr n (by simp[Q1]);have h1:=hb (by simp[Zj]);simp only[Qi,MT h0 h1];cases hf:Yk σ n sz with
  | none=>rfl
  | some p=>
   have hpe:=RV hf;simp only[QS,QC];have hup: ∀j∈Q1 (.ensf x st n sz),upd τ.env n .undef j=p.2.env j:=fun j hj=>by
    rw[hpe];simp only[upd];split
    ·rfl
    ·exact hr j hj
   rw[Qs (ρ:=p.2.env) (x:=x) (fun j hj=>hup j (by simp[Q1,hj])),Qs (ρ:=p.2.env) (x:=st) (fun j hj=>hup j (by simp[Q1,hj]))];rw[LG (σ:=p.2) (τ:={env:=upd τ.env n .undef,bs:=p.2.bs}) rfl];cases he:Sq p.2 (val p.2.env x) (val p.2.env st) p.1 with
   | none=>rfl
   | some q=>
    have hq:=IW he;simp only[QS,QD,QV,YA];exact Ys (fun j=>by simp only[QA,YD,hq,hpe,upd,Vt];split <;> rfl) (by simp[QA,Zj])
 case mkp bytes sz zs x=>
  have hm: ∀s':St,QA (.mkp bytes sz zs x) τ s'=τ:=fun _=>QX rfl (show(0:Nat)≠2 by omega);simp only[Qi];rw[Qs hr]
  split
  ·split
   ·simp[hm]
   ·rfl
  ·rfl
 case extm n=>
  have h0:=hr n (by simp[Q1]);simp only[Qi,h0];split
  ·simp only[QS,QD,QV,YA];exact Ys (fun j=>by simp only[QA,YD,upd,Vt];split <;> rfl) (by simp[QA,Zj])
  ·rfl
 case mkstP n zs parts=>
  have h0:=hr n (by simp[Q1]);have h1:=hb (by simp[Zj]);simp only[Qi,h0,h1];split
  ·rename_i sz cs hcs;split
   ·have hp:parts.map (fun p=>(p.1,p.2.1,val (upd τ.env n (.gs σ.bs.length 0 sz (cs.length / sz))) p.2.2))=parts.map (fun p=>(p.1,p.2.1,val (upd σ.env n (.gs σ.bs.length 0 sz (cs.length / sz))) p.2.2)):=by
     apply Pi;intro p hp;have:val (upd τ.env n (.gs σ.bs.length 0 sz (cs.length / sz))) p.2.2=val (upd σ.env n (.gs σ.bs.length 0 sz (cs.length / sz))) p.2.2:=Qs fun j hj=>by
      simp only[upd];split
      ·rfl
      ·exact hr j (by simp only[Q1,SA,ZS,List.mem_flatMap,W8];exact .inr ⟨p.2.2,⟨p,hp,rfl⟩,hj⟩)
     rw[this]
    rw[hp];cases VQ zs (parts.map fun p=>(p.1,p.2.1,val (upd σ.env n (.gs σ.bs.length 0 sz (cs.length / sz))) p.2.2))with
    | none=>rfl
    | some c=>
     simp only[QS,QD,QV,YA];exact Ys (fun j=>by simp only[QA,YD,upd,Vt];split <;> rfl) (by simp[QA,Zj])
   ·rfl
  ·rfl
def rdA (x:QM):VH:=Q1 x.op ++ (match x.guard with
 | some (t,_)=>[t]
 | none=>[])
def wrA (x:QM):VH:=YD x.op ++ x.dst.toList
def AP (a b:VH):Bool:=a.all fun j=> !b.contains j
def A4 (x y:QM):Bool:=AP (wrA x) (rdA y ++ wrA y) && AP (wrA y) (rdA x) &&
 (decide (Zj x.op=0) || decide (Zj y.op=0) || (decide (Zj x.op=1) && decide (Zj y.op=1)))
def Uw (x:QM) (τ s:St):St:={env:=fun j=>if j∈wrA x then s.env j else τ.env j,bs:=if Zj x.op=2 then s.bs else τ.bs}
def NL (ρ:Ql) (d:YI) (v:AV) (j:Nat):YC ρ d v j=if j∈d.toList then v else ρ j:=by
 cases d with
 | none=>simp[YC]
 | some d=>simp[YC,upd]
def AX [Dr] {K:Yo} {op:AOp} {σ σ1:St} {v:AV} (h:Qi K op σ=some (v,σ1)):σ1=QA op σ σ1:=by
 have:=Jl (K:=K) (op:=op) (σ:=σ) (τ:=σ) (fun _ _=>rfl) (fun _=>rfl);rw[h]at this;simp only[QS,QD,QV,YA]at this;exact this
def Rf [Dr] {K:Yo} {x:QM} {σ τ:St} (hr: ∀j∈rdA x,τ.env j=σ.env j) (hb:Zj x.op≠0->τ.bs=σ.bs):
  Z4 K x τ=(Z4 K x σ).map (Uw x τ):=by
 have he:=Jl (K:=K) (op:=x.op) (σ:=σ) (τ:=τ) (fun j hj=>hr j (by simp[rdA,hj])) hb;have hbody: ((Qi K x.op τ).map fun p=>({p.2 with env:=YC p.2.env x.dst p.1}:St))=((Qi K x.op σ).map fun p=>({p.2 with env:=YC p.2.env x.dst p.1}:St)).map (Uw x τ):=by
  rw[he];simp only[Tx,Y1];congr 1;funext p;refine Ys (fun j=> ?_) ?_
  ·simp only[Uw,QA,wrA,Wc,NL];by_cases h1:j∈x.dst.toList <;> by_cases h2:j∈YD x.op <;> simp[h1,h2]
  ·simp[Uw,QA]
 unfold Z4;cases hg:x.guard with
 | none=>exact hbody
 | some tb=>
  obtain⟨t,b⟩:=tb;simp only;rw[hr t (by simp[rdA,hg])];have hskip: (some {τ with env:=YC τ.env x.dst (.tup [])}:Option St)=(some ({σ with env:=YC σ.env x.dst (.tup [])}:St)).map (Uw x τ):=by
   simp only[QS,QD];refine Ys (fun j=> ?_) ?_
   ·simp only[Uw,wrA,Wc,NL];by_cases h1:j∈x.dst.toList
    ·simp[h1]
    ·by_cases h2:j∈YD x.op
     ·simp only[h1,h2,Zd,or_false,Zl];exact hr j (by
       have: ∀op:AOp,∀j∈YD op,j∈Q1 op:=by
        intro op j hj;cases op <;> simp only[YD,Q1,ZS,Wc,FQ,or_false]at hj ⊢ <;> first | exact hj | exact .inl hj | exact .inr hj | (exact hj.elim)
       simp only[rdA,Wc];exact .inl (this _ _ h2))
     ·simp[h1,h2]
   ·simp only[Uw];by_cases h2:Zj x.op=2
    ·simp only[h2,Zl];exact hb (by omega)
    ·simp[h2]
  split
  ·split
   ·exact hbody
   ·exact hskip
  ·exact hskip
  ·rfl
def IL {a b:VH} (h:AP a b=true): ∀j∈a,j ∉ b:=by
 unfold AP at h;rw[XK]at h;intro j hj;simpa using h j hj
def FJ:=@List.mem_append_left
def FH:=@List.mem_append_right
def Qat [Dr] {K:Yo} {x y:QM} {σ σ1 σ2:St} (hi:A4 x y=true) (h1:Z4 K x σ=some σ1) (h2:Z4 K y σ1=some σ2):
  ∃τ,Z4 K y σ=some τ/\Z4 K x τ=some σ2:=by
 unfold A4 at hi;simp only[Qo,Vu,Qv]at hi;obtain⟨⟨hi1,hi2⟩,hi3⟩:=hi;have d1:=IL hi1;have d2:=IL hi2;have f1:=Rf (K:=K) (x:=x) (σ:=σ) (τ:=σ) (fun _ _=>rfl) (fun _=>rfl);rw[h1]at f1;simp only[QS,QD]at f1;have f2:=Rf (K:=K) (x:=y) (σ:=σ1) (τ:=σ1) (fun _ _=>rfl) (fun _=>rfl);rw[h2]at f2;simp only[QS,QD]at f2;have e1: ∀j,σ1.env j=if j∈wrA x then σ1.env j else σ.env j:=fun j=>Wu (fun s:St=>s.env j) f1
 have b1:σ1.bs=if Zj x.op=2 then σ1.bs else σ.bs:=Wu St.bs f1
 have e2: ∀j,σ2.env j=if j∈wrA y then σ2.env j else σ1.env j:=fun j=>Wu (fun s:St=>s.env j) f2
 have b2:σ2.bs=if Zj y.op=2 then σ2.bs else σ1.bs:=Wu St.bs f2
 have g1:=Rf (K:=K) (x:=y) (σ:=σ1) (τ:=σ) (fun j hj=>by
  rw[e1 j,Qm (fun h=>d1 j h (FJ _ hj))]) (fun hne=>by
  rw[b1,Qm (by omega)])
 rw[h2,QS]at g1;have g2:=Rf (K:=K) (x:=x) (σ:=σ) (τ:=Uw y σ σ2) (fun j hj=>by
  simp only[Uw];rw[Qm (fun h=>d2 j h hj)]) (fun hne=>by
  simp only[Uw];rw[Qm (by omega)])
 rw[h1,QS]at g2;refine⟨_,g1,?_⟩;rw[g2];congr 1;refine Ys (fun j=> ?_) ?_
 ·simp only[Uw];by_cases hx:j∈wrA x
  ·rw[Qn hx,e2 j,Qm (fun h=>d1 j hx (FH _ h))]
  ·rw[Qm hx];by_cases hy:j∈wrA y
   ·rw[Qn hy]
   ·rw[Qm hy,e2 j,Qm hy,e1 j,Qm hx]
 ·simp only[Uw];by_cases hx:Zj x.op=2
  ·rw[Qn hx,b2,Qm (by omega)]
  ·rw[Qm hx];by_cases hy:Zj y.op=2
   ·rw[Qn hy]
   ·rw[Qm hy,b2,Qm hy,b1,Qm hx]
def Qaj (x y:QM):Bool:=match x.op,y.op with
 | .stq _ _ _ q,.st q2 _ _=>decide (q=q2) && decide (x.dst=none) && decide (y.dst=none) && decide (x.guard=none) && decide (y.guard=none)
 | .st p sz _,.stp _ sz2 _ p2=>decide (p=p2) && decide (sz=sz2) && decide (x.dst=none) && decide (y.dst=none) && decide (x.guard=none) && decide (y.guard=none)
 | _,_=>false
def Qdw {cs vs ws:Qh} {o p:Nat} (h1:o+vs.length<=cs.length) (h2:p+ws.length<=cs.length) (hd:o+vs.length<=p\/p+ws.length<=o):put (put cs o vs) p ws=put (put cs p ws) o vs:=by
 have l1: (put cs o vs).length=cs.length:=by unfold put;rw[Vh _ _ _ h1]
 have l2: (put cs p ws).length=cs.length:=by unfold put;rw[Vh _ _ _ h2]
 apply UQ;intro k;have e1: (put (put cs o vs) p ws)[k]? =_:=Wl (put cs o vs) p ws (by rw[l1];exact h2) k;have e2: (put (put cs p ws) o vs)[k]? =_:=Wl (put cs p ws) o vs (by rw[l2];exact h1) k;have e3: (put cs o vs)[k]? =_:=Wl cs o vs h1 k;have e4: (put cs p ws)[k]? =_:=Wl cs p ws h2 k;rw[e1,e2,e3,e4];by_cases c1:k < o <;> by_cases c2:k < o+vs.length <;> by_cases c3:k < p <;> by_cases c4:k < p+ws.length <;> simp only[c1,c2,c3,c4,Zl,Zd] <;> omega
def OM:=@List.set_set
def Qak {K:Yo} {x y:QM} {σ σ1 σ2:St} (hi:Qaj x y=true) (h1:Z4 K x σ=some σ1) (h2:Z4 K y σ1=some σ2):
  ∃τ,Z4 K y σ=some τ/\Z4 K x τ=some σ2:=by
 unfold Qaj at hi;split at hi
 ·rename_i p sz v q q2 sz2 v2 hx hy;simp only[Qo,Qv]at hi;obtain⟨⟨⟨⟨rfl,e1⟩,e2⟩,e3⟩,e4⟩:=hi;simp only[Z4,hx,e3,e1,Qi,YC]at h1 ⊢;simp only[Z4,hy,e4,e2,Qi,YC]at h2 ⊢;split at h1
  ·rename_i i o i2 o2 g1 g2;split at h1
   ·cases h1
   ·rename_i hne;cases hb:σ.bs[i]? with
    | none=>rw[hb]at h1;cases h1
    | some cs=>
     rw[hb]at h1;cases hv:cellsOf (val σ.env v)with
     | none=>rw[hv]at h1;cases h1
     | some vs=>
      rw[hv]at h1;simp only[QC]at h1;split at h1
      ·rename_i hc;simp only[QS,QD]at h1;subst h1;simp only at h2;rw[g2]at h2 ⊢;simp only[Vs hne]at h2;simp only;cases hb2:σ.bs[i2]? with
       | none=>rw[hb2]at h2;cases h2
       | some cs2=>
        rw[hb2]at h2;simp only[QC]at h2 ⊢;cases hv2:cellsOf (val σ.env v2)with
        | none=>rw[hv2]at h2;cases h2
        | some vs2=>
         rw[hv2]at h2;simp only[QC]at h2 ⊢;split at h2
         ·rename_i hc2;simp only[QS,QD]at h2;subst h2;rw[Qn hc2,QS];refine⟨_,rfl,?_⟩;simp only[g1,g2,hv,QC,Vs (fun e=>hne e.symm),hb,Qm hne,Qn hc,QS];rw[List.set_comm _ _ hne]
         ·cases h2
      ·cases h1
  ·cases h1
 ·rename_i p sz v q sz2 v2 p2 hx hy;simp only[Qo,Qv]at hi;obtain⟨⟨⟨⟨⟨rfl,rfl⟩,e1⟩,e2⟩,e3⟩,e4⟩:=hi;simp only[Z4,hx,e3,e1,Qi,YC]at h1 ⊢;simp only[Z4,hy,e4,e2,Qi,YC]at h2 ⊢;split at h1
  ·rename_i i o g1;cases hb:σ.bs[i]? with
   | none=>rw[hb]at h1;cases h1
   | some cs=>
    rw[hb]at h1;cases hv:cellsOf (val σ.env v)with
    | none=>rw[hv]at h1;cases h1
    | some vs=>
     rw[hv]at h1;simp only[QC]at h1;split at h1
     ·rename_i hc;simp only[QS,QD]at h1;subst h1;simp only at h2;rw[g1]at h2 ⊢;split at h2
      ·rename_i i2 o2 i3 o3 g2 g3;injection g3 with g3 g4
       subst g3;subst g4
       split at h2
       ·cases h2
       ·rename_i hne;simp only[g2,Qm hne];have hil:i < σ.bs.length:=by
         rcases QR i σ.bs.length with h | h
         ·exact h
         ·rw[Q3 h]at hb;cases hb
        by_cases hii:i2=i
        ·subst hii;rw[Y8,Qn rfl,Qn hil]at h2;simp only[QC]at h2;rw[hb];simp only[QC];cases hv2:cellsOf (val σ.env v2)with
         | none=>rw[hv2]at h2;cases h2
         | some vs2=>
          rw[hv2]at h2;simp only[QC]at h2 ⊢;split at h2
          ·rename_i hc2;have hl1: (put cs o (vs.map AV.strip)).length=cs.length:=by unfold put;rw[Vh _ _ _ (by simpa using hc.2.1)]
           rw[hl1]at hc2;simp only[QS,QD]at h2;subst h2;rw[Qn hc2,QS];refine⟨_,rfl,?_⟩;have hl2: (put cs o2 (vs2.map AV.strip)).length=cs.length:=by unfold put;rw[Vh _ _ _ (by simpa using hc2.2.1)]
           simp only[g1,Y8,Qn hil,QC,hv,hl2];simp only[Zl,Qn hil,QC];rw[Qn (by rw[hl2];exact hc),QS,OM,OM];have hcm:put (put cs o2 (vs2.map AV.strip)) o (vs.map AV.strip)=put (put cs o (vs.map AV.strip)) o2 (vs2.map AV.strip):=by
            refine Qdw (by simpa using hc2.2.1) (by simpa using hc.2.1) ?_;have q1:=hc.1;have q2:=hc2.1;simp only[Vv];by_cases c1:o2+vs2.length<=o
            ·exact .inl c1
            ·refine .inr ?_;rcases QR o2 (o+vs.length)with h | h
             ·exact absurd ⟨rfl,by omega,by omega⟩ hne
             ·exact h
           rw[hcm]
          ·cases h2
        ·rw[Vs (fun e=>hii e.symm)]at h2;cases hb2:σ.bs[i2]? with
         | none=>rw[hb2]at h2;cases h2
         | some cs2=>
          rw[hb2]at h2;simp only[QC]at h2 ⊢;cases hv2:cellsOf (val σ.env v2)with
          | none=>rw[hv2]at h2;cases h2
          | some vs2=>
           rw[hv2]at h2;simp only[QC]at h2 ⊢;split at h2
           ·rename_i hc2;simp only[QS,QD]at h2;subst h2;rw[Qn hc2,QS];refine⟨_,rfl,?_⟩;simp only[g1,Vs hii,hb,QC,hv,Qn hc,QS];rw[List.set_comm _ _ (fun e=>hii e.symm)]
           ·cases h2
      ·cases h2
     ·cases h1
  ·cases h1
 ·cases hi
def MY (x y:QM):Bool:=A4 x y || Qaj x y
def Cv [Dr] {K:Yo} {x y:QM} {σ σ1 σ2:St} (hi:MY x y=true) (h1:Z4 K x σ=some σ1) (h2:Z4 K y σ1=some σ2):
  ∃τ,Z4 K y σ=some τ/\Z4 K x τ=some σ2:=by
 unfold MY at hi;rw[Vu]at hi;rcases hi with hi | hi
 ·exact Qat hi h1 h2
 ·exact Qak hi h1 h2
def VK:=@List.pairwise_cons
def Pg:=@List.mem_cons_of_mem
def Lb [Dr] {K:Yo} (f:Nat->QM) (i:Nat): ∀(L:VH) (σ σn:St),L.Pairwise (· < ·)->i∈L->(∀j∈L,j < i->MY (f j) (f i)=true)->
  Z9 K (L.map f) σ=some σn->∃σ',Z4 K (f i) σ=some σ'/\Z9 K ((L.erase i).map f) σ'=some σn
 | [],_,_,_,hi,_,_=>by simp at hi
 | j:: L,σ,σn,hp,hi,hd,hr=>by
  simp only[Yf,Z9]at hr;cases h1:Z4 K (f j) σ with
  | none=>rw[h1]at hr;cases hr
  | some σ1=>
   rw[h1,QC]at hr;by_cases hji:j=i
   ·subst hji;exact⟨σ1,h1,by rw[List.erase_cons_head];exact hr⟩
   ·have hiL:i∈L:=by
     rcases ZS.1 hi with h | h
     ·exact absurd h.symm hji
     ·exact h
    have hlt:j < i:=(VK.1 hp).1 i hiL;obtain⟨σ2,g1,g2⟩:=Lb f i L σ1 σn (VK.1 hp).2 hiL (fun k hk=>hd k (Pg _ hk)) hr;obtain⟨τ,k1,k2⟩:=Cv (hd j (by simp) hlt) h1 g1;refine⟨τ,k1,?_⟩;rw[List.erase_cons_tail (by simpa using hji),Yf,Z9,k2,QC];exact g2
structure En where
 j:Nat
 g:Option (Nat×Bool)
 q:Nat
 s:Nat
 off:Nat
def Br (x:QM) (j:Nat):Option En:=match x.op,x.dst with
 | .fad s off,some q=>some ⟨j,x.guard,q,s,off⟩
 | _,_=>none
def entries (xs:Yj):List En:=xs.zipIdx.filterMap fun p=>Br p.1 p.2
def QfE (E:List En) (prec:Nat->Nat->Bool) (i:Nat) (g:Option (Nat×Bool)) (q s off:Nat):Bool:=
 E.any fun en=>prec i en.j && (decide (en.g=none) || decide (en.g=g)) && decide (en.q=q) && decide (en.s=s) && decide (en.off=off)
def Qd6 (E:List En) (prec:Nat->Nat->Bool) (xs:Yj):Bool:=
 E.all fun en=>xs.zipIdx.all fun p=>(decide (p.2=en.j) || !decide (p.1.dst=some en.q)) && !decide (p.1.dst=some en.s) &&
  (match en.g with
   | some (t,_)=> !decide (p.1.dst=some t) || prec en.j p.2
   | none=>true)
def Ie (cops:Array Oper) (x:QM) (o:Oper):Bool:=match x.guard,o.guard with
 | none,none=>true
 | some (t,b),some (j,b2)=>decide (b=b2) && decide (((cops[j]?).bind (·.dst))=some t)
 | _,_=>false
def Qdp (P:Program) (num:Y0) (N:Nat) (E:List En) (prec:Nat->Nat->Bool) (cops:Array Oper) (i:Nat) (x:QM) (o:Oper):Bool:=
 decide (x.dst=o.dst) && (match x.dst with
  | some d=>decide (d < N)
  | none=>true) && Ie cops x o && Qfx P num (QfE E prec i x.guard) x.op o.op
def Oe (P:Program) (num:Y0) (N:Nat) (prec:Nat->Nat->Bool) (cops:Array Oper) (xs:Yj):Bool:=
 decide (xs.length=cops.size) && Qd6 (entries xs) prec xs && xs.zipIdx.all fun p=>match cops[p.2]? with
  | some o=>Qdp P num N (entries xs) prec cops p.2 p.1 o
  | none=>false
def gOK (σ:St):Option (Nat×Bool)->Prop
 | none=>True
 | some (t,b)=>σ.env t= .bool b
def RS (E:List En) (D:Nat->Prop) (σ:St) (a:Act):Prop:=∀en∈E,D en.j->gOK σ en.g->U6 a en.q en.s en.off
def LR {xs:Yj} {en:En} (h:en∈entries xs): ∃x,xs[en.j]? =some x/\x.op= .fad en.s en.off/\x.dst=some en.q/\x.guard=en.g:=by
 unfold entries at h;rw[List.mem_filterMap]at h;obtain⟨⟨x,j⟩,h1,h2⟩:=h;have h3:xs[j]? =some x:=by
  rw[List.mem_iff_getElem?]at h1;obtain⟨k,hk⟩:=h1;rw[FI]at hk;cases hx:xs[k]? with
  | none=>rw[hx]at hk;cases hk
  | some y=>
   rw[hx]at hk;simp only[QS,QD,QV]at hk;obtain⟨rfl,rfl⟩:=hk;simpa using hx
 simp only[Br]at h2;split at h2
 ·rename_i s off q e1 e2;injection h2 with h2
  subst h2;exact⟨x,h3,e1,e2,rfl⟩
 ·cases h2
def BS {xs:Yj} {f:QM×Nat->Bool} (h:xs.zipIdx.all f=true) {i:Nat} {x:QM} (hx:xs[i]? =some x):f (x,i)=true:=by
 rw[XK]at h;refine h (x,i) (WC (i:=i) ?_);rw[FI,hx];simp
section
variable {P:Program} {num:Nat->Option Nat} {β:List Blk} {w w':World} {m:Nat->Nat} {ν:Own} {N:Nat} {w0:World} {m0:Nat->Nat} {T:Nat->Prop} {β0:List Blk} {σ σ1 σ2:St} {a:Act}
 {next:Act->World->Prop} {Q:Exit->Act->World->Prop} {K:Yo} {v:AV} {xs:List QM} {cops:Array Oper} {prec:Nat->Nat->Bool}
def QiC {op:AOp} (h:Qi K op σ=some (v,σ1)): ∀j∈YD op,σ1.env j= .undef\/∃cs,σ1.env j= .bx cs\/σ1.env j= .tup cs:=by
 intro j hj;cases op <;> simp only[YD,FQ,ZS,or_false]at hj
 case mvs n=>
  subst hj;simp only[Qi]at h;split at h
  ·injection h with h;injection h with _ h;subst h;exact .inl (by simp[upd])
  ·cases h
 case ldfm s off=>
  subst hj;simp only[Qi]at h;split at h
  ·rename_i cs hcs;cases hc:cs[off]? with
   | none=>rw[hc]at h;cases h
   | some c=>
    rw[hc]at h;simp only[QC]at h;split at h
    ·injection h with h;injection h with _ h;subst h;exact .inr ⟨_,.inl (by simp[upd];rfl)⟩
    ·cases h
  ·cases h
 case stf s off sz x=>
  subst hj;simp only[Qi]at h;split at h
  ·rename_i cs hcs;cases hc:cellsOf (val σ.env x)with
   | none=>rw[hc]at h;cases h
   | some c=>
    rw[hc]at h;simp only[QC]at h;split at h
    ·injection h with h;injection h with _ h;subst h;exact .inr ⟨_,.inl (by simp[upd];rfl)⟩
    ·cases h
  ·cases h
 case stn s off sz x zs=>
  subst hj;simp only[Qi]at h;split at h
  ·rename_i cs hcs;cases hc:cellsOf (val σ.env x)with
   | none=>rw[hc]at h;cases h
   | some c=>
    rw[hc]at h;simp only[QC]at h;split at h
    ·injection h with h;injection h with _ h;subst h;exact .inr ⟨_,.inl (by simp[upd];rfl)⟩
    ·cases h
  ·cases h
 case stfm s off n=>
  simp only[Qi]at h;split at h
  ·rename_i cs hcs;split at h
   ·rename_i hne;injection h with h;injection h with _ h;subst h
    rcases hj with rfl | rfl
    ·exact .inr ⟨_,.inl (by simp[upd];rfl)⟩
    ·exact .inl (by simp only[upd];rw[Qm (fun e=>hne.1 e.symm)];simp)
   ·cases h
  ·cases h
 case stm p n=>
  subst hj;simp only[Qi]at h;split at h
  ·rename_i i of hcs;cases hc:σ.bs[i]? with
   | none=>rw[hc]at h;cases h
   | some c=>
    rw[hc]at h;simp only[QC]at h;split at h
    ·injection h with h;injection h with _ h;subst h;exact .inl (by simp[upd])
    ·cases h
  ·cases h
 case ldfz s off sz fo fz=>
  subst hj;simp only[Qi]at h;split at h
  ·rename_i cs hcs;split at h
   ·rename_i id o sz1 k hfo;split at h
    ·cases hb:σ.bs[id]? with
     | none=>rw[hb]at h;cases h
     | some c2=>
      rw[hb]at h;simp only[QC]at h;split at h
      ·cases hr:YY (cs.set fo (.sl false fz (ZX c2 o fz k))) off sz true with
       | none=>rw[hr]at h;cases h
       | some v2=>
        rw[hr]at h;injection h with h;injection h with _ h;subst h
        exact .inr ⟨_,.inl (by simp[upd];rfl)⟩
      ·cases h
    ·split at h
     ·cases hr:YY (cs.set fo (.sl false fz [])) off sz true with
      | none=>rw[hr]at h;cases h
      | some v2=>
       rw[hr]at h;injection h with h;injection h with _ h;subst h
       exact .inr ⟨cs,.inl hcs⟩
     ·cases h
   ·cases h
  ·cases h
 case extm n=>
  subst hj;simp only[Qi]at h;split at h
  ·injection h with h;injection h with _ h;subst h;exact .inr ⟨_,.inr (by simp[upd];rfl)⟩
  ·cases h
 case ensf x st n sz=>
  subst hj;simp only[Qi]at h;cases hf:Yk σ j sz with
  | none=>rw[hf]at h;cases h
  | some p=>
   rw[hf]at h;simp only[QC]at h;have h1:=IW h;simp only at h1;exact .inl (by rw[h1,RV hf];simp[upd])
 case mkstP n zs parts=>
  subst hj;simp only[Qi]at h;split at h
  ·split at h
   ·rename_i sz cs _ _;cases hf:VQ zs (parts.map fun p=>(p.1,p.2.1,val (upd σ.env j (.gs σ.bs.length 0 sz (cs.length / sz))) p.2.2))with
    | none=>rw[hf]at h;cases h
    | some c=>rw[hf]at h;injection h with h;injection h with _ h;subst h;exact .inl (by simp[upd])
   ·cases h
  ·cases h
 case frz n sz=>
  subst hj;simp only[Qi]at h;have:=RV h;simp only at this;exact .inl (by rw[this];simp[upd])
 case appz bytes sz n x=>
  subst hj;simp only[Qi]at h;split at h
  ·rename_i s _ _ _ hf _;have:=RV hf;simp only at this;split at h
   ·injection h with h;injection h with _ h;subst h
    exact .inl (by rw[this];simp[upd])
   ·cases h
  ·cases h
 case appg bytes sz s x=>
  cases s with
  | c v=>simp[rdO]at hj
  | t n=>
   simp only[rdO,Vt]at hj;subst hj;simp only[Qi]at h;split at h
   ·rename_i e1 e2;simp only[QV]at e1;obtain⟨_,rfl⟩:=e1;split at h
    ·split at h
     ·cases h
     ·injection h with h;injection h with _ h;subst h;exact .inl (by simp[upd])
    ·cases h
   ·cases h
 case app bytes sz s x=>
  cases s with
  | c v=>simp[rdO]at hj
  | t n=>
   simp only[rdO,Vt]at hj;subst hj;simp only[Qi]at h;split at h
   ·rename_i sz1 ys ρ o2 sz2 zs e1 e2;simp only[QV]at e1;obtain⟨e1,rfl⟩:=e1;split at h
    ·injection h with h;injection h with _ h;subst h;exact .inl (by simp[upd])
    ·cases h
   ·cases h
def Qc3 [Dr] {op:AOp} (h:Qi K op σ=some (v,σ1)) {t:Nat} {b:Bool} (ht:σ1.env t= .bool b):σ.env t= .bool b:=by
 by_cases hj:t∈YD op
 ·rcases QiC h t hj with h1 | ⟨cs,h1 | h1⟩ <;> rw[h1]at ht <;> cases ht
 ·have:=Wu (fun s:St=>s.env t) (AX h);simp only[QA]at this;rw[Qm hj]at this;rw[<- this];exact ht
def RD:=@Array.getD_eq_getD_getElem?
def Iu {q s off:Nat} {d:YI} {u:Value} (h:U6 a q s off) (h1:d≠some q) (h2:d≠some s):U6 (a.put d u) q s off:=by
 obtain⟨b,p1,p2⟩:=h;cases d with
 | none=>exact⟨b,p1,p2⟩
 | some d=>
  have e1:d≠q:=fun e=>h1 (by rw[e]);have e2:d≠s:=fun e=>h2 (by rw[e]);refine⟨b,?_,?_⟩
  ·simp only[Act.put,RD]at p1 ⊢;rw[O6 e2];exact p1
  ·simp only[Act.put,RD]at p2 ⊢;rw[O6 e1];exact p2
def Qed [Dr] {x:QM} {o:Oper} (hI:Inv num N w0 m0 T β0 σ a w m β ν) (hg:Ie cops x o=true):
  (x.guard=none->Region.wanted o (yielded cops a.tmps)=true)/\(∀t b c,x.guard=some (t,b)->σ.env t= .bool c->Region.wanted o (yielded cops a.tmps)=decide (c=b))/\
   ∀t b,x.guard=some (t,b)->σ.env t= .tup []->Region.wanted o (yielded cops a.tmps)=false:=by
 unfold Ie at hg;split at hg
 ·rename_i e1 e2;refine⟨fun _=>by simp[Region.wanted,e2],fun t b c h=>(by rw[e1]at h;cases h),fun t b h=>(by rw[e1]at h;cases h)⟩
 ·rename_i t b j b2 e1 e2;simp only[Qo,Qv]at hg;obtain⟨rfl,hg⟩:=hg;refine⟨(fun h=>by rw[e1]at h;cases h),fun t2 b3 c h hc=> ?_,fun t2 b3 h hc=> ?_⟩
  ·rw[e1]at h;injection h with h
   injection h with h3 h4
   subst h3 h4;obtain⟨_,h5⟩:=hI.at_ (n:=t) (by rw[hc];simp);have h6:=hI.slots t _ h5;rw[hc]at h6;obtain⟨h6,_⟩:=h6;simp only[Qd]at h6;simp only[Region.wanted,e2,yielded,hg,QC,h5,h6];cases c <;> cases b <;> rfl
  ·rw[e1]at h;injection h with h
   injection h with h3 h4
   subst h3 h4;obtain⟨_,h5⟩:=hI.at_ (n:=t) (by rw[hc];simp);have h6:=hI.slots t _ h5;rw[hc]at h6;obtain⟨h6,_⟩:=h6;simp only[Qd]at h6;obtain⟨us,h6,_⟩:=h6;simp only[Region.wanted,e2,yielded,hg,QC,h5,h6];cases b <;> rfl
 ·cases hg
def U9:=@decide_eq_false_iff_not
def LS [Dr] {Γ:YU} (hI:Inv num N w0 m0 T β0 σ a w m β ν) (hE:Vj P num) (hK:KOk P num Γ K) (hG:Γ.G w0 m0) (hGb:Γ.Gb<=w0.heap.size) (hT: ∀b,T b->Γ.Gb<=b)
  {D:Nat->Prop} {i:Nat} {x:QM} (hall:Oe P num N prec cops xs=true) (hx:xs[i]? =some x) (hD: ¬D i) (hpre: ∀k,prec i k=true->D k) (hdown: ∀j k,D j->prec j k=true->D k)
  (hRS:RS (entries xs) D σ a) (hr:Z4 K x σ=some σ2)
  (h: ∀a' w' m' β' ν',Inv num N w0 m0 T β0 σ2 a' w' m' β' ν'->RS (entries xs) (fun j=>D j\/j=i) σ2 a'->next a' w'):wpOp P cops Q i next a w:=by
 unfold Oe at hall;simp only[Qo,Qv]at hall;obtain⟨⟨hlen,hst⟩,hall⟩:=hall;have hox:=BS hall hx;simp only at hox;split at hox
 ·rename_i o ho;unfold Qdp at hox;simp only[Qo,Qv]at hox;obtain⟨⟨⟨hdst,hdN⟩,hgd⟩,hop⟩:=hox;have hstab: ∀en∈entries xs,(i=en.j\/x.dst≠some en.q)/\x.dst≠some en.s/\∀t b,en.g=some (t,b)->x.dst=some t->prec en.j i=true:=fun en hen=>by
   unfold Qd6 at hst;rw[XK]at hst;have:=BS (hst en hen) hx;simp only[Qo,Vu,Qv,Us,U9]at this;refine⟨this.1.1,this.1.2,fun t b hg hd=> ?_⟩;have h2:=this.2;rw[hg]at h2;simp only[Vu,Us,U9]at h2;exact h2.resolve_left (fun hn=>hn hd)
  obtain⟨hw1,hw2,hw3⟩:=Qed hI hgd;have run: (∀t b,x.guard=some (t,b)->σ.env t= .bool b)->Region.wanted o (yielded cops a.tmps)=true->((Qi K x.op σ).map fun p=>({p.2 with env:=YC p.2.env x.dst p.1}:St))=some σ2->wpOp P cops Q i next a w:=by
   intro hgu hwant hex;cases he:Qi K x.op σ with
   | none=>rw[he]at hex;cases hex
   | some p=>
    obtain⟨v,σ1⟩:=p;rw[he]at hex;simp only[QS,QD]at hex;subst hex;unfold wpOp;simp only[ho,hwant,Zl];refine .inl (Qfy hI hE hK hG hGb hT (pt:=QfE (entries xs) prec i x.guard) (fun q s off hp=> ?_) hop he fun u w' m' β' ν' k1 k2 k3=> ?_)
    ·unfold QfE at hp;rw[Rn]at hp;obtain⟨en,hen,hp⟩:=hp;simp only[Qo,Vu,Qv]at hp;obtain⟨⟨⟨⟨p1,p2⟩,rfl⟩,rfl⟩,rfl⟩:=hp;refine hRS en hen (hpre _ p1) ?_;rcases p2 with p2 | p2
     ·rw[p2];exact trivial
     ·rw[p2];cases hxg:x.guard with
      | none=>exact trivial
      | some tb=>obtain⟨t,b⟩:=tb;exact hgu t b hxg
    ·rw[<- hdst];have hRS2:RS (entries xs) (fun j=>D j\/j=i) {σ1 with env:=YC σ1.env x.dst v} (a.put x.dst u):=by
      intro en hen hDj hgk;obtain⟨st1,st2,st3⟩:=hstab en hen;by_cases hji:en.j=i
      ·obtain⟨y,y1,y2,y3,_⟩:=LR hen;rw[hji,hx]at y1;injection y1 with y1
       subst y1;obtain⟨b,b1,b2⟩:=k3 _ _ y2;have hne:en.q≠en.s:=fun e=>st2 (by rw[y3,e]);rw[y3];rw[y3]at hdN;have hqN:en.q < N:=by simpa using hdN
       refine⟨b,?_,?_⟩
       ·simp only[Act.put,RD]at b1 ⊢;rw[O6 hne];exact b1
       ·simp only[Act.put,RD];rw[Fz (by rw[hI.size];exact hqN),b2];rfl
      ·have hDj2:D en.j:=hDj.resolve_right hji;refine Iu (hRS en hen hDj2 ?_) (st1.resolve_left (fun e=>hji e.symm)) st2;cases heg:en.g with
       | none=>exact trivial
       | some tb=>
        obtain⟨t,b⟩:=tb;rw[heg]at hgk;simp only[gOK,NL]at hgk ⊢;split at hgk
        ·rename_i hd;exact absurd (hdown en.j i hDj2 (st3 t b heg (by simpa using hd))) hD
        ·exact Qc3 he hgk
     cases hxd:x.dst with
     | none=>
      rw[hxd]at hRS2 h;exact h _ w' m' β' ν' k1 hRS2
     | some d=>
      rw[hxd]at hRS2 hdN h;exact h _ w' m' β' _ (k1.put k2 d (by simpa using hdN)) hRS2
  unfold Z4 at hr;cases hxg:x.guard with
  | none=>
   rw[hxg]at hr;exact run (fun t b h=>by rw[hxg]at h;cases h) (hw1 hxg) hr
  | some tb=>
   obtain⟨t,b⟩:=tb;rw[hxg]at hr;simp only at hr;have skip:σ.env t≠ .bool b->Region.wanted o (yielded cops a.tmps)=false->{σ with env:=YC σ.env x.dst (.tup [])}=σ2->wpOp P cops Q i next a w:=by
    intro hc hwant hr;subst hr;unfold wpOp;simp only[ho];rw[hwant,Qm (by simp),<- hdst];have hRS2:RS (entries xs) (fun j=>D j\/j=i) {σ with env:=YC σ.env x.dst (.tup [])} (a.put x.dst undef):=by
     intro en hen hDj hgk;obtain⟨st1,st2,st3⟩:=hstab en hen;have hback: ∀t2 b2,en.g=some (t2,b2)->D en.j\/en.j=i->σ.env t2= .bool b2:=fun t2 b2 heg hDj=>by
      rw[heg]at hgk;simp only[gOK,NL]at hgk;split at hgk
      ·cases hgk
      ·exact hgk
     by_cases hji:en.j=i
     ·exfalso;obtain⟨y,y1,y2,y3,y4⟩:=LR hen;rw[hji,hx]at y1;injection y1 with y1
      subst y1;exact hc (hback t b (y4.symm.trans hxg) (.inr hji))
     ·have hDj2:D en.j:=hDj.resolve_right hji;refine Iu (hRS en hen hDj2 ?_) (st1.resolve_left (fun e=>hji e.symm)) st2;cases heg:en.g with
      | none=>exact trivial
      | some tb2=>
       obtain⟨t2,b2⟩:=tb2;exact hback t2 b2 heg (.inl hDj2)
    cases hxd:x.dst with
    | none=>
     rw[hxd]at hRS2 h;exact h _ w m β ν hI hRS2
    | some d=>
     rw[hxd]at hRS2 hdN h;exact h _ w m β _ (hI.put (v:= .tup []) (u:=undef) ((QT rfl).2 ⟨by simp only[Qd];exact⟨#[],rfl,rfl,by simp only[X5]⟩,trivial⟩) d (by simpa using hdN)) hRS2
   split at hr
   ·rename_i c hc;have hwant:=hw2 t b c hxg hc;split at hr
    ·rename_i hcb;subst hcb;exact run (fun t2 b2 h=>by rw[hxg]at h;injection h with h;injection h with h1 h2;subst h1 h2;exact hc) (by rw[hwant];simp) hr
    ·rename_i hcb;injection hr with hr
     exact skip (by rw[hc];intro e;injection e with e;exact hcb e) (by rw[hwant];simpa using hcb) hr
   ·rename_i hc;injection hr with hr
    exact skip (by rw[hc];intro e;cases e) (hw3 t b hxg hc) hr
   ·cases hr
 ·cases hox
def Mh:=@List.drop_eq_nil_of_le
def KF:=@List.drop_eq_getElem_cons
def JH [Dr] {Γ:YU} (hE:Vj P num) (hK:KOk P num Γ K) (hG:Γ.G w0 m0) (hGb:Γ.Gb<=w0.heap.size) (hT: ∀b,T b->Γ.Gb<=b) {σn:St}
  (hall:Oe P num N (fun i k=>decide (k < i)) cops xs=true) (hQ: ∀a' w' m' β' ν',Inv num N w0 m0 T β0 σn a' w' m' β' ν'->Q .normal a' w'):
  ∀(n k:Nat) (σ:St) (a:Act) (w:World) (m:ZF) (β:Xv) (ν:Own),k+n=xs.length->Z9 K (xs.drop k) σ=some σn->Inv num N w0 m0 T β0 σ a w m β ν->RS (entries xs) (fun j=>j < k) σ a->
   wpOps P cops Q (List.range' k n) a w
 | 0,k,σ,a,w,m,β,ν,hk,hr,hI,_=>by
  rw[Mh (by omega)]at hr;injection hr with hr
  subst hr;exact hQ a w m β ν hI
 | n+1,k,σ,a,w,m,β,ν,hk,hr,hI,hRS=>by
  have hkl:k < xs.length:=by omega
  rw[KF hkl]at hr;simp only[Z9]at hr;cases h1:Z4 K xs[k] σ with
  | none=>rw[h1]at hr;cases hr
  | some σ1=>
   rw[h1,QC]at hr;rw[List.range'_succ,wpOps_cons];refine LS hI hE hK hG hGb hT hall (Zv hkl) (D:=fun j=>j < k) (by omega) (fun j hj=>by simpa using hj) (fun i j hi hj=>Nat.lt_trans (show j < i by simpa using hj) hi) hRS h1 fun a' w' m' β' ν' k1 k2=> ?_;exact JH hE hK hG hGb hT hall hQ n (k+1) σ1 a' w' m' β' ν' (by omega) hr k1 (fun en hen hj hg=>k2 en hen (by omega) hg)
end
end Go.Am
