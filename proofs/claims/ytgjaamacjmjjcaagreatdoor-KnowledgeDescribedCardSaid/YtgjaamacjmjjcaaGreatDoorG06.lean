/-
  Am13, Am14, Am15, Am16.
-/
import Derived.Test.YtgjaamacjmjjcaaGreatDoorG05
import Derived.LoopN
set_option linter.all false
namespace Go.Am
abbrev VO:=List Nat
def rdO:AO->VO
 | .t n=>[n]
 | .c _=>[]
def OE (xs:List AO):VO:=xs.flatMap rdO
def NR:Option AO->VO
 | some x=>rdO x
 | none=>[]
def Zt:AOp->VO
 | .mov x=>rdO x
 | .mvs n=>[n]
 | .box x=>rdO x
 | .alloc _=>[]
 | .gbox x=>rdO x
 | .galloc _=>[]
 | .fad s _=>[s]
 | .fadr p _=>[p]
 | .ldf s _ _ _=>[s]
 | .ldfm s _=>[s]
 | .ld p _ _=>[p]
 | .ldg p _ _=>[p]
 | .ldm p=>[p]
 | .stf s _ _ x=>s:: rdO x
 | .stn s _ _ x _=>s:: rdO x
 | .stfm s _ n=>[s,n]
 | .st p _ x=>p:: rdO x
 | .stm p n=>[p,n]
 | .bin _ x y=>rdO x ++ rdO y
 | .eqb _ x y=>rdO x ++ rdO y
 | .isn _ x=>rdO x
 | .un _ x=>rdO x
 | .conv _ x=>rdO x
 | .call _ args=>OE args
 | .callq _ args=>OE args
 | .callv g args=>rdO g ++ OE args
 | .lens x=>rdO x
 | .lenl x=>rdO x
 | .app _ _ s x=>rdO s ++ rdO x
 | .appg _ _ s x=>rdO s ++ rdO x
 | .frz n _=>[n]
 | .zlit=>[]
 | .nilp=>[]
 | .appzz s x=>rdO s ++ rdO x
 | .clr _ x=>rdO x
 | .mx x y=>rdO x ++ rdO y
 | .mksl _ parts=>OE parts
 | .mksg _ parts=>OE parts
 | .mkst _ parts=>OE (parts.map fun p=>p.2.2)
 | .idxa _ x i=>rdO x ++ rdO i
 | .idx x i=>rdO x ++ rdO i
 | .slcs x lo hi=>rdO x ++ (NR lo ++ NR hi)
 | .slcl _ x lo hi=>rdO x ++ (NR lo ++ NR hi)
 | .pick c a b=>rdO c ++ (rdO a ++ rdO b)
 | .ext x _=>rdO x
 | .mkfn _ caps=>OE caps
 | .nilck x=>rdO x
 | .mkm=>[]
 | .ldfz s _ _ _ _=>[s]
 | .mkg _ _ _ x=>rdO x
 | .mkp _ _ _ x=>rdO x
 | .extm n=>[n]
 | .mkstP n _ parts=>n:: OE (parts.map fun p=>p.2.2)
 | .bstr x=>rdO x
 | .fld _ _ _ x=>rdO x
 | .appM _ _ s x=>rdO s ++ rdO x
 | .stq p _ x q=>p:: q:: rdO x
 | .stp p _ x q=>p:: q:: rdO x
 | .slcx _ x lo hi=>rdO x ++ (NR lo ++ NR hi)
 | .slcc _ x lo hi mx=>rdO x ++ (NR lo ++ (rdO hi ++ rdO mx))
 | .lkm _ _ x i _=>rdO x ++ rdO i
 | .upm _ x k y=>rdO x ++ (rdO k ++ rdO y)
 | .mpe _ x k _=>rdO x ++ rdO k
 | .ensf x st n _=>n:: (rdO x ++ rdO st)
def XM:AOp->VO
 | .mvs n=>[n]
 | .ldfm s _=>[s]
 | .stf s _ _ _=>[s]
 | .stn s _ _ _ _=>[s]
 | .stfm s _ n=>[s,n]
 | .stm _ n=>[n]
 | .app _ _ s _=>rdO s
 | .appg _ _ s _=>rdO s
 | .frz n _=>[n]
 | .ldfz s _ _ _ _=>[s]
 | .extm n=>[n]
 | .ensf _ _ n _=>[n]
 | .mkstP n _ _=>[n]
 | _=>[]
def ZX:AOp->Nat
 | .gbox _=>2
 | .galloc _=>2
 | .ldg _ _ _=>1
 | .ldm _=>2
 | .st _ _ _=>2
 | .stm _ _=>2
 | .call _ _=>2
 | .callq _ _=>1
 | .callv _ _=>2
 | .appg _ _ _ _=>2
 | .frz _ _=>2
 | .clr _ _=>2
 | .mkm=>2
 | .ldfz _ _ _ _ _=>2
 | .mkg _ _ _ _=>2
 | .mkstP _ _ _=>2
 | .mksg _ _=>2
 | .lkm _ _ _ _ _=>1
 | .appM _ _ _ _=>2
 | .slcx _ _ _ _=>1
 | .stq _ _ _ _=>2
 | .stp _ _ _ _=>2
 | .upm _ _ _ _=>2
 | .mpe _ _ _ _=>2
 | .ensf _ _ _ _=>2
 | _=>0
def QP (op:AOp) (τ s:St):St:={env:=fun j=>if j∈XM op then s.env j else τ.env j,bs:=if ZX op=2 then s.bs else τ.bs}
def Zo {a b s} (h:XM a=[]) (c:ZX a≠2):QP a b s=b:=by
 unfold QP;simp_all
def QO {ρ a x} (h: ∀j∈rdO x,a j=ρ j):val a x=val ρ x:=by
 cases x with | t n=>simp only[val];rw[h n (by simp[rdO])] | c v=>rfl
def An:=@List.flatMap_cons
def Zp:=@List.mem_append
def TZ [Dr] {c a}: ∀{b},(∀j∈OE b,a j=c j)->b.map (val a)=b.map (val c)
 | [],_=>rfl
 | x:: b,h=>by
  simp only[ZO];rw[QO (fun j d=>h j (by simp[OE];grind)),TZ (fun j d=>h j (by simp only[OE,An,Zp];exact .inr d))]
def SN [Dr] {b a x} (h: ∀j∈NR x,a j=b j):x.map (val a)=x.map (val b):=by
 rcases x with _ | x;rfl;simp only[Zn];rw[QO (by simpa[NR]using h)]
def XC {s t:St} (a: ∀j,s.env j=t.env j) (b:s.bs=t.bs):s=t:=by
 cases s;cases t;simp only[St.mk.injEq];grind
def DR {b a n c} (d:a.env n=b.env n) (e:a.bs=b.bs):ZY a n c=(ZY b n c).map fun p=>(p.1,{env:=upd a.env n .undef,bs:=p.2.bs}):=by
 unfold ZY;rw[d,e];split;split;split;simp;grind;simp;rfl
def Hb {a n b p} (h:ZY a n b=some p):p.2.env=upd a.env n .undef:=by
 unfold ZY at h;grind
def Qcl {σ τ x a v} (h:τ.bs=σ.bs):OO τ x a v=(OO σ x a v).map fun p=>(p.1,{env:=τ.env,bs:=p.2.bs}):=by
 unfold OO;split;rw[h];rename_i b n;rcases σ.bs[b]? with _ | c;rfl;simp only[QN];split;rfl;grind;rfl
def DH {a x b v p} (h:OO a x b v=some p):p.2.env=a.env:=by
 unfold OO at h;grind
def Xq:=@true_and
def Vz:=@List.mem_singleton
def Zl:=@List.mem_cons
def JH:=@List.not_mem_nil
def Mn:=@or_false
def G4:=@Option.map_map
def Rp:=@List.map_congr_left
def YL:=@List.mem_map
set_option maxHeartbeats 1000000 in
def Fv [Dr] {K op σ τ} (hr: ∀j∈Zt op,τ.env j=σ.env j) (hb:ZX op≠0->τ.bs=σ.bs):
  Qm K op τ=(Qm K op σ).map fun p=>(p.1,QP op τ p.2):=by
 cases op;case mov x=>have hm: ∀s':St,QP (.mov x) τ s'=τ:=fun _=>Zo rfl (show(0:Nat)≠2 by omega);simp only[Qm];rw[QO hr];grind
 case mvs n=>have h0:=hr n (by simp[Zt]);simp only[Qm,h0];split;simp only[Zn,QW,Zk,Xq];exact XC (fun j=>by simp only[QP,XM,upd,Vz];grind) (by simp[QP,ZX]);rfl
 case box x=>have hm: ∀s':St,QP (.box x) τ s'=τ:=fun _=>Zo rfl (show(0:Nat)≠2 by omega);simp only[Qm];rw[QO hr];simp[hm,Vl]
 case alloc zs=>have hm: ∀s':St,QP (.alloc zs) τ s'=τ:=fun _=>Zo rfl (show(0:Nat)≠2 by omega);simp[Qm,hm]
 case gbox x=>have h0:=hb (by simp[ZX]);simp only[Qm,h0];rw[QO hr];rcases cellsOf (val σ.env x)with _ | cs;rfl;simp only[Zn,QW,Zk,Xq];exact XC (fun j=>by simp[QP,XM]) (by simp[QP,ZX])
 case galloc zs=>have h0:=hb (by simp[ZX]);simp only[Qm,h0,Zn,QW,Zk,Xq];exact XC (fun j=>by simp[QP,XM]) (by simp[QP,ZX])
 case fad s off=>have hm: ∀s':St,QP (.fad s off) τ s'=τ:=fun _=>Zo rfl (show(0:Nat)≠2 by omega);have h0:=hr s (by simp[Zt]);simp only[Qm,h0];grind
 case fadr p off=>have hm: ∀s':St,QP (.fadr p off) τ s'=τ:=fun _=>Zo rfl (show(0:Nat)≠2 by omega);have h0:=hr p (by simp[Zt]);simp only[Qm,h0];grind
 case ldf s off sz ag=>have hm: ∀s':St,QP (.ldf s off sz ag) τ s'=τ:=fun _=>Zo rfl (show(0:Nat)≠2 by omega);have h0:=hr s (by simp[Zt]);simp only[Qm,h0];split <;> simp[hm,Vl]
 case ldfm s off=>have h0:=hr s (by simp[Zt]);simp only[Qm,h0];split;rename_i cs hcs;rcases cs[off]? with _ | c;rfl;simp only[QN];split;simp only[Zn,QW,Zk,Xq];exact XC (fun j=>by simp only[QP,XM,upd,Vz];grind) (by simp[QP,ZX]);rfl;rfl
 case ld p sz ag=>have hm: ∀s':St,QP (.ld p sz ag) τ s'=τ:=fun _=>Zo rfl (show(0:Nat)≠2 by omega);have h0:=hr p (by simp[Zt]);simp only[Qm,h0];split <;> simp[hm,Vl]
 case ldg p sz ag=>have hm: ∀s':St,QP (.ldg p sz ag) τ s'=τ:=fun _=>Zo rfl (show(1:Nat)≠2 by omega);have h0:=hr p (by simp[Zt]);have h1:=hb (by simp[ZX]);simp only[Qm,h0,h1];split;rename_i i of hcs;rcases σ.bs[i]? with _ | cs;rfl;simp[hm,Vl];rfl
 case ldm p=>have h0:=hr p (by simp[Zt]);have h1:=hb (by simp[ZX]);simp only[Qm,h0,h1];split;rename_i i of hcs;rcases σ.bs[i]? with _ | cs;rfl;simp only[QN];rcases cs[of]? with _ | c;rfl;simp only[QN];split;simp only[Zn,QW,Zk,Xq];exact XC (fun j=>by simp[QP,XM]) (by simp[QP,ZX]);rfl;rfl
 case stf s off sz x=>have h0:=hr s (by simp[Zt]);simp only[Qm,h0];rw[QO (fun j hj=>hr j (by simp[Zt,hj]))];split;rename_i cs hcs;rcases cellsOf (val σ.env x)with _ | vs;rfl;simp only[QN];split;simp only[Zn,QW,Zk,Xq];exact XC (fun j=>by simp only[QP,XM,upd,Vz];grind) (by simp[QP,ZX]);rfl;rfl
 case stn s off sz x zs=>have h0:=hr s (by simp[Zt]);simp only[Qm,h0];rw[QO (fun j hj=>hr j (by simp[Zt,hj]))];split;rename_i cs hcs;rcases cellsOf (val σ.env x)with _ | vs;rfl;simp only[QN];split;simp only[Zn,QW,Zk,Xq];exact XC (fun j=>by simp only[QP,XM,upd,Vz];grind) (by simp[QP,ZX]);rfl;rfl
 case stfm s off n=>have h0:=hr s (by simp[Zt]);have h1:=hr n (by simp[Zt]);simp only[Qm,h0,h1];split;rename_i cs hcs;split;simp only[Zn,QW,Zk,Xq];refine XC (fun j=> ?_) (by simp[QP,ZX]);simp only[QP,XM,upd,Zl,JH,Mn];grind;rfl;rfl
 case st p sz x=>have h0:=hr p (by simp[Zt]);have h1:=hb (by simp[ZX]);simp only[Qm,h0,h1];rw[QO (fun j hj=>hr j (by simp[Zt,hj]))];split;rename_i i of hcs;rcases σ.bs[i]? with _ | cs;rfl;simp only[QN];rcases cellsOf (val σ.env x)with _ | vs;rfl;simp only[QN];split;simp only[Zn,QW,Zk,Xq];exact XC (fun j=>by simp[QP,XM]) (by simp[QP,ZX]);rfl;rfl
 case stm p n=>have h0:=hr p (by simp[Zt]);have h1:=hb (by simp[ZX]);have h2:=hr n (by simp[Zt]);simp only[Qm,h0,h1,h2];split;rename_i i of hcs;rcases σ.bs[i]? with _ | cs;rfl;simp only[QN];split;simp only[Zn,QW,Zk,Xq];exact XC (fun j=>by simp only[QP,XM,upd,Vz];grind) (by simp[QP,ZX]);rfl;rfl
 case bin op x y=>have hm: ∀s':St,QP (.bin op x y) τ s'=τ:=fun _=>Zo rfl (show(0:Nat)≠2 by omega);simp only[Qm];rw[QO (fun j hj=>hr j (by simp[Zt,hj])),QO (x:=y) (fun j hj=>hr j (by simp[Zt,hj]))];simp[hm,Vl]
 case eqb ne x y=>have hm: ∀s':St,QP (.eqb ne x y) τ s'=τ:=fun _=>Zo rfl (show(0:Nat)≠2 by omega);simp only[Qm];rw[QO (fun j hj=>hr j (by simp[Zt,hj])),QO (x:=y) (fun j hj=>hr j (by simp[Zt,hj]))];grind
 case isn ne x=>have hm: ∀s':St,QP (.isn ne x) τ s'=τ:=fun _=>Zo rfl (show(0:Nat)≠2 by omega);simp only[Qm];rw[QO hr];grind
 case un op x=>have hm: ∀s':St,QP (.un op x) τ s'=τ:=fun _=>Zo rfl (show(0:Nat)≠2 by omega);simp only[Qm];rw[QO hr];simp[hm,Vl]
 case conv k x=>have hm: ∀s':St,QP (.conv k x) τ s'=τ:=fun _=>Zo rfl (show(0:Nat)≠2 by omega);simp only[Qm];rw[QO hr];grind
 case call f args=>have h0:=hb (by simp[ZX]);simp only[Qm,h0];rw[TZ hr];split;simp only[G4,Vl];congr 1;rfl
 case callq f args=>have h0:=hb (by simp[ZX]);have hm: ∀s':St,QP (.callq f args) τ s'=τ:=fun _=>Zo rfl (show(1:Nat)≠2 by omega);simp only[Qm,h0];rw[TZ hr];split;rcases K f (args.map (val σ.env)) σ.bs with _ | p;rfl;grind;rfl
 case callv g args=>have h0:=hb (by simp[ZX]);simp only[Qm,h0];rw[TZ (fun j hj=>hr j (by simp[Zt,hj])),QO (fun j hj=>hr j (by simp[Zt,hj]))];split;split;simp only[G4,Vl];congr 1;rfl;rfl
 case lens x=>have hm: ∀s':St,QP (.lens x) τ s'=τ:=fun _=>Zo rfl (show(0:Nat)≠2 by omega);simp only[Qm];rw[QO hr];grind
 case lenl x=>have hm: ∀s':St,QP (.lenl x) τ s'=τ:=fun _=>Zo rfl (show(0:Nat)≠2 by omega);simp only[Qm];rw[QO hr];grind
 case app bytes sz s x=>simp only[Qm];rw[QO (x:=x) (fun j hj=>hr j (by simp[Zt,hj]))];cases s with | t n=>have h0:=hr n (by simp[Zt,rdO]);simp only[h0];split;rename_i sz1 xs ρ o2 sz2 ys e1 e2;simp only[Zk]at e1;obtain⟨e1,rfl⟩:=e1;simp only[e1,e2];split;simp only[Zn,QW,Zk,Xq];exact XC (fun j=>by simp only[QP,XM,rdO,upd,Vz];grind) (by simp[QP,ZX]);rfl;grind | c vc=>have hm: ∀s':St,QP (.app bytes sz (.c vc) x) τ s'=τ:=fun _=>Zo rfl (show(0:Nat)≠2 by omega);simp only[hm];split;rename_i sz1 xs ρ o2 sz2 ys e1 e2;simp only[Zk]at e1;obtain⟨rfl,rfl⟩:=e1;simp_all;grind
 case frz n sz=>have h0:=hr n (by simp[Zt]);have h1:=hb (by simp[ZX]);simp only[Qm,DR h0 h1];rcases hf:ZY σ n sz with _ | p;rfl;simp only[Zn,QW,Zk,Xq];exact XC (fun j=>by simp only[QP,XM,Hb hf,upd,Vz];grind) (by simp[QP,ZX])
 case clr sz x=>have h1:=hb (by simp[ZX]);simp only[Qm,h1];rw[QO hr];split;split;split;simp only[Zn,QW,Zk,Xq];exact XC (fun j=>by simp[QP,XM]) (by simp[QP,ZX,h1]);rename_i id _ _ _ _ _ _;rcases σ.bs[id]? with _ | cs;rfl;simp only[QN];split;simp only[Zn,QW,Zk,Xq];exact XC (fun j=>by simp[QP,XM]) (by simp[QP,ZX]);rfl;rfl;rfl
 case appg bytes sz s x=>simp only[Qm,(hb (by simp[ZX]))];rw[QO (x:=x) (fun j hj=>hr j (by simp[Zt,hj]))];cases s with | t n=>have h0:=hr n (by simp[Zt,rdO]);simp only[h0];(cases hn:σ.env n <;> (try simp only[]) <;> try rfl);rename_i ow sz1 xs;(cases ow <;> try rfl);(cases xs <;> try rfl);(cases hx:val σ.env x <;> (try simp only[]) <;> try rfl);split;split;rfl;simp only[Zn,QW,Zk,Xq];exact XC (fun j=>by simp only[QP,XM,rdO,upd,Vz];grind) (by simp[QP,ZX]);rfl | c vc=>(cases vc <;> (try simp only[]) <;> try rfl);rename_i ow sz1 xs;(cases ow <;> try rfl);(cases xs <;> try rfl);(cases hx:val σ.env x <;> (try simp only[]) <;> try rfl);split;split;rfl;simp only[Zn,QW,Zk,Xq];exact XC (fun j=>by simp[QP,XM,rdO]) (by simp[QP,ZX]);rfl
 case zlit=>have hm: ∀s':St,QP .zlit τ s'=τ:=fun _=>Zo rfl (show(0:Nat)≠2 by omega);simp[Qm,hm]
 case nilp=>have hm: ∀s':St,QP .nilp τ s'=τ:=fun _=>Zo rfl (show(0:Nat)≠2 by omega);simp[Qm,hm]
 case appzz s x=>have hm: ∀s':St,QP (.appzz s x) τ s'=τ:=fun _=>Zo rfl (show(0:Nat)≠2 by omega);simp only[Qm];rw[QO (fun j hj=>hr j (by simp[Zt,hj])),QO (x:=x) (fun j hj=>hr j (by simp[Zt,hj]))];grind
 case mx x y=>have hm: ∀s':St,QP (.mx x y) τ s'=τ:=fun _=>Zo rfl (show(0:Nat)≠2 by omega);simp only[Qm];rw[QO (fun j hj=>hr j (by simp[Zt,hj])),QO (x:=y) (fun j hj=>hr j (by simp[Zt,hj]))];split;grind;rfl
 case mksl sz parts=>have hm: ∀s':St,QP (.mksl sz parts) τ s'=τ:=fun _=>Zo rfl (show(0:Nat)≠2 by omega);simp only[Qm];rw[TZ hr];simp[hm,Vl]
 case mksg sz parts=>have h0:=hb (by simp[ZX]);simp only[Qm,h0];rw[TZ hr];rcases Wq sz (parts.map (val σ.env))with _ | xs;rfl;simp only[Zn,QW,Zk,Xq];exact XC (fun j=>by simp[QP,XM]) (by simp[QP,ZX])
 case mkst zs parts=>have hm: ∀s':St,QP (.mkst zs parts) τ s'=τ:=fun _=>Zo rfl (show(0:Nat)≠2 by omega);simp only[Qm];(have:parts.map (fun p=>(p.1,p.2.1,val τ.env p.2.2))=parts.map (fun p=>(p.1,p.2.1,val σ.env p.2.2)):=by apply Rp;intro p hp;rw[QO (fun j hj=>hr j (by simp only[Zt,OE,List.mem_flatMap,YL];grind))]);rw[this];simp[hm,Vl]
 case idxa sz x i=>have hm: ∀s':St,QP (.idxa sz x i) τ s'=τ:=fun _=>Zo rfl (show(0:Nat)≠2 by omega);simp only[Qm];rw[QO (fun j hj=>hr j (by simp[Zt,hj])),QO (x:=i) (fun j hj=>hr j (by simp[Zt,hj]))];split;grind;grind;rfl
 case idx x i=>have hm: ∀s':St,QP (.idx x i) τ s'=τ:=fun _=>Zo rfl (show(0:Nat)≠2 by omega);simp only[Qm];rw[QO (fun j hj=>hr j (by simp[Zt,hj])),QO (x:=i) (fun j hj=>hr j (by simp[Zt,hj]))];split;split <;> simp[hm,Vl];rfl
 case slcs x lo hi=>have hm: ∀s':St,QP (.slcs x lo hi) τ s'=τ:=fun _=>Zo rfl (show(0:Nat)≠2 by omega);simp only[Qm];rw[QO (fun j hj=>hr j (by simp[Zt,hj])),SN (x:=lo) (fun j hj=>hr j (by simp[Zt,hj])),SN (x:=hi) (fun j hj=>hr j (by simp[Zt,hj]))];split;rcases Ya _ _ (hi.map (val σ.env))with _ | H;rfl;simp[hm,Vl];rfl
 case slcl sz x lo hi=>have hm: ∀s':St,QP (.slcl sz x lo hi) τ s'=τ:=fun _=>Zo rfl (show(0:Nat)≠2 by omega);simp only[Qm];rw[QO (fun j hj=>hr j (by simp[Zt,hj])),SN (x:=lo) (fun j hj=>hr j (by simp[Zt,hj])),SN (x:=hi) (fun j hj=>hr j (by simp[Zt,hj]))];split;split;rcases Ya _ _ (hi.map (val σ.env))with _ | H;rfl;simp[hm,Vl];rfl;split;rcases Ya _ _ (hi.map (val σ.env))with _ | H;rfl;simp[hm,Vl];split;rcases Ya _ _ (hi.map (val σ.env))with _ | H;rfl;simp[hm,Vl];rfl;rfl
 case pick c x y=>have hm: ∀s':St,QP (.pick c x y) τ s'=τ:=fun _=>Zo rfl (show(0:Nat)≠2 by omega);simp only[Qm];rw[QO (fun j hj=>hr j (by simp[Zt,hj])),QO (x:=x) (fun j hj=>hr j (by simp[Zt,hj])),QO (x:=y) (fun j hj=>hr j (by simp[Zt,hj]))];split;grind;grind;rfl
 case ext x i=>have hm: ∀s':St,QP (.ext x i) τ s'=τ:=fun _=>Zo rfl (show(0:Nat)≠2 by omega);simp only[Qm];rw[QO hr];grind
 case mkfn f caps=>have hm: ∀s':St,QP (.mkfn f caps) τ s'=τ:=fun _=>Zo rfl (show(0:Nat)≠2 by omega);simp only[Qm];rw[TZ hr];grind
 case nilck x=>have hm: ∀s':St,QP (.nilck x) τ s'=τ:=fun _=>Zo rfl (show(0:Nat)≠2 by omega);simp only[Qm];rw[QO hr];grind
 case fld off sz ag x=>have hm: ∀s':St,QP (.fld off sz ag x) τ s'=τ:=fun _=>Zo rfl (show(0:Nat)≠2 by omega);simp only[Qm];rw[QO hr];split <;> simp[hm,Vl]
 case mkg bytes sz zs x=>have h0:=hb (by simp[ZX]);simp only[Qm,h0];rw[QO hr];split;split;simp only[Zn,QW,Zk,Xq];exact XC (fun j=>by simp[QP,XM]) (by simp[QP,ZX]);rfl;rfl
 case bstr x=>have hm: ∀s':St,QP (.bstr x) τ s'=τ:=fun _=>Zo rfl (show(0:Nat)≠2 by omega);simp only[Qm];rw[QO hr];split;rename_i o xs _;cases Lh xs <;> simp[hm];rfl
 case ldfz s off sz fo fz=>have h0:=hr s (by simp[Zt]);have h1:=hb (by simp[ZX]);simp only[Qm,h0,h1];split;rename_i cs hcs;split;rename_i id o sz1 k hfo;split;rcases σ.bs[id]? with _ | c2;rfl;simp only[QN];split;rcases XH (cs.set fo (.sl false fz (ZR c2 o fz k))) off sz true with _ | v2;rfl;simp only[Zn,QW,Zk,Xq];exact XC (fun j=>by simp only[QP,XM,upd,Vz];grind) (by simp[QP,ZX]);rfl;split;rcases XH (cs.set fo (.sl false fz [])) off sz true with _ | v2;rfl;simp only[Zn,QW,Zk,Xq];exact XC (fun j=>by simp only[QP,XM,Vz];grind) (by simp[QP,ZX,h1]);rfl;rfl;rfl
 case appM bytes sz s x=>have h0:=hb (by simp[ZX]);simp only[Qm,h0];rw[QO (x:=s) (fun j hj=>hr j (by simp[Zt,hj])),QO (x:=x) (fun j hj=>hr j (by simp[Zt,hj]))];simp only[G4,Vl];congr 1
 case stq p sz x q=>have h0:=hr p (by simp[Zt]);have h2:=hr q (by simp[Zt]);have h1:=hb (by simp[ZX]);simp only[Qm,h0,h1,h2];rw[QO (fun j hj=>hr j (by simp[Zt,hj]))];split;rename_i i of i2 of2 hcs hcs2;split;rfl;rcases σ.bs[i]? with _ | cs;rfl;simp only[QN];rcases cellsOf (val σ.env x)with _ | vs;rfl;simp only[QN];split;simp only[Zn,QW,Zk,Xq];exact XC (fun j=>by simp[QP,XM]) (by simp[QP,ZX]);rfl;rfl
 case stp p sz x q=>have h0:=hr p (by simp[Zt]);have h2:=hr q (by simp[Zt]);have h1:=hb (by simp[ZX]);simp only[Qm,h0,h1,h2];rw[QO (fun j hj=>hr j (by simp[Zt,hj]))];split;rename_i i of i2 of2 hcs hcs2;split;rfl;rcases σ.bs[i]? with _ | cs;rfl;simp only[QN];rcases cellsOf (val σ.env x)with _ | vs;rfl;simp only[QN];split;simp only[Zn,QW,Zk,Xq];exact XC (fun j=>by simp[QP,XM]) (by simp[QP,ZX]);rfl;rfl
 case slcx sz x lo hi=>have hm: ∀s':St,QP (.slcx sz x lo hi) τ s'=τ:=fun _=>Zo rfl (show(1:Nat)≠2 by omega);have h0:=hb (by simp[ZX]);simp only[Qm,h0];rw[QO (fun j hj=>hr j (by simp[Zt,hj])),SN (x:=lo) (fun j hj=>hr j (by simp[Zt,hj])),SN (x:=hi) (fun j hj=>hr j (by simp[Zt,hj]))];split;rename_i id of sz1 kn hA;split;rcases σ.bs[id]? with _ | cs;rfl;simp only[QN];rcases Ya _ _ (hi.map (val σ.env))with _ | H;rfl;simp[hm,Vl];rfl;rfl
 case slcc sz x lo hi mx=>have hm: ∀s':St,QP (.slcc sz x lo hi mx) τ s'=τ:=fun _=>Zo rfl (show(0:Nat)≠2 by omega);simp only[Qm];rw[QO (x:=x) (fun j hj=>hr j (by simp[Zt,hj])),SN (x:=lo) (fun j hj=>hr j (by simp[Zt,hj])),QO (x:=hi) (fun j hj=>hr j (by simp[Zt,hj])),QO (x:=mx) (fun j hj=>hr j (by simp[Zt,hj]))];split;rcases Ya _ _ (some (val σ.env mx))with _ | M;rfl;simp only[QN];rcases Ya _ _ (some (val σ.env hi))with _ | H;rfl;simp[hm,Vl];rcases Ya _ _ (some (val σ.env mx))with _ | M;rfl;simp only[QN];rcases Ya _ _ (some (val σ.env hi))with _ | H;rfl;simp[hm,Vl];rfl
 case mkm=>have h0:=hb (by simp[ZX]);simp only[Qm,h0,Zn,QW,Zk,Xq];exact XC (fun j=>by simp[QP,XM]) (by simp[QP,ZX])
 case lkm s ok x i z=>have hm: ∀s':St,QP (.lkm s ok x i z) τ s'=τ:=fun _=>Zo rfl (show(1:Nat)≠2 by omega);have h1:=hb (by simp[ZX]);simp only[Qm,h1];rw[QO (fun j hj=>hr j (by simp[Zt,hj])),QO (x:=i) (fun j hj=>hr j (by simp[Zt,hj]))];split;rename_i id hid;rcases σ.bs[id]? with _ | cs;rfl;simp only[QN];split;rfl;rcases Wg s (cs.drop 1) (val σ.env i)with _ | r;rfl;grind;rfl
 case upm s x k y=>have h1:=hb (by simp[ZX]);simp only[Qm,h1];rw[QO (fun j hj=>hr j (by simp[Zt,hj])),QO (x:=k) (fun j hj=>hr j (by simp[Zt,hj])),QO (x:=y) (fun j hj=>hr j (by simp[Zt,hj]))];split;rename_i id hid;rcases σ.bs[id]? with _ | cs;rfl;simp only[QN];split;rfl;rcases Og s (cs.drop 1) (val σ.env k) (val σ.env y).strip with _ | ys;rfl;simp only[Zn,QW,Zk,Xq];exact XC (fun j=>by simp[QP,XM]) (by simp[QP,ZX]);rfl
 case mpe s x k z=>have h1:=hb (by simp[ZX]);simp only[Qm,h1];rw[QO (fun j hj=>hr j (by simp[Zt,hj])),QO (x:=k) (fun j hj=>hr j (by simp[Zt,hj]))];split;rename_i id hid;rcases σ.bs[id]? with _ | cs;rfl;simp only[QN];split;rfl;rcases Wg s (cs.drop 1) (val σ.env k)with _ | r;rfl;rcases r with _ | r;simp only[Zn,QW,Zk,GT,Xa,ZM,Xq];exact XC (fun j=>by simp[QP,XM]) (by simp[QP,ZX]);simp only[Zn,QW,Zk,Option.isSome_some,QU,Xq];exact XC (fun j=>by simp[QP,XM]) (by simp[QP,ZX,h1]);rfl
 case ensf x st n sz=>have h0:=hr n (by simp[Zt]);have h1:=hb (by simp[ZX]);simp only[Qm,DR h0 h1];rcases hf:ZY σ n sz with _ | p;rfl;have hpe:=Hb hf;simp only[Zn,QN];(have hup: ∀j∈Zt (.ensf x st n sz),upd τ.env n .undef j=p.2.env j:=fun j hj=>by rw[hpe];simp only[upd];grind);rw[QO (ρ:=p.2.env) (x:=x) (fun j hj=>hup j (by simp[Zt,hj])),QO (ρ:=p.2.env) (x:=st) (fun j hj=>hup j (by simp[Zt,hj]))];rw[Qcl (σ:=p.2) (τ:={env:=upd τ.env n .undef,bs:=p.2.bs}) rfl];rcases he:OO p.2 (val p.2.env x) (val p.2.env st) p.1 with _ | q;rfl;simp only[Zn,QW,Zk,Xq];exact XC (fun j=>by simp only[QP,XM,(DH he),hpe,upd,Vz];grind) (by simp[QP,ZX])
 case mkp bytes sz zs x=>have hm: ∀s':St,QP (.mkp bytes sz zs x) τ s'=τ:=fun _=>Zo rfl (show(0:Nat)≠2 by omega);simp only[Qm];rw[QO hr];split;grind;rfl
 case extm n=>have h0:=hr n (by simp[Zt]);simp only[Qm,h0];split;simp only[Zn,QW,Zk,Xq];exact XC (fun j=>by simp only[QP,XM,upd,Vz];grind) (by simp[QP,ZX]);rfl
 case mkstP n zs parts=>have h0:=hr n (by simp[Zt]);have h1:=hb (by simp[ZX]);simp only[Qm,h0,h1];split;rename_i sz cs hcs;split;(have hp:parts.map (fun p=>(p.1,p.2.1,val (upd τ.env n (.gs σ.bs.length 0 sz (cs.length / sz))) p.2.2))=parts.map (fun p=>(p.1,p.2.1,val (upd σ.env n (.gs σ.bs.length 0 sz (cs.length / sz))) p.2.2)):=by apply Rp;intro p hp;(have:val (upd τ.env n (.gs σ.bs.length 0 sz (cs.length / sz))) p.2.2=val (upd σ.env n (.gs σ.bs.length 0 sz (cs.length / sz))) p.2.2:=QO fun j hj=>by simp only[upd];split;rfl;exact hr j (by simp only[Zt,OE,Zl,List.mem_flatMap,YL];grind));grind);rw[hp];(cases U1 zs (parts.map fun p=>(p.1,p.2.1,val (upd σ.env n (.gs σ.bs.length 0 sz (cs.length / sz))) p.2.2))with | none=>rfl | some c=>simp only[Zn,QW,Zk,Xq];exact XC (fun j=>by simp only[QP,XM,upd,Vz];grind) (by simp[QP,ZX]));rfl;rfl
def rdA (x:Q4):VO:=Zt x.op ++ (match x.guard with
 | some (t,_)=>[t]
 | none=>[])
def wrA (x:Q4):VO:=XM x.op ++ x.dst.toList
def QfG (a b:VO):Bool:=a.all fun j=> !b.contains j
def QfZ (x y:Q4):Bool:=QfG (wrA x) (rdA y ++ wrA y) && QfG (wrA y) (rdA x) &&
 (decide (ZX x.op=0) || decide (ZX y.op=0) || (decide (ZX x.op=1) && decide (ZX y.op=1)))
def T9 (x:Q4) (τ s:St):St:={env:=fun j=>if j∈wrA x then s.env j else τ.env j,bs:=if ZX x.op=2 then s.bs else τ.bs}
def KZ (a d v j):Xj a d v j=if j∈d.toList then v else a j:=by
 rcases d with _ | d;simp[Xj];simp[Xj,upd]
def QfP [Dr] {K op σ a v} (h:Qm K op σ=some (v,a)):a=QP op σ a:=by
 have:=Fv (K:=K) (op:=op) (σ:=σ) (τ:=σ) (fun _ _=>rfl) (fun _=>rfl);rw[h]at this;simp only[Zn,QW,Zk,Xq]at this;exact this
def OX [Dr] {K x σ τ} (g: ∀j∈rdA x,τ.env j=σ.env j) (h:ZX x.op≠0->τ.bs=σ.bs):
  YH K x τ=(YH K x σ).map (T9 x τ):=by
 have c: ((Qm K x.op τ).map fun p=>({p.2 with env:=Xj p.2.env x.dst p.1}:St))=((Qm K x.op σ).map fun p=>({p.2 with env:=Xj p.2.env x.dst p.1}:St)).map (T9 x τ):=by rw[(Fv (K:=K) (op:=x.op) (σ:=σ) (τ:=τ) (fun j e=>g j (by simp[rdA,e])) h)];simp only[G4,Vl];congr 1;funext p;refine XC (fun j=> ?_) ?_;simp only[T9,QP,wrA,Zp,KZ];by_cases f:j∈x.dst.toList <;> by_cases d:j∈XM x.op <;> simp[f,d];simp[T9,QP]
 unfold YH;rcases k:x.guard with _ | i;exact c;obtain⟨t,b⟩:=i;simp only;rw[g t (by simp[rdA,k])];have a: (some {τ with env:=Xj τ.env x.dst (.tup [])}:Option St)=(some ({σ with env:=Xj σ.env x.dst (.tup [])}:St)).map (T9 x τ):=by simp only[Zn,QW];refine XC (fun j=> ?_) ?_;simp only[T9,wrA,Zp,KZ];by_cases f:j∈x.dst.toList;simp[f];by_cases d:j∈XM x.op;simp only[f,d,ZM,Mn,QU];exact g j (by(have: ∀op:AOp,∀j∈XM op,j∈Zt op:=by intro op j e;cases op <;> simp only[XM,Zt,Zl,Zp,JH,Mn]at e ⊢ <;> first | exact e | exact .inl e | exact .inr e | exact e.elim);simp only[rdA,Zp];exact .inl (this _ _ d));simp[f,d];simp only[T9];by_cases d:ZX x.op=2;simp only[d,QU];exact h (by omega);simp[d]
 split;split;exact c;exact a;exact a;rfl
def DB {a b} (h:QfG a b=true): ∀j∈a,j ∉ b:=by
 unfold QfG at h;rw[Wc]at h;intro j c;simpa using h j c
def TE:=@List.mem_append_left
def Aa:=@List.mem_append_right
def Qgu [Dr] {K x y σ a b} (l:QfZ x y=true) (o:YH K x σ=some a) (w:YH K y a=some b):
  ∃τ,YH K y σ=some τ/\YH K x τ=some b:=by
 unfold QfZ at l;simp only[Qu,Wo,QM]at l;obtain⟨⟨m,g⟩,z⟩:=l;have r:=DB m;have f:=OX (K:=K) (x:=x) (σ:=σ) (τ:=σ) (fun _ _=>rfl) (fun _=>rfl);rw[o]at f;simp only[Zn,QW]at f;have e:=OX (K:=K) (x:=y) (σ:=a) (τ:=a) (fun _ _=>rfl) (fun _=>rfl);rw[w]at e;simp only[Zn,QW]at e;have v: ∀j,a.env j=if j∈wrA x then a.env j else σ.env j:=fun j=>UV (fun s:St=>s.env j) f;have u:a.bs=if ZX x.op=2 then a.bs else σ.bs:=UV St.bs f;have p: ∀j,b.env j=if j∈wrA y then b.env j else a.env j:=fun j=>UV (fun s:St=>s.env j) e;have t:b.bs=if ZX y.op=2 then b.bs else a.bs:=UV St.bs e;have n:=OX (K:=K) (x:=y) (σ:=a) (τ:=σ) (fun j i=>by rw[v j,Qe (fun h=>r j h (TE _ i))]) (fun k=>by rw[u,Qe (by omega)]);rw[w,Zn]at n;have q:=OX (K:=K) (x:=x) (σ:=σ) (τ:=T9 y σ b) (fun j i=>by simp only[T9];rw[Qe (fun h=>(DB g) j h i)]) (fun k=>by simp only[T9];rw[Qe (by omega)]);rw[o,Zn]at q;refine⟨_,n,?_⟩;rw[q];congr 1;refine XC (fun j=> ?_) ?_;simp only[T9];by_cases c:j∈wrA x;rw[Qg c,p j,Qe (fun h=>r j c (Aa _ h))];rw[Qe c];by_cases d:j∈wrA y;rw[Qg d];rw[Qe d,p j,Qe d,v j,Qe c];simp only[T9];by_cases c:ZX x.op=2;rw[Qg c,t,Qe (by omega)];rw[Qe c];by_cases d:ZX y.op=2;rw[Qg d];rw[Qe d,t,Qe d,u,Qe c]
def Qge (x y:Q4):Bool:=match x.op,y.op with
 | .stq _ _ _ q,.st q2 _ _=>decide (q=q2) && decide (x.dst=none) && decide (y.dst=none) && decide (x.guard=none) && decide (y.guard=none)
 | .st p sz _,.stp _ sz2 _ p2=>decide (p=p2) && decide (sz=sz2) && decide (x.dst=none) && decide (y.dst=none) && decide (x.guard=none) && decide (y.guard=none)
 | _,_=>false
def QjA {a c b o p} (d:o+c.length<=a.length) (e:p+b.length<=a.length) (s:o+c.length<=p\/p+b.length<=o):put (put a o c) p b=put (put a p b) o c:=by
 have m: (put a o c).length=a.length:=by unfold put;rw[Tv _ _ _ d]
 have r: (put a p b).length=a.length:=by unfold put;rw[Tv _ _ _ e]
 apply Ss;intro k;have h: (put (put a o c) p b)[k]? =_:=Vd (put a o c) p b (by rwa[m]) k;have j: (put (put a p b) o c)[k]? =_:=Vd (put a p b) o c (by rwa[r]) k;have l: (put a o c)[k]? =_:=Vd a o c d k;have n: (put a p b)[k]? =_:=Vd a p b e k;rw[h,j,l,n];by_cases i:k < o <;> by_cases q:k < o+c.length <;> by_cases g:k < p <;> by_cases f:k < p+b.length <;> simp only[i,q,g,f,QU,ZM] <;> omega
def JU:=@List.set_comm
def T6:=@List.set_set
def Qgf {K x y g z B} (r:Qge x y=true) (b:YH K x g=some z) (a:YH K y z=some B):
  ∃T,YH K y g=some T/\YH K x T=some B:=by
 unfold Qge at r;split at r;rename_i p V v q U R E H P;simp only[Qu,QM]at r;obtain⟨⟨⟨⟨rfl,Q⟩,L⟩,G⟩,I⟩:=r;simp only[YH,H,G,Q,Qm,Xj]at b ⊢;simp only[YH,P,I,L,Qm,Xj]at a ⊢;split at b;rename_i i o D t C J;split at b;cases b;rename_i f;rcases l:g.bs[i]? with _ | s;rw[l]at b;cases b;rw[l]at b;rcases n:cellsOf (val g.env v)with _ | A;rw[n]at b;cases b;rw[n]at b;simp only[QN]at b;split at b;rename_i u;simp only[Zn,QW]at b;subst b;simp only at a;rw[J]at a ⊢;simp only[Ti f]at a;simp only;rcases k:g.bs[D]? with _ | M;rw[k]at a;cases a;rw[k]at a;simp only[QN]at a ⊢;rcases d:cellsOf (val g.env E)with _ | j;rw[d]at a;cases a;rw[d]at a;simp only[QN]at a ⊢;split at a;rename_i c;simp only[Zn,QW]at a;subst a;rw[Qg c,Zn];refine⟨_,rfl,?_⟩;simp only[C,J,n,QN,Ti (fun e=>f e.symm),l,Qe f,Qg u,Zn];rw[JU _ _ f];cases a;cases b;cases b;rename_i p V v q R E p2 H P;simp only[Qu,QM]at r;obtain⟨⟨⟨⟨⟨rfl,rfl⟩,Q⟩,L⟩,G⟩,I⟩:=r;simp only[YH,H,G,Q,Qm,Xj]at b ⊢;simp only[YH,P,I,L,Qm,Xj]at a ⊢;split at b;rename_i i o C;rcases l:g.bs[i]? with _ | s;rw[l]at b;cases b;rw[l]at b;rcases n:cellsOf (val g.env v)with _ | A;rw[n]at b;cases b;rw[n]at b;simp only[QN]at b;split at b;rename_i u;simp only[Zn,QW]at b;subst b;simp only at a;rw[C]at a ⊢;split at a;rename_i D t i3 Y J X;cases X;split at a;cases a;rename_i f;simp only[Qe f];have w:i < g.bs.length:=by rcases ZI i g.bs.length with h | h;exact h;rw[ZP h]at l;cases l
 by_cases m:D=i;subst m;rw[QG,Qg rfl,Qg w]at a;simp only[QN]at a;rw[l];simp only[QN];rcases d:cellsOf (val g.env E)with _ | j;rw[d]at a;cases a;rw[d]at a;simp only[QN]at a ⊢;split at a;rename_i c;have S: (put s o (A.map AV.strip)).length=s.length:=by unfold put;rw[Tv _ _ _ (by simpa using u.2.1)]
 rw[S]at c;simp only[Zn,QW]at a;subst a;rw[Qg c,Zn];refine⟨_,rfl,?_⟩;have N: (put s t (j.map AV.strip)).length=s.length:=by unfold put;rw[Tv _ _ _ (by simpa using c.2.1)]
 simp only[C,QG,Qg w,QN,n];simp only[QU,QN];rw[Qg (by rwa[N]),Zn,T6,T6];have O:put (put s t (j.map AV.strip)) o (A.map AV.strip)=put (put s o (A.map AV.strip)) t (j.map AV.strip):=by refine QjA (by simpa using c.2.1) (by simpa using u.2.1) ?_;have Z:=u.1;have U:=c.1;simp only[UR];by_cases W:t+j.length<=o;exact .inl W;refine .inr ?_;rcases ZI t (o+A.length)with h | h;exact absurd ⟨rfl,by omega,by omega⟩ f;exact h
 rw[O];cases a;rw[Ti (fun e=>m e.symm)]at a;rcases k:g.bs[D]? with _ | M;rw[k]at a;cases a;rw[k]at a;simp only[QN]at a ⊢;rcases d:cellsOf (val g.env E)with _ | j;rw[d]at a;cases a;rw[d]at a;simp only[QN]at a ⊢;split at a;rename_i c;simp only[Zn,QW]at a;subst a;rw[Qg c,Zn];refine⟨_,rfl,?_⟩;simp only[C,Ti m,l,QN,n,Qg u,Zn];rw[JU _ _ (fun e=>m e.symm)];cases a;cases a;cases b;cases b;cases r
def Iv (x y:Q4):Bool:=QfZ x y || Qge x y
def Qcz [Dr] {K x y d b c} (a:Iv x y=true) (g:YH K x d=some b) (e:YH K y b=some c):
  ∃f,YH K y d=some f/\YH K x f=some c:=by
 unfold Iv at a;rw[Wo]at a;rcases a with a | a;exact Qgu a g e;exact Qgf a g e
def Uy:=@List.pairwise_cons
def Rw:=@List.mem_cons_of_mem
def IQ [Dr] {K} (f) (i): ∀(L:VO) m a,L.Pairwise (· < ·)->i∈L->(∀j∈L,j < i->Iv (f j) (f i)=true)->
  YO K (L.map f) m=some a->∃c,YH K (f i) m=some c/\YO K ((L.erase i).map f) c=some a
 | [],_,_,_,n,_,_=>by simp at n
 | j:: L,m,a,o,n,p,g=>by
  simp only[ZO,YO]at g;rcases l:YH K (f j) m with _ | d;rw[l]at g;cases g;rw[l,QN]at g;by_cases b:j=i;subst b;exact⟨d,l,by rwa[List.erase_cons_head]⟩;have e:i∈L:=by rcases Zl.1 n with h | h;exact absurd h.symm b;exact h
  obtain⟨t,v,w⟩:=IQ f i L d a (Uy.1 o).2 e (fun k q=>p k (Rw _ q)) g;obtain⟨r,u,s⟩:=Qcz (p j (by simp) ((Uy.1 o).1 i e)) l v;refine⟨r,u,?_⟩;rwa[List.erase_cons_tail (by simpa using b),ZO,YO,s,QN]
structure En where
 j:Nat
 g:Option (Nat×Bool)
 q:Nat
 s:Nat
 off:Nat
def QdQ (x:Q4) (j:Nat):Option En:=match x.op,x.dst with
 | .fad s off,some q=>some ⟨j,x.guard,q,s,off⟩
 | _,_=>none
def entries (xs:So):List En:=xs.zipIdx.filterMap fun p=>QdQ p.1 p.2
def Qmi (E:List En) (prec:Nat->Nat->Bool) (i:Nat) (g:Option (Nat×Bool)) (q s off:Nat):Bool:=
 E.any fun en=>prec i en.j && (decide (en.g=none) || decide (en.g=g)) && decide (en.q=q) && decide (en.s=s) && decide (en.off=off)
def Qkk (E:List En) (prec:Nat->Nat->Bool) (xs:So):Bool:=
 E.all fun en=>xs.zipIdx.all fun p=>(decide (p.2=en.j) || !decide (p.1.dst=some en.q)) && !decide (p.1.dst=some en.s) &&
  (match en.g with
   | some (t,_)=> !decide (p.1.dst=some t) || prec en.j p.2
   | none=>true)
def EZ (cops:Array Oper) (x:Q4) (o:Oper):Bool:=match x.guard,o.guard with
 | none,none=>true
 | some (t,b),some (j,b2)=>decide (b=b2) && decide (((cops[j]?).bind (·.dst))=some t)
 | _,_=>false
def Qjf (P:Program) (num:WR) (N:Nat) (E:List En) (prec:Nat->Nat->Bool) (cops:Array Oper) (i:Nat) (x:Q4) (o:Oper):Bool:=
 decide (x.dst=o.dst) && (match x.dst with
  | some d=>decide (d < N)
  | none=>true) && EZ cops x o && Ql8 P num (Qmi E prec i x.guard) x.op o.op
def Lb (P:Program) (num:WR) (N:Nat) (prec:Nat->Nat->Bool) (cops:Array Oper) (xs:So):Bool:=
 decide (xs.length=cops.size) && Qkk (entries xs) prec xs && xs.zipIdx.all fun p=>match cops[p.2]? with
  | some o=>Qjf P num N (entries xs) prec cops p.2 p.1 o
  | none=>false
def gOK (σ:St):Option (Nat×Bool)->Prop
 | none=>True
 | some (t,b)=>σ.env t= .bool b
def RS (E:List En) (D:Nat->Prop) (σ:St) (a:Act):Prop:=∀en∈E,D en.j->gOK σ en.g->S0 a en.q en.s en.off
def Hx {f b} (h:b∈entries f): ∃x,f[b.j]? =some x/\x.op= .fad b.s b.off/\x.dst=some b.q/\x.guard=b.g:=by
 unfold entries at h;rw[List.mem_filterMap]at h;obtain⟨⟨x,j⟩,g,d⟩:=h;simp only[QdQ]at d;split at d;rename_i s i q l n;cases d;exact⟨x,(by rw[List.mem_iff_getElem?]at g;obtain⟨k,c⟩:=g;rw[Ab]at c;rcases e:f[k]? with _ | y;rw[e]at c;cases c;rw[e]at c;simp only[Zn,QW,Zk]at c;obtain⟨rfl,rfl⟩:=c;simpa using e),l,n,rfl⟩;cases d
def QeO {b:So} {f} (h:b.zipIdx.all f=true) {i x} (c:b[i]? =some x):f (x,i)=true:=by
 rw[Wc]at h;refine h (x,i) (TD (i:=i) ?_);rw[Ab,c];simp
section
variable {P:Program} {num:Nat->Option Nat} {β:List Blk} {w w':World} {m:Nat->Nat} {ν:Own} {N:Nat} {w0:World} {m0:Nat->Nat} {T:Nat->Prop} {β0:List Blk} {σ σ1 σ2:St} {a:Act}
 {next:Act->World->Prop} {Q:Exit->Act->World->Prop} {K:Vi} {v:AV} {xs:List Q4} {cops:Array Oper} {prec:Nat->Nat->Bool}
def QpX {G} (h:Qm K G σ=some (v,σ1)): ∀j∈XM G,σ1.env j= .undef\/∃f,σ1.env j= .bx f\/σ1.env j= .tup f:=by
 intro j b;cases G <;> simp only[XM,JH,Zl,Mn]at b;case mvs n=>subst b;simp only[Qm]at h;split at h;cases h;exact .inl (by simp[upd]);cases h
 case ldfm s d=>subst b;simp only[Qm]at h;split at h;rename_i f g;rcases q:f[d]? with _ | c;rw[q]at h;cases h;rw[q]at h;simp only[QN]at h;split at h;cases h;exact .inr ⟨_,.inl (by simp[upd];rfl)⟩;cases h;cases h
 case stf s d l x=>subst b;simp only[Qm]at h;split at h;rename_i f g;rcases q:cellsOf (val σ.env x)with _ | c;rw[q]at h;cases h;rw[q]at h;simp only[QN]at h;split at h;cases h;exact .inr ⟨_,.inl (by simp[upd];rfl)⟩;cases h;cases h
 case stn s d l x B=>subst b;simp only[Qm]at h;split at h;rename_i f g;rcases q:cellsOf (val σ.env x)with _ | c;rw[q]at h;cases h;rw[q]at h;simp only[QN]at h;split at h;cases h;exact .inr ⟨_,.inl (by simp[upd];rfl)⟩;cases h;cases h
 case stfm s d n=>simp only[Qm]at h;split at h;rename_i f g;split at h;rename_i E;cases h;rcases b with rfl | rfl;exact .inr ⟨_,.inl (by simp[upd];rfl)⟩;exact .inl (by simp only[upd];rw[Qe (fun e=>E.1 e.symm)];simp);cases h;cases h
 case stm p n=>subst b;simp only[Qm]at h;split at h;rename_i i V g;rcases q:σ.bs[i]? with _ | c;rw[q]at h;cases h;rw[q]at h;simp only[QN]at h;split at h;cases h;exact .inl (by simp[upd]);cases h;cases h
 case ldfz s d l I C=>subst b;simp only[Qm]at h;split at h;rename_i f g;split at h;rename_i S o D k U;split at h;rcases J:σ.bs[S]? with _ | O;rw[J]at h;cases h;rw[J]at h;simp only[QN]at h;split at h;rcases A:XH (f.set I (.sl false C (ZR O o C k))) d l true with _ | L;rw[A]at h;cases h;rw[A]at h;cases h;exact .inr ⟨_,.inl (by simp[upd];rfl)⟩;cases h;split at h;rcases A:XH (f.set I (.sl false C [])) d l true with _ | L;rw[A]at h;cases h;rw[A]at h;cases h;exact .inr ⟨f,.inl g⟩;cases h;cases h;cases h
 case extm n=>subst b;simp only[Qm]at h;split at h;cases h;exact .inr ⟨_,.inr (by simp[upd];rfl)⟩;cases h
 case ensf x W n l=>subst b;simp only[Qm]at h;rcases z:ZY σ j l with _ | p;rw[z]at h;cases h;rw[z]at h;simp only[QN]at h;have H:=DH h;simp only at H;exact .inl (by rw[H,Hb z];simp[upd])
 case mkstP n B u=>subst b;simp only[Qm]at h;split at h;split at h;rename_i l f _ _;rcases z:U1 B (u.map fun p=>(p.1,p.2.1,val (upd σ.env j (.gs σ.bs.length 0 l (f.length / l))) p.2.2))with _ | c;rw[z]at h;cases h;rw[z]at h;cases h;exact .inl (by simp[upd]);cases h;cases h
 case frz n l=>subst b;simp only[Qm]at h;have:=Hb h;simp only at this;exact .inl (by rw[this];simp[upd])
 case appg r l s x=>cases s with | c v=>simp[rdO]at b | t n=>simp only[rdO,Vz]at b;subst b;simp only[Qm]at h;split at h;rename_i y M;simp only[Zk]at y;obtain⟨_,rfl⟩:=y;split at h;split at h;cases h;cases h;exact .inl (by simp[upd]);cases h;cases h
 case app r l s x=>cases s with | c v=>simp[rdO]at b | t n=>simp only[rdO,Vz]at b;subst b;simp only[Qm]at h;split at h;rename_i D Z X Y R B y M;simp only[Zk]at y;obtain⟨y,rfl⟩:=y;split at h;cases h;exact .inl (by simp[upd]);cases h;cases h
def QiK [Dr] {d} (h:Qm K d σ=some (v,σ1)) {t b} (e:σ1.env t= .bool b):σ.env t= .bool b:=by
 by_cases f:t∈XM d;rcases QpX h t f with c | ⟨g,c | c⟩ <;> rw[c]at e <;> cases e;have:=UV (fun s:St=>s.env t) (QfP h);simp only[QP]at this;rw[Qe f]at this;rwa[<- this]
def NE:=@Array.getD_eq_getD_getElem?
def Dm {q s c d u} (h:S0 a q s c) (j:d≠some q) (i:d≠some s):S0 (a.put d u) q s c:=by
 obtain⟨b,f,g⟩:=h;rcases d with _ | d;exact⟨b,f,g⟩;refine⟨b,?_,?_⟩;simp only[Act.put,NE]at f ⊢;rwa[LF (fun e=>i (by rw[e]))];simp only[Act.put,NE]at g ⊢;rwa[LF (fun e=>j (by rw[e]))]
def Qku [Dr] {x o} (l:Inv num N w0 m0 T β0 σ a w m β ν) (e:EZ cops x o=true):
  (x.guard=none->Region.wanted o (yielded cops a.tmps)=true)/\(∀t b c,x.guard=some (t,b)->σ.env t= .bool c->Region.wanted o (yielded cops a.tmps)=decide (c=b))/\
   ∀t b,x.guard=some (t,b)->σ.env t= .tup []->Region.wanted o (yielded cops a.tmps)=false:=by
 unfold EZ at e;split at e;rename_i f k;refine⟨fun _=>by simp[Region.wanted,k],fun t b c h=>(by rw[f]at h;cases h),fun t b h=>(by rw[f]at h;cases h)⟩;rename_i t b j r f k;simp only[Qu,QM]at e;obtain⟨rfl,e⟩:=e;refine⟨(fun h=>by rw[f]at h;cases h),fun p q c h g=> ?_,fun p q h g=> ?_⟩;rw[f]at h;cases h;obtain⟨_,i⟩:=l.at_ (n:=t) (by rw[g];simp);have d:=l.slots t _ i;rw[g]at d;obtain⟨d,_⟩:=d;simp only[Qi]at d;simp only[Region.wanted,k,yielded,e,QN,i,d];cases c <;> cases b <;> rfl;rw[f]at h;cases h;obtain⟨_,i⟩:=l.at_ (n:=t) (by rw[g];simp);have d:=l.slots t _ i;rw[g]at d;obtain⟨d,_⟩:=d;simp only[Qi]at d;obtain⟨s,d,_⟩:=d;simp only[Region.wanted,k,yielded,e,QN,i,d];cases b <;> rfl;cases e
def Sv:=@Bool.not_eq_true'
def OL:=@decide_eq_false_iff_not
def Hy [Dr] {Γ} (hI:Inv num N w0 m0 T β0 σ a w m β ν) (hE:Ul P num) (hK:KOk P num Γ K) (hG:Γ.G w0) (hGb:Γ.Gb<=w0.heap.size) (hT: ∀b,T b->Γ.Gb<=b)
  {D i x} (B:Lb P num N prec cops xs=true) (hx:xs[i]? =some x) (hD: ¬D i) (hpre: ∀k,prec i k=true->D k) (hdown: ∀j k,D j->prec j k=true->D k)
  (hRS:RS (entries xs) D σ a) (E:YH K x σ=some σ2)
  (h: ∀a' w' m' S ν',Inv num N w0 m0 T β0 σ2 a' w' m' S ν'->RS (entries xs) (fun j=>D j\/j=i) σ2 a'->next a' w'):wpOp P cops Q i next a w:=by
 unfold Lb at B;simp only[Qu,QM]at B;obtain⟨⟨hlen,hst⟩,B⟩:=B;have G:=QeO B hx;simp only at G;split at G;rename_i o ho;unfold Qjf at G;simp only[Qu,QM]at G;obtain⟨⟨⟨Z,H⟩,hgd⟩,hop⟩:=G;have M: ∀l∈entries xs,(i=l.j\/x.dst≠some l.q)/\x.dst≠some l.s/\∀t b,l.g=some (t,b)->x.dst=some t->prec l.j i=true:=fun l n=>by unfold Qkk at hst;rw[Wc]at hst;have:=QeO (hst l n) hx;simp only[Qu,Wo,QM,Sv,OL]at this;refine⟨this.1.1,this.1.2,fun t b hg hd=> ?_⟩;have h2:=this.2;rw[hg]at h2;simp only[Wo,Sv,OL]at h2;exact h2.resolve_left (fun hn=>hn hd)
 obtain⟨hw1,hw2,hw3⟩:=Qku hI hgd;have run: (∀t b,x.guard=some (t,b)->σ.env t= .bool b)->Region.wanted o (yielded cops a.tmps)=true->((Qm K x.op σ).map fun p=>({p.2 with env:=Xj p.2.env x.dst p.1}:St))=some σ2->wpOp P cops Q i next a w:=by intro hgu g L;rcases he:Qm K x.op σ with _ | p;rw[he]at L;cases L;obtain⟨v,σ1⟩:=p;rw[he]at L;simp only[Zn,QW]at L;subst L;unfold wpOp;simp only[ho,g,QU];refine .inl (Qma hI hE hK hG hGb hT (pt:=Qmi (entries xs) prec i x.guard) (fun q s off hp=> ?_) hop he fun u w' m' S ν' k1 k2 k3=> ?_);unfold Qmi at hp;rw[UQ]at hp;obtain⟨l,n,hp⟩:=hp;simp only[Qu,Wo,QM]at hp;obtain⟨⟨⟨⟨p1,p2⟩,rfl⟩,rfl⟩,rfl⟩:=hp;refine hRS l n (hpre _ p1) ?_;rcases p2 with p2 | p2;rw[p2];exact trivial;rw[p2];rcases z:x.guard with _ | tb;exact trivial;obtain⟨t,b⟩:=tb;exact hgu t b z;rw[<- Z];(have f:RS (entries xs) (fun j=>D j\/j=i) {σ1 with env:=Xj σ1.env x.dst v} (a.put x.dst u):=by intro l n U r;obtain⟨st1,R,st3⟩:=M l n;by_cases C:l.j=i;obtain⟨y,y1,y2,y3,_⟩:=Hx n;rw[C,hx]at y1;cases y1;obtain⟨b,b1,Y⟩:=k3 _ _ y2;rw[y3];rw[y3]at H;(have hqN:l.q < N:=by simpa using H);refine⟨b,?_,?_⟩;simp only[Act.put,NE]at b1 ⊢;rwa[LF (fun e=>R (by rw[y3,e]))];simp only[Act.put,NE];rw[Qh6 (by rwa[hI.size]),Y];rfl;have A:=U.resolve_right C;refine Dm (hRS l n A ?_) (st1.resolve_left (fun e=>C e.symm)) R;rcases I:l.g with _ | tb;exact trivial;obtain⟨t,b⟩:=tb;rw[I]at r;simp only[gOK,KZ]at r ⊢;split at r;rename_i hd;exact absurd (hdown l.j i A (st3 t b I (by simpa using hd))) hD;exact QiK he r);rcases J:x.dst with _ | d;rw[J]at f h;exact h _ w' m' S ν' k1 f;rw[J]at f H h;exact h _ w' m' S _ (k1.put k2 d (by simpa using H)) f
 unfold YH at E;rcases z:x.guard with _ | tb;rw[z]at E;exact run (fun t b h=>by rw[z]at h;cases h) (hw1 z) E;obtain⟨t,b⟩:=tb;rw[z]at E;simp only at E;have W:σ.env t≠ .bool b->Region.wanted o (yielded cops a.tmps)=false->{σ with env:=Xj σ.env x.dst (.tup [])}=σ2->wpOp P cops Q i next a w:=by intro X g E;subst E;unfold wpOp;simp only[ho];rw[g,Qe (by simp),<- Z];(have f:RS (entries xs) (fun j=>D j\/j=i) {σ with env:=Xj σ.env x.dst (.tup [])} (a.put x.dst undef):=by intro l n U r;obtain⟨st1,R,st3⟩:=M l n;(have O: ∀t2 Y,l.g=some (t2,Y)->D l.j\/l.j=i->σ.env t2= .bool Y:=fun t2 Y I U=>by rw[I]at r;simp only[gOK,KZ]at r;split at r;cases r;exact r);by_cases C:l.j=i;exfalso;obtain⟨y,y1,y2,y3,y4⟩:=Hx n;rw[C,hx]at y1;cases y1;exact X (O t b (y4.symm.trans z) (.inr C));have A:=U.resolve_right C;refine Dm (hRS l n A ?_) (st1.resolve_left (fun e=>C e.symm)) R;rcases I:l.g with _ | tb2;exact trivial;obtain⟨t2,Y⟩:=tb2;exact O t2 Y I (.inl A));rcases J:x.dst with _ | d;rw[J]at f h;exact h _ w m β ν hI f;rw[J]at f H h;exact h _ w m β _ (hI.put (v:= .tup []) (u:=undef) ((Zm rfl).2 ⟨by simp only[Qi];exact⟨#[],rfl,rfl,by simp only[VT]⟩,trivial⟩) d (by simpa using H)) f
 split at E;rename_i c X;have g:=hw2 t b c z X;split at E;rename_i V;subst V;exact run (fun t2 Y h=>by rw[z]at h;cases h;exact X) (by rw[g];simp) E;rename_i V;injection E with E;exact W (by rw[X];intro e;injection e with e;exact V e) (by rw[g];simpa using V) E;rename_i X;injection E with E;exact W (by rw[X];intro e;cases e) (hw3 t b z X) E;cases E;cases G
def PN:=@List.drop_eq_nil_of_le
def LG:=@List.drop_eq_getElem_cons
def F7 [Dr] {p} (C:Ul P num) (y:KOk P num p K) (A:p.G w0) (l:p.Gb<=w0.heap.size) (B: ∀b,T b->p.Gb<=b) {h}
  (d:Lb P num N (fun i k=>decide (k < i)) cops xs=true) (z: ∀q w' s f e,Inv num N w0 m0 T β0 h q w' s f e->Q .normal q w'):
  ∀n k σ a w m β ν,k+n=xs.length->YO K (xs.drop k) σ=some h->Inv num N w0 m0 T β0 σ a w m β ν->RS (entries xs) (fun j=>j < k) σ a->
   wpOps P cops Q (List.range' k n) a w
 | 0,k,σ,a,w,m,β,ν,J,c,x,_=>by
  rw[PN (by omega)]at c;cases c;exact z a w m β ν x
 | n+1,k,σ,a,w,m,β,ν,J,c,x,r=>by
  have g:k < xs.length:=by omega
  rw[LG g]at c;simp only[YO]at c;rcases t:YH K xs[k] σ with _ | σ1;rw[t]at c;cases c;rw[t,QN]at c;rw[List.range'_succ,wpOps_cons];refine Hy x C y A l B d (Za g) (D:=fun j=>j < k) (by omega) (fun j o=>by simpa using o) (fun i j H o=>Nat.lt_trans (show j < i by simpa using o) H) r t fun q w' s f e L E=> ?_;exact F7 C y A l B d z n (k+1) σ1 q w' s f e (by omega) c L (fun G u o I=>E G u (by omega) I)
end
end Go.Am
namespace Go.Am
def Rc (cops:Array Oper) (i k:Nat):Bool:=match cops[i]? with
 | some o=>o.after.any fun e=>Region.binds .any e && decide (e.on=k)
 | none=>false
def F6 (cops:Array Oper):Nat->Nat->Nat->Bool
 | 0,_,_=>false
 | f+1,i,j=>Rc cops i j || (match cops[i]? with
  | some o=>o.after.any fun e=>Region.binds .any e && decide (j < e.on) && F6 cops f e.on j
  | none=>false)
def Ij (cops:Array Oper):Bool:=(List.range cops.size).all fun i=>match cops[i]? with
 | some o=>o.after.all fun e=> !Region.binds .any e || decide (e.on < i)
 | none=>true
def KQ (xs:So) (i:Nat):Q4:=xs.getD i ⟨none,.alloc [],none⟩
def Ey (cops:Array Oper) (xs:So):Bool:=(List.range xs.length).all fun i=>(List.range i).all fun j=>Iv (KQ xs j) (KQ xs i) || F6 cops xs.length i j
def CJ (P:Program) (num:WR) (N:Nat) (draw:Bool) (cops:Array Oper) (xs:So):Bool:=
 if draw then Lb P num N (Rc cops) cops xs && Ij cops && Ey cops xs else Lb P num N (fun i k=>decide (k < i)) cops xs
def JF:=@Array.any_eq_true'
def Qbu {c} {L:Nat->Prop} (b: ∀j k,L j->Rc c j k=true->L k): ∀f i j,(∀k,Rc c i k=true->L k)->F6 c f i j=true->L j
 | 0,_,_,_,h=>by simp[F6]at h
 | f+1,i,j,d,h=>by
  simp only[F6,Wo]at h;rcases h with h | h;exact d j h;split at h;rename_i o g;rw[JF]at h;obtain⟨e,l,h⟩:=h;simp only[Qu,QM]at h;exact Qbu b f e.on j (fun k n=>b _ k (d e.on (by unfold Rc;rw[g];simp only;rw[JF];exact⟨e,l,by simp[h.1.1]⟩)) n) h.2;cases h
def rem (n:Nat) (listed:Array Bool):VO:=(List.range n).filter fun i=> !listed.getD i true
def VP:=@List.mem_filter
def L4 {n i b}:i∈rem n b↔i < n/\b.getD i true=false:=by
 unfold rem;rw[VP,Ni];simp
def GN:=@List.Pairwise.filter
def D7 {n i b} (g:b.size=n) (h:i∈rem n b):rem n (b.setIfInBounds i true)=(rem n b).erase i:=by
 have d: (rem n b).Nodup:=GN _ List.nodup_range;rw[List.Nodup.erase_eq_filter d];unfold rem;rw[List.filter_filter];apply List.filter_congr;intro x f;rw[Ni]at f;by_cases c:x=i;subst c;simp[g,f];rw[getD_set_ne true (fun e=>c e.symm)];simp[c]
section
variable {P:Program} {num:Nat->Option Nat} {β:List Blk} {w w':World} {m:Nat->Nat} {ν:Own} {N:Nat} {w0:World} {m0:Nat->Nat} {T:Nat->Prop} {β0:List Blk} {σ σ1 σ2:St} {a:Act}
 {next:Act->World->Prop} {Q:Exit->Act->World->Prop} {K:Vi} {v:AV} {xs:List Q4} {cops:Array Oper}
def Qeg {i} (h:i < xs.length):xs[i]? =some (KQ xs i):=by
 unfold KQ;rw[Za h];simp[h]
def IK {b} (h:Lb P num N b cops xs=true):xs.length=cops.size:=by
 unfold Lb at h;simp only[Qu,QM]at h;exact h.1.1
def Qgm [Dr] {X} (hE:Ul P num) (hK:KOk P num X K) (hG:X.G w0) (hGb:X.Gb<=w0.heap.size) (hT: ∀b,T b->X.Gb<=b) {H}
  (x:Lb P num N (Rc cops) cops xs=true) (I:Ij cops=true) (C:Ey cops xs=true) (hQ: ∀Z w' m' E B,Inv num N w0 m0 T β0 H Z w' m' E B->Q .normal Z w'):
  ∀f c σ a w m β ν,c.size=xs.length->(rem xs.length c).length=f->
   YO K ((rem xs.length c).map (KQ xs)) σ=some H->(∀j k,c.getD j false=true->Rc cops j k=true->c.getD k false=true)->
   Inv num N w0 m0 T β0 σ a w m β ν->RS (entries xs) (fun j=>c.getD j false=true) σ a->wpAny P .any cops Q f c a w:=by
 intro f;have z:=IK x;have s: ∀i k,Rc cops i k=true->k < i:=fun i k h=>by unfold Rc at h;split at h;rename_i o ho;rw[JF]at h;obtain⟨e,S,h⟩:=h;simp only[Qu,QM]at h;have G:=(Mg.1 ho).1;unfold Ij at I;rw[Wc]at I;have:=I i (Ni.2 G);rw[ho]at this;simp only[Qh7,Wo,Sv,QM]at this;rcases this e S with p | p;rw[h.1]at p;cases p;omega;cases h
 have R: ∀(c:Array Bool) (j:Nat),c.size=xs.length->j < xs.length->c.getD j true=false\/c.getD j false=true:=fun c j p D=>by rw[NE,NE,Uw (by omega)];cases c[j] <;> simp
 induction f with | zero=>intro c σ a w m β ν M O Y _ hI _;have W:=Yf O;rw[W]at Y;cases Y;refine⟨?_,hQ a w m β ν hI⟩;rcases hrd:Region.ready .any cops c with _ | ⟨i,is⟩;rfl;exfalso;(have G:i∈Region.ready .any cops c:=by rw[hrd];simp);obtain⟨p,o,D,_⟩:=mem_ready.1 G;have:i∈rem xs.length c:=L4.2 ⟨by rw[z];exact(Mg.1 D).1,p⟩;rw[W]at this;cases this | succ f ih=>intro c σ a w m β ν M O Y g hI hRS;refine⟨fun W=> ?_,fun i G=> ?_⟩;exfalso;rcases n:rem xs.length c with _ | ⟨i,is⟩;rw[n]at O;simp at O;(have G:i∈rem xs.length c:=by rw[n];simp);obtain⟨p,D⟩:=L4.1 G;have d: (rem xs.length c).Pairwise (· < ·):=GN _ List.pairwise_lt_range;rw[n]at d;(have l:i∈Region.ready .any cops c:=by refine mem_ready.2 ⟨D,cops[i]'(by omega),Uw _,fun e S hb=> ?_⟩;(have hp:Rc cops i e.on=true:=by unfold Rc;rw[Uw (by omega)];simp only;rw[JF];exact⟨e,S,by simp[hb]⟩);have hlt:=s i e.on hp;rcases R c e.on M (by omega)with U | U;have:e.on∈rem xs.length c:=L4.2 ⟨by omega,U⟩;rw[n]at this;rcases Zl.1 this with h4 | h4;omega;have:=((Uy.1 d).1) _ h4;omega;exact U);rw[W]at l;cases l;obtain⟨p,o,D,U⟩:=mem_ready.1 G;(have u:i < xs.length:=by rw[z];exact(Mg.1 D).1);have t:=L4.2 ⟨u,p⟩;(have r: ∀k,Rc cops i k=true->c.getD k false=true:=fun k q=>by unfold Rc at q;rw[D]at q;simp only at q;rw[JF]at q;obtain⟨e,S,q⟩:=q;simp only[Qu,QM]at q;rw[<- q.2];exact U e S q.1);have d: (rem xs.length c).Pairwise (· < ·):=GN _ List.pairwise_lt_range;(have V: ∀j∈rem xs.length c,j < i->Iv (KQ xs j) (KQ xs i)=true:=fun j y hji=>by unfold Ey at C;rw[Wc]at C;have:=C i (Ni.2 u);rw[Wc]at this;have:=this j (Ni.2 hji);simp only[Wo]at this;rcases this with h | h;exact h;have hL:=Qbu (L:=fun j=>c.getD j false=true) g _ i j r h;obtain⟨k1,J⟩:=L4.1 y;rw[NE,Uw (by omega)]at hL J;simp only[PD]at hL J;rw[hL]at J;cases J);obtain⟨σ',g1,g2⟩:=IQ (KQ xs) i _ σ H d t V Y;(have hnD: ¬c.getD i false=true:=fun h=>by rw[NE,Uw (by omega)]at h p;simp only[PD]at h p;rw[h]at p;cases p);refine Hy hI hE hK hG hGb hT x (Qeg u) hnD r g hRS g1 fun Z w' m' E B k1 J=> ?_;(have A: ∀j,(c.setIfInBounds i true).getD j false=true->c.getD j false=true\/j=i:=fun j y=>by by_cases e:j=i;exact .inr e;rw[getD_set_ne false (fun h=>e h.symm)]at y;exact .inl y);(have hself: (c.setIfInBounds i true).getD i false=true:=by simp[M,u]);refine ih (c.setIfInBounds i true) σ' Z w' m' E B (by simpa using M) ?_ ?_ (fun j k y q=> ?_) k1 (fun en hen y hg=>J en hen (A _ y) hg);rw[D7 M t,List.length_erase_of_mem t,O];rfl;rwa[D7 M t];rcases A j y with h | h;exact getD_set_true (g j k h q);rw[h]at q;exact getD_set_true (r k q)
def Ql2 [Dr]: (List.range xs.length).map (KQ xs)=xs:=by
 apply Ss;intro i;rw[Nc];by_cases b:i < xs.length;rw[List.getElem?_range b,Qeg b];rfl;rw[ZP (by simp;omega),ZP (by omega)];rfl
def Ah:=@List.filter_eq_self
def Qbv [Dr] {o} (n:P.follows .mixedOrders=true) (E:Ul P num) (z:KOk P num o K) (s:o.G w0) (l:o.Gb<=w0.heap.size) (y: ∀b,T b->o.Gb<=b) {i H q}
  (e:CJ P num N q cops xs=true) (B:Inv num N w0 m0 T β0 σ a w m β ν) (J:YO K xs σ=some i) (D: ∀u w' L r p,Inv num N w0 m0 T β0 i u w' L r p->Q .normal u w'):
  (Code.region H cops q).wp P Q a w:=by
 cases q;simp only[CJ,Xa,ZM]at e;refine wp_region ?_;rw[List.range_eq_range',<- IK e];exact F7 E z s l y e D xs.length 0 σ a w m β ν (by omega) (by simpa using J) B (fun C _ g _=>absurd g (by omega));simp only[CJ,QU,Qu]at e;obtain⟨⟨A,I⟩,M⟩:=e;refine wp_region_any n ?_;have c:=IK A;have d:rem xs.length (Array.replicate cops.size false)=List.range xs.length:=by unfold rem;rw[Ah];intro x t;rw[Ni]at t;simp[<- c,t]
 have G: ∀j,(Array.replicate cops.size false).getD j false=false:=fun j=>by rw[NE];by_cases h:j < cops.size <;> simp[h]
 rw[<- c];have f: ∀j,(Array.replicate xs.length false).getD j false=false:=by rwa[c]
 rw[<- c]at d;exact Qgm E z s l y A I M D xs.length _ σ a w.drew m β ν (by simp) (by rw[d];simp) (by rwa[d,Ql2]) (fun j k g _=>by rw[f]at g;cases g) B.drew (fun C _ g _=>by simp only[(f C.j)]at g;cases g)
def Wb (P:Program) (num:WR) (N:Nat):AC->Code->Bool
 | .bad,_=>true
 | .skip,.skip=>true
 | .reg dr xs,.region _ ops dr2=>decide (dr=dr2) && CJ P num N dr ops xs
 | .seq a b,.seq c d=>Wb P num N a c && Wb P num N b d
 | .cond c a b,.cond c2 a2 b2=>okO num c c2 && Wb P num N a a2 && Wb P num N b b2
 | .block id c,.block id2 c2=>decide (id=id2) && Wb P num N c c2
 | .loop c,.loop c2=>Wb P num N c c2
 | .exit id,.exit id2=>decide (id=id2)
 | .ret,.ret=>true
 | _,_=>false
def Ex.toExit:Ex->Exit
 | .normal=> .normal
 | .exit i=> .exit i
 | .ret=> .ret
def UZ [Dr] {J} (H:P.follows .mixedOrders=true) (S:Ul P num) (X:KOk P num J K) (V:J.G w0) (M:J.Gb<=w0.heap.size) (Z: ∀b,T b->J.Gb<=b) {n}:
  ∀c z,Wb P num N c z=true->∀σ a w m β ν r f Q,
   Z3 K n c σ=some (r,f)->Inv num N w0 m0 T β0 σ a w m β ν->(∀A w' B l p,Inv num N w0 m0 T β0 f A w' B l p->Q r.toExit A w')->z.wp P Q a w:=by
 intro c;induction c with | bad=>intro z d σ a w m β ν r f Q j;simp[Z3]at j | skip=>intro z d σ a w m β ν r f Q j q u;cases z <;> simp[Wb]at d;simp only[Z3,QW,Zk]at j;obtain⟨rfl,rfl⟩:=j;exact wp_skip (u a w m β ν q) | reg dr xs=>intro z d σ a w m β ν r f Q j q u;(cases z <;> simp only[Wb,Qu,QM]at d <;> try cases d;done);obtain⟨rfl,d⟩:=d;simp only[Z3]at j;rcases D:YO K xs σ with _ | s;rw[D]at j;cases j;rw[D]at j;simp only[Zn,QW,Zk]at j;obtain⟨rfl,rfl⟩:=j;exact Qbv H S X V M Z d q D u | seq x y t E=>intro z d σ a w m β ν r f Q j q u;(cases z <;> simp only[Wb,Qu]at d <;> try cases d;done);refine wp_seq ?_;simp only[Z3]at j;split at j;rename_i s D;refine t _ d.1 σ a w m β ν .normal s _ D q fun A w' B l p k=> ?_;exact E _ d.2 s A w' B l p r f Q j k u;rename_i C;refine t _ d.1 σ a w m β ν r f _ j q fun A w' B l p k=> ?_;cases r;exact absurd j (C f);exact u A w' B l p k;exact u A w' B l p k | cond c x y t E=>intro z d σ a w m β ν r f Q j q u;(cases z <;> simp only[Wb,Qu]at d <;> try cases d;done);obtain⟨⟨R,D⟩,h2⟩:=d;simp only[Z3]at j;split at j;rename_i G;have g:=(q.val R (by rw[G];rfl)).1;rw[G]at g;simp only[Qi]at g;exact wp_cond_true g (t _ D σ a w m β ν r f Q j q u);rename_i G;have g:=(q.val R (by rw[G];rfl)).1;rw[G]at g;simp only[Qi]at g;exact wp_cond_false g (E _ h2 σ a w m β ν r f Q j q u);cases j | block U x t=>intro z d σ a w m β ν r f Q j q u;(cases z <;> simp only[Wb,Qu,QM]at d <;> try cases d;done);obtain⟨rfl,d⟩:=d;refine wp_block ?_;simp only[Z3]at j;split at j;rename_i i s D;simp only[QW,Zk]at j;obtain⟨rfl,rfl⟩:=j;refine t _ d σ a w m β ν (.exit i) s _ D q fun A w' B l p k=> ?_;have I:=u A w' B l p k;simp only[Ex.toExit,Exit.inBlock];split;rename_i e;rwa[Qg e]at I;rename_i e;rwa[Qe e]at I;rename_i C;refine t _ d σ a w m β ν r f _ j q fun A w' B l p k=> ?_;have I:=u A w' B l p k;cases r;exact I;exact absurd j (C _ _);exact I | loop x t=>intro z d σ a w m β ν r f Q j q u;(cases z <;> simp only[Wb]at d <;> try cases d;done);rename_i W;simp only[Z3]at j;refine wp_loop_rounds n ?_;(have O: ∀(k:Nat) (σ:St) (a:Act) (w:World) (m:XI) (β:UU) (ν:Own),Rk (Z3 K n x) k σ=some (r,f)->Inv num N w0 m0 T β0 σ a w m β ν->Code.rounds P W Q k a w:=by intro k;induction k with | zero=>intro σ a w m β ν h;simp[Rk]at h | succ k Y=>intro σ a w m β ν h q;rw[rounds_succ];simp only[Rk]at h;split at h;rename_i s D;refine t _ d σ a w m β ν .normal s _ D q fun A w' B l p L=> ?_;exact Y s A w' B l p h L;rename_i C;refine t _ d σ a w m β ν r f _ h q fun A w' B l p L=> ?_;cases r;exact absurd h (C f);exact u A w' B l p L;exact u A w' B l p L);exact O n σ a w m β ν j q | exit U=>intro z d σ a w m β ν r f Q j q u;(cases z <;> simp only[Wb,QM]at d <;> try cases d;done);subst d;simp only[Z3,QW,Zk]at j;obtain⟨rfl,rfl⟩:=j;exact wp_exit (u a w m β ν q) | ret=>intro z d σ a w m β ν r f Q j q u;cases z <;> simp[Wb]at d;simp only[Z3,QW,Zk]at j;obtain⟨rfl,rfl⟩:=j;exact wp_ret (u a w m β ν q)
end
end Go.Am
