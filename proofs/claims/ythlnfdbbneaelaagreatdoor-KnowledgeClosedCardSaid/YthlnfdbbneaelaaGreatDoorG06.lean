/-
  Am13, Am14, Am15, Am16.
-/
import Derived.Test.YthlnfdbbneaelaaGreatDoorG05
import Derived.LoopN
set_option linter.all false
namespace Go.Am
abbrev XZ:=List Nat
def rdO:AO->XZ
 | .t n=>[n]
 | .c _=>[]
def Oq (xs:List AO):XZ:=xs.flatMap rdO
def ND:Option AO->XZ
 | some x=>rdO x
 | none=>[]
def Zw:AOp->XZ
 | .mov x=>rdO x
 | .mvs n=>[n]
 | .box x=>rdO x
 | .alloc _=>[]
 | .gbox x=>rdO x
 | .galloc _=>[]
 | .fad s _=>[s]
 | .fadr p _=>[p]
 | .ldf s _ _ _=>[s]
 | .ldfm s _=>[s]
 | .ld p _ _=>[p]
 | .ldg p _ _=>[p]
 | .ldm p=>[p]
 | .stf s _ _ x=>s:: rdO x
 | .stn s _ _ x _=>s:: rdO x
 | .stfm s _ n=>[s,n]
 | .st p _ x=>p:: rdO x
 | .stm p n=>[p,n]
 | .bin _ x y=>rdO x ++ rdO y
 | .eqb _ x y=>rdO x ++ rdO y
 | .isn _ x=>rdO x
 | .un _ x=>rdO x
 | .conv _ x=>rdO x
 | .call _ args=>Oq args
 | .callq _ args=>Oq args
 | .callv g args=>rdO g ++ Oq args
 | .lens x=>rdO x
 | .lenl x=>rdO x
 | .app _ _ s x=>rdO s ++ rdO x
 | .appg _ _ s x=>rdO s ++ rdO x
 | .frz n _=>[n]
 | .zlit=>[]
 | .nilp=>[]
 | .appzz s x=>rdO s ++ rdO x
 | .clr _ x=>rdO x
 | .mx x y=>rdO x ++ rdO y
 | .mn x y=>rdO x ++ rdO y
 | .mksl _ parts=>Oq parts
 | .mksg _ parts=>Oq parts
 | .mkst _ parts=>Oq (parts.map fun p=>p.2.2)
 | .idxa _ x i=>rdO x ++ rdO i
 | .idx x i=>rdO x ++ rdO i
 | .slcs x lo hi=>rdO x ++ (ND lo ++ ND hi)
 | .slcl _ x lo hi=>rdO x ++ (ND lo ++ ND hi)
 | .pick c a b=>rdO c ++ (rdO a ++ rdO b)
 | .ext x _=>rdO x
 | .mkfn _ caps=>Oq caps
 | .nilck x=>rdO x
 | .mkm=>[]
 | .ldfz s _ _ _ _=>[s]
 | .mkg _ _ _ x=>rdO x
 | .mkp _ _ _ x=>rdO x
 | .extm n=>[n]
 | .mkstP n _ parts=>n:: Oq (parts.map fun p=>p.2.2)
 | .bstr x=>rdO x
 | .fld _ _ _ x=>rdO x
 | .appM _ _ s x=>rdO s ++ rdO x
 | .stq p _ x q=>p:: q:: rdO x
 | .stp p _ x q=>p:: q:: rdO x
 | .slcx _ x lo hi=>rdO x ++ (ND lo ++ ND hi)
 | .slcc _ x lo hi mx=>rdO x ++ (ND lo ++ (rdO hi ++ rdO mx))
 | .lkm _ _ x i _=>rdO x ++ rdO i
 | .upm _ x k y=>rdO x ++ (rdO k ++ rdO y)
 | .mpe _ x k _=>rdO x ++ rdO k
 | .ensf x st n _=>n:: (rdO x ++ rdO st)
def XL:AOp->XZ
 | .mvs n=>[n]
 | .ldfm s _=>[s]
 | .stf s _ _ _=>[s]
 | .stn s _ _ _ _=>[s]
 | .stfm s _ n=>[s,n]
 | .stm _ n=>[n]
 | .app _ _ s _=>rdO s
 | .appg _ _ s _=>rdO s
 | .frz n _=>[n]
 | .ldfz s _ _ _ _=>[s]
 | .extm n=>[n]
 | .ensf _ _ n _=>[n]
 | .mkstP n _ _=>[n]
 | _=>[]
def ZV:AOp->Nat
 | .gbox _=>2
 | .galloc _=>2
 | .ldg _ _ _=>1
 | .ldm _=>2
 | .st _ _ _=>2
 | .stm _ _=>2
 | .call _ _=>2
 | .callq _ _=>1
 | .callv _ _=>2
 | .appg _ _ _ _=>2
 | .frz _ _=>2
 | .clr _ _=>2
 | .mkm=>2
 | .ldfz _ _ _ _ _=>2
 | .mkg _ _ _ _=>2
 | .mkstP _ _ _=>2
 | .mksg _ _=>2
 | .lkm _ _ _ _ _=>1
 | .appM _ _ _ _=>2
 | .slcx _ _ _ _=>1
 | .stq _ _ _ _=>2
 | .stp _ _ _ _=>2
 | .upm _ _ _ _=>2
 | .mpe _ _ _ _=>2
 | .ensf _ _ _ _=>2
 | _=>0
def QQ (op:AOp) (τ s:St):St:={env:=fun j=>if j∈XL op then s.env j else τ.env j,bs:=if ZV op=2 then s.bs else τ.bs}
def Zs {a b s} (h:XL a=[]) (c:ZV a≠2):QQ a b s=b:=by
 unfold QQ;simp_all
def QK {ρ a x} (h: ∀j∈rdO x,a j=ρ j):val a x=val ρ x:=by
 cases x with | t n=>simp only[val];rw[h n (by simp[rdO])] | c v=>rfl
def BG:=@List.flatMap_cons
def Ze:=@List.mem_append
def TE [Dr] {c a}: ∀{b},(∀j∈Oq b,a j=c j)->b.map (val a)=b.map (val c)
 | [],_=>rfl
 | x:: b,h=>by
  simp only[ZI];rw[QK (fun j d=>h j (by simp[Oq];grind)),TE (fun j d=>h j (by simp only[Oq,BG,Ze];exact .inr d))]
def Sk [Dr] {b a x} (h: ∀j∈ND x,a j=b j):x.map (val a)=x.map (val b):=by
 rcases x with _ | x;rfl;simp only[Zy];rw[QK (by simpa[ND]using h)]
def XB {s t:St} (a: ∀j,s.env j=t.env j) (b:s.bs=t.bs):s=t:=by
 cases s;cases t;simp only[St.mk.injEq];grind
def Df {b a n c} (d:a.env n=b.env n) (e:a.bs=b.bs):Z8 a n c=(Z8 b n c).map fun p=>(p.1,{env:=upd a.env n .undef,bs:=p.2.bs}):=by
 unfold Z8;rw[d,e];split;split;split;simp;grind;simp;rfl
def IG {a n b p} (h:Z8 a n b=some p):p.2.env=upd a.env n .undef:=by
 unfold Z8 at h;grind
def QbZ {σ τ x a v} (h:τ.bs=σ.bs):OC τ x a v=(OC σ x a v).map fun p=>(p.1,{env:=τ.env,bs:=p.2.bs}):=by
 unfold OC;split;rw[h];rename_i b n;rcases σ.bs[b]? with _ | c;rfl;simp only[QO];split;rfl;grind;rfl
def E8 {a x b v p} (h:OC a x b v=some p):p.2.env=a.env:=by
 unfold OC at h;grind
def XI:=@true_and
def XH:=@List.mem_singleton
def Zf:=@List.mem_cons
def BH:=@List.not_mem_nil
def S8:=@or_false
def GJ:=@Option.map_map
def S6:=@List.map_congr_left
def Yg:=@List.mem_map
set_option maxHeartbeats 1000000 in
def G9 [Dr] {K op σ τ} (hr: ∀j∈Zw op,τ.env j=σ.env j) (hb:ZV op≠0->τ.bs=σ.bs):
  Qk K op τ=(Qk K op σ).map fun p=>(p.1,QQ op τ p.2):=by
 cases op;case mov x=>have hm: ∀s':St,QQ (.mov x) τ s'=τ:=fun _=>Zs rfl (show(0:Nat)≠2 by omega);simp only[Qk];rw[QK hr];grind
 case mvs n=>have h0:=hr n (by simp[Zw]);simp only[Qk,h0];split;simp only[Zy,QV,Zm,XI];exact XB (fun j=>by simp only[QQ,XL,upd,XH];grind) (by simp[QQ,ZV]);rfl
 case box x=>have hm: ∀s':St,QQ (.box x) τ s'=τ:=fun _=>Zs rfl (show(0:Nat)≠2 by omega);simp only[Qk];rw[QK hr];simp[hm,Vg]
 case alloc zs=>have hm: ∀s':St,QQ (.alloc zs) τ s'=τ:=fun _=>Zs rfl (show(0:Nat)≠2 by omega);simp[Qk,hm]
 case gbox x=>have h0:=hb (by simp[ZV]);simp only[Qk,h0];rw[QK hr];rcases cellsOf (val σ.env x)with _ | cs;rfl;simp only[Zy,QV,Zm,XI];exact XB (fun j=>by simp[QQ,XL]) (by simp[QQ,ZV])
 case galloc zs=>have h0:=hb (by simp[ZV]);simp only[Qk,h0,Zy,QV,Zm,XI];exact XB (fun j=>by simp[QQ,XL]) (by simp[QQ,ZV])
 case fad s off=>have hm: ∀s':St,QQ (.fad s off) τ s'=τ:=fun _=>Zs rfl (show(0:Nat)≠2 by omega);have h0:=hr s (by simp[Zw]);simp only[Qk,h0];grind
 case fadr p off=>have hm: ∀s':St,QQ (.fadr p off) τ s'=τ:=fun _=>Zs rfl (show(0:Nat)≠2 by omega);have h0:=hr p (by simp[Zw]);simp only[Qk,h0];grind
 case ldf s off sz ag=>have hm: ∀s':St,QQ (.ldf s off sz ag) τ s'=τ:=fun _=>Zs rfl (show(0:Nat)≠2 by omega);have h0:=hr s (by simp[Zw]);simp only[Qk,h0];split <;> simp[hm,Vg]
 case ldfm s off=>have h0:=hr s (by simp[Zw]);simp only[Qk,h0];split;rename_i cs hcs;rcases cs[off]? with _ | c;rfl;simp only[QO];split;simp only[Zy,QV,Zm,XI];exact XB (fun j=>by simp only[QQ,XL,upd,XH];grind) (by simp[QQ,ZV]);rfl;rfl
 case ld p sz ag=>have hm: ∀s':St,QQ (.ld p sz ag) τ s'=τ:=fun _=>Zs rfl (show(0:Nat)≠2 by omega);have h0:=hr p (by simp[Zw]);simp only[Qk,h0];split <;> simp[hm,Vg]
 case ldg p sz ag=>have hm: ∀s':St,QQ (.ldg p sz ag) τ s'=τ:=fun _=>Zs rfl (show(1:Nat)≠2 by omega);have h0:=hr p (by simp[Zw]);have h1:=hb (by simp[ZV]);simp only[Qk,h0,h1];split;rename_i i of hcs;rcases σ.bs[i]? with _ | cs;rfl;simp[hm,Vg];rfl
 case ldm p=>have h0:=hr p (by simp[Zw]);have h1:=hb (by simp[ZV]);simp only[Qk,h0,h1];split;rename_i i of hcs;rcases σ.bs[i]? with _ | cs;rfl;simp only[QO];rcases cs[of]? with _ | c;rfl;simp only[QO];split;simp only[Zy,QV,Zm,XI];exact XB (fun j=>by simp[QQ,XL]) (by simp[QQ,ZV]);rfl;rfl
 case stf s off sz x=>have h0:=hr s (by simp[Zw]);simp only[Qk,h0];rw[QK (fun j hj=>hr j (by simp[Zw,hj]))];split;rename_i cs hcs;rcases cellsOf (val σ.env x)with _ | vs;rfl;simp only[QO];split;simp only[Zy,QV,Zm,XI];exact XB (fun j=>by simp only[QQ,XL,upd,XH];grind) (by simp[QQ,ZV]);rfl;rfl
 case stn s off sz x zs=>have h0:=hr s (by simp[Zw]);simp only[Qk,h0];rw[QK (fun j hj=>hr j (by simp[Zw,hj]))];split;rename_i cs hcs;rcases cellsOf (val σ.env x)with _ | vs;rfl;simp only[QO];split;simp only[Zy,QV,Zm,XI];exact XB (fun j=>by simp only[QQ,XL,upd,XH];grind) (by simp[QQ,ZV]);rfl;rfl
 case stfm s off n=>have h0:=hr s (by simp[Zw]);have h1:=hr n (by simp[Zw]);simp only[Qk,h0,h1];split;rename_i cs hcs;split;simp only[Zy,QV,Zm,XI];refine XB (fun j=> ?_) (by simp[QQ,ZV]);simp only[QQ,XL,upd,Zf,BH,S8];grind;rfl;rfl
 case st p sz x=>have h0:=hr p (by simp[Zw]);have h1:=hb (by simp[ZV]);simp only[Qk,h0,h1];rw[QK (fun j hj=>hr j (by simp[Zw,hj]))];split;rename_i i of hcs;rcases σ.bs[i]? with _ | cs;rfl;simp only[QO];rcases cellsOf (val σ.env x)with _ | vs;rfl;simp only[QO];split;simp only[Zy,QV,Zm,XI];exact XB (fun j=>by simp[QQ,XL]) (by simp[QQ,ZV]);rfl;rfl
 case stm p n=>have h0:=hr p (by simp[Zw]);have h1:=hb (by simp[ZV]);have h2:=hr n (by simp[Zw]);simp only[Qk,h0,h1,h2];split;rename_i i of hcs;rcases σ.bs[i]? with _ | cs;rfl;simp only[QO];split;simp only[Zy,QV,Zm,XI];exact XB (fun j=>by simp only[QQ,XL,upd,XH];grind) (by simp[QQ,ZV]);rfl;rfl
 case bin op x y=>have hm: ∀s':St,QQ (.bin op x y) τ s'=τ:=fun _=>Zs rfl (show(0:Nat)≠2 by omega);simp only[Qk];rw[QK (fun j hj=>hr j (by simp[Zw,hj])),QK (x:=y) (fun j hj=>hr j (by simp[Zw,hj]))];simp[hm,Vg]
 case eqb ne x y=>have hm: ∀s':St,QQ (.eqb ne x y) τ s'=τ:=fun _=>Zs rfl (show(0:Nat)≠2 by omega);simp only[Qk];rw[QK (fun j hj=>hr j (by simp[Zw,hj])),QK (x:=y) (fun j hj=>hr j (by simp[Zw,hj]))];grind
 case isn ne x=>have hm: ∀s':St,QQ (.isn ne x) τ s'=τ:=fun _=>Zs rfl (show(0:Nat)≠2 by omega);simp only[Qk];rw[QK hr];grind
 case un op x=>have hm: ∀s':St,QQ (.un op x) τ s'=τ:=fun _=>Zs rfl (show(0:Nat)≠2 by omega);simp only[Qk];rw[QK hr];simp[hm,Vg]
 case conv k x=>have hm: ∀s':St,QQ (.conv k x) τ s'=τ:=fun _=>Zs rfl (show(0:Nat)≠2 by omega);simp only[Qk];rw[QK hr];grind
 case call f args=>have h0:=hb (by simp[ZV]);simp only[Qk,h0];rw[TE hr];split;simp only[GJ,Vg];congr 1;rfl
 case callq f args=>have h0:=hb (by simp[ZV]);have hm: ∀s':St,QQ (.callq f args) τ s'=τ:=fun _=>Zs rfl (show(1:Nat)≠2 by omega);simp only[Qk,h0];rw[TE hr];split;rcases K f (args.map (val σ.env)) σ.bs with _ | p;rfl;grind;rfl
 case callv g args=>have h0:=hb (by simp[ZV]);simp only[Qk,h0];rw[TE (fun j hj=>hr j (by simp[Zw,hj])),QK (fun j hj=>hr j (by simp[Zw,hj]))];split;split;simp only[GJ,Vg];congr 1;rfl;rfl
 case lens x=>have hm: ∀s':St,QQ (.lens x) τ s'=τ:=fun _=>Zs rfl (show(0:Nat)≠2 by omega);simp only[Qk];rw[QK hr];grind
 case lenl x=>have hm: ∀s':St,QQ (.lenl x) τ s'=τ:=fun _=>Zs rfl (show(0:Nat)≠2 by omega);simp only[Qk];rw[QK hr];grind
 case app bytes sz s x=>simp only[Qk];rw[QK (x:=x) (fun j hj=>hr j (by simp[Zw,hj]))];cases s with | t n=>have h0:=hr n (by simp[Zw,rdO]);simp only[h0];split;rename_i sz1 xs ρ o2 sz2 ys e1 e2;simp only[Zm]at e1;obtain⟨e1,rfl⟩:=e1;simp only[e1,e2];split;simp only[Zy,QV,Zm,XI];exact XB (fun j=>by simp only[QQ,XL,rdO,upd,XH];grind) (by simp[QQ,ZV]);rfl;grind | c vc=>have hm: ∀s':St,QQ (.app bytes sz (.c vc) x) τ s'=τ:=fun _=>Zs rfl (show(0:Nat)≠2 by omega);simp only[hm];split;rename_i sz1 xs ρ o2 sz2 ys e1 e2;simp only[Zm]at e1;obtain⟨rfl,rfl⟩:=e1;simp_all;grind
 case frz n sz=>have h0:=hr n (by simp[Zw]);have h1:=hb (by simp[ZV]);simp only[Qk,Df h0 h1];rcases hf:Z8 σ n sz with _ | p;rfl;simp only[Zy,QV,Zm,XI];exact XB (fun j=>by simp only[QQ,XL,IG hf,upd,XH];grind) (by simp[QQ,ZV])
 case clr sz x=>have h1:=hb (by simp[ZV]);simp only[Qk,h1];rw[QK hr];split;split;split;simp only[Zy,QV,Zm,XI];exact XB (fun j=>by simp[QQ,XL]) (by simp[QQ,ZV,h1]);rename_i id _ _ _ _ _ _;rcases σ.bs[id]? with _ | cs;rfl;simp only[QO];split;simp only[Zy,QV,Zm,XI];exact XB (fun j=>by simp[QQ,XL]) (by simp[QQ,ZV]);rfl;rfl;rfl
 case appg bytes sz s x=>simp only[Qk,(hb (by simp[ZV]))];rw[QK (x:=x) (fun j hj=>hr j (by simp[Zw,hj]))];cases s with | t n=>have h0:=hr n (by simp[Zw,rdO]);simp only[h0];(cases hn:σ.env n <;> (try simp only[]) <;> try rfl);rename_i ow sz1 xs;(cases ow <;> try rfl);(cases xs <;> try rfl);(cases hx:val σ.env x <;> (try simp only[]) <;> try rfl);split;split;rfl;simp only[Zy,QV,Zm,XI];exact XB (fun j=>by simp only[QQ,XL,rdO,upd,XH];grind) (by simp[QQ,ZV]);rfl | c vc=>(cases vc <;> (try simp only[]) <;> try rfl);rename_i ow sz1 xs;(cases ow <;> try rfl);(cases xs <;> try rfl);(cases hx:val σ.env x <;> (try simp only[]) <;> try rfl);split;split;rfl;simp only[Zy,QV,Zm,XI];exact XB (fun j=>by simp[QQ,XL,rdO]) (by simp[QQ,ZV]);rfl
 case zlit=>have hm: ∀s':St,QQ .zlit τ s'=τ:=fun _=>Zs rfl (show(0:Nat)≠2 by omega);simp[Qk,hm]
 case nilp=>have hm: ∀s':St,QQ .nilp τ s'=τ:=fun _=>Zs rfl (show(0:Nat)≠2 by omega);simp[Qk,hm]
 case appzz s x=>have hm: ∀s':St,QQ (.appzz s x) τ s'=τ:=fun _=>Zs rfl (show(0:Nat)≠2 by omega);simp only[Qk];rw[QK (fun j hj=>hr j (by simp[Zw,hj])),QK (x:=x) (fun j hj=>hr j (by simp[Zw,hj]))];grind
 case mx x y=>have hm: ∀s':St,QQ (.mx x y) τ s'=τ:=fun _=>Zs rfl (show(0:Nat)≠2 by omega);simp only[Qk];rw[QK (fun j hj=>hr j (by simp[Zw,hj])),QK (x:=y) (fun j hj=>hr j (by simp[Zw,hj]))];split;grind;rfl
 case mn x y=>have hm: ∀s':St,QQ (.mn x y) τ s'=τ:=fun _=>Zs rfl (show(0:Nat)≠2 by omega);simp only[Qk];rw[QK (fun j hj=>hr j (by simp[Zw,hj])),QK (x:=y) (fun j hj=>hr j (by simp[Zw,hj]))];split;grind;rfl
 case mksl sz parts=>have hm: ∀s':St,QQ (.mksl sz parts) τ s'=τ:=fun _=>Zs rfl (show(0:Nat)≠2 by omega);simp only[Qk];rw[TE hr];simp[hm,Vg]
 case mksg sz parts=>have h0:=hb (by simp[ZV]);simp only[Qk,h0];rw[TE hr];rcases Wl sz (parts.map (val σ.env))with _ | xs;rfl;simp only[Zy,QV,Zm,XI];exact XB (fun j=>by simp[QQ,XL]) (by simp[QQ,ZV])
 case mkst zs parts=>have hm: ∀s':St,QQ (.mkst zs parts) τ s'=τ:=fun _=>Zs rfl (show(0:Nat)≠2 by omega);simp only[Qk];(have:parts.map (fun p=>(p.1,p.2.1,val τ.env p.2.2))=parts.map (fun p=>(p.1,p.2.1,val σ.env p.2.2)):=by apply S6;intro p hp;rw[QK (fun j hj=>hr j (by simp only[Zw,Oq,List.mem_flatMap,Yg];grind))]);rw[this];simp[hm,Vg]
 case idxa sz x i=>have hm: ∀s':St,QQ (.idxa sz x i) τ s'=τ:=fun _=>Zs rfl (show(0:Nat)≠2 by omega);simp only[Qk];rw[QK (fun j hj=>hr j (by simp[Zw,hj])),QK (x:=i) (fun j hj=>hr j (by simp[Zw,hj]))];split;grind;grind;rfl
 case idx x i=>have hm: ∀s':St,QQ (.idx x i) τ s'=τ:=fun _=>Zs rfl (show(0:Nat)≠2 by omega);simp only[Qk];rw[QK (fun j hj=>hr j (by simp[Zw,hj])),QK (x:=i) (fun j hj=>hr j (by simp[Zw,hj]))];split;split <;> simp[hm,Vg];rfl
 case slcs x lo hi=>have hm: ∀s':St,QQ (.slcs x lo hi) τ s'=τ:=fun _=>Zs rfl (show(0:Nat)≠2 by omega);simp only[Qk];rw[QK (fun j hj=>hr j (by simp[Zw,hj])),Sk (x:=lo) (fun j hj=>hr j (by simp[Zw,hj])),Sk (x:=hi) (fun j hj=>hr j (by simp[Zw,hj]))];split;rcases Yh _ _ (hi.map (val σ.env))with _ | H;rfl;simp[hm,Vg];rfl
 case slcl sz x lo hi=>have hm: ∀s':St,QQ (.slcl sz x lo hi) τ s'=τ:=fun _=>Zs rfl (show(0:Nat)≠2 by omega);simp only[Qk];rw[QK (fun j hj=>hr j (by simp[Zw,hj])),Sk (x:=lo) (fun j hj=>hr j (by simp[Zw,hj])),Sk (x:=hi) (fun j hj=>hr j (by simp[Zw,hj]))];split;split;rcases Yh _ _ (hi.map (val σ.env))with _ | H;rfl;simp[hm,Vg];rfl;split;rcases Yh _ _ (hi.map (val σ.env))with _ | H;rfl;simp[hm,Vg];split;rcases Yh _ _ (hi.map (val σ.env))with _ | H;rfl;simp[hm,Vg];rfl;rfl
 case pick c x y=>have hm: ∀s':St,QQ (.pick c x y) τ s'=τ:=fun _=>Zs rfl (show(0:Nat)≠2 by omega);simp only[Qk];rw[QK (fun j hj=>hr j (by simp[Zw,hj])),QK (x:=x) (fun j hj=>hr j (by simp[Zw,hj])),QK (x:=y) (fun j hj=>hr j (by simp[Zw,hj]))];split;grind;grind;rfl
 case ext x i=>have hm: ∀s':St,QQ (.ext x i) τ s'=τ:=fun _=>Zs rfl (show(0:Nat)≠2 by omega);simp only[Qk];rw[QK hr];grind
 case mkfn f caps=>have hm: ∀s':St,QQ (.mkfn f caps) τ s'=τ:=fun _=>Zs rfl (show(0:Nat)≠2 by omega);simp only[Qk];rw[TE hr];grind
 case nilck x=>have hm: ∀s':St,QQ (.nilck x) τ s'=τ:=fun _=>Zs rfl (show(0:Nat)≠2 by omega);simp only[Qk];rw[QK hr];grind
 case fld off sz ag x=>have hm: ∀s':St,QQ (.fld off sz ag x) τ s'=τ:=fun _=>Zs rfl (show(0:Nat)≠2 by omega);simp only[Qk];rw[QK hr];split <;> simp[hm,Vg]
 case mkg bytes sz zs x=>have h0:=hb (by simp[ZV]);simp only[Qk,h0];rw[QK hr];split;split;simp only[Zy,QV,Zm,XI];exact XB (fun j=>by simp[QQ,XL]) (by simp[QQ,ZV]);rfl;rfl
 case bstr x=>have hm: ∀s':St,QQ (.bstr x) τ s'=τ:=fun _=>Zs rfl (show(0:Nat)≠2 by omega);simp only[Qk];rw[QK hr];split;rename_i o xs _;cases KS xs <;> simp[hm];rfl
 case ldfz s off sz fo fz=>have h0:=hr s (by simp[Zw]);have h1:=hb (by simp[ZV]);simp only[Qk,h0,h1];split;rename_i cs hcs;split;rename_i id o sz1 k hfo;split;rcases σ.bs[id]? with _ | c2;rfl;simp only[QO];split;rcases XF (cs.set fo (.sl false fz (ZW c2 o fz k))) off sz true with _ | v2;rfl;simp only[Zy,QV,Zm,XI];exact XB (fun j=>by simp only[QQ,XL,upd,XH];grind) (by simp[QQ,ZV]);rfl;split;rcases XF (cs.set fo (.sl false fz [])) off sz true with _ | v2;rfl;simp only[Zy,QV,Zm,XI];exact XB (fun j=>by simp only[QQ,XL,XH];grind) (by simp[QQ,ZV,h1]);rfl;rfl;rfl
 case appM bytes sz s x=>have h0:=hb (by simp[ZV]);simp only[Qk,h0];rw[QK (x:=s) (fun j hj=>hr j (by simp[Zw,hj])),QK (x:=x) (fun j hj=>hr j (by simp[Zw,hj]))];simp only[GJ,Vg];congr 1
 case stq p sz x q=>have h0:=hr p (by simp[Zw]);have h2:=hr q (by simp[Zw]);have h1:=hb (by simp[ZV]);simp only[Qk,h0,h1,h2];rw[QK (fun j hj=>hr j (by simp[Zw,hj]))];split;rename_i i of i2 of2 hcs hcs2;split;rfl;rcases σ.bs[i]? with _ | cs;rfl;simp only[QO];rcases cellsOf (val σ.env x)with _ | vs;rfl;simp only[QO];split;simp only[Zy,QV,Zm,XI];exact XB (fun j=>by simp[QQ,XL]) (by simp[QQ,ZV]);rfl;rfl
 case stp p sz x q=>have h0:=hr p (by simp[Zw]);have h2:=hr q (by simp[Zw]);have h1:=hb (by simp[ZV]);simp only[Qk,h0,h1,h2];rw[QK (fun j hj=>hr j (by simp[Zw,hj]))];split;rename_i i of i2 of2 hcs hcs2;split;rfl;rcases σ.bs[i]? with _ | cs;rfl;simp only[QO];rcases cellsOf (val σ.env x)with _ | vs;rfl;simp only[QO];split;simp only[Zy,QV,Zm,XI];exact XB (fun j=>by simp[QQ,XL]) (by simp[QQ,ZV]);rfl;rfl
 case slcx sz x lo hi=>have hm: ∀s':St,QQ (.slcx sz x lo hi) τ s'=τ:=fun _=>Zs rfl (show(1:Nat)≠2 by omega);have h0:=hb (by simp[ZV]);simp only[Qk,h0];rw[QK (fun j hj=>hr j (by simp[Zw,hj])),Sk (x:=lo) (fun j hj=>hr j (by simp[Zw,hj])),Sk (x:=hi) (fun j hj=>hr j (by simp[Zw,hj]))];split;rename_i id of sz1 kn hA;split;rcases σ.bs[id]? with _ | cs;rfl;simp only[QO];rcases Yh _ _ (hi.map (val σ.env))with _ | H;rfl;simp[hm,Vg];rfl;rfl
 case slcc sz x lo hi mx=>have hm: ∀s':St,QQ (.slcc sz x lo hi mx) τ s'=τ:=fun _=>Zs rfl (show(0:Nat)≠2 by omega);simp only[Qk];rw[QK (x:=x) (fun j hj=>hr j (by simp[Zw,hj])),Sk (x:=lo) (fun j hj=>hr j (by simp[Zw,hj])),QK (x:=hi) (fun j hj=>hr j (by simp[Zw,hj])),QK (x:=mx) (fun j hj=>hr j (by simp[Zw,hj]))];split;rcases Yh _ _ (some (val σ.env mx))with _ | M;rfl;simp only[QO];rcases Yh _ _ (some (val σ.env hi))with _ | H;rfl;simp[hm,Vg];rcases Yh _ _ (some (val σ.env mx))with _ | M;rfl;simp only[QO];rcases Yh _ _ (some (val σ.env hi))with _ | H;rfl;simp[hm,Vg];rfl
 case mkm=>have h0:=hb (by simp[ZV]);simp only[Qk,h0,Zy,QV,Zm,XI];exact XB (fun j=>by simp[QQ,XL]) (by simp[QQ,ZV])
 case lkm s ok x i z=>have hm: ∀s':St,QQ (.lkm s ok x i z) τ s'=τ:=fun _=>Zs rfl (show(1:Nat)≠2 by omega);have h1:=hb (by simp[ZV]);simp only[Qk,h1];rw[QK (fun j hj=>hr j (by simp[Zw,hj])),QK (x:=i) (fun j hj=>hr j (by simp[Zw,hj]))];split;rename_i id hid;rcases σ.bs[id]? with _ | cs;rfl;simp only[QO];split;rfl;rcases Wu s (cs.drop 1) (val σ.env i)with _ | r;rfl;grind;rfl
 case upm s x k y=>have h1:=hb (by simp[ZV]);simp only[Qk,h1];rw[QK (fun j hj=>hr j (by simp[Zw,hj])),QK (x:=k) (fun j hj=>hr j (by simp[Zw,hj])),QK (x:=y) (fun j hj=>hr j (by simp[Zw,hj]))];split;rename_i id hid;rcases σ.bs[id]? with _ | cs;rfl;simp only[QO];split;rfl;rcases MG s (cs.drop 1) (val σ.env k) (val σ.env y).strip with _ | ys;rfl;simp only[Zy,QV,Zm,XI];exact XB (fun j=>by simp[QQ,XL]) (by simp[QQ,ZV]);rfl
 case mpe s x k z=>have h1:=hb (by simp[ZV]);simp only[Qk,h1];rw[QK (fun j hj=>hr j (by simp[Zw,hj])),QK (x:=k) (fun j hj=>hr j (by simp[Zw,hj]))];split;rename_i id hid;rcases σ.bs[id]? with _ | cs;rfl;simp only[QO];split;rfl;rcases Wu s (cs.drop 1) (val σ.env k)with _ | r;rfl;rcases r with _ | r;simp only[Zy,QV,Zm,Gt,Xn,ZT,XI];exact XB (fun j=>by simp[QQ,XL]) (by simp[QQ,ZV]);simp only[Zy,QV,Zm,Option.isSome_some,QT,XI];exact XB (fun j=>by simp[QQ,XL]) (by simp[QQ,ZV,h1]);rfl
 case ensf x st n sz=>have h0:=hr n (by simp[Zw]);have h1:=hb (by simp[ZV]);simp only[Qk,Df h0 h1];rcases hf:Z8 σ n sz with _ | p;rfl;have hpe:=IG hf;simp only[Zy,QO];(have hup: ∀j∈Zw (.ensf x st n sz),upd τ.env n .undef j=p.2.env j:=fun j hj=>by rw[hpe];simp only[upd];grind);rw[QK (ρ:=p.2.env) (x:=x) (fun j hj=>hup j (by simp[Zw,hj])),QK (ρ:=p.2.env) (x:=st) (fun j hj=>hup j (by simp[Zw,hj]))];rw[QbZ (σ:=p.2) (τ:={env:=upd τ.env n .undef,bs:=p.2.bs}) rfl];rcases he:OC p.2 (val p.2.env x) (val p.2.env st) p.1 with _ | q;rfl;simp only[Zy,QV,Zm,XI];exact XB (fun j=>by simp only[QQ,XL,(E8 he),hpe,upd,XH];grind) (by simp[QQ,ZV])
 case mkp bytes sz zs x=>have hm: ∀s':St,QQ (.mkp bytes sz zs x) τ s'=τ:=fun _=>Zs rfl (show(0:Nat)≠2 by omega);simp only[Qk];rw[QK hr];split;grind;rfl
 case extm n=>have h0:=hr n (by simp[Zw]);simp only[Qk,h0];split;simp only[Zy,QV,Zm,XI];exact XB (fun j=>by simp only[QQ,XL,upd,XH];grind) (by simp[QQ,ZV]);rfl
 case mkstP n zs parts=>have h0:=hr n (by simp[Zw]);have h1:=hb (by simp[ZV]);simp only[Qk,h0,h1];split;rename_i sz cs hcs;split;(have hp:parts.map (fun p=>(p.1,p.2.1,val (upd τ.env n (.gs σ.bs.length 0 sz (cs.length / sz))) p.2.2))=parts.map (fun p=>(p.1,p.2.1,val (upd σ.env n (.gs σ.bs.length 0 sz (cs.length / sz))) p.2.2)):=by apply S6;intro p hp;(have:val (upd τ.env n (.gs σ.bs.length 0 sz (cs.length / sz))) p.2.2=val (upd σ.env n (.gs σ.bs.length 0 sz (cs.length / sz))) p.2.2:=QK fun j hj=>by simp only[upd];split;rfl;exact hr j (by simp only[Zw,Oq,Zf,List.mem_flatMap,Yg];grind));grind);rw[hp];(cases UM zs (parts.map fun p=>(p.1,p.2.1,val (upd σ.env n (.gs σ.bs.length 0 sz (cs.length / sz))) p.2.2))with | none=>rfl | some c=>simp only[Zy,QV,Zm,XI];exact XB (fun j=>by simp only[QQ,XL,upd,XH];grind) (by simp[QQ,ZV]));rfl;rfl
def rdA (x:QZ):XZ:=Zw x.op ++ (match x.guard with
 | some (t,_)=>[t]
 | none=>[])
def wrA (x:QZ):XZ:=XL x.op ++ x.dst.toList
def Qfn (a b:XZ):Bool:=a.all fun j=> !b.contains j
def QfI (x y:QZ):Bool:=Qfn (wrA x) (rdA y ++ wrA y) && Qfn (wrA y) (rdA x) &&
 (decide (ZV x.op=0) || decide (ZV y.op=0) || (decide (ZV x.op=1) && decide (ZV y.op=1)))
def TO (x:QZ) (τ s:St):St:={env:=fun j=>if j∈wrA x then s.env j else τ.env j,bs:=if ZV x.op=2 then s.bs else τ.bs}
def KQ (a d v j):Xl a d v j=if j∈d.toList then v else a j:=by
 rcases d with _ | d;simp[Xl];simp[Xl,upd]
def Qfw [Dr] {K op σ a v} (h:Qk K op σ=some (v,a)):a=QQ op σ a:=by
 have:=G9 (K:=K) (op:=op) (σ:=σ) (τ:=σ) (fun _ _=>rfl) (fun _=>rfl);rw[h]at this;simp only[Zy,QV,Zm,XI]at this;exact this
def ON [Dr] {K x σ τ} (g: ∀j∈rdA x,τ.env j=σ.env j) (h:ZV x.op≠0->τ.bs=σ.bs):
  YL K x τ=(YL K x σ).map (TO x τ):=by
 have c: ((Qk K x.op τ).map fun p=>({p.2 with env:=Xl p.2.env x.dst p.1}:St))=((Qk K x.op σ).map fun p=>({p.2 with env:=Xl p.2.env x.dst p.1}:St)).map (TO x τ):=by rw[(G9 (K:=K) (op:=x.op) (σ:=σ) (τ:=τ) (fun j e=>g j (by simp[rdA,e])) h)];simp only[GJ,Vg];congr 1;funext p;refine XB (fun j=> ?_) ?_;simp only[TO,QQ,wrA,Ze,KQ];by_cases f:j∈x.dst.toList <;> by_cases d:j∈XL x.op <;> simp[f,d];simp[TO,QQ]
 unfold YL;rcases k:x.guard with _ | i;exact c;obtain⟨t,b⟩:=i;simp only;rw[g t (by simp[rdA,k])];have a: (some {τ with env:=Xl τ.env x.dst (.tup [])}:Option St)=(some ({σ with env:=Xl σ.env x.dst (.tup [])}:St)).map (TO x τ):=by simp only[Zy,QV];refine XB (fun j=> ?_) ?_;simp only[TO,wrA,Ze,KQ];by_cases f:j∈x.dst.toList;simp[f];by_cases d:j∈XL x.op;simp only[f,d,ZT,S8,QT];exact g j (by(have: ∀op:AOp,∀j∈XL op,j∈Zw op:=by intro op j e;cases op <;> simp only[XL,Zw,Zf,Ze,BH,S8]at e ⊢ <;> first | exact e | exact .inl e | exact .inr e | exact e.elim);simp only[rdA,Ze];exact .inl (this _ _ d));simp[f,d];simp only[TO];by_cases d:ZV x.op=2;simp only[d,QT];exact h (by omega);simp[d]
 split;split;exact c;exact a;exact a;rfl
def E3 {a b} (h:Qfn a b=true): ∀j∈a,j ∉ b:=by
 unfold Qfn at h;rw[X0]at h;intro j c;simpa using h j c
def U2:=@List.mem_append_left
def Br:=@List.mem_append_right
def Qgb [Dr] {K x y σ a b} (l:QfI x y=true) (o:YL K x σ=some a) (w:YL K y a=some b):
  ∃τ,YL K y σ=some τ/\YL K x τ=some b:=by
 unfold QfI at l;simp only[Qr,WI,QM]at l;obtain⟨⟨m,g⟩,z⟩:=l;have r:=E3 m;have f:=ON (K:=K) (x:=x) (σ:=σ) (τ:=σ) (fun _ _=>rfl) (fun _=>rfl);rw[o]at f;simp only[Zy,QV]at f;have e:=ON (K:=K) (x:=y) (σ:=a) (τ:=a) (fun _ _=>rfl) (fun _=>rfl);rw[w]at e;simp only[Zy,QV]at e;have v: ∀j,a.env j=if j∈wrA x then a.env j else σ.env j:=fun j=>TM (fun s:St=>s.env j) f;have u:a.bs=if ZV x.op=2 then a.bs else σ.bs:=TM St.bs f;have p: ∀j,b.env j=if j∈wrA y then b.env j else a.env j:=fun j=>TM (fun s:St=>s.env j) e;have t:b.bs=if ZV y.op=2 then b.bs else a.bs:=TM St.bs e;have n:=ON (K:=K) (x:=y) (σ:=a) (τ:=σ) (fun j i=>by rw[v j,Qb (fun h=>r j h (U2 _ i))]) (fun k=>by rw[u,Qb (by omega)]);rw[w,Zy]at n;have q:=ON (K:=K) (x:=x) (σ:=σ) (τ:=TO y σ b) (fun j i=>by simp only[TO];rw[Qb (fun h=>(E3 g) j h i)]) (fun k=>by simp only[TO];rw[Qb (by omega)]);rw[o,Zy]at q;refine⟨_,n,?_⟩;rw[q];congr 1;refine XB (fun j=> ?_) ?_;simp only[TO];by_cases c:j∈wrA x;rw[Qe c,p j,Qb (fun h=>r j c (Br _ h))];rw[Qb c];by_cases d:j∈wrA y;rw[Qe d];rw[Qb d,p j,Qb d,v j,Qb c];simp only[TO];by_cases c:ZV x.op=2;rw[Qe c,t,Qb (by omega)];rw[Qb c];by_cases d:ZV y.op=2;rw[Qe d];rw[Qb d,t,Qb d,u,Qb c]
def QfY (x y:QZ):Bool:=match x.op,y.op with
 | .stq _ _ _ q,.st q2 _ _=>decide (q=q2) && decide (x.dst=none) && decide (y.dst=none) && decide (x.guard=none) && decide (y.guard=none)
 | .st p sz _,.stp _ sz2 _ p2=>decide (p=p2) && decide (sz=sz2) && decide (x.dst=none) && decide (y.dst=none) && decide (x.guard=none) && decide (y.guard=none)
 | _,_=>false
def Qjm {a c b o p} (d:o+c.length<=a.length) (e:p+b.length<=a.length) (s:o+c.length<=p\/p+b.length<=o):put (put a o c) p b=put (put a p b) o c:=by
 have m: (put a o c).length=a.length:=by unfold put;rw[Td _ _ _ d]
 have r: (put a p b).length=a.length:=by unfold put;rw[Td _ _ _ e]
 apply U4;intro k;have h: (put (put a o c) p b)[k]? =_:=W8 (put a o c) p b (by rwa[m]) k;have j: (put (put a p b) o c)[k]? =_:=W8 (put a p b) o c (by rwa[r]) k;have l: (put a o c)[k]? =_:=W8 a o c d k;have n: (put a p b)[k]? =_:=W8 a p b e k;rw[h,j,l,n];by_cases i:k < o <;> by_cases q:k < o+c.length <;> by_cases g:k < p <;> by_cases f:k < p+b.length <;> simp only[i,q,g,f,QT,ZT] <;> omega
def JF:=@List.set_comm
def TJ:=@List.set_set
def QfZ {K x y g z B} (r:QfY x y=true) (b:YL K x g=some z) (a:YL K y z=some B):
  ∃T,YL K y g=some T/\YL K x T=some B:=by
 unfold QfY at r;split at r;rename_i p V v q U R E H P;simp only[Qr,QM]at r;obtain⟨⟨⟨⟨rfl,Q⟩,L⟩,G⟩,I⟩:=r;simp only[YL,H,G,Q,Qk,Xl]at b ⊢;simp only[YL,P,I,L,Qk,Xl]at a ⊢;split at b;rename_i i o D t C J;split at b;cases b;rename_i f;rcases l:g.bs[i]? with _ | s;rw[l]at b;cases b;rw[l]at b;rcases n:cellsOf (val g.env v)with _ | A;rw[n]at b;cases b;rw[n]at b;simp only[QO]at b;split at b;rename_i u;simp only[Zy,QV]at b;subst b;simp only at a;rw[J]at a ⊢;simp only[Un f]at a;simp only;rcases k:g.bs[D]? with _ | M;rw[k]at a;cases a;rw[k]at a;simp only[QO]at a ⊢;rcases d:cellsOf (val g.env E)with _ | j;rw[d]at a;cases a;rw[d]at a;simp only[QO]at a ⊢;split at a;rename_i c;simp only[Zy,QV]at a;subst a;rw[Qe c,Zy];refine⟨_,rfl,?_⟩;simp only[C,J,n,QO,Un (fun e=>f e.symm),l,Qb f,Qe u,Zy];rw[JF _ _ f];cases a;cases b;cases b;rename_i p V v q R E p2 H P;simp only[Qr,QM]at r;obtain⟨⟨⟨⟨⟨rfl,rfl⟩,Q⟩,L⟩,G⟩,I⟩:=r;simp only[YL,H,G,Q,Qk,Xl]at b ⊢;simp only[YL,P,I,L,Qk,Xl]at a ⊢;split at b;rename_i i o C;rcases l:g.bs[i]? with _ | s;rw[l]at b;cases b;rw[l]at b;rcases n:cellsOf (val g.env v)with _ | A;rw[n]at b;cases b;rw[n]at b;simp only[QO]at b;split at b;rename_i u;simp only[Zy,QV]at b;subst b;simp only at a;rw[C]at a ⊢;split at a;rename_i D t i3 Y J X;cases X;split at a;cases a;rename_i f;simp only[Qb f];have w:i < g.bs.length:=by rcases Zt i g.bs.length with h | h;exact h;rw[ZF h]at l;cases l
 by_cases m:D=i;subst m;rw[Qy,Qe rfl,Qe w]at a;simp only[QO]at a;rw[l];simp only[QO];rcases d:cellsOf (val g.env E)with _ | j;rw[d]at a;cases a;rw[d]at a;simp only[QO]at a ⊢;split at a;rename_i c;have S: (put s o (A.map AV.strip)).length=s.length:=by unfold put;rw[Td _ _ _ (by simpa using u.2.1)]
 rw[S]at c;simp only[Zy,QV]at a;subst a;rw[Qe c,Zy];refine⟨_,rfl,?_⟩;have N: (put s t (j.map AV.strip)).length=s.length:=by unfold put;rw[Td _ _ _ (by simpa using c.2.1)]
 simp only[C,Qy,Qe w,QO,n];simp only[QT,QO];rw[Qe (by rwa[N]),Zy,TJ,TJ];have O:put (put s t (j.map AV.strip)) o (A.map AV.strip)=put (put s o (A.map AV.strip)) t (j.map AV.strip):=by refine Qjm (by simpa using c.2.1) (by simpa using u.2.1) ?_;have Z:=u.1;have U:=c.1;simp only[UD];by_cases W:t+j.length<=o;exact .inl W;refine .inr ?_;rcases Zt t (o+A.length)with h | h;exact absurd ⟨rfl,by omega,by omega⟩ f;exact h
 rw[O];cases a;rw[Un (fun e=>m e.symm)]at a;rcases k:g.bs[D]? with _ | M;rw[k]at a;cases a;rw[k]at a;simp only[QO]at a ⊢;rcases d:cellsOf (val g.env E)with _ | j;rw[d]at a;cases a;rw[d]at a;simp only[QO]at a ⊢;split at a;rename_i c;simp only[Zy,QV]at a;subst a;rw[Qe c,Zy];refine⟨_,rfl,?_⟩;simp only[C,Un m,l,QO,n,Qe u,Zy];rw[JF _ _ (fun e=>m e.symm)];cases a;cases a;cases b;cases b;cases r
def Ic (x y:QZ):Bool:=QfI x y || QfY x y
def Qce [Dr] {K x y d b c} (a:Ic x y=true) (g:YL K x d=some b) (e:YL K y b=some c):
  ∃f,YL K y d=some f/\YL K x f=some c:=by
 unfold Ic at a;rw[WI]at a;rcases a with a | a;exact Qgb a g e;exact QfZ a g e
def Uo:=@List.pairwise_cons
def Tl:=@List.mem_cons_of_mem
def Ir [Dr] {K} (f) (i): ∀(L:XZ) m a,L.Pairwise (· < ·)->i∈L->(∀j∈L,j < i->Ic (f j) (f i)=true)->
  YP K (L.map f) m=some a->∃c,YL K (f i) m=some c/\YP K ((L.erase i).map f) c=some a
 | [],_,_,_,n,_,_=>by simp at n
 | j:: L,m,a,o,n,p,g=>by
  simp only[ZI,YP]at g;rcases l:YL K (f j) m with _ | d;rw[l]at g;cases g;rw[l,QO]at g;by_cases b:j=i;subst b;exact⟨d,l,by rwa[List.erase_cons_head]⟩;have e:i∈L:=by rcases Zf.1 n with h | h;exact absurd h.symm b;exact h
  obtain⟨t,v,w⟩:=Ir f i L d a (Uo.1 o).2 e (fun k q=>p k (Tl _ q)) g;obtain⟨r,u,s⟩:=Qce (p j (by simp) ((Uo.1 o).1 i e)) l v;refine⟨r,u,?_⟩;rwa[List.erase_cons_tail (by simpa using b),ZI,YP,s,QO]
structure En where
 j:Nat
 g:Option (Nat×Bool)
 q:Nat
 s:Nat
 off:Nat
def Qdo (x:QZ) (j:Nat):Option En:=match x.op,x.dst with
 | .fad s off,some q=>some ⟨j,x.guard,q,s,off⟩
 | _,_=>none
def entries (xs:T1):List En:=xs.zipIdx.filterMap fun p=>Qdo p.1 p.2
def Qmi (E:List En) (prec:Nat->Nat->Bool) (i:Nat) (g:Option (Nat×Bool)) (q s off:Nat):Bool:=
 E.any fun en=>prec i en.j && (decide (en.g=none) || decide (en.g=g)) && decide (en.q=q) && decide (en.s=s) && decide (en.off=off)
def Qj9 (E:List En) (prec:Nat->Nat->Bool) (xs:T1):Bool:=
 E.all fun en=>xs.zipIdx.all fun p=>(decide (p.2=en.j) || !decide (p.1.dst=some en.q)) && !decide (p.1.dst=some en.s) &&
  (match en.g with
   | some (t,_)=> !decide (p.1.dst=some t) || prec en.j p.2
   | none=>true)
def Ef (cops:Array Oper) (x:QZ) (o:Oper):Bool:=match x.guard,o.guard with
 | none,none=>true
 | some (t,b),some (j,b2)=>decide (b=b2) && decide (((cops[j]?).bind (·.dst))=some t)
 | _,_=>false
def Qi8 (P:Program) (num:WL) (N:Nat) (E:List En) (prec:Nat->Nat->Bool) (cops:Array Oper) (i:Nat) (x:QZ) (o:Oper):Bool:=
 decide (x.dst=o.dst) && (match x.dst with
  | some d=>decide (d < N)
  | none=>true) && Ef cops x o && Ql7 P num (Qmi E prec i x.guard) x.op o.op
def M3 (P:Program) (num:WL) (N:Nat) (prec:Nat->Nat->Bool) (cops:Array Oper) (xs:T1):Bool:=
 decide (xs.length=cops.size) && Qj9 (entries xs) prec xs && xs.zipIdx.all fun p=>match cops[p.2]? with
  | some o=>Qi8 P num N (entries xs) prec cops p.2 p.1 o
  | none=>false
def gOK (σ:St):Option (Nat×Bool)->Prop
 | none=>True
 | some (t,b)=>σ.env t= .bool b
def RS (E:List En) (D:Nat->Prop) (σ:St) (a:Act):Prop:=∀en∈E,D en.j->gOK σ en.g->Sx a en.q en.s en.off
def Ha {f b} (h:b∈entries f): ∃x,f[b.j]? =some x/\x.op= .fad b.s b.off/\x.dst=some b.q/\x.guard=b.g:=by
 unfold entries at h;rw[List.mem_filterMap]at h;obtain⟨⟨x,j⟩,g,d⟩:=h;simp only[Qdo]at d;split at d;rename_i s i q l n;cases d;exact⟨x,(by rw[List.mem_iff_getElem?]at g;obtain⟨k,c⟩:=g;rw[Bs]at c;rcases e:f[k]? with _ | y;rw[e]at c;cases c;rw[e]at c;simp only[Zy,QV,Zm]at c;obtain⟨rfl,rfl⟩:=c;simpa using e),l,n,rfl⟩;cases d
def Qey {b:T1} {f} (h:b.zipIdx.all f=true) {i x} (c:b[i]? =some x):f (x,i)=true:=by
 rw[X0]at h;refine h (x,i) (X9 (i:=i) ?_);rw[Bs,c];simp
section
variable {P:Program} {num:Nat->Option Nat} {β:List Blk} {w w':World} {m:Nat->Nat} {ν:Own} {N:Nat} {w0:World} {m0:Nat->Nat} {T:Nat->Prop} {β0:List Blk} {σ σ1 σ2:St} {a:Act}
 {next:Act->World->Prop} {Q:Exit->Act->World->Prop} {K:Vd} {v:AV} {xs:List QZ} {cops:Array Oper} {prec:Nat->Nat->Bool}
def QpX {G} (h:Qk K G σ=some (v,σ1)): ∀j∈XL G,σ1.env j= .undef\/∃f,σ1.env j= .bx f\/σ1.env j= .tup f:=by
 intro j b;cases G <;> simp only[XL,BH,Zf,S8]at b;case mvs n=>subst b;simp only[Qk]at h;split at h;cases h;exact .inl (by simp[upd]);cases h
 case ldfm s d=>subst b;simp only[Qk]at h;split at h;rename_i f g;rcases q:f[d]? with _ | c;rw[q]at h;cases h;rw[q]at h;simp only[QO]at h;split at h;cases h;exact .inr ⟨_,.inl (by simp[upd];rfl)⟩;cases h;cases h
 case stf s d l x=>subst b;simp only[Qk]at h;split at h;rename_i f g;rcases q:cellsOf (val σ.env x)with _ | c;rw[q]at h;cases h;rw[q]at h;simp only[QO]at h;split at h;cases h;exact .inr ⟨_,.inl (by simp[upd];rfl)⟩;cases h;cases h
 case stn s d l x B=>subst b;simp only[Qk]at h;split at h;rename_i f g;rcases q:cellsOf (val σ.env x)with _ | c;rw[q]at h;cases h;rw[q]at h;simp only[QO]at h;split at h;cases h;exact .inr ⟨_,.inl (by simp[upd];rfl)⟩;cases h;cases h
 case stfm s d n=>simp only[Qk]at h;split at h;rename_i f g;split at h;rename_i E;cases h;rcases b with rfl | rfl;exact .inr ⟨_,.inl (by simp[upd];rfl)⟩;exact .inl (by simp only[upd];rw[Qb (fun e=>E.1 e.symm)];simp);cases h;cases h
 case stm p n=>subst b;simp only[Qk]at h;split at h;rename_i i V g;rcases q:σ.bs[i]? with _ | c;rw[q]at h;cases h;rw[q]at h;simp only[QO]at h;split at h;cases h;exact .inl (by simp[upd]);cases h;cases h
 case ldfz s d l I C=>subst b;simp only[Qk]at h;split at h;rename_i f g;split at h;rename_i S o D k U;split at h;rcases J:σ.bs[S]? with _ | O;rw[J]at h;cases h;rw[J]at h;simp only[QO]at h;split at h;rcases A:XF (f.set I (.sl false C (ZW O o C k))) d l true with _ | L;rw[A]at h;cases h;rw[A]at h;cases h;exact .inr ⟨_,.inl (by simp[upd];rfl)⟩;cases h;split at h;rcases A:XF (f.set I (.sl false C [])) d l true with _ | L;rw[A]at h;cases h;rw[A]at h;cases h;exact .inr ⟨f,.inl g⟩;cases h;cases h;cases h
 case extm n=>subst b;simp only[Qk]at h;split at h;cases h;exact .inr ⟨_,.inr (by simp[upd];rfl)⟩;cases h
 case ensf x W n l=>subst b;simp only[Qk]at h;rcases z:Z8 σ j l with _ | p;rw[z]at h;cases h;rw[z]at h;simp only[QO]at h;have H:=E8 h;simp only at H;exact .inl (by rw[H,IG z];simp[upd])
 case mkstP n B u=>subst b;simp only[Qk]at h;split at h;split at h;rename_i l f _ _;rcases z:UM B (u.map fun p=>(p.1,p.2.1,val (upd σ.env j (.gs σ.bs.length 0 l (f.length / l))) p.2.2))with _ | c;rw[z]at h;cases h;rw[z]at h;cases h;exact .inl (by simp[upd]);cases h;cases h
 case frz n l=>subst b;simp only[Qk]at h;have:=IG h;simp only at this;exact .inl (by rw[this];simp[upd])
 case appg r l s x=>cases s with | c v=>simp[rdO]at b | t n=>simp only[rdO,XH]at b;subst b;simp only[Qk]at h;split at h;rename_i y M;simp only[Zm]at y;obtain⟨_,rfl⟩:=y;split at h;split at h;cases h;cases h;exact .inl (by simp[upd]);cases h;cases h
 case app r l s x=>cases s with | c v=>simp[rdO]at b | t n=>simp only[rdO,XH]at b;subst b;simp only[Qk]at h;split at h;rename_i D Z X Y R B y M;simp only[Zm]at y;obtain⟨y,rfl⟩:=y;split at h;cases h;exact .inl (by simp[upd]);cases h;cases h
def QiD [Dr] {d} (h:Qk K d σ=some (v,σ1)) {t b} (e:σ1.env t= .bool b):σ.env t= .bool b:=by
 by_cases f:t∈XL d;rcases QpX h t f with c | ⟨g,c | c⟩ <;> rw[c]at e <;> cases e;have:=TM (fun s:St=>s.env t) (Qfw h);simp only[QQ]at this;rw[Qb f]at this;rwa[<- this]
def Ns:=@Array.getD_eq_getD_getElem?
def EN {q s c d u} (h:Sx a q s c) (j:d≠some q) (i:d≠some s):Sx (a.put d u) q s c:=by
 obtain⟨b,f,g⟩:=h;rcases d with _ | d;exact⟨b,f,g⟩;refine⟨b,?_,?_⟩;simp only[Act.put,Ns]at f ⊢;rwa[Ls (fun e=>i (by rw[e]))];simp only[Act.put,Ns]at g ⊢;rwa[Ls (fun e=>j (by rw[e]))]
def Qkl [Dr] {x o} (l:Inv num N w0 m0 T β0 σ a w m β ν) (e:Ef cops x o=true):
  (x.guard=none->Region.wanted o (yielded cops a.tmps)=true)/\(∀t b c,x.guard=some (t,b)->σ.env t= .bool c->Region.wanted o (yielded cops a.tmps)=decide (c=b))/\
   ∀t b,x.guard=some (t,b)->σ.env t= .tup []->Region.wanted o (yielded cops a.tmps)=false:=by
 unfold Ef at e;split at e;rename_i f k;refine⟨fun _=>by simp[Region.wanted,k],fun t b c h=>(by rw[f]at h;cases h),fun t b h=>(by rw[f]at h;cases h)⟩;rename_i t b j r f k;simp only[Qr,QM]at e;obtain⟨rfl,e⟩:=e;refine⟨(fun h=>by rw[f]at h;cases h),fun p q c h g=> ?_,fun p q h g=> ?_⟩;rw[f]at h;cases h;obtain⟨_,i⟩:=l.at_ (n:=t) (by rw[g];simp);have d:=l.slots t _ i;rw[g]at d;obtain⟨d,_⟩:=d;simp only[Qh]at d;simp only[Region.wanted,k,yielded,e,QO,i,d];cases c <;> cases b <;> rfl;rw[f]at h;cases h;obtain⟨_,i⟩:=l.at_ (n:=t) (by rw[g];simp);have d:=l.slots t _ i;rw[g]at d;obtain⟨d,_⟩:=d;simp only[Qh]at d;obtain⟨s,d,_⟩:=d;simp only[Region.wanted,k,yielded,e,QO,i,d];cases b <;> rfl;cases e
def Tp:=@Bool.not_eq_true'
def Oz:=@decide_eq_false_iff_not
def Hb [Dr] {Γ} (hI:Inv num N w0 m0 T β0 σ a w m β ν) (hE:Ue P num) (hK:KOk P num Γ K) (hG:Γ.G w0) (hGb:Γ.Gb<=w0.heap.size) (hT: ∀b,T b->Γ.Gb<=b)
  {D i x} (B:M3 P num N prec cops xs=true) (hx:xs[i]? =some x) (hD: ¬D i) (hpre: ∀k,prec i k=true->D k) (hdown: ∀j k,D j->prec j k=true->D k)
  (hRS:RS (entries xs) D σ a) (E:YL K x σ=some σ2)
  (h: ∀a' w' m' S ν',Inv num N w0 m0 T β0 σ2 a' w' m' S ν'->RS (entries xs) (fun j=>D j\/j=i) σ2 a'->next a' w'):wpOp P cops Q i next a w:=by
 unfold M3 at B;simp only[Qr,QM]at B;obtain⟨⟨hlen,hst⟩,B⟩:=B;have G:=Qey B hx;simp only at G;split at G;rename_i o ho;unfold Qi8 at G;simp only[Qr,QM]at G;obtain⟨⟨⟨Z,H⟩,hgd⟩,hop⟩:=G;have M: ∀l∈entries xs,(i=l.j\/x.dst≠some l.q)/\x.dst≠some l.s/\∀t b,l.g=some (t,b)->x.dst=some t->prec l.j i=true:=fun l n=>by unfold Qj9 at hst;rw[X0]at hst;have:=Qey (hst l n) hx;simp only[Qr,WI,QM,Tp,Oz]at this;refine⟨this.1.1,this.1.2,fun t b hg hd=> ?_⟩;have h2:=this.2;rw[hg]at h2;simp only[WI,Tp,Oz]at h2;exact h2.resolve_left (fun hn=>hn hd)
 obtain⟨hw1,hw2,hw3⟩:=Qkl hI hgd;have run: (∀t b,x.guard=some (t,b)->σ.env t= .bool b)->Region.wanted o (yielded cops a.tmps)=true->((Qk K x.op σ).map fun p=>({p.2 with env:=Xl p.2.env x.dst p.1}:St))=some σ2->wpOp P cops Q i next a w:=by intro hgu g L;rcases he:Qk K x.op σ with _ | p;rw[he]at L;cases L;obtain⟨v,σ1⟩:=p;rw[he]at L;simp only[Zy,QV]at L;subst L;unfold wpOp;simp only[ho,g,QT];refine .inl (Ql9 hI hE hK hG hGb hT (pt:=Qmi (entries xs) prec i x.guard) (fun q s off hp=> ?_) hop he fun u w' m' S ν' k1 k2 k3=> ?_);unfold Qmi at hp;rw[T9]at hp;obtain⟨l,n,hp⟩:=hp;simp only[Qr,WI,QM]at hp;obtain⟨⟨⟨⟨p1,p2⟩,rfl⟩,rfl⟩,rfl⟩:=hp;refine hRS l n (hpre _ p1) ?_;rcases p2 with p2 | p2;rw[p2];exact trivial;rw[p2];rcases z:x.guard with _ | tb;exact trivial;obtain⟨t,b⟩:=tb;exact hgu t b z;rw[<- Z];(have f:RS (entries xs) (fun j=>D j\/j=i) {σ1 with env:=Xl σ1.env x.dst v} (a.put x.dst u):=by intro l n U r;obtain⟨st1,R,st3⟩:=M l n;by_cases C:l.j=i;obtain⟨y,y1,y2,y3,_⟩:=Ha n;rw[C,hx]at y1;cases y1;obtain⟨b,b1,Y⟩:=k3 _ _ y2;rw[y3];rw[y3]at H;(have hqN:l.q < N:=by simpa using H);refine⟨b,?_,?_⟩;simp only[Act.put,Ns]at b1 ⊢;rwa[Ls (fun e=>R (by rw[y3,e]))];simp only[Act.put,Ns];rw[QhQ (by rwa[hI.size]),Y];rfl;have A:=U.resolve_right C;refine EN (hRS l n A ?_) (st1.resolve_left (fun e=>C e.symm)) R;rcases I:l.g with _ | tb;exact trivial;obtain⟨t,b⟩:=tb;rw[I]at r;simp only[gOK,KQ]at r ⊢;split at r;rename_i hd;exact absurd (hdown l.j i A (st3 t b I (by simpa using hd))) hD;exact QiD he r);rcases J:x.dst with _ | d;rw[J]at f h;exact h _ w' m' S ν' k1 f;rw[J]at f H h;exact h _ w' m' S _ (k1.put k2 d (by simpa using H)) f
 unfold YL at E;rcases z:x.guard with _ | tb;rw[z]at E;exact run (fun t b h=>by rw[z]at h;cases h) (hw1 z) E;obtain⟨t,b⟩:=tb;rw[z]at E;simp only at E;have W:σ.env t≠ .bool b->Region.wanted o (yielded cops a.tmps)=false->{σ with env:=Xl σ.env x.dst (.tup [])}=σ2->wpOp P cops Q i next a w:=by intro X g E;subst E;unfold wpOp;simp only[ho];rw[g,Qb (by simp),<- Z];(have f:RS (entries xs) (fun j=>D j\/j=i) {σ with env:=Xl σ.env x.dst (.tup [])} (a.put x.dst undef):=by intro l n U r;obtain⟨st1,R,st3⟩:=M l n;(have O: ∀t2 Y,l.g=some (t2,Y)->D l.j\/l.j=i->σ.env t2= .bool Y:=fun t2 Y I U=>by rw[I]at r;simp only[gOK,KQ]at r;split at r;cases r;exact r);by_cases C:l.j=i;exfalso;obtain⟨y,y1,y2,y3,y4⟩:=Ha n;rw[C,hx]at y1;cases y1;exact X (O t b (y4.symm.trans z) (.inr C));have A:=U.resolve_right C;refine EN (hRS l n A ?_) (st1.resolve_left (fun e=>C e.symm)) R;rcases I:l.g with _ | tb2;exact trivial;obtain⟨t2,Y⟩:=tb2;exact O t2 Y I (.inl A));rcases J:x.dst with _ | d;rw[J]at f h;exact h _ w m β ν hI f;rw[J]at f H h;exact h _ w m β _ (hI.put (v:= .tup []) (u:=undef) ((Zr rfl).2 ⟨by simp only[Qh];exact⟨#[],rfl,rfl,by simp only[VK]⟩,trivial⟩) d (by simpa using H)) f
 split at E;rename_i c X;have g:=hw2 t b c z X;split at E;rename_i V;subst V;exact run (fun t2 Y h=>by rw[z]at h;cases h;exact X) (by rw[g];simp) E;rename_i V;injection E with E;exact W (by rw[X];intro e;injection e with e;exact V e) (by rw[g];simpa using V) E;rename_i X;injection E with E;exact W (by rw[X];intro e;cases e) (hw3 t b z X) E;cases E;cases G
def Pr:=@List.drop_eq_nil_of_le
def Lt:=@List.drop_eq_getElem_cons
def FJ [Dr] {p} (C:Ue P num) (y:KOk P num p K) (A:p.G w0) (l:p.Gb<=w0.heap.size) (B: ∀b,T b->p.Gb<=b) {h}
  (d:M3 P num N (fun i k=>decide (k < i)) cops xs=true) (z: ∀q w' s f e,Inv num N w0 m0 T β0 h q w' s f e->Q .normal q w'):
  ∀n k σ a w m β ν,k+n=xs.length->YP K (xs.drop k) σ=some h->Inv num N w0 m0 T β0 σ a w m β ν->RS (entries xs) (fun j=>j < k) σ a->
   wpOps P cops Q (List.range' k n) a w
 | 0,k,σ,a,w,m,β,ν,J,c,x,_=>by
  rw[Pr (by omega)]at c;cases c;exact z a w m β ν x
 | n+1,k,σ,a,w,m,β,ν,J,c,x,r=>by
  have g:k < xs.length:=by omega
  rw[Lt g]at c;simp only[YP]at c;rcases t:YL K xs[k] σ with _ | σ1;rw[t]at c;cases c;rw[t,QO]at c;rw[List.range'_succ,wpOps_cons];refine Hb x C y A l B d (Q0 g) (D:=fun j=>j < k) (by omega) (fun j o=>by simpa using o) (fun i j H o=>Nat.lt_trans (show j < i by simpa using o) H) r t fun q w' s f e L E=> ?_;exact FJ C y A l B d z n (k+1) σ1 q w' s f e (by omega) c L (fun G u o I=>E G u (by omega) I)
end
end Go.Am
namespace Go.Am
def SR (cops:Array Oper) (i k:Nat):Bool:=match cops[i]? with
 | some o=>o.after.any fun e=>Region.binds .any e && decide (e.on=k)
 | none=>false
def FI (cops:Array Oper):Nat->Nat->Nat->Bool
 | 0,_,_=>false
 | f+1,i,j=>SR cops i j || (match cops[i]? with
  | some o=>o.after.any fun e=>Region.binds .any e && decide (j < e.on) && FI cops f e.on j
  | none=>false)
def JZ (cops:Array Oper):Bool:=(List.range cops.size).all fun i=>match cops[i]? with
 | some o=>o.after.all fun e=> !Region.binds .any e || decide (e.on < i)
 | none=>true
def KA (xs:T1) (i:Nat):QZ:=xs.getD i ⟨none,.alloc [],none⟩
def F0 (cops:Array Oper) (xs:T1):Bool:=(List.range xs.length).all fun i=>(List.range i).all fun j=>Ic (KA xs j) (KA xs i) || FI cops xs.length i j
def Cb (P:Program) (num:WL) (N:Nat) (draw:Bool) (cops:Array Oper) (xs:T1):Bool:=
 if draw then M3 P num N (SR cops) cops xs && JZ cops && F0 cops xs else M3 P num N (fun i k=>decide (k < i)) cops xs
def Jw:=@Array.any_eq_true'
def Qa4 {c} {L:Nat->Prop} (b: ∀j k,L j->SR c j k=true->L k): ∀f i j,(∀k,SR c i k=true->L k)->FI c f i j=true->L j
 | 0,_,_,_,h=>by simp[FI]at h
 | f+1,i,j,d,h=>by
  simp only[FI,WI]at h;rcases h with h | h;exact d j h;split at h;rename_i o g;rw[Jw]at h;obtain⟨e,l,h⟩:=h;simp only[Qr,QM]at h;exact Qa4 b f e.on j (fun k n=>b _ k (d e.on (by unfold SR;rw[g];simp only;rw[Jw];exact⟨e,l,by simp[h.1.1]⟩)) n) h.2;cases h
def rem (n:Nat) (listed:Array Bool):XZ:=(List.range n).filter fun i=> !listed.getD i true
def X1:=@List.mem_filter
def LQ {n i b}:i∈rem n b↔i < n/\b.getD i true=false:=by
 unfold rem;rw[X1,O4];simp
def Gm:=@List.Pairwise.filter
def Du {n i b} (g:b.size=n) (h:i∈rem n b):rem n (b.setIfInBounds i true)=(rem n b).erase i:=by
 have d: (rem n b).Nodup:=Gm _ List.nodup_range;rw[List.Nodup.erase_eq_filter d];unfold rem;rw[List.filter_filter];apply List.filter_congr;intro x f;rw[O4]at f;by_cases c:x=i;subst c;simp[g,f];rw[getD_set_ne true (fun e=>c e.symm)];simp[c]
section
variable {P:Program} {num:Nat->Option Nat} {β:List Blk} {w w':World} {m:Nat->Nat} {ν:Own} {N:Nat} {w0:World} {m0:Nat->Nat} {T:Nat->Prop} {β0:List Blk} {σ σ1 σ2:St} {a:Act}
 {next:Act->World->Prop} {Q:Exit->Act->World->Prop} {K:Vd} {v:AV} {xs:List QZ} {cops:Array Oper}
def QdZ {i} (h:i < xs.length):xs[i]? =some (KA xs i):=by
 unfold KA;rw[Q0 h];simp[h]
def Il {b} (h:M3 P num N b cops xs=true):xs.length=cops.size:=by
 unfold M3 at h;simp only[Qr,QM]at h;exact h.1.1
def Qf4 [Dr] {X} (hE:Ue P num) (hK:KOk P num X K) (hG:X.G w0) (hGb:X.Gb<=w0.heap.size) (hT: ∀b,T b->X.Gb<=b) {H}
  (x:M3 P num N (SR cops) cops xs=true) (I:JZ cops=true) (C:F0 cops xs=true) (hQ: ∀Z w' m' E B,Inv num N w0 m0 T β0 H Z w' m' E B->Q .normal Z w'):
  ∀f c σ a w m β ν,c.size=xs.length->(rem xs.length c).length=f->
   YP K ((rem xs.length c).map (KA xs)) σ=some H->(∀j k,c.getD j false=true->SR cops j k=true->c.getD k false=true)->
   Inv num N w0 m0 T β0 σ a w m β ν->RS (entries xs) (fun j=>c.getD j false=true) σ a->wpAny P .any cops Q f c a w:=by
 intro f;have z:=Il x;have s: ∀i k,SR cops i k=true->k < i:=fun i k h=>by unfold SR at h;split at h;rename_i o ho;rw[Jw]at h;obtain⟨e,S,h⟩:=h;simp only[Qr,QM]at h;have G:=(N6.1 ho).1;unfold JZ at I;rw[X0]at I;have:=I i (O4.2 G);rw[ho]at this;simp only[QhR,WI,Tp,QM]at this;rcases this e S with p | p;rw[h.1]at p;cases p;omega;cases h
 have R: ∀(c:Array Bool) (j:Nat),c.size=xs.length->j < xs.length->c.getD j true=false\/c.getD j false=true:=fun c j p D=>by rw[Ns,Ns,Um (by omega)];cases c[j] <;> simp
 induction f with | zero=>intro c σ a w m β ν M O Y _ hI _;have W:=Yu O;rw[W]at Y;cases Y;refine⟨?_,hQ a w m β ν hI⟩;rcases hrd:Region.ready .any cops c with _ | ⟨i,is⟩;rfl;exfalso;(have G:i∈Region.ready .any cops c:=by rw[hrd];simp);obtain⟨p,o,D,_⟩:=mem_ready.1 G;have:i∈rem xs.length c:=LQ.2 ⟨by rw[z];exact(N6.1 D).1,p⟩;rw[W]at this;cases this | succ f ih=>intro c σ a w m β ν M O Y g hI hRS;refine⟨fun W=> ?_,fun i G=> ?_⟩;exfalso;rcases n:rem xs.length c with _ | ⟨i,is⟩;rw[n]at O;simp at O;(have G:i∈rem xs.length c:=by rw[n];simp);obtain⟨p,D⟩:=LQ.1 G;have d: (rem xs.length c).Pairwise (· < ·):=Gm _ List.pairwise_lt_range;rw[n]at d;(have l:i∈Region.ready .any cops c:=by refine mem_ready.2 ⟨D,cops[i]'(by omega),Um _,fun e S hb=> ?_⟩;(have hp:SR cops i e.on=true:=by unfold SR;rw[Um (by omega)];simp only;rw[Jw];exact⟨e,S,by simp[hb]⟩);have hlt:=s i e.on hp;rcases R c e.on M (by omega)with U | U;have:e.on∈rem xs.length c:=LQ.2 ⟨by omega,U⟩;rw[n]at this;rcases Zf.1 this with h4 | h4;omega;have:=((Uo.1 d).1) _ h4;omega;exact U);rw[W]at l;cases l;obtain⟨p,o,D,U⟩:=mem_ready.1 G;(have u:i < xs.length:=by rw[z];exact(N6.1 D).1);have t:=LQ.2 ⟨u,p⟩;(have r: ∀k,SR cops i k=true->c.getD k false=true:=fun k q=>by unfold SR at q;rw[D]at q;simp only at q;rw[Jw]at q;obtain⟨e,S,q⟩:=q;simp only[Qr,QM]at q;rw[<- q.2];exact U e S q.1);have d: (rem xs.length c).Pairwise (· < ·):=Gm _ List.pairwise_lt_range;(have V: ∀j∈rem xs.length c,j < i->Ic (KA xs j) (KA xs i)=true:=fun j y hji=>by unfold F0 at C;rw[X0]at C;have:=C i (O4.2 u);rw[X0]at this;have:=this j (O4.2 hji);simp only[WI]at this;rcases this with h | h;exact h;have hL:=Qa4 (L:=fun j=>c.getD j false=true) g _ i j r h;obtain⟨k1,J⟩:=LQ.1 y;rw[Ns,Um (by omega)]at hL J;simp only[Pj]at hL J;rw[hL]at J;cases J);obtain⟨σ',g1,g2⟩:=Ir (KA xs) i _ σ H d t V Y;(have hnD: ¬c.getD i false=true:=fun h=>by rw[Ns,Um (by omega)]at h p;simp only[Pj]at h p;rw[h]at p;cases p);refine Hb hI hE hK hG hGb hT x (QdZ u) hnD r g hRS g1 fun Z w' m' E B k1 J=> ?_;(have A: ∀j,(c.setIfInBounds i true).getD j false=true->c.getD j false=true\/j=i:=fun j y=>by by_cases e:j=i;exact .inr e;rw[getD_set_ne false (fun h=>e h.symm)]at y;exact .inl y);(have hself: (c.setIfInBounds i true).getD i false=true:=by simp[M,u]);refine ih (c.setIfInBounds i true) σ' Z w' m' E B (by simpa using M) ?_ ?_ (fun j k y q=> ?_) k1 (fun en hen y hg=>J en hen (A _ y) hg);rw[Du M t,List.length_erase_of_mem t,O];rfl;rwa[Du M t];rcases A j y with h | h;exact getD_set_true (g j k h q);rw[h]at q;exact getD_set_true (r k q)
def Ql1 [Dr]: (List.range xs.length).map (KA xs)=xs:=by
 apply U4;intro i;rw[Pi];by_cases b:i < xs.length;rw[List.getElem?_range b,QdZ b];rfl;rw[ZF (by simp;omega),ZF (by omega)];rfl
def BA:=@List.filter_eq_self
def Qa5 [Dr] {o} (n:P.follows .mixedOrders=true) (E:Ue P num) (z:KOk P num o K) (s:o.G w0) (l:o.Gb<=w0.heap.size) (y: ∀b,T b->o.Gb<=b) {i H q}
  (e:Cb P num N q cops xs=true) (B:Inv num N w0 m0 T β0 σ a w m β ν) (J:YP K xs σ=some i) (D: ∀u w' L r p,Inv num N w0 m0 T β0 i u w' L r p->Q .normal u w'):
  (Code.region H cops q).wp P Q a w:=by
 cases q;simp only[Cb,Xn,ZT]at e;refine wp_region ?_;rw[List.range_eq_range',<- Il e];exact FJ E z s l y e D xs.length 0 σ a w m β ν (by omega) (by simpa using J) B (fun C _ g _=>absurd g (by omega));simp only[Cb,QT,Qr]at e;obtain⟨⟨A,I⟩,M⟩:=e;refine wp_region_any n ?_;have c:=Il A;have d:rem xs.length (Array.replicate cops.size false)=List.range xs.length:=by unfold rem;rw[BA];intro x t;rw[O4]at t;simp[<- c,t]
 have G: ∀j,(Array.replicate cops.size false).getD j false=false:=fun j=>by rw[Ns];by_cases h:j < cops.size <;> simp[h]
 rw[<- c];have f: ∀j,(Array.replicate xs.length false).getD j false=false:=by rwa[c]
 rw[<- c]at d;exact Qf4 E z s l y A I M D xs.length _ σ a w.drew m β ν (by simp) (by rw[d];simp) (by rwa[d,Ql1]) (fun j k g _=>by rw[f]at g;cases g) B.drew (fun C _ g _=>by simp only[(f C.j)]at g;cases g)
def X8 (P:Program) (num:WL) (N:Nat):AC->Code->Bool
 | .bad,_=>true
 | .skip,.skip=>true
 | .reg dr xs,.region _ ops dr2=>decide (dr=dr2) && Cb P num N dr ops xs
 | .seq a b,.seq c d=>X8 P num N a c && X8 P num N b d
 | .cond c a b,.cond c2 a2 b2=>okO num c c2 && X8 P num N a a2 && X8 P num N b b2
 | .block id c,.block id2 c2=>decide (id=id2) && X8 P num N c c2
 | .loop c,.loop c2=>X8 P num N c c2
 | .exit id,.exit id2=>decide (id=id2)
 | .ret,.ret=>true
 | _,_=>false
def Ex.toExit:Ex->Exit
 | .normal=> .normal
 | .exit i=> .exit i
 | .ret=> .ret
def UJ [Dr] {J} (H:P.follows .mixedOrders=true) (S:Ue P num) (X:KOk P num J K) (V:J.G w0) (M:J.Gb<=w0.heap.size) (Z: ∀b,T b->J.Gb<=b) {n}:
  ∀c z,X8 P num N c z=true->∀σ a w m β ν r f Q,
   Z5 K n c σ=some (r,f)->Inv num N w0 m0 T β0 σ a w m β ν->(∀A w' B l p,Inv num N w0 m0 T β0 f A w' B l p->Q r.toExit A w')->z.wp P Q a w:=by
 intro c;induction c with | bad=>intro z d σ a w m β ν r f Q j;simp[Z5]at j | skip=>intro z d σ a w m β ν r f Q j q u;cases z <;> simp[X8]at d;simp only[Z5,QV,Zm]at j;obtain⟨rfl,rfl⟩:=j;exact wp_skip (u a w m β ν q) | reg dr xs=>intro z d σ a w m β ν r f Q j q u;(cases z <;> simp only[X8,Qr,QM]at d <;> try cases d;done);obtain⟨rfl,d⟩:=d;simp only[Z5]at j;rcases D:YP K xs σ with _ | s;rw[D]at j;cases j;rw[D]at j;simp only[Zy,QV,Zm]at j;obtain⟨rfl,rfl⟩:=j;exact Qa5 H S X V M Z d q D u | seq x y t E=>intro z d σ a w m β ν r f Q j q u;(cases z <;> simp only[X8,Qr]at d <;> try cases d;done);refine wp_seq ?_;simp only[Z5]at j;split at j;rename_i s D;refine t _ d.1 σ a w m β ν .normal s _ D q fun A w' B l p k=> ?_;exact E _ d.2 s A w' B l p r f Q j k u;rename_i C;refine t _ d.1 σ a w m β ν r f _ j q fun A w' B l p k=> ?_;cases r;exact absurd j (C f);exact u A w' B l p k;exact u A w' B l p k | cond c x y t E=>intro z d σ a w m β ν r f Q j q u;(cases z <;> simp only[X8,Qr]at d <;> try cases d;done);obtain⟨⟨R,D⟩,h2⟩:=d;simp only[Z5]at j;split at j;rename_i G;have g:=(q.val R (by rw[G];rfl)).1;rw[G]at g;simp only[Qh]at g;exact wp_cond_true g (t _ D σ a w m β ν r f Q j q u);rename_i G;have g:=(q.val R (by rw[G];rfl)).1;rw[G]at g;simp only[Qh]at g;exact wp_cond_false g (E _ h2 σ a w m β ν r f Q j q u);cases j | block U x t=>intro z d σ a w m β ν r f Q j q u;(cases z <;> simp only[X8,Qr,QM]at d <;> try cases d;done);obtain⟨rfl,d⟩:=d;refine wp_block ?_;simp only[Z5]at j;split at j;rename_i i s D;simp only[QV,Zm]at j;obtain⟨rfl,rfl⟩:=j;refine t _ d σ a w m β ν (.exit i) s _ D q fun A w' B l p k=> ?_;have I:=u A w' B l p k;simp only[Ex.toExit,Exit.inBlock];split;rename_i e;rwa[Qe e]at I;rename_i e;rwa[Qb e]at I;rename_i C;refine t _ d σ a w m β ν r f _ j q fun A w' B l p k=> ?_;have I:=u A w' B l p k;cases r;exact I;exact absurd j (C _ _);exact I | loop x t=>intro z d σ a w m β ν r f Q j q u;(cases z <;> simp only[X8]at d <;> try cases d;done);rename_i W;simp only[Z5]at j;refine wp_loop_rounds n ?_;(have O: ∀(k:Nat) (σ:St) (a:Act) (w:World) (m:Xs) (β:UH) (ν:Own),SZ (Z5 K n x) k σ=some (r,f)->Inv num N w0 m0 T β0 σ a w m β ν->Code.rounds P W Q k a w:=by intro k;induction k with | zero=>intro σ a w m β ν h;simp[SZ]at h | succ k Y=>intro σ a w m β ν h q;rw[rounds_succ];simp only[SZ]at h;split at h;rename_i s D;refine t _ d σ a w m β ν .normal s _ D q fun A w' B l p L=> ?_;exact Y s A w' B l p h L;rename_i C;refine t _ d σ a w m β ν r f _ h q fun A w' B l p L=> ?_;cases r;exact absurd h (C f);exact u A w' B l p L;exact u A w' B l p L);exact O n σ a w m β ν j q | exit U=>intro z d σ a w m β ν r f Q j q u;(cases z <;> simp only[X8,QM]at d <;> try cases d;done);subst d;simp only[Z5,QV,Zm]at j;obtain⟨rfl,rfl⟩:=j;exact wp_exit (u a w m β ν q) | ret=>intro z d σ a w m β ν r f Q j q u;cases z <;> simp[X8]at d;simp only[Z5,QV,Zm]at j;obtain⟨rfl,rfl⟩:=j;exact wp_ret (u a w m β ν q)
end
end Go.Am
