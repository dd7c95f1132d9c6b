/-
  Am26, Am20, Am27, Am29.
-/
import Derived.Test.YtmlbinmlblbfgaaGreatDoorG09
import Derived.SizedLaws
import Derived.Deep.Slices
import Derived.ChangeArms
import Derived.DataReads
import Derived.Carry
import Derived.ReadAgain
import Derived.ChangeSame
import Derived.OpenShut
import Derived.Stop.LaidErr
set_option linter.all false
namespace Go.Am
def mW (w:World):Q9:=fun b=>match w.heap[b]? with
 | some (.cells c _ _)=>c.size
 | _=>0
def Qbx (w:World) (b i:Nat):hg w (mW w) b i=w.cell? ⟨b,i,none⟩:=by
 unfold hg mW World.cell?;cases h:w.heap[b]? with
 | none=>simp
 | some o=>
  cases o <;> simp
def Jq (R:TypeId->Qf->Prop):List Field->Qf->Prop
 | [],avs=>avs=[]
 | f:: fs,avs=>∃p q,avs=p ++ q/\R f.type p/\Jq R fs q
def Shp (B:Nat) (P:Program):Nat->TypeId->Qf->Prop
 | 0,_,_=>False
 | n+1,t,avs=>match P.underlying t with
  | some (.int k)=>∃i,avs=[.int k i]/\(Lit.int k i).wf=true
  | some .bool=>∃b,avs=[.bool b]
  | some .string=>∃s:Qb,avs=[.str s]/\s.length<=B
  | some (.slice e)=>∃xs:Qd,avs=[.sl false (P.cellsOf e) xs]/\xs.length*P.bytesOf e<=B/\∀x∈xs,Shp B P n e x
  | some (.struct fs)=>Jq (Shp B P n) fs.toList avs
  | _=>False
def IB (P:Program) (tot:Nat):List Field->Nat->Bool
 | [],o=>decide (o=tot)
 | f:: fs,o=>decide (f.offset=o) && IB P tot fs (o+P.cellsOf f.type)
def FW (P:Program) (S:List TypeId):Bool:=S.all fun t=>match P.underlying t with
 | some (.int _)=>decide (P.cellsOf t=1)
 | some .bool=>decide (P.cellsOf t=1)
 | some .string=>decide (P.cellsOf t=1)
 | some (.slice e)=>S.contains e && decide (0 < P.cellsOf e) && decide (P.cellsOf t=1)
 | some (.struct fs)=>fs.toList.all (fun f=>S.contains f.type) && IB P (P.cellsOf t) fs.toList 0
 | _=>false
def GF {α:Type} {Q:Nat->α->Prop}: ∀{n:Nat},(∀i,i < n->∃x,Q i x)->∃xs:List α,xs.length=n/\∀i x,xs[i]? =some x->Q i x
 | 0,_=>⟨[],rfl,fun i x h=>by simp at h⟩
 | n+1,h=>by
  obtain⟨xs,h1,h2⟩:=GF (n:=n) fun i hi=>h i (by omega);obtain⟨x,hx⟩:=h n (by omega);refine⟨xs ++ [x],by simp[h1],fun i y hy=> ?_⟩;rcases Nat.lt_trichotomy i n with hi | hi | hi
  ·rw[ZO (by omega)]at hy;exact h2 i y hy
  ·subst hi;rw[Yn (by omega),h1,Nat.sub_self]at hy;simp at hy;subst hy;exact hx
  ·rw[QT (by simp;omega)]at hy;cases hy
def HZ {H:Type} {P:Program} {e:TypeId} {ds:List (DataW H)}: ∀{d:DataW H},d∈ds->∀n∈d.weights P e,n∈DataW.weightsAll P e ds:=by
 induction ds with
 | nil=>intro d h;cases h
 | cons a ds ih=>
  intro d h n hn;simp only[DataW.weightsAll,Wd];rcases Yd.1 h with rfl | h
  ·exact .inl hn
  ·exact .inr (ih h n hn)
section
variable {B:Nat} {H:Type} {enc:TypeId×Value->H} {P:Program} {w:World} {base:Nat} {spare:Nat->Bool} {held:Bool} {num:Nat->Option Nat} {β:List Blk} {S:List TypeId}
def TZ:=@List.drop_drop
def Ew [Dr] (hS:FW P S=true): ∀(fuel:Nat) (t:TypeId) (cs:Q8) (x:DataW H×List MemPlace),t∈S->DataW.trod enc P w base spare held fuel t cs=some x->
  (∀n∈x.1.weights P t,n<=B)->∃avs,Shp B P fuel t avs/\avs.length=cs.length/\cs.length=P.cellsOf t/\Z2 num β w (mW w) avs (fun i=>cs[i]?) 0:=by
 intro fuel
 induction fuel with
 | zero=>intro t cs x _ h;simp[DataW.trod]at h
 | succ fuel ih=>
  intro t cs x ht h hwt;have hs:=YF.1 hS t ht;simp only[Shp];split at hs
  ·rename_i k hu;simp only[Qm]at hs;obtain⟨n,rfl,rfl,hwf⟩:=DataW.trod_int hu h;exact⟨_,⟨n,rfl,hwf⟩,rfl,by rw[hs];rfl,by simp[Z2,Qa];rfl⟩
  ·rename_i hu;simp only[Qm]at hs;have: ∃b,cs=[.bool b]:=by
    unfold DataW.trod at h;rw[hu]at h;split at h <;> simp_all
   obtain⟨b,rfl⟩:=this;exact⟨_,⟨b,rfl⟩,rfl,by rw[hs];rfl,by simp[Z2,Qa];rfl⟩
  ·rename_i hu;simp only[Qm]at hs;obtain⟨s,rfl,rfl,hmx⟩:=DataW.trod_string hu h;refine⟨_,⟨s.data.toList,rfl,hwt _ (by simp[DataW.weights])⟩,rfl,by rw[hs];rfl,?_⟩;simp only[Z2,Qa];exact⟨⟨_,rfl,rfl,by simp⟩,trivial⟩
  ·rename_i e hu;simp only[Qi,Qm]at hs;obtain⟨⟨hse,hc0⟩,hc1⟩:=hs;have he:e∈S:=by simpa using hse
   rcases DataW.trod_slice hu h with⟨rfl,rfl⟩ | ⟨a,len,cap,elems,rest,n,hn,rfl,rfl,hb,hl,hm,hlen,hel,_,_⟩
   ·refine⟨_,⟨[],rfl,by simp,by simp⟩,rfl,by rw[hc1];rfl,?_⟩;simp only[Z2,Qa];exact⟨⟨_,rfl,rfl,none,0,0,rfl,rfl,Za _,Te _,.inl trivial⟩,trivial⟩
   ·injection hn with hn
    subst hn;have hel2: ∀i,i < len->∃av,Shp B P fuel e av/\av.length=P.cellsOf e/\∃cs':Q8,(∀j,j < P.cellsOf e->w.cell? ((a.add (i*P.cellsOf e)).add j)=cs'[j]?)/\cs'.length=P.cellsOf e/\Z2 num β w (mW w) av (fun j=>cs'[j]?) 0:=by
     intro i hi;have h1:=hel i hi;have h2:elems[i]? =some (elems[i]'(by omega)):=Zr (by omega);rw[h2]at h1;obtain⟨cs',g1,g2⟩:=Ju.1 h1;obtain⟨_,g3,g4⟩:=World.cells?_some g1;obtain⟨av,k1,k2,k3,k4⟩:=ih e cs' _ he g2 (fun n hn=>hwt n (by
      simp only[DataW.weights,hu,Yd,Wd];right;left
      refine HZ (d:=(elems[i]'(by omega)).1) ?_ n hn;exact Td.2 ⟨_,JK _,rfl⟩))
     exact⟨av,k1,by rw[k2,k3],cs',g4,g3,k4⟩
    obtain⟨xs,x1,x2⟩:=GF hel2;refine⟨_,⟨xs,rfl,?_,fun x hx=> ?_⟩,rfl,by rw[hc1];rfl,?_⟩
    ·have:=hwt ((elems.length+rest.length)*P.bytesOf e) (by simp[DataW.weights,hu]);refine Vb (ZZ _ ?_) this;omega
    ·obtain⟨i,hi⟩:=Ta hx;exact(x2 i x hi).1
    ·simp only[Z2,Qa];refine⟨⟨_,rfl,rfl,some a,len,cap,rfl,x1,hl,hm,?_⟩,trivial⟩;by_cases h0:xs=[]
     ·exact .inl h0
     ·right;have hl0:0 < len:=by rw[<- x1];exact WY.2 h0
      have hsp:a.spot=none:=by
       obtain⟨av,_,_,cs',g4,g3,_⟩:=hel2 0 hl0;have h1:=g4 0 hc0;rw[Zr (by omega)]at h1;unfold World.cell? at h1;split at h1
       ·split at h1
        ·cases h1
        ·rename_i hq;simpa[Addr.add]using hq
       ·cases h1
      obtain⟨ab,ao,asp⟩:=a;simp only at hsp;subst hsp;refine⟨ab,ao,rfl,?_⟩;rw[Yk];intro i x hx;obtain⟨k1,k2,cs',g4,g3,k4⟩:=x2 i x hx;refine⟨k2,?_⟩;rw[Zp]at k4 ⊢;intro j c hj;obtain⟨u,u1,u2,u3⟩:=k4 j c hj;have hjl:j < P.cellsOf e:=by
       rcases QL j x.length with hh | hh
       ·omega
       ·rw[QT hh]at hj;cases hj
      refine⟨u,?_,u2,u3⟩;rw[Qbx];have:=g4 j hjl;simp only[QP]at u1;rw[u1,ZI,ZI]at this;exact this
  ·rename_i fs hu;simp only[Qi]at hs;obtain⟨hs1,hs2⟩:=hs;obtain⟨xs,n,hn,rfl,hcl,hxl,hf⟩:=DataW.trod_struct hu h;injection hn with hn
   subst hn;have key: ∀(l:List Field) (k o:Nat),fs.toList.drop k=l->IB P (P.cellsOf t) l o=true->∃avs,Jq (Shp B P fuel) l avs/\avs.length+o=P.cellsOf t/\Z2 num β w (mW w) avs (fun i=>cs[i]?) o:=by
    intro l
    induction l with
    | nil=>
     intro k o _ hl;simp only[IB,Qm]at hl;exact⟨[],rfl,by simpa using hl,by simp[Z2]⟩
    | cons f l ihl=>
     intro k o hk hl;simp only[IB,Qi,Qm]at hl;obtain⟨rfl,hl2⟩:=hl;have hkf:fs.toList[k]? =some f:=by
      have: (fs.toList.drop k)[0]? =some f:=by rw[hk];rfl
      simpa using this
     have hk2:fs.toList.drop (k+1)=l:=by
      rw[<- TZ,hk];rfl
     obtain⟨q,q1,q2,q3⟩:=ihl (k+1) _ hk2 hl2;have hkf2:fs[k]? =some f:=by simpa using hkf
     have hfm:f.type∈S:=by
      have:=YF.1 hs1 f (WW hkf);simpa using this
     have h1:=hf k f hkf2;have hkl:k < xs.length:=by
      rw[hxl];exact(Rc.1 hkf2).1
     rw[Zr hkl]at h1;obtain⟨p,p1,p2,p3,p4⟩:=ih f.type _ _ hfm h1 (fun n hn=>hwt n (by
      simp only[DataW.weights,hu];exact DataW.weights_mem_each (j:=k) (t:=f.type) (d:=xs[k].1) (by simp[hkf2]) (by simp[Zr hkl]) n hn))
     rw[p3]at p2;refine⟨p ++ q,⟨p,q,rfl,p1,q1⟩,by simp;omega,?_⟩;rw[Zp]at p4 q3 ⊢;intro i c hi;by_cases hil:i < p.length
     ·rw[ZO hil]at hi;obtain⟨u,u1,u2,u3⟩:=p4 i c hi;refine⟨u,?_,u2,u3⟩;simp only[QP]at u1;rw[Ws]at u1;split at u1
      ·rwa[YM]at u1
      ·cases u1
     ·rw[Yn (by omega)]at hi;obtain⟨u,u1,u2,u3⟩:=q3 (i - p.length) c hi;refine⟨u,?_,u2,u3⟩;rwa[show f.offset+P.cellsOf f.type+ (i - p.length)=f.offset+i by omega]at u1
   obtain⟨avs,a1,a2,a3⟩:=key fs.toList 0 0 (by simp) hs2;exact⟨avs,a1,by omega,hcl,a3⟩
  ·cases hs
end
end Go.Am
namespace Go.Am
def KLe (K K':ZJ):Prop:=∀f args bs r,K f args bs=some r->K' f args bs=some r
def CR {K K':ZJ} (h:KLe K K') {op:AOp} {σ:St} {p:AV×St} (he:Qg K op σ=some p):Qg K' op σ=some p:=by
 cases op <;> try exact he
 case call f args=>
  simp only[Qg]at he ⊢;split at he
  ·rename_i hok;rw[Qh hok];cases hk:K f (args.map (val σ.env)) σ.bs with
   | none=>rw[hk]at he;cases he
   | some r=>rw[hk]at he;rw[h _ _ _ _ hk];exact he
  ·cases he
 case callq f args=>
  simp only[Qg]at he ⊢;split at he
  ·rename_i hok;rw[Qh hok];cases hk:K f (args.map (val σ.env)) σ.bs with
   | none=>rw[hk]at he;cases he
   | some r=>rw[hk]at he;rw[h _ _ _ _ hk];exact he
  ·cases he
 case callv g args=>
  simp only[Qg]at he ⊢;split at he
  ·rename_i f caps hf;split at he
   ·rename_i hok;rw[Qh hok];cases hk:K f (args.map (val σ.env)++ caps) σ.bs with
    | none=>rw[hk]at he;cases he
    | some r=>rw[hk]at he;rw[h _ _ _ _ hk];exact he
   ·cases he
  ·rename_i f caps hf;split at he
   ·rename_i hok;rw[Qh hok];cases hk:K f (caps ++ args.map (val σ.env)) σ.bs with
    | none=>rw[hk]at he;cases he
    | some r=>rw[hk]at he;rw[h _ _ _ _ hk];exact he
   ·cases he
  ·cases he
def NU {K K':ZJ} (h:KLe K K') {o:Qy} {σ s:St} (he:Zw K o σ=some s):Zw K' o σ=some s:=by
 have key: ((Qg K o.op σ).map fun p=>({p.2 with env:=ZS p.2.env o.dst p.1}:St))=some s->((Qg K' o.op σ).map fun p=>({p.2 with env:=ZS p.2.env o.dst p.1}:St))=some s:=fun he=>by
  cases hx:Qg K o.op σ with
  | none=>rw[hx]at he;cases he
  | some p=>rw[hx]at he;rw[CR h hx];exact he
 unfold Zw at he ⊢;split at he
 ·exact key he
 ·split at he
  ·split at he
   ·rename_i hc;rw[Qh hc];exact key he
   ·rename_i hc;rw[Qe hc];exact he
  ·exact he
  ·cases he
def VH {K K':ZJ} (h:KLe K K'): ∀{os:ZH} {σ s:St},Zz K os σ=some s->Zz K' os σ=some s
 | [],_,_,he=>he
 | o:: os,σ,s,he=>by
  simp only[Zz]at he ⊢;cases ho:Zw K o σ with
  | none=>rw[ho]at he;cases he
  | some s1=>
   rw[ho]at he;rw[NU h ho];exact VH h he
def Sn {f g:St->Option (Ex×St)} (h: ∀s x,f s=some x->g s=some x): ∀{n m:Nat} {σ:St} {x:Ex×St},n<=m->VB f n σ=some x->VB g m σ=some x
 | 0,_,_,_,_,he=>by simp[VB]at he
 | n+1,0,_,_,hnm,_=>by omega
 | n+1,m+1,σ,x,hnm,he=>by
  simp only[VB]at he ⊢;split at he
  ·rename_i s hf;rw[h _ _ hf];exact Sn h (by omega) he
  ·rename_i hne;have:=h _ _ he;rw[this];obtain⟨e,s⟩:=x;cases e
   ·exact absurd he (hne s)
   ·rfl
   ·rfl
def Sv {K K':ZJ} (h:KLe K K') {n m:Nat} (hnm:n<=m): ∀{c:AC} {σ:St} {x:Ex×St},Q7 K n c σ=some x->Q7 K' m c σ=some x:=by
 intro c
 induction c with
 | bad=>intro σ x he;simp[Q7]at he
 | skip=>intro σ x he;exact he
 | reg d ops=>
  intro σ x he;simp only[Q7]at he ⊢;cases ho:Zz K ops σ with
  | none=>rw[ho]at he;cases he
  | some s=>rw[ho]at he;rw[VH h ho];exact he
 | seq a b iha ihb=>
  intro σ x he;simp only[Q7]at he ⊢;split at he
  ·rename_i s ha;rw[iha ha];exact ihb he
  ·rename_i hne;rw[iha he];obtain⟨e,s⟩:=x;cases e
   ·exact absurd he (hne s)
   ·rfl
   ·rfl
 | cond c a b iha ihb=>
  intro σ x he;simp only[Q7]at he ⊢;split at he
  ·exact iha he
  ·exact ihb he
  ·cases he
 | block id c ih=>
  intro σ x he;simp only[Q7]at he ⊢;split at he
  ·rename_i i s hc;rw[ih hc];exact he
  ·rename_i hne;rw[ih he];obtain⟨e,s⟩:=x;cases e
   ·rfl
   ·exact absurd he (hne _ s)
   ·rfl
 | loop c ih=>
  intro σ x he;simp only[Q7]at he ⊢;exact Sn (fun s x hx=>ih hx) hnm he
 | exit id=>intro σ x he;exact he
 | ret=>intro σ x he;exact he
def XR {T:Xx}: ∀{n m:Nat},n<=m->KLe (ZV T n) (ZV T m)
 | 0,_,_=>fun _ _ _ _ h=>by simp[ZV]at h
 | n+1,0,h=>by omega
 | n+1,m+1,h=>fun f args bs r he=>by
  simp only[ZV]at he ⊢;split at he
  ·cases he
  ·rename_i g hg;exact he
  ·rename_i fn hf;split at he
   ·rename_i hl;rw[Qh hl];have hr: ∀x,Q7 (ZV T n) n fn.body {env:=Ys args,bs}=some x->Q7 (ZV T m) m fn.body {env:=Ys args,bs}=some x:=fun x hx=>Sv (XR (by omega)) (by omega) hx;split at he
    ·rename_i s hs;rw[hr _ hs];exact he
    ·rename_i s hs;rw[hr _ hs];exact he
    ·cases he
   ·cases he
open Classical in
noncomputable def call (T:Xx):ZJ:=fun f args bs=>if h: ∃r n,ZV T n f args bs=some r then some h.choose else none
open Classical in
noncomputable def run (T:Xx) (c:AC) (σ:St):Option (Ex×St):=if h: ∃x n,Q7 (ZV T n) n c σ=some x then some h.choose else none
section
variable {T:Nat->Option AFn}
def Pf:=@Nat.le_max_left
def Pb:=@Nat.le_max_right
def Vd {f:Nat} {args:Qf} {bs:Qd} {r:AV×Qd}:call T f args bs=some r↔∃n,ZV T n f args bs=some r:=by
 have huniq: ∀{r1 r2:AV×Qd} {n m:Nat},ZV T n f args bs=some r1->ZV T m f args bs=some r2->r1=r2:=fun {r1 r2 n m} h1 h2=>by
  have g1:=XR (T:=T) (Pf n m) _ _ _ _ h1;have g2:=XR (T:=T) (Pb n m) _ _ _ _ h2;rw[g1]at g2;injection g2
 unfold call;constructor
 ·intro h;split at h
  ·rename_i hx;injection h with h
   obtain⟨n,hn⟩:=hx.choose_spec;exact⟨n,h▸hn⟩
  ·cases h
 ·rintro⟨n,hn⟩
  have hx: ∃r n,ZV T n f args bs=some r:=⟨r,n,hn⟩;rw[dif_pos hx];obtain⟨m,hm⟩:=hx.choose_spec;rw[huniq hm hn]
def Zt {c:AC} {σ:St} {x:Ex×St}:run T c σ=some x↔∃n,Q7 (ZV T n) n c σ=some x:=by
 have huniq: ∀{r1 r2:Ex×St} {n m:Nat},Q7 (ZV T n) n c σ=some r1->Q7 (ZV T m) m c σ=some r2->r1=r2:=fun {r1 r2 n m} h1 h2=>by
  have g1:=Sv (XR (T:=T) (Pf n m)) (Pf n m) h1;have g2:=Sv (XR (T:=T) (Pb n m)) (Pb n m) h2;rw[g1]at g2;injection g2
 unfold run;constructor
 ·intro h;split at h
  ·rename_i hx;injection h with h
   obtain⟨n,hn⟩:=hx.choose_spec;exact⟨n,h▸hn⟩
  ·cases h
 ·rintro⟨n,hn⟩
  have hx: ∃x n,Q7 (ZV T n) n c σ=some x:=⟨x,n,hn⟩;rw[dif_pos hx];obtain⟨m,hm⟩:=hx.choose_spec;rw[huniq hm hn]
def Ls (n:Nat):KLe (ZV T n) (call T):=fun _ _ _ _ h=>Vd.2 ⟨n,h⟩
def AQ {op:AOp} {σ:St} {p:AV×St} (h:Qg (call T) op σ=some p): ∃n,Qg (ZV T n) op σ=some p:=by
 cases op <;> try exact⟨0,h⟩
 case call f args=>
  simp only[Qg]at h ⊢;split at h
  ·rename_i hok;simp only[hok,QF];cases hk:call T f (args.map (val σ.env)) σ.bs with
   | none=>rw[hk]at h;cases h
   | some r=>
    obtain⟨n,hn⟩:=Vd.1 hk;rw[hk]at h;exact⟨n,by rw[hn];exact h⟩
  ·cases h
 case callq f args=>
  simp only[Qg]at h ⊢;split at h
  ·rename_i hok;simp only[hok,QF];cases hk:call T f (args.map (val σ.env)) σ.bs with
   | none=>rw[hk]at h;cases h
   | some r=>
    obtain⟨n,hn⟩:=Vd.1 hk;rw[hk]at h;exact⟨n,by rw[hn];exact h⟩
  ·cases h
 case callv g args=>
  simp only[Qg]at h ⊢;split at h
  ·rename_i f caps hf;split at h
   ·rename_i hok;simp only[hok,QF];cases hk:call T f (args.map (val σ.env)++ caps) σ.bs with
    | none=>rw[hk]at h;cases h
    | some r=>
     obtain⟨n,hn⟩:=Vd.1 hk;rw[hk]at h;exact⟨n,by rw[hn];exact h⟩
   ·cases h
  ·rename_i f caps hf;split at h
   ·rename_i hok;simp only[hok,QF];cases hk:call T f (caps ++ args.map (val σ.env)) σ.bs with
    | none=>rw[hk]at h;cases h
    | some r=>
     obtain⟨n,hn⟩:=Vd.1 hk;rw[hk]at h;exact⟨n,by rw[hn];exact h⟩
   ·cases h
  ·cases h
def Bv {o:Qy} {σ s:St} (h:Zw (call T) o σ=some s): ∃n,Zw (ZV T n) o σ=some s:=by
 have key: ((Qg (call T) o.op σ).map fun p=>({p.2 with env:=ZS p.2.env o.dst p.1}:St))=some s->∃n,((Qg (ZV T n) o.op σ).map fun p=>({p.2 with env:=ZS p.2.env o.dst p.1}:St))=some s:=fun he=>by
  cases hx:Qg (call T) o.op σ with
  | none=>rw[hx]at he;cases he
  | some p=>
   obtain⟨n,hn⟩:=AQ hx;rw[hx]at he;exact⟨n,by rw[hn];exact he⟩
 unfold Zw at h ⊢;split at h
 ·exact key h
 ·split at h
  ·split at h
   ·rename_i hc;obtain⟨n,hn⟩:=key h;exact⟨n,by rw[Qh hc];exact hn⟩
   ·rename_i hc;exact⟨0,by rw[Qe hc];exact h⟩
  ·exact⟨0,h⟩
  ·cases h
def NV: ∀{os:ZH} {σ s:St},Zz (call T) os σ=some s->∃n,Zz (ZV T n) os σ=some s
 | [],_,_,h=>⟨0,h⟩
 | o:: os,σ,s,h=>by
  simp only[Zz]at h;cases ho:Zw (call T) o σ with
  | none=>rw[ho]at h;cases h
  | some s1=>
   rw[ho]at h;obtain⟨n,hn⟩:=Bv ho;obtain⟨m,hm⟩:=NV (os:=os) h;refine⟨max n m,?_⟩;simp only[Zz];rw[NU (XR (Pf n m)) hn];exact VH (XR (Pb n m)) hm
def Tk {n m:Nat} (h:n<=m) {c:AC} {σ:St} {x:Ex×St} (hr:Q7 (ZV T n) n c σ=some x):Q7 (ZV T m) m c σ=some x:=Sv (XR h) h hr
def TJ {α:Type} {a b:Option α} (h: ∀x,a=some x↔b=some x):a=b:=by
 cases a with
 | none=>cases b with
  | none=>rfl
  | some y=>exact absurd ((h y).2 rfl) (by simp)
 | some x=>exact((h x).1 rfl).symm
def I7 (σ:St):run T .skip σ=some (.normal,σ):=Zt.2 ⟨0,rfl⟩
def GQ (σ:St):run T .ret σ=some (.ret,σ):=Zt.2 ⟨0,rfl⟩
def I4 (id:Nat) (σ:St):run T (.exit id) σ=some (.exit id,σ):=Zt.2 ⟨0,rfl⟩
def GP (d:Bool) (ops:ZH) (σ:St):run T (.reg d ops) σ=(Zz (call T) ops σ).map fun s=>(.normal,s):=by
 apply TJ;intro x;rw[Zt];simp only[Q7];constructor
 ·rintro⟨n,h⟩
  cases ho:Zz (ZV T n) ops σ with
  | none=>rw[ho]at h;cases h
  | some s=>rw[ho]at h;rw[VH (Ls n) ho];exact h
 ·intro h;cases ho:Zz (call T) ops σ with
  | none=>rw[ho]at h;cases h
  | some s=>
   obtain⟨n,hn⟩:=NV ho;rw[ho]at h;exact⟨n,by rw[hn];exact h⟩
def GR (a b:AC) (σ:St):run T (.seq a b) σ=match run T a σ with
  | some (.normal,s)=>run T b s
  | r=>r:=by
 apply TJ;intro x;rw[Zt];constructor
 ·rintro⟨n,h⟩
  simp only[Q7]at h;split at h
  ·rename_i s hs;rw[Zt.2 ⟨n,hs⟩];exact Zt.2 ⟨n,h⟩
  ·rename_i hne;rw[Zt.2 ⟨n,h⟩];obtain⟨e,s⟩:=x;cases e
   ·exact absurd h (hne s)
   ·rfl
   ·rfl
 ·intro h;split at h
  ·rename_i s hs;obtain⟨n,hn⟩:=Zt.1 hs;obtain⟨m,hm⟩:=Zt.1 h;refine⟨max n m,?_⟩;simp only[Q7];rw[Tk (Pf n m) hn];exact Tk (Pb n m) hm
  ·rename_i hne;obtain⟨n,hn⟩:=Zt.1 h;refine⟨n,?_⟩;simp only[Q7];rw[hn];obtain⟨e,s⟩:=x;cases e
   ·exact absurd h (hne s)
   ·rfl
   ·rfl
def I3 (c:AO) (a b:AC) (σ:St):run T (.cond c a b) σ=match val σ.env c with
  | .bool true=>run T a σ
  | .bool false=>run T b σ
  | _=>none:=by
 apply TJ;intro x;rw[Zt];simp only[Q7];cases hv:val σ.env c <;> try simp
 rename_i b;cases b
 ·exact Zt.symm
 ·exact Zt.symm
def Li (id:Nat) (c:AC) (σ:St):run T (.block id c) σ=match run T c σ with
  | some (.exit i,s)=>some (if i=id then .normal else .exit i,s)
  | r=>r:=by
 apply TJ;intro x;rw[Zt];simp only[Q7];constructor
 ·rintro⟨n,h⟩
  split at h
  ·rename_i i s hs;rw[Zt.2 ⟨n,hs⟩];exact h
  ·rename_i hne;rw[Zt.2 ⟨n,h⟩];obtain⟨e,s⟩:=x;cases e
   ·rfl
   ·exact absurd h (hne _ s)
   ·rfl
 ·intro h;split at h
  ·rename_i i s hs;obtain⟨n,hn⟩:=Zt.1 hs;exact⟨n,by rw[hn];exact h⟩
  ·rename_i hne;obtain⟨n,hn⟩:=Zt.1 h;refine⟨n,?_⟩;rw[hn];obtain⟨e,s⟩:=x;cases e
   ·rfl
   ·exact absurd h (hne _ s)
   ·rfl
def I6 (c:AC) (σ:St):run T (.loop c) σ=match run T c σ with
  | some (.normal,s)=>run T (.loop c) s
  | r=>r:=by
 apply TJ;intro x;rw[Zt];constructor
 ·rintro⟨n,h⟩
  simp only[Q7]at h;cases n with
  | zero=>simp[VB]at h
  | succ n=>
   simp only[VB]at h;split at h
   ·rename_i s hs;rw[Zt.2 ⟨n+1,hs⟩];refine Zt.2 ⟨n+1,?_⟩;simp only[Q7];exact Sn (fun _ _ h=>h) (by omega) h
   ·rename_i hne;rw[Zt.2 ⟨n+1,h⟩];obtain⟨e,s⟩:=x;cases e
    ·exact absurd h (hne s)
    ·rfl
    ·rfl
 ·intro h;split at h
  ·rename_i s hs;obtain⟨n,hn⟩:=Zt.1 hs;obtain⟨m,hm⟩:=Zt.1 h;refine⟨max n m+1,?_⟩;simp only[Q7]at hm ⊢;simp only[VB];rw[Tk (m:=max n m+1) (by omega) hn];exact Sn (fun s x hx=>Tk (by omega) hx) (by omega) hm
  ·rename_i hne;obtain⟨n,hn⟩:=Zt.1 h;refine⟨n+1,?_⟩;simp only[Q7,VB];rw[Tk (m:=n+1) (by omega) hn];obtain⟨e,s⟩:=x;cases e
   ·exact absurd h (hne s)
   ·rfl
   ·rfl
def Mi (f:Nat) (args:Qf) (bs:Qd):call T f args bs=match T f with
  | none=>none
  | some (.orc g)=>g args bs
  | some (.code fn)=>
   if args.length=fn.nparams then
    match run T fn.body {env:=Ys args,bs}with
    | some (.normal,σ)=>Yj fn bs σ
    | some (.ret,σ)=>Yj fn bs σ
    | _=>none
   else none:=by
 apply TJ;intro x;rw[Vd];constructor
 ·rintro⟨n,h⟩
  cases n with
  | zero=>simp[ZV]at h
  | succ n=>
   simp only[ZV]at h;split at h
   ·cases h
   ·rename_i g hg;simp only[hg];exact h
   ·rename_i fn hf;simp only[hf];split at h
    ·rename_i hl;rw[Qh hl];split at h
     ·rename_i s hs;rw[Zt.2 ⟨n,hs⟩];exact h
     ·rename_i s hs;rw[Zt.2 ⟨n,hs⟩];exact h
     ·cases h
    ·cases h
 ·intro h;split at h
  ·cases h
  ·rename_i g hg;exact⟨1,by simp only[ZV,hg];exact h⟩
  ·rename_i fn hf;split at h
   ·rename_i hl;split at h
    ·rename_i s hs;obtain⟨n,hn⟩:=Zt.1 hs;exact⟨n+1,by simp only[ZV,hf,hl,QF,hn];exact h⟩
    ·rename_i s hs;obtain⟨n,hn⟩:=Zt.1 hs;exact⟨n+1,by simp only[ZV,hf,hl,QF,hn];exact h⟩
    ·cases h
   ·cases h
end
end Go.Am
namespace Go.Am
open Go.RowKit Go.ChangeShapes Go.WideShapes
section
variable {P:Program} {num:Nat->Option Nat} {tb:Nat->Option AFn} {W:World}
section
variable {H:Type} {enc:TypeId×Value->H} {S:List TypeId} {base b0:Nat} {spare:Nat->Bool} {held:Bool} {r:Reach}
def Tt (K:Kids P (· < P.types.size)) (hz: ∀t e,t < P.types.size->P.underlying t=some (.slice e)->0 < P.cellsOf e) {W':World} (hb:Below W.heap.size W W') {sp:Nat->Bool}:
  ∀{ts:List TypeId} {vs:Q8} {ds:List (DataW H)} {ps:List MemPlace},(∀t∈ts,t < P.types.size)->DataW.TrodAll enc P W 0 (fun _=>true) true ts vs ds ps->(∀p∈ps,p.block < W.heap.size)->(∀p∈ps,sp p.block=true)->
   DataW.TrodAll enc P W' 0 sp true ts vs ds ps
 | [],[],[],_,_,h,_,_=>h
 | _:: _,_:: _,_:: _,_,hT,⟨p,q,⟨n,h1⟩,h2,e⟩,hlt,hs=>by
  subst e;refine⟨p,q,⟨n,?_⟩,Tt K hz hb (fun t ht=>hT t (O9 _ ht)) h2 (fun x hx=>hlt x (Jx _ hx)) (fun x hx=>hs x (Jx _ hx)),rfl⟩;exact DataW.trod_carry n _ _ _ (DataW.trod_respare K hz n _ _ _ (hT _ (List.mem_cons_self ..)) h1 (fun x hx=>hs x (Jz _ hx))) (fun x hx=>hb.same (hlt x (Jz _ hx)))
def post_of_below {f:Func} {s:ChangeSpec} {apart fresh handsOn again:Bool} {W W':World} {args:QW} {v:Value} {ds gs:List (DataW H)} {before pa pv:List MemPlace}
  (hW:DataW.Whole enc P f.params.toList s.vars apart W args.toList ds gs before)
  (hres: ∀(b:Nat) (sp:Nat->Bool) (hd:Bool),DataW.TrodAll enc P W' b sp hd f.resultTypes.toList (v.resultList f.resultTypes.size) (s.fn H (ds ++ gs)).results [])
  (hargs: ∀sp:Nat->Bool,(∀p∈before,sp p.block=true)->DataW.TrodAll enc P W' 0 sp true f.params.toList args.toList (s.fn H (ds ++ gs)).args pa)
  (hvars: ∀sp:Nat->Bool,(∀p∈before,sp p.block=true)->DataW.TrodVars enc P W' sp s.vars (s.fn H (ds ++ gs)).vars pv)
  (hps:before=pa ++ pv) (hb:Below W.heap.size W W')
  (hok: ∀(j:Nat) (t:TypeId) (r:Value),f.resultTypes[j]? =some t->(v.resultList f.resultTypes.size)[j]? =some r->Value.okWide P W' .any 0 t r):
  s.post enc P f apart fresh handsOn again W args v W':=by
 have hlt: ∀p∈before,p.block < W.heap.size:=fun p hp=>hW.lt p hp;have hold: ∀p∈before,(fun b=>decide (b < W.heap.size)) p.block=true:=fun p hp=>by simpa using hlt p hp
 refine⟨ds,gs,before,[],pa,pv,hW,hres _ _ _,hargs _ hold,hvars _ hold,World.keptBut_mono (fun p hp=>⟨hp,?_⟩) (hb.frame (·∈before)),fun _=> ?_⟩
 ·rw[hps,Wd]at hp;exact Or.inr hp
 ·obtain⟨_,_,_,_,_,hz,hn⟩:=hW;refine⟨hok,_,_,([]++ pa)++ pv,⟨[]++ pa,pv,trodAll_append (hargs _ (fun _ _=>rfl)) (hres _ _ _),hvars _ (fun _ _=>rfl),rfl,?_,?_⟩,?_⟩
  ·intro b off hp;have hin:MemPlace.cell b off∈before:=by rw[hps];simpa using hp
   rw[hb.frozen (hlt _ hin)];exact hz b off hin
  ·intro ha;have:=hn ha;rw[hps]at this;simpa using this
  ·intro p hp _;rw[hps];simpa using hp
end
end
end Go.Am
namespace Go.Am
open Go.RowKit Go.ChangeShapes Go.WideShapes
def Gg {w:World} {g:Nat} {u:Value} (h:w.cell? ⟨g,0,none⟩=some u):g < w.heap.size:=by
 rcases QL g w.heap.size with h1 | h1
 ·exact h1
 ·unfold World.cell? at h;rw[XN h1]at h;cases h
def MO [Dr] {X:Nat->Prop} {w w':World} {m m':Q9} {B:Nat} (hS:Zm X w m w' m') (hX: ∀b,X b->B<=b) (hb:B<=w.heap.size) {g:Nat} (hg:g < B):w'.cell? ⟨g,0,none⟩=w.cell? ⟨g,0,none⟩:=by
 unfold World.cell?;rw[(hS.same g (by omega) (fun hx=>by have:=hX g hx;omega)).1]
def Yo [Dr] (P:Program) (gT gM:Nat):Z1 where
 G:=fun w m=>So P w/\(∃v,w.cell? ⟨gM,0,none⟩=some (.int .i64 v))/\∃u,w.cell? ⟨gT,0,none⟩=some u/\u.oneCell'=true/\∀num,Qa num [] w m (SE 0) u
 nm:=fun k g=>k=0/\g=gT
 tab:=fun w m k g num hG hk=>by
  obtain⟨rfl,rfl⟩:=hk;obtain⟨-,-,u,h1,h2,h3⟩:=hG;exact⟨u,h1,h2,h3 num⟩
 Gb:=max (SB P) (max gT gM+1)
 step:=fun X w m w' m' hS hX hb hG=>by
  obtain⟨h1,⟨v,h2⟩,u,h3,h4,h5⟩:=hG;refine⟨?_,⟨v,?_⟩,u,?_,h4,fun num=>QU (Ge.refl _) hS.le _ _ (h5 num)⟩
  ·unfold So Lib.TabIs at *;rw[UV hS hX hb (by unfold SB;omega),UV hS hX hb (by unfold SB;omega),UV hS hX hb (by unfold SB;omega)];exact h1
  ·rw[MO hS hX hb (by omega)];exact h2
  ·rw[MO hS hX hb (by omega)];exact h3
def A0 [Dr] {P:Program} {gT gM:Nat} {w:World} {m:Q9} (h: (Yo P gT gM).G w m): (Yo P gT gM).Gb<=w.heap.size:=by
 obtain⟨h1,⟨v,h2⟩,u,h3,h4,h5⟩:=h;have a:=Qc2 h1;have b:=Gg h2;have c:=Gg h3
 show max _ _<=_;omega
def NM [Dr] {P:Program} {num:Z3} {tb:Xx} {W:World} {gT gM:Nat} (hF:N5 P num (Yo P gT gM) tb) {f g:Nat} (hnum:num f=some g) {args:Qf} {vs:QW} (hG: (Yo P gT gM).G W (mW W)) (hok:Yw args=true) (hvs:vs.size=args.length)
  (hrep: ∀(i:Nat) (c:AV),args[i]? =some c->∃u,vs[i]? =some u/\Qa num [] W (mW W) c u) (hc:call tb f args []=some (.bool true,[])):
  Calls P g vs W fun e W'=>e= .returned (.bool true)/\Below W.heap.size W W':=by
 obtain⟨n,hn⟩:=Vd.1 hc;refine((SA hF n).2 f g args [] _ _ hnum hn hok W (mW W) [] (fun _=>none) vs hG (A0 hG) hvs hrep ⟨rfl,fun i cs k h=>by simp at h⟩ (fun b p h=>by cases h)).mono fun e W' he=> ?_;obtain⟨v,m',β',ν',he,_,hS,_,_,hr,_,_⟩:=he;simp only[Qa]at hr;subst hr;exact⟨he,hS.os,hS.tape,hS.output,hS.size,fun k hk=>(hS.same k hk (fun⟨p,hp⟩=>by cases hp)).1⟩
abbrev X3:=List (List UInt8)
def C1 {P:Program} {n:String} {ss:X3} {r:List (String×DataW Unit)} {W:World} {g:Nat} {t e:TypeId}
  (h:laidMet P ((n,.slice (ss.map fun s=> .lit (.string s)) []):: r) W) (hg:P.globalNamed n=some g) (ht: (P.globals[g]?).map (·.type)=some t) (hu:P.underlying t=some (.slice e)) (he:P.underlying e=some .string) (hc:P.cellsOf e=1):
  ∃u,W.cell? ⟨g,0,none⟩=some u/\u.oneCell'=true/\∀num,Qa num [] W (mW W) (.sl false 1 (ss.map fun s=>[.str s])) u:=by
 obtain⟨ps,⟨g0,t0,cs0,f0,p0,q0,hg0,ht0,hv0,hd0,_,e0⟩,_,hrows⟩:=h;obtain rfl:=Option.some.inj (hg.symm.trans hg0);obtain rfl:=Option.some.inj (ht.symm.trans ht0);obtain⟨l0⟩:=cs0;rcases DataW.trod_slice hu hd0 with⟨_,h2⟩ | ⟨a,len,cap,elems,rest,k,hk,hcs,hx,hb,hl,hm,hlen,hel,_,_⟩
 ·simp at h2
 simp only at hcs;subst hcs;refine⟨_,by simpa using World.var?_cell hg hv0 0,rfl,fun num=> ?_⟩;simp only[QB,DataW.slice.injEq]at hx;obtain⟨⟨hx1,_⟩,_⟩:=hx;have hsl:ss.length=len:=by
  have:=Xb List.length hx1;simp only[Wa]at this;omega
 simp only[Qa];refine⟨some a,len,cap,rfl,by simp[hsl],hl,hm,?_⟩;have hget: ∀i s,ss[i]? =some s->W.cell? (a.add i)=some (.string ⟨s.toArray⟩):=by
  intro i s hi;have hil:i < len:=by
   rcases QL i ss.length with h | h
   ·omega
   ·rw[QT h]at hi;cases hi
  have h1:=hel i hil;have h2:elems[i]? =some (elems[i]'(by omega)):=Zr (by omega);rw[h2]at h1;obtain⟨cs',g1,g2⟩:=Ju.1 h1;obtain⟨_,g3,g4⟩:=World.cells?_some g1;obtain⟨s',hs1,hs2,_⟩:=DataW.trod_string he g2;have h3: (elems.map (·.1))[i]? =some (.lit (.string s)):=by rw[<- hx1,Xm,hi];rfl
  rw[Xm,h2,hs2]at h3;simp only[QA,Qs,DataW.lit.injEq,Lit.string.injEq]at h3;subst h3;have h4:=g4 0 (by rw[hc];omega);rw[hs1,hc,Ub]at h4;have h5: (a.add i).add 0=a.add i:=by cases a;simp[Addr.add]
  rw[h5]at h4;rw[h4];simp
 by_cases h0:ss=[]
 ·left;simp[h0]
 ·right;obtain⟨ab,ao,asp⟩:=a;have hsp:asp=none:=by
   cases ss with
   | nil=>exact absurd rfl h0
   | cons s ss=>
    have h1:=hget 0 s rfl;unfold World.cell? at h1;split at h1
    ·split at h1
     ·cases h1
     ·rename_i hq;simpa[Addr.add]using hq
    ·cases h1
  subst hsp;refine⟨ab,ao,rfl,?_⟩;rw[Yk];intro i x hx;rw[Xm]at hx;cases hi:ss[i]? with
  | none=>rw[hi]at hx;cases hx
  | some s=>
   rw[hi]at hx;injection hx with hx
   subst hx;refine⟨rfl,?_⟩;simp only[Z2];refine⟨⟨.string ⟨s.toArray⟩,?_,rfl,by simp only[Qa]⟩,trivial⟩;rw[Qbx];have:=hget i s hi;rw[ZI]at this;simpa using this
end Go.Am
