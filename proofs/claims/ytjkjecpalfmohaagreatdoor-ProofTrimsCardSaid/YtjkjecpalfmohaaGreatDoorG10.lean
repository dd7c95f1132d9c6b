/-
  Am26, Am20, Am27, Am29.
-/
import Derived.Test.YtjkjecpalfmohaaGreatDoorG09
import Derived.SizedLaws
import Derived.Deep.Slices
import Derived.ChangeArms
import Derived.DataReads
import Derived.Carry
import Derived.ReadAgain
import Derived.ChangeSame
import Derived.OpenShut
import Derived.Stop.LaidErr
set_option linter.all false
namespace Go.Am
def mW (w:World):ZP:=fun b=>match w.heap[b]? with
 | some (.cells c _ _)=>c.size
 | _=>0
def Qid (w:World) (b i:Nat):hg w (mW w) b i=w.cell? ⟨b,i,none⟩:=by
 unfold hg mW World.cell?;cases h:w.heap[b]? with
 | none=>simp
 | some o=>
  cases o <;> simp
def EI (R:TypeId->Qh->Prop):List Field->Qh->Prop
 | [],avs=>avs=[]
 | f:: fs,avs=>∃p q,avs=p ++ q/\R f.type p/\EI R fs q
def Shp (B:Nat) (P:Program):Nat->TypeId->Qh->Prop
 | 0,_,_=>False
 | n+1,t,avs=>match P.underlying t with
  | some (.int k)=>∃i,avs=[.int k i]/\(Lit.int k i).wf=true
  | some .bool=>∃b,avs=[.bool b]
  | some .string=>∃s:Qu,avs=[.str s]/\s.length<=B
  | some (.slice e)=>∃xs:Qa,avs=[.sl false (P.cellsOf e) xs]/\xs.length*P.bytesOf e<=B/\∀x∈xs,Shp B P n e x
  | some (.struct fs)=>EI (Shp B P n) fs.toList avs
  | _=>False
def Cf (P:Program) (tot:Nat):List Field->Nat->Bool
 | [],o=>decide (o=tot)
 | f:: fs,o=>decide (f.offset=o) && Cf P tot fs (o+P.cellsOf f.type)
def Qbu (P:Program) (S:List TypeId):Bool:=S.all fun t=>match P.underlying t with
 | some (.int _)=>decide (P.cellsOf t=1)
 | some .bool=>decide (P.cellsOf t=1)
 | some .string=>decide (P.cellsOf t=1)
 | some (.slice e)=>S.contains e && decide (0 < P.cellsOf e) && decide (P.cellsOf t=1)
 | some (.struct fs)=>fs.toList.all (fun f=>S.contains f.type) && Cf P (P.cellsOf t) fs.toList 0
 | _=>false
def JM:=@Nat.lt_trichotomy
def AZ {α:Type} {Q:Nat->α->Prop}: ∀{n:Nat},(∀i,i < n->∃x,Q i x)->∃xs:List α,xs.length=n/\∀i x,xs[i]? =some x->Q i x
 | 0,_=>⟨[],rfl,fun i x h=>by simp at h⟩
 | n+1,h=>by
  obtain⟨xs,h1,h2⟩:=AZ (n:=n) fun i hi=>h i (by omega);obtain⟨x,hx⟩:=h n (by omega);refine⟨xs ++ [x],by simp[h1],fun i y hy=> ?_⟩;rcases JM i n with hi | hi | hi
  ·rw[ZH (by omega)]at hy;exact h2 i y hy
  ·subst hi;rw[YQ (by omega),h1,Nat.sub_self]at hy;simp at hy;subst hy;exact hx
  ·rw[Q2 (by simp;omega)]at hy;cases hy
def BP {H:Type} {P:Program} {e:TypeId} {ds:List (DataW H)}: ∀{d:DataW H},d∈ds->∀n∈d.weights P e,n∈DataW.weightsAll P e ds:=by
 induction ds with
 | nil=>intro d h;cases h
 | cons a ds ih=>
  intro d h n hn;simp only[DataW.weightsAll,Xe];rcases ZE.1 h with rfl | h
  ·exact .inl hn
  ·exact .inr (ih h n hn)
section
variable {B:Nat} {H:Type} {enc:TypeId×Value->H} {P:Program} {w:World} {base:Nat} {spare:Nat->Bool} {held:Bool} {num:Nat->Option Nat} {β:List Blk} {S:List TypeId}
def QbY [Dr] (hS:Qbu P S=true): ∀(fuel:Nat) (t:TypeId) (cs:ZO) (x:DataW H×List MemPlace),t∈S->DataW.trod enc P w base spare held fuel t cs=some x->
  (∀n∈x.1.weights P t,n<=B)->∃avs,Shp B P fuel t avs/\avs.length=cs.length/\cs.length=P.cellsOf t/\Y6 num β w (mW w) avs (fun i=>cs[i]?) 0:=by
 intro fuel
 induction fuel with
 | zero=>intro t cs x _ h;simp[DataW.trod]at h
 | succ fuel ih=>
  intro t cs x ht h hwt;have hs:=XO.1 hS t ht;simp only[Shp];split at hs
  ·rename_i k hu;simp only[Qy]at hs;obtain⟨n,rfl,rfl,hwf⟩:=DataW.trod_int hu h;exact⟨_,⟨n,rfl,hwf⟩,rfl,by rw[hs];rfl,by simp[Y6,Qg];rfl⟩
  ·rename_i hu;simp only[Qy]at hs;have: ∃b,cs=[.bool b]:=by
    unfold DataW.trod at h;rw[hu]at h;split at h <;> simp_all
   obtain⟨b,rfl⟩:=this;exact⟨_,⟨b,rfl⟩,rfl,by rw[hs];rfl,by simp[Y6,Qg];rfl⟩
  ·rename_i hu;simp only[Qy]at hs;obtain⟨s,rfl,rfl,hmx⟩:=DataW.trod_string hu h;refine⟨_,⟨s.data.toList,rfl,hwt _ (by simp[DataW.weights])⟩,rfl,by rw[hs];rfl,?_⟩;simp only[Y6,Qg];exact⟨⟨_,rfl,rfl,by simp⟩,trivial⟩
  ·rename_i e hu;simp only[Qp,Qy]at hs;obtain⟨⟨hse,hc0⟩,hc1⟩:=hs;have he:e∈S:=by simpa using hse
   rcases DataW.trod_slice hu h with⟨rfl,rfl⟩ | ⟨a,len,cap,elems,rest,n,hn,rfl,rfl,hb,hl,hm,hlen,hel,_,_⟩
   ·refine⟨_,⟨[],rfl,by simp,by simp⟩,rfl,by rw[hc1];rfl,?_⟩;simp only[Y6,Qg];exact⟨⟨_,rfl,rfl,none,0,0,rfl,rfl,Zm _,PZ _,.inl trivial⟩,trivial⟩
   ·injection hn with hn
    subst hn;have hel2: ∀i,i < len->∃av,Shp B P fuel e av/\av.length=P.cellsOf e/\∃cs':ZO,(∀j,j < P.cellsOf e->w.cell? ((a.add (i*P.cellsOf e)).add j)=cs'[j]?)/\cs'.length=P.cellsOf e/\Y6 num β w (mW w) av (fun j=>cs'[j]?) 0:=by
     intro i hi;have h1:=hel i hi;have h2:elems[i]? =some (elems[i]'(by omega)):=Zq (by omega);rw[h2]at h1;obtain⟨cs',g1,g2⟩:=EM.1 h1;obtain⟨_,g3,g4⟩:=World.cells?_some g1;obtain⟨av,k1,k2,k3,k4⟩:=ih e cs' _ he g2 (fun n hn=>hwt n (by
      simp only[DataW.weights,hu,ZE,Xe];right;left
      refine BP (d:=(elems[i]'(by omega)).1) ?_ n hn;exact Wf.2 ⟨_,SI _,rfl⟩))
     exact⟨av,k1,by rw[k2,k3],cs',g4,g3,k4⟩
    obtain⟨xs,x1,x2⟩:=AZ hel2;refine⟨_,⟨xs,rfl,?_,fun x hx=> ?_⟩,rfl,by rw[hc1];rfl,?_⟩
    ·have:=hwt ((elems.length+rest.length)*P.bytesOf e) (by simp[DataW.weights,hu]);refine VU (Yg _ ?_) this;omega
    ·obtain⟨i,hi⟩:=UG hx;exact(x2 i x hi).1
    ·simp only[Y6,Qg];refine⟨⟨_,rfl,rfl,some a,len,cap,rfl,x1,hl,hm,?_⟩,trivial⟩;by_cases h0:xs=[]
     ·exact .inl h0
     ·right;have hl0:0 < len:=by rw[<- x1];exact Tk.2 h0
      have hsp:a.spot=none:=by
       obtain⟨av,_,_,cs',g4,g3,_⟩:=hel2 0 hl0;have h1:=g4 0 hc0;rw[Zq (by omega)]at h1;unfold World.cell? at h1;split at h1
       ·split at h1
        ·cases h1
        ·rename_i hq;simpa[Addr.add]using hq
       ·cases h1
      obtain⟨ab,ao,asp⟩:=a;simp only at hsp;subst hsp;refine⟨ab,ao,rfl,?_⟩;rw[XG];intro i x hx;obtain⟨k1,k2,cs',g4,g3,k4⟩:=x2 i x hx;refine⟨k2,?_⟩;rw[Z1]at k4 ⊢;intro j c hj;obtain⟨u,u1,u2,u3⟩:=k4 j c hj;have hjl:j < P.cellsOf e:=by
       rcases QT j x.length with hh | hh
       ·omega
       ·rw[Q2 hh]at hj;cases hj
      refine⟨u,?_,u2,u3⟩;rw[Qid];have:=g4 j hjl;simp only[Zl]at u1;rw[u1,Yx,Yx]at this;exact this
  ·rename_i fs hu;simp only[Qp]at hs;obtain⟨hs1,hs2⟩:=hs;obtain⟨xs,n,hn,rfl,hcl,hxl,hf⟩:=DataW.trod_struct hu h;injection hn with hn
   subst hn;have key: ∀(l:List Field) (k o:Nat),fs.toList.drop k=l->Cf P (P.cellsOf t) l o=true->∃avs,EI (Shp B P fuel) l avs/\avs.length+o=P.cellsOf t/\Y6 num β w (mW w) avs (fun i=>cs[i]?) o:=by
    intro l
    induction l with
    | nil=>
     intro k o _ hl;simp only[Cf,Qy]at hl;exact⟨[],rfl,by simpa using hl,by simp[Y6]⟩
    | cons f l ihl=>
     intro k o hk hl;simp only[Cf,Qp,Qy]at hl;obtain⟨rfl,hl2⟩:=hl;have hkf:fs.toList[k]? =some f:=by
      have: (fs.toList.drop k)[0]? =some f:=by rw[hk];rfl
      simpa using this
     have hk2:fs.toList.drop (k+1)=l:=by
      rw[<- List.drop_drop,hk];rfl
     obtain⟨q,q1,q2,q3⟩:=ihl (k+1) _ hk2 hl2;have hkf2:fs[k]? =some f:=by simpa using hkf
     have hfm:f.type∈S:=by
      have:=XO.1 hs1 f (XN hkf);simpa using this
     have h1:=hf k f hkf2;have hkl:k < xs.length:=by
      rw[hxl];exact(PJ.1 hkf2).1
     rw[Zq hkl]at h1;obtain⟨p,p1,p2,p3,p4⟩:=ih f.type _ _ hfm h1 (fun n hn=>hwt n (by
      simp only[DataW.weights,hu];exact DataW.weights_mem_each (j:=k) (t:=f.type) (d:=xs[k].1) (by simp[hkf2]) (by simp[Zq hkl]) n hn))
     rw[p3]at p2;refine⟨p ++ q,⟨p,q,rfl,p1,q1⟩,by simp;omega,?_⟩;rw[Z1]at p4 q3 ⊢;intro i c hi;by_cases hil:i < p.length
     ·rw[ZH hil]at hi;obtain⟨u,u1,u2,u3⟩:=p4 i c hi;refine⟨u,?_,u2,u3⟩;simp only[Zl]at u1;rw[VX]at u1;split at u1
      ·rwa[XX]at u1
      ·cases u1
     ·rw[YQ (by omega)]at hi;obtain⟨u,u1,u2,u3⟩:=q3 (i - p.length) c hi;refine⟨u,?_,u2,u3⟩;rwa[show f.offset+P.cellsOf f.type+ (i - p.length)=f.offset+i by omega]at u1
   obtain⟨avs,a1,a2,a3⟩:=key fs.toList 0 0 (by simp) hs2;exact⟨avs,a1,by omega,hcl,a3⟩
  ·cases hs
end
end Go.Am
namespace Go.Am
def KLe (K K':Yy):Prop:=∀f args bs r,K f args bs=some r->K' f args bs=some r
def Qem {K K':Yy} (h:KLe K K') {op:AOp} {σ:St} {p:AV×St} (he:Qi K op σ=some p):Qi K' op σ=some p:=by
 cases op <;> try exact he
 case call f args=>
  simp only[Qi]at he ⊢;split at he
  ·rename_i hok;rw[Qn hok];cases hk:K f (args.map (val σ.env)) σ.bs with
   | none=>rw[hk]at he;cases he
   | some r=>rw[hk]at he;rw[h _ _ _ _ hk];exact he
  ·cases he
 case callq f args=>
  simp only[Qi]at he ⊢;split at he
  ·rename_i hok;rw[Qn hok];cases hk:K f (args.map (val σ.env)) σ.bs with
   | none=>rw[hk]at he;cases he
   | some r=>rw[hk]at he;rw[h _ _ _ _ hk];exact he
  ·cases he
 case callv g args=>
  simp only[Qi]at he ⊢;split at he
  ·rename_i f caps hf;split at he
   ·rename_i hok;rw[Qn hok];cases hk:K f (args.map (val σ.env)++ caps) σ.bs with
    | none=>rw[hk]at he;cases he
    | some r=>rw[hk]at he;rw[h _ _ _ _ hk];exact he
   ·cases he
  ·rename_i f caps hf;split at he
   ·rename_i hok;rw[Qn hok];cases hk:K f (caps ++ args.map (val σ.env)) σ.bs with
    | none=>rw[hk]at he;cases he
    | some r=>rw[hk]at he;rw[h _ _ _ _ hk];exact he
   ·cases he
  ·cases he
def II {K K':Yy} (h:KLe K K') {o:QQ} {σ s:St} (he:Yf K o σ=some s):Yf K' o σ=some s:=by
 have key: ((Qi K o.op σ).map fun p=>({p.2 with env:=YO p.2.env o.dst p.1}:St))=some s->((Qi K' o.op σ).map fun p=>({p.2 with env:=YO p.2.env o.dst p.1}:St))=some s:=fun he=>by
  cases hx:Qi K o.op σ with
  | none=>rw[hx]at he;cases he
  | some p=>rw[hx]at he;rw[Qem h hx];exact he
 unfold Yf at he ⊢;split at he
 ·exact key he
 ·split at he
  ·split at he
   ·rename_i hc;rw[Qn hc];exact key he
   ·rename_i hc;rw[Qm hc];exact he
  ·exact he
  ·cases he
def T3 {K K':Yy} (h:KLe K K'): ∀{os:Yw} {σ s:St},Yi K os σ=some s->Yi K' os σ=some s
 | [],_,_,he=>he
 | o:: os,σ,s,he=>by
  simp only[Yi]at he ⊢;cases ho:Yf K o σ with
  | none=>rw[ho]at he;cases he
  | some s1=>
   rw[ho]at he;rw[II h ho];exact T3 h he
def OJ {f g:St->Option (Ex×St)} (h: ∀s x,f s=some x->g s=some x): ∀{n m:Nat} {σ:St} {x:Ex×St},n<=m->TQ f n σ=some x->TQ g m σ=some x
 | 0,_,_,_,_,he=>by simp[TQ]at he
 | n+1,0,_,_,hnm,_=>by omega
 | n+1,m+1,σ,x,hnm,he=>by
  simp only[TQ]at he ⊢;split at he
  ·rename_i s hf;rw[h _ _ hf];exact OJ h (by omega) he
  ·rename_i hne;have:=h _ _ he;rw[this];obtain⟨e,s⟩:=x;cases e
   ·exact absurd he (hne s)
   ·rfl
   ·rfl
def OR {K K':Yy} (h:KLe K K') {n m:Nat} (hnm:n<=m): ∀{c:AC} {σ:St} {x:Ex×St},ZN K n c σ=some x->ZN K' m c σ=some x:=by
 intro c
 induction c with
 | bad=>intro σ x he;simp[ZN]at he
 | skip=>intro σ x he;exact he
 | reg d ops=>
  intro σ x he;simp only[ZN]at he ⊢;cases ho:Yi K ops σ with
  | none=>rw[ho]at he;cases he
  | some s=>rw[ho]at he;rw[T3 h ho];exact he
 | seq a b iha ihb=>
  intro σ x he;simp only[ZN]at he ⊢;split at he
  ·rename_i s ha;rw[iha ha];exact ihb he
  ·rename_i hne;rw[iha he];obtain⟨e,s⟩:=x;cases e
   ·exact absurd he (hne s)
   ·rfl
   ·rfl
 | cond c a b iha ihb=>
  intro σ x he;simp only[ZN]at he ⊢;split at he
  ·exact iha he
  ·exact ihb he
  ·cases he
 | block id c ih=>
  intro σ x he;simp only[ZN]at he ⊢;split at he
  ·rename_i i s hc;rw[ih hc];exact he
  ·rename_i hne;rw[ih he];obtain⟨e,s⟩:=x;cases e
   ·rfl
   ·exact absurd he (hne _ s)
   ·rfl
 | loop c ih=>
  intro σ x he;simp only[ZN]at he ⊢;exact OJ (fun s x hx=>ih hx) hnm he
 | exit id=>intro σ x he;exact he
 | ret=>intro σ x he;exact he
def V1 {T:VC}: ∀{n m:Nat},n<=m->KLe (YY T n) (YY T m)
 | 0,_,_=>fun _ _ _ _ h=>by simp[YY]at h
 | n+1,0,h=>by omega
 | n+1,m+1,h=>fun f args bs r he=>by
  simp only[YY]at he ⊢;split at he
  ·cases he
  ·rename_i g hg;exact he
  ·rename_i fn hf;split at he
   ·rename_i hl;rw[Qn hl];have hr: ∀x,ZN (YY T n) n fn.body {env:=XS args,bs}=some x->ZN (YY T m) m fn.body {env:=XS args,bs}=some x:=fun x hx=>OR (V1 (by omega)) (by omega) hx;split at he
    ·rename_i s hs;rw[hr _ hs];exact he
    ·rename_i s hs;rw[hr _ hs];exact he
    ·cases he
   ·cases he
open Classical in
noncomputable def call (T:VC):Yy:=fun f args bs=>if h: ∃r n,YY T n f args bs=some r then some h.choose else none
open Classical in
noncomputable def run (T:VC) (c:AC) (σ:St):Option (Ex×St):=if h: ∃x n,ZN (YY T n) n c σ=some x then some h.choose else none
section
variable {T:Nat->Option AFn}
def Ld:=@Nat.le_max_left
def M9:=@Nat.le_max_right
def To {f:Nat} {args:Qh} {bs:Qa} {r:AV×Qa}:call T f args bs=some r↔∃n,YY T n f args bs=some r:=by
 have huniq: ∀{r1 r2:AV×Qa} {n m:Nat},YY T n f args bs=some r1->YY T m f args bs=some r2->r1=r2:=fun {r1 r2 n m} h1 h2=>by
  have g1:=V1 (T:=T) (Ld n m) _ _ _ _ h1;have g2:=V1 (T:=T) (M9 n m) _ _ _ _ h2;rw[g1]at g2;injection g2
 unfold call;constructor
 ·intro h;split at h
  ·rename_i hx;injection h with h
   obtain⟨n,hn⟩:=hx.choose_spec;exact⟨n,h▸hn⟩
  ·cases h
 ·rintro⟨n,hn⟩
  have hx: ∃r n,YY T n f args bs=some r:=⟨r,n,hn⟩;rw[dif_pos hx];obtain⟨m,hm⟩:=hx.choose_spec;rw[huniq hm hn]
def Yb {c:AC} {σ:St} {x:Ex×St}:run T c σ=some x↔∃n,ZN (YY T n) n c σ=some x:=by
 have huniq: ∀{r1 r2:Ex×St} {n m:Nat},ZN (YY T n) n c σ=some r1->ZN (YY T m) m c σ=some r2->r1=r2:=fun {r1 r2 n m} h1 h2=>by
  have g1:=OR (V1 (T:=T) (Ld n m)) (Ld n m) h1;have g2:=OR (V1 (T:=T) (M9 n m)) (M9 n m) h2;rw[g1]at g2;injection g2
 unfold run;constructor
 ·intro h;split at h
  ·rename_i hx;injection h with h
   obtain⟨n,hn⟩:=hx.choose_spec;exact⟨n,h▸hn⟩
  ·cases h
 ·rintro⟨n,hn⟩
  have hx: ∃x n,ZN (YY T n) n c σ=some x:=⟨x,n,hn⟩;rw[dif_pos hx];obtain⟨m,hm⟩:=hx.choose_spec;rw[huniq hm hn]
def Gq (n:Nat):KLe (YY T n) (call T):=fun _ _ _ _ h=>To.2 ⟨n,h⟩
def QgE {op:AOp} {σ:St} {p:AV×St} (h:Qi (call T) op σ=some p): ∃n,Qi (YY T n) op σ=some p:=by
 cases op <;> try exact⟨0,h⟩
 case call f args=>
  simp only[Qi]at h ⊢;split at h
  ·rename_i hok;simp only[hok,Zj];cases hk:call T f (args.map (val σ.env)) σ.bs with
   | none=>rw[hk]at h;cases h
   | some r=>
    obtain⟨n,hn⟩:=To.1 hk;rw[hk]at h;exact⟨n,by rw[hn];exact h⟩
  ·cases h
 case callq f args=>
  simp only[Qi]at h ⊢;split at h
  ·rename_i hok;simp only[hok,Zj];cases hk:call T f (args.map (val σ.env)) σ.bs with
   | none=>rw[hk]at h;cases h
   | some r=>
    obtain⟨n,hn⟩:=To.1 hk;rw[hk]at h;exact⟨n,by rw[hn];exact h⟩
  ·cases h
 case callv g args=>
  simp only[Qi]at h ⊢;split at h
  ·rename_i f caps hf;split at h
   ·rename_i hok;simp only[hok,Zj];cases hk:call T f (args.map (val σ.env)++ caps) σ.bs with
    | none=>rw[hk]at h;cases h
    | some r=>
     obtain⟨n,hn⟩:=To.1 hk;rw[hk]at h;exact⟨n,by rw[hn];exact h⟩
   ·cases h
  ·rename_i f caps hf;split at h
   ·rename_i hok;simp only[hok,Zj];cases hk:call T f (caps ++ args.map (val σ.env)) σ.bs with
    | none=>rw[hk]at h;cases h
    | some r=>
     obtain⟨n,hn⟩:=To.1 hk;rw[hk]at h;exact⟨n,by rw[hn];exact h⟩
   ·cases h
  ·cases h
def Qe1 {o:QQ} {σ s:St} (h:Yf (call T) o σ=some s): ∃n,Yf (YY T n) o σ=some s:=by
 have key: ((Qi (call T) o.op σ).map fun p=>({p.2 with env:=YO p.2.env o.dst p.1}:St))=some s->∃n,((Qi (YY T n) o.op σ).map fun p=>({p.2 with env:=YO p.2.env o.dst p.1}:St))=some s:=fun he=>by
  cases hx:Qi (call T) o.op σ with
  | none=>rw[hx]at he;cases he
  | some p=>
   obtain⟨n,hn⟩:=QgE hx;rw[hx]at he;exact⟨n,by rw[hn];exact he⟩
 unfold Yf at h ⊢;split at h
 ·exact key h
 ·split at h
  ·split at h
   ·rename_i hc;obtain⟨n,hn⟩:=key h;exact⟨n,by rw[Qn hc];exact hn⟩
   ·rename_i hc;exact⟨0,by rw[Qm hc];exact h⟩
  ·exact⟨0,h⟩
  ·cases h
def IJ: ∀{os:Yw} {σ s:St},Yi (call T) os σ=some s->∃n,Yi (YY T n) os σ=some s
 | [],_,_,h=>⟨0,h⟩
 | o:: os,σ,s,h=>by
  simp only[Yi]at h;cases ho:Yf (call T) o σ with
  | none=>rw[ho]at h;cases h
  | some s1=>
   rw[ho]at h;obtain⟨n,hn⟩:=Qe1 ho;obtain⟨m,hm⟩:=IJ (os:=os) h;refine⟨max n m,?_⟩;simp only[Yi];rw[II (V1 (Ld n m)) hn];exact T3 (V1 (M9 n m)) hm
def R5 {n m:Nat} (h:n<=m) {c:AC} {σ:St} {x:Ex×St} (hr:ZN (YY T n) n c σ=some x):ZN (YY T m) m c σ=some x:=OR (V1 h) h hr
def PA {α:Type} {a b:Option α} (h: ∀x,a=some x↔b=some x):a=b:=by
 cases a with
 | none=>cases b with
  | none=>rfl
  | some y=>exact absurd ((h y).2 rfl) (by simp)
 | some x=>exact((h x).1 rfl).symm
def CK (σ:St):run T .skip σ=some (.normal,σ):=Yb.2 ⟨0,rfl⟩
def Qaa (σ:St):run T .ret σ=some (.ret,σ):=Yb.2 ⟨0,rfl⟩
def CG (id:Nat) (σ:St):run T (.exit id) σ=some (.exit id,σ):=Yb.2 ⟨0,rfl⟩
def A9 (d:Bool) (ops:Yw) (σ:St):run T (.reg d ops) σ=(Yi (call T) ops σ).map fun s=>(.normal,s):=by
 apply PA;intro x;rw[Yb];simp only[ZN];constructor
 ·rintro⟨n,h⟩
  cases ho:Yi (YY T n) ops σ with
  | none=>rw[ho]at h;cases h
  | some s=>rw[ho]at h;rw[T3 (Gq n) ho];exact h
 ·intro h;cases ho:Yi (call T) ops σ with
  | none=>rw[ho]at h;cases h
  | some s=>
   obtain⟨n,hn⟩:=IJ ho;rw[ho]at h;exact⟨n,by rw[hn];exact h⟩
def Qab (a b:AC) (σ:St):run T (.seq a b) σ=match run T a σ with
  | some (.normal,s)=>run T b s
  | r=>r:=by
 apply PA;intro x;rw[Yb];constructor
 ·rintro⟨n,h⟩
  simp only[ZN]at h;split at h
  ·rename_i s hs;rw[Yb.2 ⟨n,hs⟩];exact Yb.2 ⟨n,h⟩
  ·rename_i hne;rw[Yb.2 ⟨n,h⟩];obtain⟨e,s⟩:=x;cases e
   ·exact absurd h (hne s)
   ·rfl
   ·rfl
 ·intro h;split at h
  ·rename_i s hs;obtain⟨n,hn⟩:=Yb.1 hs;obtain⟨m,hm⟩:=Yb.1 h;refine⟨max n m,?_⟩;simp only[ZN];rw[R5 (Ld n m) hn];exact R5 (M9 n m) hm
  ·rename_i hne;obtain⟨n,hn⟩:=Yb.1 h;refine⟨n,?_⟩;simp only[ZN];rw[hn];obtain⟨e,s⟩:=x;cases e
   ·exact absurd h (hne s)
   ·rfl
   ·rfl
def CF (c:AO) (a b:AC) (σ:St):run T (.cond c a b) σ=match val σ.env c with
  | .bool true=>run T a σ
  | .bool false=>run T b σ
  | _=>none:=by
 apply PA;intro x;rw[Yb];simp only[ZN];cases hv:val σ.env c <;> try simp
 rename_i b;cases b
 ·exact Yb.symm
 ·exact Yb.symm
def Gf (id:Nat) (c:AC) (σ:St):run T (.block id c) σ=match run T c σ with
  | some (.exit i,s)=>some (if i=id then .normal else .exit i,s)
  | r=>r:=by
 apply PA;intro x;rw[Yb];simp only[ZN];constructor
 ·rintro⟨n,h⟩
  split at h
  ·rename_i i s hs;rw[Yb.2 ⟨n,hs⟩];exact h
  ·rename_i hne;rw[Yb.2 ⟨n,h⟩];obtain⟨e,s⟩:=x;cases e
   ·rfl
   ·exact absurd h (hne _ s)
   ·rfl
 ·intro h;split at h
  ·rename_i i s hs;obtain⟨n,hn⟩:=Yb.1 hs;exact⟨n,by rw[hn];exact h⟩
  ·rename_i hne;obtain⟨n,hn⟩:=Yb.1 h;refine⟨n,?_⟩;rw[hn];obtain⟨e,s⟩:=x;cases e
   ·rfl
   ·exact absurd h (hne _ s)
   ·rfl
def CJ (c:AC) (σ:St):run T (.loop c) σ=match run T c σ with
  | some (.normal,s)=>run T (.loop c) s
  | r=>r:=by
 apply PA;intro x;rw[Yb];constructor
 ·rintro⟨n,h⟩
  simp only[ZN]at h;cases n with
  | zero=>simp[TQ]at h
  | succ n=>
   simp only[TQ]at h;split at h
   ·rename_i s hs;rw[Yb.2 ⟨n+1,hs⟩];refine Yb.2 ⟨n+1,?_⟩;simp only[ZN];exact OJ (fun _ _ h=>h) (by omega) h
   ·rename_i hne;rw[Yb.2 ⟨n+1,h⟩];obtain⟨e,s⟩:=x;cases e
    ·exact absurd h (hne s)
    ·rfl
    ·rfl
 ·intro h;split at h
  ·rename_i s hs;obtain⟨n,hn⟩:=Yb.1 hs;obtain⟨m,hm⟩:=Yb.1 h;refine⟨max n m+1,?_⟩;simp only[ZN]at hm ⊢;simp only[TQ];rw[R5 (m:=max n m+1) (by omega) hn];exact OJ (fun s x hx=>R5 (by omega) hx) (by omega) hm
  ·rename_i hne;obtain⟨n,hn⟩:=Yb.1 h;refine⟨n+1,?_⟩;simp only[ZN,TQ];rw[R5 (m:=n+1) (by omega) hn];obtain⟨e,s⟩:=x;cases e
   ·exact absurd h (hne s)
   ·rfl
   ·rfl
def Ha (f:Nat) (args:Qh) (bs:Qa):call T f args bs=match T f with
  | none=>none
  | some (.orc g)=>g args bs
  | some (.code fn)=>
   if args.length=fn.nparams then
    match run T fn.body {env:=XS args,bs}with
    | some (.normal,σ)=>XF fn bs σ
    | some (.ret,σ)=>XF fn bs σ
    | _=>none
   else none:=by
 apply PA;intro x;rw[To];constructor
 ·rintro⟨n,h⟩
  cases n with
  | zero=>simp[YY]at h
  | succ n=>
   simp only[YY]at h;split at h
   ·cases h
   ·rename_i g hg;simp only[hg];exact h
   ·rename_i fn hf;simp only[hf];split at h
    ·rename_i hl;rw[Qn hl];split at h
     ·rename_i s hs;rw[Yb.2 ⟨n,hs⟩];exact h
     ·rename_i s hs;rw[Yb.2 ⟨n,hs⟩];exact h
     ·cases h
    ·cases h
 ·intro h;split at h
  ·cases h
  ·rename_i g hg;exact⟨1,by simp only[YY,hg];exact h⟩
  ·rename_i fn hf;split at h
   ·rename_i hl;split at h
    ·rename_i s hs;obtain⟨n,hn⟩:=Yb.1 hs;exact⟨n+1,by simp only[YY,hf,hl,Zj,hn];exact h⟩
    ·rename_i s hs;obtain⟨n,hn⟩:=Yb.1 hs;exact⟨n+1,by simp only[YY,hf,hl,Zj,hn];exact h⟩
    ·cases h
   ·cases h
end
end Go.Am
namespace Go.Am
open Go.RowKit Go.ChangeShapes Go.WideShapes
section
variable {P:Program} {num:Nat->Option Nat} {tb:Nat->Option AFn} {W:World}
section
variable {H:Type} {enc:TypeId×Value->H} {S:List TypeId} {base b0:Nat} {spare:Nat->Bool} {held:Bool} {r:Reach}
def ML (K:Kids P (· < P.types.size)) (hz: ∀t e,t < P.types.size->P.underlying t=some (.slice e)->0 < P.cellsOf e) {W':World} (hb:Below W.heap.size W W') {sp:Nat->Bool}:
  ∀{ts:List TypeId} {vs:ZO} {ds:List (DataW H)} {ps:List MemPlace},(∀t∈ts,t < P.types.size)->DataW.TrodAll enc P W 0 (fun _=>true) true ts vs ds ps->(∀p∈ps,p.block < W.heap.size)->(∀p∈ps,sp p.block=true)->
   DataW.TrodAll enc P W' 0 sp true ts vs ds ps
 | [],[],[],_,_,h,_,_=>h
 | _:: _,_:: _,_:: _,_,hT,⟨p,q,⟨n,h1⟩,h2,e⟩,hlt,hs=>by
  subst e;refine⟨p,q,⟨n,?_⟩,ML K hz hb (fun t ht=>hT t (Nj _ ht)) h2 (fun x hx=>hlt x (EQ _ hx)) (fun x hx=>hs x (EQ _ hx)),rfl⟩;exact DataW.trod_carry n _ _ _ (DataW.trod_respare K hz n _ _ _ (hT _ (List.mem_cons_self ..)) h1 (fun x hx=>hs x (ET _ hx))) (fun x hx=>hb.same (hlt x (ET _ hx)))
def post_of_below {f:Func} {s:ChangeSpec} {apart fresh handsOn again:Bool} {W W':World} {args:Zg} {v:Value} {ds gs:List (DataW H)} {before pa pv:List MemPlace}
  (hW:DataW.Whole enc P f.params.toList s.vars apart W args.toList ds gs before)
  (hres: ∀(b:Nat) (sp:Nat->Bool) (hd:Bool),DataW.TrodAll enc P W' b sp hd f.resultTypes.toList (v.resultList f.resultTypes.size) (s.fn H (ds ++ gs)).results [])
  (hargs: ∀sp:Nat->Bool,(∀p∈before,sp p.block=true)->DataW.TrodAll enc P W' 0 sp true f.params.toList args.toList (s.fn H (ds ++ gs)).args pa)
  (hvars: ∀sp:Nat->Bool,(∀p∈before,sp p.block=true)->DataW.TrodVars enc P W' sp s.vars (s.fn H (ds ++ gs)).vars pv)
  (hps:before=pa ++ pv) (hb:Below W.heap.size W W')
  (hok: ∀(j:Nat) (t:TypeId) (r:Value),f.resultTypes[j]? =some t->(v.resultList f.resultTypes.size)[j]? =some r->Value.okWide P W' .any 0 t r):
  s.post enc P f apart fresh handsOn again W args v W':=by
 have hlt: ∀p∈before,p.block < W.heap.size:=fun p hp=>hW.lt p hp;have hold: ∀p∈before,(fun b=>decide (b < W.heap.size)) p.block=true:=fun p hp=>by simpa using hlt p hp
 refine⟨ds,gs,before,[],pa,pv,hW,hres _ _ _,hargs _ hold,hvars _ hold,World.keptBut_mono (fun p hp=>⟨hp,?_⟩) (hb.frame (·∈before)),fun _=> ?_⟩
 ·rw[hps,Xe]at hp;exact Or.inr hp
 ·obtain⟨_,_,_,_,_,hz,hn⟩:=hW;refine⟨hok,_,_,([]++ pa)++ pv,⟨[]++ pa,pv,trodAll_append (hargs _ (fun _ _=>rfl)) (hres _ _ _),hvars _ (fun _ _=>rfl),rfl,?_,?_⟩,?_⟩
  ·intro b off hp;have hin:MemPlace.cell b off∈before:=by rw[hps];simpa using hp
   rw[hb.frozen (hlt _ hin)];exact hz b off hin
  ·intro ha;have:=hn ha;rw[hps]at this;simpa using this
  ·intro p hp _;rw[hps];simpa using hp
end
end
end Go.Am
namespace Go.Am
open Go.RowKit Go.ChangeShapes Go.WideShapes
def An {w:World} {g:Nat} {u:Value} (h:w.cell? ⟨g,0,none⟩=some u):g < w.heap.size:=by
 rcases QT g w.heap.size with h1 | h1
 ·exact h1
 ·unfold World.cell? at h;rw[VW h1]at h;cases h
def HI [Dr] {X:Nat->Prop} {w w':World} {m m':ZP} {B:Nat} (hS:Z0 X w m w' m') (hX: ∀b,X b->B<=b) (hb:B<=w.heap.size) {g:Nat} (hg:g < B):w'.cell? ⟨g,0,none⟩=w.cell? ⟨g,0,none⟩:=by
 unfold World.cell?;rw[(hS.same g (by omega) (fun hx=>by have:=hX g hx;omega)).1]
def XQ [Dr] (P:Program) (gT gM:Nat):Y5 where
 G:=fun w m=>OK P w/\(∃v,w.cell? ⟨gM,0,none⟩=some (.int .i64 v))/\∃u,w.cell? ⟨gT,0,none⟩=some u/\u.oneCell'=true/\∀num,Qg num [] w m (Jl 0) u
 nm:=fun k g=>k=0/\g=gT
 tab:=fun w m k g num hG hk=>by
  obtain⟨rfl,rfl⟩:=hk;obtain⟨-,-,u,h1,h2,h3⟩:=hG;exact⟨u,h1,h2,h3 num⟩
 Gb:=max (OZ P) (max gT gM+1)
 step:=fun X w m w' m' hS hX hb hG=>by
  obtain⟨h1,⟨v,h2⟩,u,h3,h4,h5⟩:=hG;refine⟨?_,⟨v,?_⟩,u,?_,h4,fun num=>Zd (Ge.refl _) hS.le _ _ (h5 num)⟩
  ·unfold OK Lib.TabIs at *;rw[Ry hS hX hb (by unfold OZ;omega),Ry hS hX hb (by unfold OZ;omega),Ry hS hX hb (by unfold OZ;omega)];exact h1
  ·rw[HI hS hX hb (by omega)];exact h2
  ·rw[HI hS hX hb (by omega)];exact h3
def QgJ [Dr] {P:Program} {gT gM:Nat} {w:World} {m:ZP} (h: (XQ P gT gM).G w m): (XQ P gT gM).Gb<=w.heap.size:=by
 obtain⟨h1,⟨v,h2⟩,u,h3,h4,h5⟩:=h;have a:=Qkw h1;have b:=An h2;have c:=An h3
 show max _ _<=_;omega
def Qbm [Dr] {P:Program} {num:Xb} {tb:VC} {W:World} {gT gM:Nat} (hF:IW P num (XQ P gT gM) tb) {f g:Nat} (hnum:num f=some g) {args:Qh} {vs:Zg} (hG: (XQ P gT gM).G W (mW W)) (hok:XV args=true) (hvs:vs.size=args.length)
  (hrep: ∀(i:Nat) (c:AV),args[i]? =some c->∃u,vs[i]? =some u/\Qg num [] W (mW W) c u) (hc:call tb f args []=some (.bool true,[])):
  Calls P g vs W fun e W'=>e= .returned (.bool true)/\Below W.heap.size W W':=by
 obtain⟨n,hn⟩:=To.1 hc;refine((OW hF n).2 f g args [] _ _ hnum hn hok W (mW W) [] (fun _=>none) vs hG (QgJ hG) hvs hrep ⟨rfl,fun i cs k h=>by simp at h⟩ (fun b p h=>by cases h)).mono fun e W' he=> ?_;obtain⟨v,m',β',ν',he,_,hS,_,_,hr,_,_⟩:=he;simp only[Qg]at hr;subst hr;exact⟨he,hS.os,hS.tape,hS.output,hS.size,fun k hk=>(hS.same k hk (fun⟨p,hp⟩=>by cases hp)).1⟩
def QeG {P:Program} {n:String} {ss:List Qu} {r:List (String×DataW Unit)} {W:World} {g:Nat} {t e:TypeId}
  (h:laidMet P ((n,.slice (ss.map fun s=> .lit (.string s)) []):: r) W) (hg:P.globalNamed n=some g) (ht: (P.globals[g]?).map (·.type)=some t) (hu:P.underlying t=some (.slice e)) (he:P.underlying e=some .string) (hc:P.cellsOf e=1):
  ∃u,W.cell? ⟨g,0,none⟩=some u/\u.oneCell'=true/\∀num,Qg num [] W (mW W) (.sl false 1 (ss.map fun s=>[.str s])) u:=by
 obtain⟨ps,⟨g0,t0,cs0,f0,p0,q0,hg0,ht0,hv0,hd0,_,e0⟩,_,hrows⟩:=h;obtain rfl:=Option.some.inj (hg.symm.trans hg0);obtain rfl:=Option.some.inj (ht.symm.trans ht0);obtain⟨l0⟩:=cs0;rcases DataW.trod_slice hu hd0 with⟨_,h2⟩ | ⟨a,len,cap,elems,rest,k,hk,hcs,hx,hb,hl,hm,hlen,hel,_,_⟩
 ·simp at h2
 simp only at hcs;subst hcs;refine⟨_,by simpa using World.var?_cell hg hv0 0,rfl,fun num=> ?_⟩;simp only[QW,DataW.slice.injEq]at hx;obtain⟨⟨hx1,_⟩,_⟩:=hx;have hsl:ss.length=len:=by
  have:=WF List.length hx1;simp only[WQ]at this;omega
 simp only[Qg];refine⟨some a,len,cap,rfl,by simp[hsl],hl,hm,?_⟩;have hget: ∀i s,ss[i]? =some s->W.cell? (a.add i)=some (.string ⟨s.toArray⟩):=by
  intro i s hi;have hil:i < len:=by
   rcases QT i ss.length with h | h
   ·omega
   ·rw[Q2 h]at hi;cases hi
  have h1:=hel i hil;have h2:elems[i]? =some (elems[i]'(by omega)):=Zq (by omega);rw[h2]at h1;obtain⟨cs',g1,g2⟩:=EM.1 h1;obtain⟨_,g3,g4⟩:=World.cells?_some g1;obtain⟨s',hs1,hs2,_⟩:=DataW.trod_string he g2;have h3: (elems.map (·.1))[i]? =some (.lit (.string s)):=by rw[<- hx1,Wr,hi];rfl
  rw[Wr,h2,hs2]at h3;simp only[QS,QG,DataW.lit.injEq,Lit.string.injEq]at h3;subst h3;have h4:=g4 0 (by rw[hc];omega);rw[hs1,hc,RU]at h4;have h5: (a.add i).add 0=a.add i:=by cases a;simp[Addr.add]
  rw[h5]at h4;rw[h4];simp
 by_cases h0:ss=[]
 ·left;simp[h0]
 ·right;obtain⟨ab,ao,asp⟩:=a;have hsp:asp=none:=by
   cases ss with
   | nil=>exact absurd rfl h0
   | cons s ss=>
    have h1:=hget 0 s rfl;unfold World.cell? at h1;split at h1
    ·split at h1
     ·cases h1
     ·rename_i hq;simpa[Addr.add]using hq
    ·cases h1
  subst hsp;refine⟨ab,ao,rfl,?_⟩;rw[XG];intro i x hx;rw[Wr]at hx;cases hi:ss[i]? with
  | none=>rw[hi]at hx;cases hx
  | some s=>
   rw[hi]at hx;injection hx with hx
   subst hx;refine⟨rfl,?_⟩;simp only[Y6];refine⟨⟨.string ⟨s.toArray⟩,?_,rfl,by simp only[Qg]⟩,trivial⟩;rw[Qid];have:=hget i s hi;rw[Yx]at this;simpa using this
end Go.Am
