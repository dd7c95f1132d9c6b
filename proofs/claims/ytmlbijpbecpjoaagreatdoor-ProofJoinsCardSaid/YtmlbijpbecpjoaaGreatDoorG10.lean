/-
  Am26, Am20, Am27, Am29.
-/
import Derived.Test.YtmlbijpbecpjoaaGreatDoorG09
import Derived.SizedLaws
import Derived.Deep.Slices
import Derived.ChangeArms
import Derived.DataReads
import Derived.Carry
import Derived.ReadAgain
import Derived.ChangeSame
import Derived.OpenShut
import Derived.Stop.LaidErr
set_option linter.all false
namespace Go.Am
def mW (w:World):ZF:=fun b=>match w.heap[b]? with
 | some (.cells c _ _)=>c.size
 | _=>0
def QgD (w:World) (b i:Nat):hg w (mW w) b i=w.cell? ⟨b,i,none⟩:=by
 unfold hg mW World.cell?;cases h:w.heap[b]? with
 | none=>simp
 | some o=>
  cases o <;> simp
def JV (R:TypeId->Qh->Prop):List Field->Qh->Prop
 | [],avs=>avs=[]
 | f:: fs,avs=>∃p q,avs=p ++ q/\R f.type p/\JV R fs q
def Shp (B:Nat) (P:Program):Nat->TypeId->Qh->Prop
 | 0,_,_=>False
 | n+1,t,avs=>match P.underlying t with
  | some (.int k)=>∃i,avs=[.int k i]/\(Lit.int k i).wf=true
  | some .bool=>∃b,avs=[.bool b]
  | some .string=>∃s:Qu,avs=[.str s]/\s.length<=B
  | some (.slice e)=>∃xs:Qa,avs=[.sl false (P.cellsOf e) xs]/\xs.length*P.bytesOf e<=B/\∀x∈xs,Shp B P n e x
  | some (.struct fs)=>JV (Shp B P n) fs.toList avs
  | _=>False
def Db (P:Program) (tot:Nat):List Field->Nat->Bool
 | [],o=>decide (o=tot)
 | f:: fs,o=>decide (f.offset=o) && Db P tot fs (o+P.cellsOf f.type)
def HP (P:Program) (S:List TypeId):Bool:=S.all fun t=>match P.underlying t with
 | some (.int _)=>decide (P.cellsOf t=1)
 | some .bool=>decide (P.cellsOf t=1)
 | some .string=>decide (P.cellsOf t=1)
 | some (.slice e)=>S.contains e && decide (0 < P.cellsOf e) && decide (P.cellsOf t=1)
 | some (.struct fs)=>fs.toList.all (fun f=>S.contains f.type) && Db P (P.cellsOf t) fs.toList 0
 | _=>false
def FP:=@Nat.lt_trichotomy
def BE {α:Type} {Q:Nat->α->Prop}: ∀{n:Nat},(∀i,i < n->∃x,Q i x)->∃xs:List α,xs.length=n/\∀i x,xs[i]? =some x->Q i x
 | 0,_=>⟨[],rfl,fun i x h=>by simp at h⟩
 | n+1,h=>by
  obtain⟨xs,h1,h2⟩:=BE (n:=n) fun i hi=>h i (by omega);obtain⟨x,hx⟩:=h n (by omega);refine⟨xs ++ [x],by simp[h1],fun i y hy=> ?_⟩;rcases FP i n with hi | hi | hi
  ·rw[ZM (by omega)]at hy;exact h2 i y hy
  ·subst hi;rw[YS (by omega),h1,Nat.sub_self]at hy;simp at hy;subst hy;exact hx
  ·rw[Q3 (by simp;omega)]at hy;cases hy
def CK {H:Type} {P:Program} {e:TypeId} {ds:List (DataW H)}: ∀{d:DataW H},d∈ds->∀n∈d.weights P e,n∈DataW.weightsAll P e ds:=by
 induction ds with
 | nil=>intro d h;cases h
 | cons a ds ih=>
  intro d h n hn;simp only[DataW.weightsAll,Wc];rcases ZS.1 h with rfl | h
  ·exact .inl hn
  ·exact .inr (ih h n hn)
section
variable {B:Nat} {H:Type} {enc:TypeId×Value->H} {P:Program} {w:World} {base:Nat} {spare:Nat->Bool} {held:Bool} {num:Nat->Option Nat} {β:List Blk} {S:List TypeId}
def JQ [Dr] (hS:HP P S=true): ∀(fuel:Nat) (t:TypeId) (cs:ZE) (x:DataW H×List MemPlace),t∈S->DataW.trod enc P w base spare held fuel t cs=some x->
  (∀n∈x.1.weights P t,n<=B)->∃avs,Shp B P fuel t avs/\avs.length=cs.length/\cs.length=P.cellsOf t/\YV num β w (mW w) avs (fun i=>cs[i]?) 0:=by
 intro fuel
 induction fuel with
 | zero=>intro t cs x _ h;simp[DataW.trod]at h
 | succ fuel ih=>
  intro t cs x ht h hwt;have hs:=XK.1 hS t ht;simp only[Shp];split at hs
  ·rename_i k hu;simp only[Qv]at hs;obtain⟨n,rfl,rfl,hwf⟩:=DataW.trod_int hu h;exact⟨_,⟨n,rfl,hwf⟩,rfl,by rw[hs];rfl,by simp[YV,Qd];rfl⟩
  ·rename_i hu;simp only[Qv]at hs;have: ∃b,cs=[.bool b]:=by
    unfold DataW.trod at h;rw[hu]at h;split at h <;> simp_all
   obtain⟨b,rfl⟩:=this;exact⟨_,⟨b,rfl⟩,rfl,by rw[hs];rfl,by simp[YV,Qd];rfl⟩
  ·rename_i hu;simp only[Qv]at hs;obtain⟨s,rfl,rfl,hmx⟩:=DataW.trod_string hu h;refine⟨_,⟨s.data.toList,rfl,hwt _ (by simp[DataW.weights])⟩,rfl,by rw[hs];rfl,?_⟩;simp only[YV,Qd];exact⟨⟨_,rfl,rfl,by simp⟩,trivial⟩
  ·rename_i e hu;simp only[Qo,Qv]at hs;obtain⟨⟨hse,hc0⟩,hc1⟩:=hs;have he:e∈S:=by simpa using hse
   rcases DataW.trod_slice hu h with⟨rfl,rfl⟩ | ⟨a,len,cap,elems,rest,n,hn,rfl,rfl,hb,hl,hm,hlen,hel,_,_⟩
   ·refine⟨_,⟨[],rfl,by simp,by simp⟩,rfl,by rw[hc1];rfl,?_⟩;simp only[YV,Qd];exact⟨⟨_,rfl,rfl,none,0,0,rfl,rfl,ZJ _,Pr _,.inl trivial⟩,trivial⟩
   ·injection hn with hn
    subst hn;have hel2: ∀i,i < len->∃av,Shp B P fuel e av/\av.length=P.cellsOf e/\∃cs':ZE,(∀j,j < P.cellsOf e->w.cell? ((a.add (i*P.cellsOf e)).add j)=cs'[j]?)/\cs'.length=P.cellsOf e/\YV num β w (mW w) av (fun j=>cs'[j]?) 0:=by
     intro i hi;have h1:=hel i hi;have h2:elems[i]? =some (elems[i]'(by omega)):=Zv (by omega);rw[h2]at h1;obtain⟨cs',g1,g2⟩:=FC.1 h1;obtain⟨_,g3,g4⟩:=World.cells?_some g1;obtain⟨av,k1,k2,k3,k4⟩:=ih e cs' _ he g2 (fun n hn=>hwt n (by
      simp only[DataW.weights,hu,ZS,Wc];right;left
      refine CK (d:=(elems[i]'(by omega)).1) ?_ n hn;exact W8.2 ⟨_,Pk _,rfl⟩))
     exact⟨av,k1,by rw[k2,k3],cs',g4,g3,k4⟩
    obtain⟨xs,x1,x2⟩:=BE hel2;refine⟨_,⟨xs,rfl,?_,fun x hx=> ?_⟩,rfl,by rw[hc1];rfl,?_⟩
    ·have:=hwt ((elems.length+rest.length)*P.bytesOf e) (by simp[DataW.weights,hu]);refine Uu (Z5 _ ?_) this;omega
    ·obtain⟨i,hi⟩:=Sk hx;exact(x2 i x hi).1
    ·simp only[YV,Qd];refine⟨⟨_,rfl,rfl,some a,len,cap,rfl,x1,hl,hm,?_⟩,trivial⟩;by_cases h0:xs=[]
     ·exact .inl h0
     ·right;have hl0:0 < len:=by rw[<- x1];exact UH.2 h0
      have hsp:a.spot=none:=by
       obtain⟨av,_,_,cs',g4,g3,_⟩:=hel2 0 hl0;have h1:=g4 0 hc0;rw[Zv (by omega)]at h1;unfold World.cell? at h1;split at h1
       ·split at h1
        ·cases h1
        ·rename_i hq;simpa[Addr.add]using hq
       ·cases h1
      obtain⟨ab,ao,asp⟩:=a;simp only at hsp;subst hsp;refine⟨ab,ao,rfl,?_⟩;rw[Xr];intro i x hx;obtain⟨k1,k2,cs',g4,g3,k4⟩:=x2 i x hx;refine⟨k2,?_⟩;rw[ZQ]at k4 ⊢;intro j c hj;obtain⟨u,u1,u2,u3⟩:=k4 j c hj;have hjl:j < P.cellsOf e:=by
       rcases QR j x.length with hh | hh
       ·omega
       ·rw[Q3 hh]at hj;cases hj
      refine⟨u,?_,u2,u3⟩;rw[QgD];have:=g4 j hjl;simp only[Zk]at u1;rw[u1,Ym,Ym]at this;exact this
  ·rename_i fs hu;simp only[Qo]at hs;obtain⟨hs1,hs2⟩:=hs;obtain⟨xs,n,hn,rfl,hcl,hxl,hf⟩:=DataW.trod_struct hu h;injection hn with hn
   subst hn;have key: ∀(l:List Field) (k o:Nat),fs.toList.drop k=l->Db P (P.cellsOf t) l o=true->∃avs,JV (Shp B P fuel) l avs/\avs.length+o=P.cellsOf t/\YV num β w (mW w) avs (fun i=>cs[i]?) o:=by
    intro l
    induction l with
    | nil=>
     intro k o _ hl;simp only[Db,Qv]at hl;exact⟨[],rfl,by simpa using hl,by simp[YV]⟩
    | cons f l ihl=>
     intro k o hk hl;simp only[Db,Qo,Qv]at hl;obtain⟨rfl,hl2⟩:=hl;have hkf:fs.toList[k]? =some f:=by
      have: (fs.toList.drop k)[0]? =some f:=by rw[hk];rfl
      simpa using this
     have hk2:fs.toList.drop (k+1)=l:=by
      rw[<- List.drop_drop,hk];rfl
     obtain⟨q,q1,q2,q3⟩:=ihl (k+1) _ hk2 hl2;have hkf2:fs[k]? =some f:=by simpa using hkf
     have hfm:f.type∈S:=by
      have:=XK.1 hs1 f (WC hkf);simpa using this
     have h1:=hf k f hkf2;have hkl:k < xs.length:=by
      rw[hxl];exact(Pa.1 hkf2).1
     rw[Zv hkl]at h1;obtain⟨p,p1,p2,p3,p4⟩:=ih f.type _ _ hfm h1 (fun n hn=>hwt n (by
      simp only[DataW.weights,hu];exact DataW.weights_mem_each (j:=k) (t:=f.type) (d:=xs[k].1) (by simp[hkf2]) (by simp[Zv hkl]) n hn))
     rw[p3]at p2;refine⟨p ++ q,⟨p,q,rfl,p1,q1⟩,by simp;omega,?_⟩;rw[ZQ]at p4 q3 ⊢;intro i c hi;by_cases hil:i < p.length
     ·rw[ZM hil]at hi;obtain⟨u,u1,u2,u3⟩:=p4 i c hi;refine⟨u,?_,u2,u3⟩;simp only[Zk]at u1;rw[VJ]at u1;split at u1
      ·rwa[XJ]at u1
      ·cases u1
     ·rw[YS (by omega)]at hi;obtain⟨u,u1,u2,u3⟩:=q3 (i - p.length) c hi;refine⟨u,?_,u2,u3⟩;rwa[show f.offset+P.cellsOf f.type+ (i - p.length)=f.offset+i by omega]at u1
   obtain⟨avs,a1,a2,a3⟩:=key fs.toList 0 0 (by simp) hs2;exact⟨avs,a1,by omega,hcl,a3⟩
  ·cases hs
end
end Go.Am
namespace Go.Am
def KLe (K K':Yo):Prop:=∀f args bs r,K f args bs=some r->K' f args bs=some r
def Qc4 {K K':Yo} (h:KLe K K') {op:AOp} {σ:St} {p:AV×St} (he:Qi K op σ=some p):Qi K' op σ=some p:=by
 cases op <;> try exact he
 case call f args=>
  simp only[Qi]at he ⊢;split at he
  ·rename_i hok;rw[Qn hok];cases hk:K f (args.map (val σ.env)) σ.bs with
   | none=>rw[hk]at he;cases he
   | some r=>rw[hk]at he;rw[h _ _ _ _ hk];exact he
  ·cases he
 case callq f args=>
  simp only[Qi]at he ⊢;split at he
  ·rename_i hok;rw[Qn hok];cases hk:K f (args.map (val σ.env)) σ.bs with
   | none=>rw[hk]at he;cases he
   | some r=>rw[hk]at he;rw[h _ _ _ _ hk];exact he
  ·cases he
 case callv g args=>
  simp only[Qi]at he ⊢;split at he
  ·rename_i f caps hf;split at he
   ·rename_i hok;rw[Qn hok];cases hk:K f (args.map (val σ.env)++ caps) σ.bs with
    | none=>rw[hk]at he;cases he
    | some r=>rw[hk]at he;rw[h _ _ _ _ hk];exact he
   ·cases he
  ·rename_i f caps hf;split at he
   ·rename_i hok;rw[Qn hok];cases hk:K f (caps ++ args.map (val σ.env)) σ.bs with
    | none=>rw[hk]at he;cases he
    | some r=>rw[hk]at he;rw[h _ _ _ _ hk];exact he
   ·cases he
  ·cases he
def JK {K K':Yo} (h:KLe K K') {o:QM} {σ s:St} (he:Z4 K o σ=some s):Z4 K' o σ=some s:=by
 have key: ((Qi K o.op σ).map fun p=>({p.2 with env:=YC p.2.env o.dst p.1}:St))=some s->((Qi K' o.op σ).map fun p=>({p.2 with env:=YC p.2.env o.dst p.1}:St))=some s:=fun he=>by
  cases hx:Qi K o.op σ with
  | none=>rw[hx]at he;cases he
  | some p=>rw[hx]at he;rw[Qc4 h hx];exact he
 unfold Z4 at he ⊢;split at he
 ·exact key he
 ·split at he
  ·split at he
   ·rename_i hc;rw[Qn hc];exact key he
   ·rename_i hc;rw[Qm hc];exact he
  ·exact he
  ·cases he
def TE {K K':Yo} (h:KLe K K'): ∀{os:Yj} {σ s:St},Z9 K os σ=some s->Z9 K' os σ=some s
 | [],_,_,he=>he
 | o:: os,σ,s,he=>by
  simp only[Z9]at he ⊢;cases ho:Z4 K o σ with
  | none=>rw[ho]at he;cases he
  | some s1=>
   rw[ho]at he;rw[JK h ho];exact TE h he
def P9 {f g:St->Option (Ex×St)} (h: ∀s x,f s=some x->g s=some x): ∀{n m:Nat} {σ:St} {x:Ex×St},n<=m->Ts f n σ=some x->Ts g m σ=some x
 | 0,_,_,_,_,he=>by simp[Ts]at he
 | n+1,0,_,_,hnm,_=>by omega
 | n+1,m+1,σ,x,hnm,he=>by
  simp only[Ts]at he ⊢;split at he
  ·rename_i s hf;rw[h _ _ hf];exact P9 h (by omega) he
  ·rename_i hne;have:=h _ _ he;rw[this];obtain⟨e,s⟩:=x;cases e
   ·exact absurd he (hne s)
   ·rfl
   ·rfl
def Of {K K':Yo} (h:KLe K K') {n m:Nat} (hnm:n<=m): ∀{c:AC} {σ:St} {x:Ex×St},ZD K n c σ=some x->ZD K' m c σ=some x:=by
 intro c
 induction c with
 | bad=>intro σ x he;simp[ZD]at he
 | skip=>intro σ x he;exact he
 | reg d ops=>
  intro σ x he;simp only[ZD]at he ⊢;cases ho:Z9 K ops σ with
  | none=>rw[ho]at he;cases he
  | some s=>rw[ho]at he;rw[TE h ho];exact he
 | seq a b iha ihb=>
  intro σ x he;simp only[ZD]at he ⊢;split at he
  ·rename_i s ha;rw[iha ha];exact ihb he
  ·rename_i hne;rw[iha he];obtain⟨e,s⟩:=x;cases e
   ·exact absurd he (hne s)
   ·rfl
   ·rfl
 | cond c a b iha ihb=>
  intro σ x he;simp only[ZD]at he ⊢;split at he
  ·exact iha he
  ·exact ihb he
  ·cases he
 | block id c ih=>
  intro σ x he;simp only[ZD]at he ⊢;split at he
  ·rename_i i s hc;rw[ih hc];exact he
  ·rename_i hne;rw[ih he];obtain⟨e,s⟩:=x;cases e
   ·rfl
   ·exact absurd he (hne _ s)
   ·rfl
 | loop c ih=>
  intro σ x he;simp only[ZD]at he ⊢;exact P9 (fun s x hx=>ih hx) hnm he
 | exit id=>intro σ x he;exact he
 | ret=>intro σ x he;exact he
def VM {T:Vm}: ∀{n m:Nat},n<=m->KLe (YJ T n) (YJ T m)
 | 0,_,_=>fun _ _ _ _ h=>by simp[YJ]at h
 | n+1,0,h=>by omega
 | n+1,m+1,h=>fun f args bs r he=>by
  simp only[YJ]at he ⊢;split at he
  ·cases he
  ·rename_i g hg;exact he
  ·rename_i fn hf;split at he
   ·rename_i hl;rw[Qn hl];have hr: ∀x,ZD (YJ T n) n fn.body {env:=XB args,bs}=some x->ZD (YJ T m) m fn.body {env:=XB args,bs}=some x:=fun x hx=>Of (VM (by omega)) (by omega) hx;split at he
    ·rename_i s hs;rw[hr _ hs];exact he
    ·rename_i s hs;rw[hr _ hs];exact he
    ·cases he
   ·cases he
open Classical in
noncomputable def call (T:Vm):Yo:=fun f args bs=>if h: ∃r n,YJ T n f args bs=some r then some h.choose else none
open Classical in
noncomputable def run (T:Vm) (c:AC) (σ:St):Option (Ex×St):=if h: ∃x n,ZD (YJ T n) n c σ=some x then some h.choose else none
section
variable {T:Nat->Option AFn}
def Ms:=@Nat.le_max_left
def Mn:=@Nat.le_max_right
def US {f:Nat} {args:Qh} {bs:Qa} {r:AV×Qa}:call T f args bs=some r↔∃n,YJ T n f args bs=some r:=by
 have huniq: ∀{r1 r2:AV×Qa} {n m:Nat},YJ T n f args bs=some r1->YJ T m f args bs=some r2->r1=r2:=fun {r1 r2 n m} h1 h2=>by
  have g1:=VM (T:=T) (Ms n m) _ _ _ _ h1;have g2:=VM (T:=T) (Mn n m) _ _ _ _ h2;rw[g1]at g2;injection g2
 unfold call;constructor
 ·intro h;split at h
  ·rename_i hx;injection h with h
   obtain⟨n,hn⟩:=hx.choose_spec;exact⟨n,h▸hn⟩
  ·cases h
 ·rintro⟨n,hn⟩
  have hx: ∃r n,YJ T n f args bs=some r:=⟨r,n,hn⟩;rw[dif_pos hx];obtain⟨m,hm⟩:=hx.choose_spec;rw[huniq hm hn]
def Z1 {c:AC} {σ:St} {x:Ex×St}:run T c σ=some x↔∃n,ZD (YJ T n) n c σ=some x:=by
 have huniq: ∀{r1 r2:Ex×St} {n m:Nat},ZD (YJ T n) n c σ=some r1->ZD (YJ T m) m c σ=some r2->r1=r2:=fun {r1 r2 n m} h1 h2=>by
  have g1:=Of (VM (T:=T) (Ms n m)) (Ms n m) h1;have g2:=Of (VM (T:=T) (Mn n m)) (Mn n m) h2;rw[g1]at g2;injection g2
 unfold run;constructor
 ·intro h;split at h
  ·rename_i hx;injection h with h
   obtain⟨n,hn⟩:=hx.choose_spec;exact⟨n,h▸hn⟩
  ·cases h
 ·rintro⟨n,hn⟩
  have hx: ∃x n,ZD (YJ T n) n c σ=some x:=⟨x,n,hn⟩;rw[dif_pos hx];obtain⟨m,hm⟩:=hx.choose_spec;rw[huniq hm hn]
def Hn (n:Nat):KLe (YJ T n) (call T):=fun _ _ _ _ h=>US.2 ⟨n,h⟩
def Qfb {op:AOp} {σ:St} {p:AV×St} (h:Qi (call T) op σ=some p): ∃n,Qi (YJ T n) op σ=some p:=by
 cases op <;> try exact⟨0,h⟩
 case call f args=>
  simp only[Qi]at h ⊢;split at h
  ·rename_i hok;simp only[hok,Zl];cases hk:call T f (args.map (val σ.env)) σ.bs with
   | none=>rw[hk]at h;cases h
   | some r=>
    obtain⟨n,hn⟩:=US.1 hk;rw[hk]at h;exact⟨n,by rw[hn];exact h⟩
  ·cases h
 case callq f args=>
  simp only[Qi]at h ⊢;split at h
  ·rename_i hok;simp only[hok,Zl];cases hk:call T f (args.map (val σ.env)) σ.bs with
   | none=>rw[hk]at h;cases h
   | some r=>
    obtain⟨n,hn⟩:=US.1 hk;rw[hk]at h;exact⟨n,by rw[hn];exact h⟩
  ·cases h
 case callv g args=>
  simp only[Qi]at h ⊢;split at h
  ·rename_i f caps hf;split at h
   ·rename_i hok;simp only[hok,Zl];cases hk:call T f (args.map (val σ.env)++ caps) σ.bs with
    | none=>rw[hk]at h;cases h
    | some r=>
     obtain⟨n,hn⟩:=US.1 hk;rw[hk]at h;exact⟨n,by rw[hn];exact h⟩
   ·cases h
  ·rename_i f caps hf;split at h
   ·rename_i hok;simp only[hok,Zl];cases hk:call T f (caps ++ args.map (val σ.env)) σ.bs with
    | none=>rw[hk]at h;cases h
    | some r=>
     obtain⟨n,hn⟩:=US.1 hk;rw[hk]at h;exact⟨n,by rw[hn];exact h⟩
   ·cases h
  ·cases h
def QdF {o:QM} {σ s:St} (h:Z4 (call T) o σ=some s): ∃n,Z4 (YJ T n) o σ=some s:=by
 have key: ((Qi (call T) o.op σ).map fun p=>({p.2 with env:=YC p.2.env o.dst p.1}:St))=some s->∃n,((Qi (YJ T n) o.op σ).map fun p=>({p.2 with env:=YC p.2.env o.dst p.1}:St))=some s:=fun he=>by
  cases hx:Qi (call T) o.op σ with
  | none=>rw[hx]at he;cases he
  | some p=>
   obtain⟨n,hn⟩:=Qfb hx;rw[hx]at he;exact⟨n,by rw[hn];exact he⟩
 unfold Z4 at h ⊢;split at h
 ·exact key h
 ·split at h
  ·split at h
   ·rename_i hc;obtain⟨n,hn⟩:=key h;exact⟨n,by rw[Qn hc];exact hn⟩
   ·rename_i hc;exact⟨0,by rw[Qm hc];exact h⟩
  ·exact⟨0,h⟩
  ·cases h
def JL: ∀{os:Yj} {σ s:St},Z9 (call T) os σ=some s->∃n,Z9 (YJ T n) os σ=some s
 | [],_,_,h=>⟨0,h⟩
 | o:: os,σ,s,h=>by
  simp only[Z9]at h;cases ho:Z4 (call T) o σ with
  | none=>rw[ho]at h;cases h
  | some s1=>
   rw[ho]at h;obtain⟨n,hn⟩:=QdF ho;obtain⟨m,hm⟩:=JL (os:=os) h;refine⟨max n m,?_⟩;simp only[Z9];rw[JK (VM (Ms n m)) hn];exact TE (VM (Mn n m)) hm
def Rv {n m:Nat} (h:n<=m) {c:AC} {σ:St} {x:Ex×St} (hr:ZD (YJ T n) n c σ=some x):ZD (YJ T m) m c σ=some x:=Of (VM h) h hr
def RZ {α:Type} {a b:Option α} (h: ∀x,a=some x↔b=some x):a=b:=by
 cases a with
 | none=>cases b with
  | none=>rfl
  | some y=>exact absurd ((h y).2 rfl) (by simp)
 | some x=>exact((h x).1 rfl).symm
def DD (σ:St):run T .skip σ=some (.normal,σ):=Z1.2 ⟨0,rfl⟩
def BM (σ:St):run T .ret σ=some (.ret,σ):=Z1.2 ⟨0,rfl⟩
def DA (id:Nat) (σ:St):run T (.exit id) σ=some (.exit id,σ):=Z1.2 ⟨0,rfl⟩
def BL (d:Bool) (ops:Yj) (σ:St):run T (.reg d ops) σ=(Z9 (call T) ops σ).map fun s=>(.normal,s):=by
 apply RZ;intro x;rw[Z1];simp only[ZD];constructor
 ·rintro⟨n,h⟩
  cases ho:Z9 (YJ T n) ops σ with
  | none=>rw[ho]at h;cases h
  | some s=>rw[ho]at h;rw[TE (Hn n) ho];exact h
 ·intro h;cases ho:Z9 (call T) ops σ with
  | none=>rw[ho]at h;cases h
  | some s=>
   obtain⟨n,hn⟩:=JL ho;rw[ho]at h;exact⟨n,by rw[hn];exact h⟩
def BN (a b:AC) (σ:St):run T (.seq a b) σ=match run T a σ with
  | some (.normal,s)=>run T b s
  | r=>r:=by
 apply RZ;intro x;rw[Z1];constructor
 ·rintro⟨n,h⟩
  simp only[ZD]at h;split at h
  ·rename_i s hs;rw[Z1.2 ⟨n,hs⟩];exact Z1.2 ⟨n,h⟩
  ·rename_i hne;rw[Z1.2 ⟨n,h⟩];obtain⟨e,s⟩:=x;cases e
   ·exact absurd h (hne s)
   ·rfl
   ·rfl
 ·intro h;split at h
  ·rename_i s hs;obtain⟨n,hn⟩:=Z1.1 hs;obtain⟨m,hm⟩:=Z1.1 h;refine⟨max n m,?_⟩;simp only[ZD];rw[Rv (Ms n m) hn];exact Rv (Mn n m) hm
  ·rename_i hne;obtain⟨n,hn⟩:=Z1.1 h;refine⟨n,?_⟩;simp only[ZD];rw[hn];obtain⟨e,s⟩:=x;cases e
   ·exact absurd h (hne s)
   ·rfl
   ·rfl
def Dz (c:AO) (a b:AC) (σ:St):run T (.cond c a b) σ=match val σ.env c with
  | .bool true=>run T a σ
  | .bool false=>run T b σ
  | _=>none:=by
 apply RZ;intro x;rw[Z1];simp only[ZD];cases hv:val σ.env c <;> try simp
 rename_i b;cases b
 ·exact Z1.symm
 ·exact Z1.symm
def He (id:Nat) (c:AC) (σ:St):run T (.block id c) σ=match run T c σ with
  | some (.exit i,s)=>some (if i=id then .normal else .exit i,s)
  | r=>r:=by
 apply RZ;intro x;rw[Z1];simp only[ZD];constructor
 ·rintro⟨n,h⟩
  split at h
  ·rename_i i s hs;rw[Z1.2 ⟨n,hs⟩];exact h
  ·rename_i hne;rw[Z1.2 ⟨n,h⟩];obtain⟨e,s⟩:=x;cases e
   ·rfl
   ·exact absurd h (hne _ s)
   ·rfl
 ·intro h;split at h
  ·rename_i i s hs;obtain⟨n,hn⟩:=Z1.1 hs;exact⟨n,by rw[hn];exact h⟩
  ·rename_i hne;obtain⟨n,hn⟩:=Z1.1 h;refine⟨n,?_⟩;rw[hn];obtain⟨e,s⟩:=x;cases e
   ·rfl
   ·exact absurd h (hne _ s)
   ·rfl
def DC (c:AC) (σ:St):run T (.loop c) σ=match run T c σ with
  | some (.normal,s)=>run T (.loop c) s
  | r=>r:=by
 apply RZ;intro x;rw[Z1];constructor
 ·rintro⟨n,h⟩
  simp only[ZD]at h;cases n with
  | zero=>simp[Ts]at h
  | succ n=>
   simp only[Ts]at h;split at h
   ·rename_i s hs;rw[Z1.2 ⟨n+1,hs⟩];refine Z1.2 ⟨n+1,?_⟩;simp only[ZD];exact P9 (fun _ _ h=>h) (by omega) h
   ·rename_i hne;rw[Z1.2 ⟨n+1,h⟩];obtain⟨e,s⟩:=x;cases e
    ·exact absurd h (hne s)
    ·rfl
    ·rfl
 ·intro h;split at h
  ·rename_i s hs;obtain⟨n,hn⟩:=Z1.1 hs;obtain⟨m,hm⟩:=Z1.1 h;refine⟨max n m+1,?_⟩;simp only[ZD]at hm ⊢;simp only[Ts];rw[Rv (m:=max n m+1) (by omega) hn];exact P9 (fun s x hx=>Rv (by omega) hx) (by omega) hm
  ·rename_i hne;obtain⟨n,hn⟩:=Z1.1 h;refine⟨n+1,?_⟩;simp only[ZD,Ts];rw[Rv (m:=n+1) (by omega) hn];obtain⟨e,s⟩:=x;cases e
   ·exact absurd h (hne s)
   ·rfl
   ·rfl
def Ia (f:Nat) (args:Qh) (bs:Qa):call T f args bs=match T f with
  | none=>none
  | some (.orc g)=>g args bs
  | some (.code fn)=>
   if args.length=fn.nparams then
    match run T fn.body {env:=XB args,bs}with
    | some (.normal,σ)=>Xq fn bs σ
    | some (.ret,σ)=>Xq fn bs σ
    | _=>none
   else none:=by
 apply RZ;intro x;rw[US];constructor
 ·rintro⟨n,h⟩
  cases n with
  | zero=>simp[YJ]at h
  | succ n=>
   simp only[YJ]at h;split at h
   ·cases h
   ·rename_i g hg;simp only[hg];exact h
   ·rename_i fn hf;simp only[hf];split at h
    ·rename_i hl;rw[Qn hl];split at h
     ·rename_i s hs;rw[Z1.2 ⟨n,hs⟩];exact h
     ·rename_i s hs;rw[Z1.2 ⟨n,hs⟩];exact h
     ·cases h
    ·cases h
 ·intro h;split at h
  ·cases h
  ·rename_i g hg;exact⟨1,by simp only[YJ,hg];exact h⟩
  ·rename_i fn hf;split at h
   ·rename_i hl;split at h
    ·rename_i s hs;obtain⟨n,hn⟩:=Z1.1 hs;exact⟨n+1,by simp only[YJ,hf,hl,Zl,hn];exact h⟩
    ·rename_i s hs;obtain⟨n,hn⟩:=Z1.1 hs;exact⟨n+1,by simp only[YJ,hf,hl,Zl,hn];exact h⟩
    ·cases h
   ·cases h
end
end Go.Am
namespace Go.Am
open Go.RowKit Go.ChangeShapes Go.WideShapes
section
variable {P:Program} {num:Nat->Option Nat} {tb:Nat->Option AFn} {W:World}
section
variable {H:Type} {enc:TypeId×Value->H} {S:List TypeId} {base b0:Nat} {spare:Nat->Bool} {held:Bool} {r:Reach}
def An [Dr] {B:Nat} (hS:HP P S=true) {t:TypeId} (ht:t∈S) {fs:Array Field} (hu:P.underlying t=some (.struct fs)) {v:Value} {d:DataW H} {p:List MemPlace} (hv:Value.okWide P W r b0 t v)
  (h:DataW.Trod enc P W base spare held t v d p) (hw: ∀n∈d.weights P t,n<=B): ∃n avs,Shp B P n t avs/\Qd num [] W (mW W) (.agg avs) v:=by
 obtain⟨cs,rfl,hsz⟩:=okWide_struct hu hv;obtain⟨fuel,hf⟩:=h;obtain⟨avs,h1,h2,h3,h4⟩:=JQ (num:=num) (β:=[]) hS fuel t _ _ ht hf hw;refine⟨fuel,avs,h1,?_⟩;simp only[Qd];have hc: (Value.agg cs).cells=cs:=rfl;rw[hc]at h2 h4;refine⟨cs,rfl,by simpa using h2.symm,?_⟩;simpa using h4
def N3 (K:Kids P (· < P.types.size)) (hz: ∀t e,t < P.types.size->P.underlying t=some (.slice e)->0 < P.cellsOf e) {W':World} (hb:Below W.heap.size W W') {sp:Nat->Bool}:
  ∀{ts:List TypeId} {vs:ZE} {ds:List (DataW H)} {ps:List MemPlace},(∀t∈ts,t < P.types.size)->DataW.TrodAll enc P W 0 (fun _=>true) true ts vs ds ps->(∀p∈ps,p.block < W.heap.size)->(∀p∈ps,sp p.block=true)->
   DataW.TrodAll enc P W' 0 sp true ts vs ds ps
 | [],[],[],_,_,h,_,_=>h
 | _:: _,_:: _,_:: _,_,hT,⟨p,q,⟨n,h1⟩,h2,e⟩,hlt,hs=>by
  subst e;refine⟨p,q,⟨n,?_⟩,N3 K hz hb (fun t ht=>hT t (Pg _ ht)) h2 (fun x hx=>hlt x (FH _ hx)) (fun x hx=>hs x (FH _ hx)),rfl⟩;exact DataW.trod_carry n _ _ _ (DataW.trod_respare K hz n _ _ _ (hT _ (List.mem_cons_self ..)) h1 (fun x hx=>hs x (FJ _ hx))) (fun x hx=>hb.same (hlt x (FJ _ hx)))
def post_of_below {f:Func} {s:ChangeSpec} {apart fresh handsOn again:Bool} {W W':World} {args:Ze} {v:Value} {ds gs:List (DataW H)} {before pa pv:List MemPlace}
  (hW:DataW.Whole enc P f.params.toList s.vars apart W args.toList ds gs before)
  (hres: ∀(b:Nat) (sp:Nat->Bool) (hd:Bool),DataW.TrodAll enc P W' b sp hd f.resultTypes.toList (v.resultList f.resultTypes.size) (s.fn H (ds ++ gs)).results [])
  (hargs: ∀sp:Nat->Bool,(∀p∈before,sp p.block=true)->DataW.TrodAll enc P W' 0 sp true f.params.toList args.toList (s.fn H (ds ++ gs)).args pa)
  (hvars: ∀sp:Nat->Bool,(∀p∈before,sp p.block=true)->DataW.TrodVars enc P W' sp s.vars (s.fn H (ds ++ gs)).vars pv)
  (hps:before=pa ++ pv) (hb:Below W.heap.size W W')
  (hok: ∀(j:Nat) (t:TypeId) (r:Value),f.resultTypes[j]? =some t->(v.resultList f.resultTypes.size)[j]? =some r->Value.okWide P W' .any 0 t r):
  s.post enc P f apart fresh handsOn again W args v W':=by
 have hlt: ∀p∈before,p.block < W.heap.size:=fun p hp=>hW.lt p hp;have hold: ∀p∈before,(fun b=>decide (b < W.heap.size)) p.block=true:=fun p hp=>by simpa using hlt p hp
 refine⟨ds,gs,before,[],pa,pv,hW,hres _ _ _,hargs _ hold,hvars _ hold,World.keptBut_mono (fun p hp=>⟨hp,?_⟩) (hb.frame (·∈before)),fun _=> ?_⟩
 ·rw[hps,Wc]at hp;exact Or.inr hp
 ·obtain⟨_,_,_,_,_,hz,hn⟩:=hW;refine⟨hok,_,_,([]++ pa)++ pv,⟨[]++ pa,pv,trodAll_append (hargs _ (fun _ _=>rfl)) (hres _ _ _),hvars _ (fun _ _=>rfl),rfl,?_,?_⟩,?_⟩
  ·intro b off hp;have hin:MemPlace.cell b off∈before:=by rw[hps];simpa using hp
   rw[hb.frozen (hlt _ hin)];exact hz b off hin
  ·intro ha;have:=hn ha;rw[hps]at this;simpa using this
  ·intro p hp _;rw[hps];simpa using hp
end
end
end Go.Am
namespace Go.Am
open Go.RowKit Go.ChangeShapes Go.WideShapes
def Ba {w:World} {g:Nat} {u:Value} (h:w.cell? ⟨g,0,none⟩=some u):g < w.heap.size:=by
 rcases QR g w.heap.size with h1 | h1
 ·exact h1
 ·unfold World.cell? at h;rw[VI h1]at h;cases h
def IF [Dr] {X:Nat->Prop} {w w':World} {m m':ZF} {B:Nat} (hS:ZO X w m w' m') (hX: ∀b,X b->B<=b) (hb:B<=w.heap.size) {g:Nat} (hg:g < B):w'.cell? ⟨g,0,none⟩=w.cell? ⟨g,0,none⟩:=by
 unfold World.cell?;rw[(hS.same g (by omega) (fun hx=>by have:=hX g hx;omega)).1]
def Xh [Dr] (P:Program) (gT gM:Nat):YU where
 G:=fun w m=>Oa P w/\(∃v,w.cell? ⟨gM,0,none⟩=some (.int .i64 v))/\∃u,w.cell? ⟨gT,0,none⟩=some u/\u.oneCell'=true/\∀num,Qd num [] w m (Kv 0) u
 nm:=fun k g=>k=0/\g=gT
 tab:=fun w m k g num hG hk=>by
  obtain⟨rfl,rfl⟩:=hk;obtain⟨-,-,u,h1,h2,h3⟩:=hG;exact⟨u,h1,h2,h3 num⟩
 Gb:=max (Oo P) (max gT gM+1)
 step:=fun X w m w' m' hS hX hb hG=>by
  obtain⟨h1,⟨v,h2⟩,u,h3,h4,h5⟩:=hG;refine⟨?_,⟨v,?_⟩,u,?_,h4,fun num=>Zc (Ge.refl _) hS.le _ _ (h5 num)⟩
  ·unfold Oa Lib.TabIs at *;rw[S7 hS hX hb (by unfold Oo;omega),S7 hS hX hb (by unfold Oo;omega),S7 hS hX hb (by unfold Oo;omega)];exact h1
  ·rw[IF hS hX hb (by omega)];exact h2
  ·rw[IF hS hX hb (by omega)];exact h3
def Qff [Dr] {P:Program} {gT gM:Nat} {w:World} {m:ZF} (h: (Xh P gT gM).G w m): (Xh P gT gM).Gb<=w.heap.size:=by
 obtain⟨h1,⟨v,h2⟩,u,h3,h4,h5⟩:=h;have a:=QiF h1;have b:=Ba h2;have c:=Ba h3
 show max _ _<=_;omega
def Qaa [Dr] {P:Program} {num:Y0} {tb:Vm} {W:World} {gT gM:Nat} (hF:JT P num (Xh P gT gM) tb) {f g:Nat} (hnum:num f=some g) {args:Qh} {vs:Ze} (hG: (Xh P gT gM).G W (mW W)) (hok:XH args=true) (hvs:vs.size=args.length)
  (hrep: ∀(i:Nat) (c:AV),args[i]? =some c->∃u,vs[i]? =some u/\Qd num [] W (mW W) c u) (hc:call tb f args []=some (.bool true,[])):
  Calls P g vs W fun e W'=>e= .returned (.bool true)/\Below W.heap.size W W':=by
 obtain⟨n,hn⟩:=US.1 hc;refine((Oj hF n).2 f g args [] _ _ hnum hn hok W (mW W) [] (fun _=>none) vs hG (Qff hG) hvs hrep ⟨rfl,fun i cs k h=>by simp at h⟩ (fun b p h=>by cases h)).mono fun e W' he=> ?_;obtain⟨v,m',β',ν',he,_,hS,_,_,hr,_,_⟩:=he;simp only[Qd]at hr;subst hr;exact⟨he,hS.os,hS.tape,hS.output,hS.size,fun k hk=>(hS.same k hk (fun⟨p,hp⟩=>by cases hp)).1⟩
def Qdk {P:Program} {n:String} {ss:List Qu} {r:List (String×DataW Unit)} {W:World} {g:Nat} {t e:TypeId}
  (h:laidMet P ((n,.slice (ss.map fun s=> .lit (.string s)) []):: r) W) (hg:P.globalNamed n=some g) (ht: (P.globals[g]?).map (·.type)=some t) (hu:P.underlying t=some (.slice e)) (he:P.underlying e=some .string) (hc:P.cellsOf e=1):
  ∃u,W.cell? ⟨g,0,none⟩=some u/\u.oneCell'=true/\∀num,Qd num [] W (mW W) (.sl false 1 (ss.map fun s=>[.str s])) u:=by
 obtain⟨ps,⟨g0,t0,cs0,f0,p0,q0,hg0,ht0,hv0,hd0,_,e0⟩,_,hrows⟩:=h;obtain rfl:=Option.some.inj (hg.symm.trans hg0);obtain rfl:=Option.some.inj (ht.symm.trans ht0);obtain⟨l0⟩:=cs0;rcases DataW.trod_slice hu hd0 with⟨_,h2⟩ | ⟨a,len,cap,elems,rest,k,hk,hcs,hx,hb,hl,hm,hlen,hel,_,_⟩
 ·simp at h2
 simp only at hcs;subst hcs;refine⟨_,by simpa using World.var?_cell hg hv0 0,rfl,fun num=> ?_⟩;simp only[QV,DataW.slice.injEq]at hx;obtain⟨⟨hx1,_⟩,_⟩:=hx;have hsl:ss.length=len:=by
  have:=Wu List.length hx1;simp only[Vv]at this;omega
 simp only[Qd];refine⟨some a,len,cap,rfl,by simp[hsl],hl,hm,?_⟩;have hget: ∀i s,ss[i]? =some s->W.cell? (a.add i)=some (.string ⟨s.toArray⟩):=by
  intro i s hi;have hil:i < len:=by
   rcases QR i ss.length with h | h
   ·omega
   ·rw[Q3 h]at hi;cases hi
  have h1:=hel i hil;have h2:elems[i]? =some (elems[i]'(by omega)):=Zv (by omega);rw[h2]at h1;obtain⟨cs',g1,g2⟩:=FC.1 h1;obtain⟨_,g3,g4⟩:=World.cells?_some g1;obtain⟨s',hs1,hs2,_⟩:=DataW.trod_string he g2;have h3: (elems.map (·.1))[i]? =some (.lit (.string s)):=by rw[<- hx1,Wb,hi];rfl
  rw[Wb,h2,hs2]at h3;simp only[QS,QD,DataW.lit.injEq,Lit.string.injEq]at h3;subst h3;have h4:=g4 0 (by rw[hc];omega);rw[hs1,hc,Rp]at h4;have h5: (a.add i).add 0=a.add i:=by cases a;simp[Addr.add]
  rw[h5]at h4;rw[h4];simp
 by_cases h0:ss=[]
 ·left;simp[h0]
 ·right;obtain⟨ab,ao,asp⟩:=a;have hsp:asp=none:=by
   cases ss with
   | nil=>exact absurd rfl h0
   | cons s ss=>
    have h1:=hget 0 s rfl;unfold World.cell? at h1;split at h1
    ·split at h1
     ·cases h1
     ·rename_i hq;simpa[Addr.add]using hq
    ·cases h1
  subst hsp;refine⟨ab,ao,rfl,?_⟩;rw[Xr];intro i x hx;rw[Wb]at hx;cases hi:ss[i]? with
  | none=>rw[hi]at hx;cases hx
  | some s=>
   rw[hi]at hx;injection hx with hx
   subst hx;refine⟨rfl,?_⟩;simp only[YV];refine⟨⟨.string ⟨s.toArray⟩,?_,rfl,by simp only[Qd]⟩,trivial⟩;rw[QgD];have:=hget i s hi;rw[Ym]at this;simpa using this
end Go.Am
