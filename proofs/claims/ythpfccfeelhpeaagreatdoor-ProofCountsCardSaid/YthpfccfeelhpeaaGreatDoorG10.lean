/-
  Am26, Am20, Am27, Am29.
-/
import Derived.Test.YthpfccfeelhpeaaGreatDoorG09
import Derived.SizedLaws
import Derived.Deep.Slices
import Derived.ChangeArms
import Derived.DataReads
import Derived.Carry
import Derived.ReadAgain
import Derived.ChangeSame
import Derived.OpenShut
import Derived.Stop.LaidErr
set_option linter.all false
namespace Go.Am
def mW (w:World):QX:=fun b=>match w.heap[b]? with
 | some (.cells c _ _)=>c.size
 | _=>0
def Df (w:World) (b i:Nat):hg w (mW w) b i=w.cell? ⟨b,i,none⟩:=by
 unfold hg mW World.cell?;cases h:w.heap[b]? with
 | none=>simp
 | some o=>
  cases o <;> simp
def Mw (R:TypeId->Qd->Prop):List Field->Qd->Prop
 | [],avs=>avs=[]
 | f:: fs,avs=>∃p q,avs=p ++ q/\R f.type p/\Mw R fs q
def Shp (B:Nat) (P:Program):Nat->TypeId->Qd->Prop
 | 0,_,_=>False
 | n+1,t,avs=>match P.underlying t with
  | some (.int k)=>∃i,avs=[.int k i]/\(Lit.int k i).wf=true
  | some .bool=>∃b,avs=[.bool b]
  | some .string=>∃s:QG,avs=[.str s]/\s.length<=B
  | some (.slice e)=>∃xs:Qe,avs=[.sl false (P.cellsOf e) xs]/\xs.length*P.bytesOf e<=B/\∀x∈xs,Shp B P n e x
  | some (.struct fs)=>Mw (Shp B P n) fs.toList avs
  | _=>False
def Lk (P:Program) (tot:Nat):List Field->Nat->Bool
 | [],o=>decide (o=tot)
 | f:: fs,o=>decide (f.offset=o) && Lk P tot fs (o+P.cellsOf f.type)
def JF (P:Program) (S:List TypeId):Bool:=S.all fun t=>match P.underlying t with
 | some (.int _)=>decide (P.cellsOf t=1)
 | some .bool=>decide (P.cellsOf t=1)
 | some .string=>decide (P.cellsOf t=1)
 | some (.slice e)=>S.contains e && decide (0 < P.cellsOf e) && decide (P.cellsOf t=1)
 | some (.struct fs)=>fs.toList.all (fun f=>S.contains f.type) && Lk P (P.cellsOf t) fs.toList 0
 | _=>false
def KD {α:Type} {Q:Nat->α->Prop}: ∀{n:Nat},(∀i,i < n->∃x,Q i x)->∃xs:List α,xs.length=n/\∀i x,xs[i]? =some x->Q i x
 | 0,_=>⟨[],rfl,fun i x h=>by simp at h⟩
 | n+1,h=>by
  obtain⟨xs,h1,h2⟩:=KD (n:=n) fun i hi=>h i (by omega);obtain⟨x,hx⟩:=h n (by omega);refine⟨xs ++ [x],by simp[h1],fun i y hy=> ?_⟩;rcases Nat.lt_trichotomy i n with hi | hi | hi
  ·rw[Zt (by omega)]at hy;exact h2 i y hy
  ·subst hi;rw[ZV (by omega),h1,Nat.sub_self]at hy;simp at hy;subst hy;exact hx
  ·rw[QF (by simp;omega)]at hy;cases hy
def Kh {H:Type} {P:Program} {e:TypeId} {ds:List (DataW H)}: ∀{d:DataW H},d∈ds->∀n∈d.weights P e,n∈DataW.weightsAll P e ds:=by
 induction ds with
 | nil=>intro d h;cases h
 | cons a ds ih=>
  intro d h n hn;simp only[DataW.weightsAll,WR];rcases ZK.1 h with rfl | h
  ·exact .inl hn
  ·exact .inr (ih h n hn)
section
variable {B:Nat} {H:Type} {enc:TypeId×Value->H} {P:Program} {w:World} {base:Nat} {spare:Nat->Bool} {held:Bool} {num:Nat->Option Nat} {β:List Blk} {S:List TypeId}
def J8 [Dr] (hS:JF P S=true): ∀(fuel:Nat) (t:TypeId) (cs:QS) (x:DataW H×List MemPlace),t∈S->DataW.trod enc P w base spare held fuel t cs=some x->
  (∀n∈x.1.weights P t,n<=B)->∃avs,Shp B P fuel t avs/\avs.length=cs.length/\cs.length=P.cellsOf t/\ZB num β w (mW w) avs (fun i=>cs[i]?) 0:=by
 intro fuel
 induction fuel with
 | zero=>intro t cs x _ h;simp[DataW.trod]at h
 | succ fuel ih=>
  intro t cs x ht h hwt;have hs:=YN.1 hS t ht;simp only[Shp];split at hs
  ·rename_i k hu;simp only[Ql]at hs;obtain⟨n,rfl,rfl,hwf⟩:=DataW.trod_int hu h;exact⟨_,⟨n,rfl,hwf⟩,rfl,by rw[hs];rfl,by simp[ZB,Qa];rfl⟩
  ·rename_i hu;simp only[Ql]at hs;have: ∃b,cs=[.bool b]:=by
    unfold DataW.trod at h;rw[hu]at h;split at h <;> simp_all
   obtain⟨b,rfl⟩:=this;exact⟨_,⟨b,rfl⟩,rfl,by rw[hs];rfl,by simp[ZB,Qa];rfl⟩
  ·rename_i hu;simp only[Ql]at hs;obtain⟨s,rfl,rfl,hmx⟩:=DataW.trod_string hu h;refine⟨_,⟨s.data.toList,rfl,hwt _ (by simp[DataW.weights])⟩,rfl,by rw[hs];rfl,?_⟩;simp only[ZB,Qa];exact⟨⟨_,rfl,rfl,by simp⟩,trivial⟩
  ·rename_i e hu;simp only[Qh,Ql]at hs;obtain⟨⟨hse,hc0⟩,hc1⟩:=hs;have he:e∈S:=by simpa using hse
   rcases DataW.trod_slice hu h with⟨rfl,rfl⟩ | ⟨a,len,cap,elems,rest,n,hn,rfl,rfl,hb,hl,hm,hlen,hel,_,_⟩
   ·refine⟨_,⟨[],rfl,by simp,by simp⟩,rfl,by rw[hc1];rfl,?_⟩;simp only[ZB,Qa];exact⟨⟨_,rfl,rfl,none,0,0,rfl,rfl,Zd _,Um _,.inl trivial⟩,trivial⟩
   ·injection hn with hn
    subst hn;have hel2: ∀i,i < len->∃av,Shp B P fuel e av/\av.length=P.cellsOf e/\∃cs':QS,(∀j,j < P.cellsOf e->w.cell? ((a.add (i*P.cellsOf e)).add j)=cs'[j]?)/\cs'.length=P.cellsOf e/\ZB num β w (mW w) av (fun j=>cs'[j]?) 0:=by
     intro i hi;have h1:=hel i hi;have h2:elems[i]? =some (elems[i]'(by omega)):=Ze (by omega);rw[h2]at h1;obtain⟨cs',g1,g2⟩:=Mz.1 h1;obtain⟨_,g3,g4⟩:=World.cells?_some g1;obtain⟨av,k1,k2,k3,k4⟩:=ih e cs' _ he g2 (fun n hn=>hwt n (by
      simp only[DataW.weights,hu,ZK,WR];right;left
      refine Kh (d:=(elems[i]'(by omega)).1) ?_ n hn;exact VJ.2 ⟨_,List.getElem_mem _,rfl⟩))
     exact⟨av,k1,by rw[k2,k3],cs',g4,g3,k4⟩
    obtain⟨xs,x1,x2⟩:=KD hel2;refine⟨_,⟨xs,rfl,?_,fun x hx=> ?_⟩,rfl,by rw[hc1];rfl,?_⟩
    ·have:=hwt ((elems.length+rest.length)*P.bytesOf e) (by simp[DataW.weights,hu]);refine X0 (Zy _ ?_) this;omega
    ·obtain⟨i,hi⟩:=UF hx;exact(x2 i x hi).1
    ·simp only[ZB,Qa];refine⟨⟨_,rfl,rfl,some a,len,cap,rfl,x1,hl,hm,?_⟩,trivial⟩;by_cases h0:xs=[]
     ·exact .inl h0
     ·right;have hl0:0 < len:=by rw[<- x1];exact R0.2 h0
      have hsp:a.spot=none:=by
       obtain⟨av,_,_,cs',g4,g3,_⟩:=hel2 0 hl0;have h1:=g4 0 hc0;rw[Ze (by omega)]at h1;unfold World.cell? at h1;split at h1
       ·split at h1
        ·cases h1
        ·rename_i hq;simpa[Addr.add]using hq
       ·cases h1
      obtain⟨ab,ao,asp⟩:=a;simp only at hsp;subst hsp;refine⟨ab,ao,rfl,?_⟩;rw[ZT];intro i x hx;obtain⟨k1,k2,cs',g4,g3,k4⟩:=x2 i x hx;refine⟨k2,?_⟩;rw[Q2]at k4 ⊢;intro j c hj;obtain⟨u,u1,u2,u3⟩:=k4 j c hj;have hjl:j < P.cellsOf e:=by
       rcases QC j x.length with hh | hh
       ·omega
       ·rw[QF hh]at hj;cases hj
      refine⟨u,?_,u2,u3⟩;rw[Df];have:=g4 j hjl;simp only[QM]at u1;rw[u1,Zh,Zh]at this;exact this
  ·rename_i fs hu;simp only[Qh]at hs;obtain⟨hs1,hs2⟩:=hs;obtain⟨xs,n,hn,rfl,hcl,hxl,hf⟩:=DataW.trod_struct hu h;injection hn with hn
   subst hn;have key: ∀(l:List Field) (k o:Nat),fs.toList.drop k=l->Lk P (P.cellsOf t) l o=true->∃avs,Mw (Shp B P fuel) l avs/\avs.length+o=P.cellsOf t/\ZB num β w (mW w) avs (fun i=>cs[i]?) o:=by
    intro l
    induction l with
    | nil=>
     intro k o _ hl;simp only[Lk,Ql]at hl;exact⟨[],rfl,by simpa using hl,by simp[ZB]⟩
    | cons f l ihl=>
     intro k o hk hl;simp only[Lk,Qh,Ql]at hl;obtain⟨rfl,hl2⟩:=hl;have hkf:fs.toList[k]? =some f:=by
      have: (fs.toList.drop k)[0]? =some f:=by rw[hk];rfl
      simpa using this
     have hk2:fs.toList.drop (k+1)=l:=by
      rw[<- List.drop_drop,hk];rfl
     obtain⟨q,q1,q2,q3⟩:=ihl (k+1) _ hk2 hl2;have hkf2:fs[k]? =some f:=by simpa using hkf
     have hfm:f.type∈S:=by
      have:=YN.1 hs1 f (WV hkf);simpa using this
     have h1:=hf k f hkf2;have hkl:k < xs.length:=by
      rw[hxl];exact(Tp.1 hkf2).1
     rw[Ze hkl]at h1;obtain⟨p,p1,p2,p3,p4⟩:=ih f.type _ _ hfm h1 (fun n hn=>hwt n (by
      simp only[DataW.weights,hu];exact DataW.weights_mem_each (j:=k) (t:=f.type) (d:=xs[k].1) (by simp[hkf2]) (by simp[Ze hkl]) n hn))
     rw[p3]at p2;refine⟨p ++ q,⟨p,q,rfl,p1,q1⟩,by simp;omega,?_⟩;rw[Q2]at p4 q3 ⊢;intro i c hi;by_cases hil:i < p.length
     ·rw[Zt hil]at hi;obtain⟨u,u1,u2,u3⟩:=p4 i c hi;refine⟨u,?_,u2,u3⟩;simp only[QM]at u1;rw[Xx]at u1;split at u1
      ·rwa[Yn]at u1
      ·cases u1
     ·rw[ZV (by omega)]at hi;obtain⟨u,u1,u2,u3⟩:=q3 (i - p.length) c hi;refine⟨u,?_,u2,u3⟩;rwa[show f.offset+P.cellsOf f.type+ (i - p.length)=f.offset+i by omega]at u1
   obtain⟨avs,a1,a2,a3⟩:=key fs.toList 0 0 (by simp) hs2;exact⟨avs,a1,by omega,hcl,a3⟩
  ·cases hs
end
end Go.Am
namespace Go.Am
def KLe (K K':Zi):Prop:=∀f args bs r,K f args bs=some r->K' f args bs=some r
def Gr {K K':Zi} (h:KLe K K') {op:AOp} {σ:St} {p:AV×St} (he:Qc K op σ=some p):Qc K' op σ=some p:=by
 cases op <;> try exact he
 case call f args=>
  simp only[Qc]at he ⊢;split at he
  ·rename_i hok;rw[Qj hok];cases hk:K f (args.map (val σ.env)) σ.bs with
   | none=>rw[hk]at he;cases he
   | some r=>rw[hk]at he;rw[h _ _ _ _ hk];exact he
  ·cases he
 case callq f args=>
  simp only[Qc]at he ⊢;split at he
  ·rename_i hok;rw[Qj hok];cases hk:K f (args.map (val σ.env)) σ.bs with
   | none=>rw[hk]at he;cases he
   | some r=>rw[hk]at he;rw[h _ _ _ _ hk];exact he
  ·cases he
 case callv g args=>
  simp only[Qc]at he ⊢;split at he
  ·rename_i f caps hf;split at he
   ·rename_i hok;rw[Qj hok];cases hk:K f (args.map (val σ.env)++ caps) σ.bs with
    | none=>rw[hk]at he;cases he
    | some r=>rw[hk]at he;rw[h _ _ _ _ hk];exact he
   ·cases he
  ·rename_i f caps hf;split at he
   ·rename_i hok;rw[Qj hok];cases hk:K f (caps ++ args.map (val σ.env)) σ.bs with
    | none=>rw[hk]at he;cases he
    | some r=>rw[hk]at he;rw[h _ _ _ _ hk];exact he
   ·cases he
  ·cases he
def Pp {K K':Zi} (h:KLe K K') {o:Qp} {σ s:St} (he:Q7 K o σ=some s):Q7 K' o σ=some s:=by
 have key: ((Qc K o.op σ).map fun p=>({p.2 with env:=Zq p.2.env o.dst p.1}:St))=some s->((Qc K' o.op σ).map fun p=>({p.2 with env:=Zq p.2.env o.dst p.1}:St))=some s:=fun he=>by
  cases hx:Qc K o.op σ with
  | none=>rw[hx]at he;cases he
  | some p=>rw[hx]at he;rw[Gr h hx];exact he
 unfold Q7 at he ⊢;split at he
 ·exact key he
 ·split at he
  ·split at he
   ·rename_i hc;rw[Qj hc];exact key he
   ·rename_i hc;rw[Qi hc];exact he
  ·exact he
  ·cases he
def Wt {K K':Zi} (h:KLe K K'): ∀{os:Zg} {σ s:St},Zb K os σ=some s->Zb K' os σ=some s
 | [],_,_,he=>he
 | o:: os,σ,s,he=>by
  simp only[Zb]at he ⊢;cases ho:Q7 K o σ with
  | none=>rw[ho]at he;cases he
  | some s1=>
   rw[ho]at he;rw[Pp h ho];exact Wt h he
def UK {f g:St->Option (Ex×St)} (h: ∀s x,f s=some x->g s=some x): ∀{n m:Nat} {σ:St} {x:Ex×St},n<=m->Wp f n σ=some x->Wp g m σ=some x
 | 0,_,_,_,_,he=>by simp[Wp]at he
 | n+1,0,_,_,hnm,_=>by omega
 | n+1,m+1,σ,x,hnm,he=>by
  simp only[Wp]at he ⊢;split at he
  ·rename_i s hf;rw[h _ _ hf];exact UK h (by omega) he
  ·rename_i hne;have:=h _ _ he;rw[this];obtain⟨e,s⟩:=x;cases e
   ·exact absurd he (hne s)
   ·rfl
   ·rfl
def UQ {K K':Zi} (h:KLe K K') {n m:Nat} (hnm:n<=m): ∀{c:AC} {σ:St} {x:Ex×St},QR K n c σ=some x->QR K' m c σ=some x:=by
 intro c
 induction c with
 | bad=>intro σ x he;simp[QR]at he
 | skip=>intro σ x he;exact he
 | reg d ops=>
  intro σ x he;simp only[QR]at he ⊢;cases ho:Zb K ops σ with
  | none=>rw[ho]at he;cases he
  | some s=>rw[ho]at he;rw[Wt h ho];exact he
 | seq a b iha ihb=>
  intro σ x he;simp only[QR]at he ⊢;split at he
  ·rename_i s ha;rw[iha ha];exact ihb he
  ·rename_i hne;rw[iha he];obtain⟨e,s⟩:=x;cases e
   ·exact absurd he (hne s)
   ·rfl
   ·rfl
 | cond c a b iha ihb=>
  intro σ x he;simp only[QR]at he ⊢;split at he
  ·exact iha he
  ·exact ihb he
  ·cases he
 | block id c ih=>
  intro σ x he;simp only[QR]at he ⊢;split at he
  ·rename_i i s hc;rw[ih hc];exact he
  ·rename_i hne;rw[ih he];obtain⟨e,s⟩:=x;cases e
   ·rfl
   ·exact absurd he (hne _ s)
   ·rfl
 | loop c ih=>
  intro σ x he;simp only[QR]at he ⊢;exact UK (fun s x hx=>ih hx) hnm he
 | exit id=>intro σ x he;exact he
 | ret=>intro σ x he;exact he
def Xd {T:YX}: ∀{n m:Nat},n<=m->KLe (Zu T n) (Zu T m)
 | 0,_,_=>fun _ _ _ _ h=>by simp[Zu]at h
 | n+1,0,h=>by omega
 | n+1,m+1,h=>fun f args bs r he=>by
  simp only[Zu]at he ⊢;split at he
  ·cases he
  ·rename_i g hg;exact he
  ·rename_i fn hf;split at he
   ·rename_i hl;rw[Qj hl];have hr: ∀x,QR (Zu T n) n fn.body {env:=ZY args,bs}=some x->QR (Zu T m) m fn.body {env:=ZY args,bs}=some x:=fun x hx=>UQ (Xd (by omega)) (by omega) hx;split at he
    ·rename_i s hs;rw[hr _ hs];exact he
    ·rename_i s hs;rw[hr _ hs];exact he
    ·cases he
   ·cases he
open Classical in
noncomputable def call (T:YX):Zi:=fun f args bs=>if h: ∃r n,Zu T n f args bs=some r then some h.choose else none
open Classical in
noncomputable def run (T:YX) (c:AC) (σ:St):Option (Ex×St):=if h: ∃x n,QR (Zu T n) n c σ=some x then some h.choose else none
section
variable {T:Nat->Option AFn}
def Sq:=@Nat.le_max_left
def Sm:=@Nat.le_max_right
def X1 {f:Nat} {args:Qd} {bs:Qe} {r:AV×Qe}:call T f args bs=some r↔∃n,Zu T n f args bs=some r:=by
 have huniq: ∀{r1 r2:AV×Qe} {n m:Nat},Zu T n f args bs=some r1->Zu T m f args bs=some r2->r1=r2:=fun {r1 r2 n m} h1 h2=>by
  have g1:=Xd (T:=T) (Sq n m) _ _ _ _ h1;have g2:=Xd (T:=T) (Sm n m) _ _ _ _ h2;rw[g1]at g2;injection g2
 unfold call;constructor
 ·intro h;split at h
  ·rename_i hx;injection h with h
   obtain⟨n,hn⟩:=hx.choose_spec;exact⟨n,h▸hn⟩
  ·cases h
 ·rintro⟨n,hn⟩
  have hx: ∃r n,Zu T n f args bs=some r:=⟨r,n,hn⟩;rw[dif_pos hx];obtain⟨m,hm⟩:=hx.choose_spec;rw[huniq hm hn]
def Q4 {c:AC} {σ:St} {x:Ex×St}:run T c σ=some x↔∃n,QR (Zu T n) n c σ=some x:=by
 have huniq: ∀{r1 r2:Ex×St} {n m:Nat},QR (Zu T n) n c σ=some r1->QR (Zu T m) m c σ=some r2->r1=r2:=fun {r1 r2 n m} h1 h2=>by
  have g1:=UQ (Xd (T:=T) (Sq n m)) (Sq n m) h1;have g2:=UQ (Xd (T:=T) (Sm n m)) (Sm n m) h2;rw[g1]at g2;injection g2
 unfold run;constructor
 ·intro h;split at h
  ·rename_i hx;injection h with h
   obtain⟨n,hn⟩:=hx.choose_spec;exact⟨n,h▸hn⟩
  ·cases h
 ·rintro⟨n,hn⟩
  have hx: ∃x n,QR (Zu T n) n c σ=some x:=⟨x,n,hn⟩;rw[dif_pos hx];obtain⟨m,hm⟩:=hx.choose_spec;rw[huniq hm hn]
def Ox (n:Nat):KLe (Zu T n) (call T):=fun _ _ _ _ h=>X1.2 ⟨n,h⟩
def FV {op:AOp} {σ:St} {p:AV×St} (h:Qc (call T) op σ=some p): ∃n,Qc (Zu T n) op σ=some p:=by
 cases op <;> try exact⟨0,h⟩
 case call f args=>
  simp only[Qc]at h ⊢;split at h
  ·rename_i hok;simp only[hok,Q9];cases hk:call T f (args.map (val σ.env)) σ.bs with
   | none=>rw[hk]at h;cases h
   | some r=>
    obtain⟨n,hn⟩:=X1.1 hk;rw[hk]at h;exact⟨n,by rw[hn];exact h⟩
  ·cases h
 case callq f args=>
  simp only[Qc]at h ⊢;split at h
  ·rename_i hok;simp only[hok,Q9];cases hk:call T f (args.map (val σ.env)) σ.bs with
   | none=>rw[hk]at h;cases h
   | some r=>
    obtain⟨n,hn⟩:=X1.1 hk;rw[hk]at h;exact⟨n,by rw[hn];exact h⟩
  ·cases h
 case callv g args=>
  simp only[Qc]at h ⊢;split at h
  ·rename_i f caps hf;split at h
   ·rename_i hok;simp only[hok,Q9];cases hk:call T f (args.map (val σ.env)++ caps) σ.bs with
    | none=>rw[hk]at h;cases h
    | some r=>
     obtain⟨n,hn⟩:=X1.1 hk;rw[hk]at h;exact⟨n,by rw[hn];exact h⟩
   ·cases h
  ·rename_i f caps hf;split at h
   ·rename_i hok;simp only[hok,Q9];cases hk:call T f (caps ++ args.map (val σ.env)) σ.bs with
    | none=>rw[hk]at h;cases h
    | some r=>
     obtain⟨n,hn⟩:=X1.1 hk;rw[hk]at h;exact⟨n,by rw[hn];exact h⟩
   ·cases h
  ·cases h
def GP {o:Qp} {σ s:St} (h:Q7 (call T) o σ=some s): ∃n,Q7 (Zu T n) o σ=some s:=by
 have key: ((Qc (call T) o.op σ).map fun p=>({p.2 with env:=Zq p.2.env o.dst p.1}:St))=some s->∃n,((Qc (Zu T n) o.op σ).map fun p=>({p.2 with env:=Zq p.2.env o.dst p.1}:St))=some s:=fun he=>by
  cases hx:Qc (call T) o.op σ with
  | none=>rw[hx]at he;cases he
  | some p=>
   obtain⟨n,hn⟩:=FV hx;rw[hx]at he;exact⟨n,by rw[hn];exact he⟩
 unfold Q7 at h ⊢;split at h
 ·exact key h
 ·split at h
  ·split at h
   ·rename_i hc;obtain⟨n,hn⟩:=key h;exact⟨n,by rw[Qj hc];exact hn⟩
   ·rename_i hc;exact⟨0,by rw[Qi hc];exact h⟩
  ·exact⟨0,h⟩
  ·cases h
def Pq: ∀{os:Zg} {σ s:St},Zb (call T) os σ=some s->∃n,Zb (Zu T n) os σ=some s
 | [],_,_,h=>⟨0,h⟩
 | o:: os,σ,s,h=>by
  simp only[Zb]at h;cases ho:Q7 (call T) o σ with
  | none=>rw[ho]at h;cases h
  | some s1=>
   rw[ho]at h;obtain⟨n,hn⟩:=GP ho;obtain⟨m,hm⟩:=Pq (os:=os) h;refine⟨max n m,?_⟩;simp only[Zb];rw[Pp (Xd (Sq n m)) hn];exact Wt (Xd (Sm n m)) hm
def VP {n m:Nat} (h:n<=m) {c:AC} {σ:St} {x:Ex×St} (hr:QR (Zu T n) n c σ=some x):QR (Zu T m) m c σ=some x:=UQ (Xd h) h hr
def Ub {α:Type} {a b:Option α} (h: ∀x,a=some x↔b=some x):a=b:=by
 cases a with
 | none=>cases b with
  | none=>rfl
  | some y=>exact absurd ((h y).2 rfl) (by simp)
 | some x=>exact((h x).1 rfl).symm
def LA (σ:St):run T .skip σ=some (.normal,σ):=Q4.2 ⟨0,rfl⟩
def KL (σ:St):run T .ret σ=some (.ret,σ):=Q4.2 ⟨0,rfl⟩
def Lx (id:Nat) (σ:St):run T (.exit id) σ=some (.exit id,σ):=Q4.2 ⟨0,rfl⟩
def KK (d:Bool) (ops:Zg) (σ:St):run T (.reg d ops) σ=(Zb (call T) ops σ).map fun s=>(.normal,s):=by
 apply Ub;intro x;rw[Q4];simp only[QR];constructor
 ·rintro⟨n,h⟩
  cases ho:Zb (Zu T n) ops σ with
  | none=>rw[ho]at h;cases h
  | some s=>rw[ho]at h;rw[Wt (Ox n) ho];exact h
 ·intro h;cases ho:Zb (call T) ops σ with
  | none=>rw[ho]at h;cases h
  | some s=>
   obtain⟨n,hn⟩:=Pq ho;rw[ho]at h;exact⟨n,by rw[hn];exact h⟩
def KM (a b:AC) (σ:St):run T (.seq a b) σ=match run T a σ with
  | some (.normal,s)=>run T b s
  | r=>r:=by
 apply Ub;intro x;rw[Q4];constructor
 ·rintro⟨n,h⟩
  simp only[QR]at h;split at h
  ·rename_i s hs;rw[Q4.2 ⟨n,hs⟩];exact Q4.2 ⟨n,h⟩
  ·rename_i hne;rw[Q4.2 ⟨n,h⟩];obtain⟨e,s⟩:=x;cases e
   ·exact absurd h (hne s)
   ·rfl
   ·rfl
 ·intro h;split at h
  ·rename_i s hs;obtain⟨n,hn⟩:=Q4.1 hs;obtain⟨m,hm⟩:=Q4.1 h;refine⟨max n m,?_⟩;simp only[QR];rw[VP (Sq n m) hn];exact VP (Sm n m) hm
  ·rename_i hne;obtain⟨n,hn⟩:=Q4.1 h;refine⟨n,?_⟩;simp only[QR];rw[hn];obtain⟨e,s⟩:=x;cases e
   ·exact absurd h (hne s)
   ·rfl
   ·rfl
def Lw (c:AO) (a b:AC) (σ:St):run T (.cond c a b) σ=match val σ.env c with
  | .bool true=>run T a σ
  | .bool false=>run T b σ
  | _=>none:=by
 apply Ub;intro x;rw[Q4];simp only[QR];cases hv:val σ.env c <;> try simp
 rename_i b;cases b
 ·exact Q4.symm
 ·exact Q4.symm
def Om (id:Nat) (c:AC) (σ:St):run T (.block id c) σ=match run T c σ with
  | some (.exit i,s)=>some (if i=id then .normal else .exit i,s)
  | r=>r:=by
 apply Ub;intro x;rw[Q4];simp only[QR];constructor
 ·rintro⟨n,h⟩
  split at h
  ·rename_i i s hs;rw[Q4.2 ⟨n,hs⟩];exact h
  ·rename_i hne;rw[Q4.2 ⟨n,h⟩];obtain⟨e,s⟩:=x;cases e
   ·rfl
   ·exact absurd h (hne _ s)
   ·rfl
 ·intro h;split at h
  ·rename_i i s hs;obtain⟨n,hn⟩:=Q4.1 hs;exact⟨n,by rw[hn];exact h⟩
  ·rename_i hne;obtain⟨n,hn⟩:=Q4.1 h;refine⟨n,?_⟩;rw[hn];obtain⟨e,s⟩:=x;cases e
   ·rfl
   ·exact absurd h (hne _ s)
   ·rfl
def Lz (c:AC) (σ:St):run T (.loop c) σ=match run T c σ with
  | some (.normal,s)=>run T (.loop c) s
  | r=>r:=by
 apply Ub;intro x;rw[Q4];constructor
 ·rintro⟨n,h⟩
  simp only[QR]at h;cases n with
  | zero=>simp[Wp]at h
  | succ n=>
   simp only[Wp]at h;split at h
   ·rename_i s hs;rw[Q4.2 ⟨n+1,hs⟩];refine Q4.2 ⟨n+1,?_⟩;simp only[QR];exact UK (fun _ _ h=>h) (by omega) h
   ·rename_i hne;rw[Q4.2 ⟨n+1,h⟩];obtain⟨e,s⟩:=x;cases e
    ·exact absurd h (hne s)
    ·rfl
    ·rfl
 ·intro h;split at h
  ·rename_i s hs;obtain⟨n,hn⟩:=Q4.1 hs;obtain⟨m,hm⟩:=Q4.1 h;refine⟨max n m+1,?_⟩;simp only[QR]at hm ⊢;simp only[Wp];rw[VP (m:=max n m+1) (by omega) hn];exact UK (fun s x hx=>VP (by omega) hx) (by omega) hm
  ·rename_i hne;obtain⟨n,hn⟩:=Q4.1 h;refine⟨n+1,?_⟩;simp only[QR,Wp];rw[VP (m:=n+1) (by omega) hn];obtain⟨e,s⟩:=x;cases e
   ·exact absurd h (hne s)
   ·rfl
   ·rfl
def PE (f:Nat) (args:Qd) (bs:Qe):call T f args bs=match T f with
  | none=>none
  | some (.orc g)=>g args bs
  | some (.code fn)=>
   if args.length=fn.nparams then
    match run T fn.body {env:=ZY args,bs}with
    | some (.normal,σ)=>ZS fn bs σ
    | some (.ret,σ)=>ZS fn bs σ
    | _=>none
   else none:=by
 apply Ub;intro x;rw[X1];constructor
 ·rintro⟨n,h⟩
  cases n with
  | zero=>simp[Zu]at h
  | succ n=>
   simp only[Zu]at h;split at h
   ·cases h
   ·rename_i g hg;simp only[hg];exact h
   ·rename_i fn hf;simp only[hf];split at h
    ·rename_i hl;rw[Qj hl];split at h
     ·rename_i s hs;rw[Q4.2 ⟨n,hs⟩];exact h
     ·rename_i s hs;rw[Q4.2 ⟨n,hs⟩];exact h
     ·cases h
    ·cases h
 ·intro h;split at h
  ·cases h
  ·rename_i g hg;exact⟨1,by simp only[Zu,hg];exact h⟩
  ·rename_i fn hf;split at h
   ·rename_i hl;split at h
    ·rename_i s hs;obtain⟨n,hn⟩:=Q4.1 hs;exact⟨n+1,by simp only[Zu,hf,hl,Q9,hn];exact h⟩
    ·rename_i s hs;obtain⟨n,hn⟩:=Q4.1 hs;exact⟨n+1,by simp only[Zu,hf,hl,Q9,hn];exact h⟩
    ·cases h
   ·cases h
end
end Go.Am
namespace Go.Am
open Go.RowKit Go.ChangeShapes Go.WideShapes
section
variable {P:Program} {num:Nat->Option Nat} {tb:Nat->Option AFn} {W:World}
section
variable {H:Type} {enc:TypeId×Value->H} {S:List TypeId} {base b0:Nat} {spare:Nat->Bool} {held:Bool} {r:Reach}
def T2 (K:Kids P (· < P.types.size)) (hz: ∀t e,t < P.types.size->P.underlying t=some (.slice e)->0 < P.cellsOf e) {W':World} (hb:Below W.heap.size W W') {sp:Nat->Bool}:
  ∀{ts:List TypeId} {vs:QS} {ds:List (DataW H)} {ps:List MemPlace},(∀t∈ts,t < P.types.size)->DataW.TrodAll enc P W 0 (fun _=>true) true ts vs ds ps->(∀p∈ps,p.block < W.heap.size)->(∀p∈ps,sp p.block=true)->
   DataW.TrodAll enc P W' 0 sp true ts vs ds ps
 | [],[],[],_,_,h,_,_=>h
 | _:: _,_:: _,_:: _,_,hT,⟨p,q,⟨n,h1⟩,h2,e⟩,hlt,hs=>by
  subst e;refine⟨p,q,⟨n,?_⟩,T2 K hz hb (fun t ht=>hT t (U7 _ ht)) h2 (fun x hx=>hlt x (MA _ hx)) (fun x hx=>hs x (MA _ hx)),rfl⟩;exact DataW.trod_carry n _ _ _ (DataW.trod_respare K hz n _ _ _ (hT _ (List.mem_cons_self ..)) h1 (fun x hx=>hs x (MC _ hx))) (fun x hx=>hb.same (hlt x (MC _ hx)))
def post_of_below {f:Func} {s:ChangeSpec} {apart fresh handsOn again:Bool} {W W':World} {args:QP} {v:Value} {ds gs:List (DataW H)} {before pa pv:List MemPlace}
  (hW:DataW.Whole enc P f.params.toList s.vars apart W args.toList ds gs before)
  (hres: ∀(b:Nat) (sp:Nat->Bool) (hd:Bool),DataW.TrodAll enc P W' b sp hd f.resultTypes.toList (v.resultList f.resultTypes.size) (s.fn H (ds ++ gs)).results [])
  (hargs: ∀sp:Nat->Bool,(∀p∈before,sp p.block=true)->DataW.TrodAll enc P W' 0 sp true f.params.toList args.toList (s.fn H (ds ++ gs)).args pa)
  (hvars: ∀sp:Nat->Bool,(∀p∈before,sp p.block=true)->DataW.TrodVars enc P W' sp s.vars (s.fn H (ds ++ gs)).vars pv)
  (hps:before=pa ++ pv) (hb:Below W.heap.size W W')
  (hok: ∀(j:Nat) (t:TypeId) (r:Value),f.resultTypes[j]? =some t->(v.resultList f.resultTypes.size)[j]? =some r->Value.okWide P W' .any 0 t r):
  s.post enc P f apart fresh handsOn again W args v W':=by
 have hlt: ∀p∈before,p.block < W.heap.size:=fun p hp=>hW.lt p hp;have hold: ∀p∈before,(fun b=>decide (b < W.heap.size)) p.block=true:=fun p hp=>by simpa using hlt p hp
 refine⟨ds,gs,before,[],pa,pv,hW,hres _ _ _,hargs _ hold,hvars _ hold,World.keptBut_mono (fun p hp=>⟨hp,?_⟩) (hb.frame (·∈before)),fun _=> ?_⟩
 ·rw[hps,WR]at hp;exact Or.inr hp
 ·obtain⟨_,_,_,_,_,hz,hn⟩:=hW;refine⟨hok,_,_,([]++ pa)++ pv,⟨[]++ pa,pv,trodAll_append (hargs _ (fun _ _=>rfl)) (hres _ _ _),hvars _ (fun _ _=>rfl),rfl,?_,?_⟩,?_⟩
  ·intro b off hp;have hin:MemPlace.cell b off∈before:=by rw[hps];simpa using hp
   rw[hb.frozen (hlt _ hin)];exact hz b off hin
  ·intro ha;have:=hn ha;rw[hps]at this;simpa using this
  ·intro p hp _;rw[hps];simpa using hp
end
end
end Go.Am
namespace Go.Am
open Go.RowKit Go.ChangeShapes Go.WideShapes
def Km {w:World} {g:Nat} {u:Value} (h:w.cell? ⟨g,0,none⟩=some u):g < w.heap.size:=by
 rcases QC g w.heap.size with h1 | h1
 ·exact h1
 ·unfold World.cell? at h;rw[Xa h1]at h;cases h
def PZ [Dr] {X:Nat->Prop} {w w':World} {m m':QX} {B:Nat} (hS:Q1 X w m w' m') (hX: ∀b,X b->B<=b) (hb:B<=w.heap.size) {g:Nat} (hg:g < B):w'.cell? ⟨g,0,none⟩=w.cell? ⟨g,0,none⟩:=by
 unfold World.cell?;rw[(hS.same g (by omega) (fun hx=>by have:=hX g hx;omega)).1]
def ZW [Dr] (P:Program) (gT gM:Nat):ZA where
 G:=fun w m=>UL P w/\(∃v,w.cell? ⟨gM,0,none⟩=some (.int .i64 v))/\∃u,w.cell? ⟨gT,0,none⟩=some u/\u.oneCell'=true/\∀num,Qa num [] w m (RJ 0) u
 nm:=fun k g=>k=0/\g=gT
 tab:=fun w m k g num hG hk=>by
  obtain⟨rfl,rfl⟩:=hk;obtain⟨-,-,u,h1,h2,h3⟩:=hG;exact⟨u,h1,h2,h3 num⟩
 Gb:=max (UV P) (max gT gM+1)
 step:=fun X w m w' m' hS hX hb hG=>by
  obtain⟨h1,⟨v,h2⟩,u,h3,h4,h5⟩:=hG;refine⟨?_,⟨v,?_⟩,u,?_,h4,fun num=>QH (Ge.refl _) hS.le _ _ (h5 num)⟩
  ·unfold UL Lib.TabIs at *;rw[Vq hS hX hb (by unfold UV;omega),Vq hS hX hb (by unfold UV;omega),Vq hS hX hb (by unfold UV;omega)];exact h1
  ·rw[PZ hS hX hb (by omega)];exact h2
  ·rw[PZ hS hX hb (by omega)];exact h3
def FZ [Dr] {P:Program} {gT gM:Nat} {w:World} {m:QX} (h: (ZW P gT gM).G w m): (ZW P gT gM).Gb<=w.heap.size:=by
 obtain⟨h1,⟨v,h2⟩,u,h3,h4,h5⟩:=h;have a:=Cn h1;have b:=Km h2;have c:=Km h3
 show max _ _<=_;omega
def JA [Dr] {P:Program} {num:ZH} {tb:YX} {W:World} {gT gM:Nat} (hF:Pz P num (ZW P gT gM) tb) {f g:Nat} (hnum:num f=some g) {args:Qd} {vs:QP} (hG: (ZW P gT gM).G W (mW W)) (hok:Z2 args=true) (hvs:vs.size=args.length)
  (hrep: ∀(i:Nat) (c:AV),args[i]? =some c->∃u,vs[i]? =some u/\Qa num [] W (mW W) c u) (hc:call tb f args []=some (.bool true,[])):
  Calls P g vs W fun e W'=>e= .returned (.bool true)/\Below W.heap.size W W':=by
 obtain⟨n,hn⟩:=X1.1 hc;refine((UU hF n).2 f g args [] _ _ hnum hn hok W (mW W) [] (fun _=>none) vs hG (FZ hG) hvs hrep ⟨rfl,fun i cs k h=>by simp at h⟩ (fun b p h=>by cases h)).mono fun e W' he=> ?_;obtain⟨v,m',β',ν',he,_,hS,_,_,hr,_,_⟩:=he;simp only[Qa]at hr;subst hr;exact⟨he,hS.os,hS.tape,hS.output,hS.size,fun k hk=>(hS.same k hk (fun⟨p,hp⟩=>by cases hp)).1⟩
def Gz {P:Program} {n:String} {ss:List QG} {r:List (String×DataW Unit)} {W:World} {g:Nat} {t e:TypeId}
  (h:laidMet P ((n,.slice (ss.map fun s=> .lit (.string s)) []):: r) W) (hg:P.globalNamed n=some g) (ht: (P.globals[g]?).map (·.type)=some t) (hu:P.underlying t=some (.slice e)) (he:P.underlying e=some .string) (hc:P.cellsOf e=1):
  ∃u,W.cell? ⟨g,0,none⟩=some u/\u.oneCell'=true/\∀num,Qa num [] W (mW W) (.sl false 1 (ss.map fun s=>[.str s])) u:=by
 obtain⟨ps,⟨g0,t0,cs0,f0,p0,q0,hg0,ht0,hv0,hd0,_,e0⟩,_,hrows⟩:=h;obtain rfl:=Option.some.inj (hg.symm.trans hg0);obtain rfl:=Option.some.inj (ht.symm.trans ht0);obtain⟨l0⟩:=cs0;rcases DataW.trod_slice hu hd0 with⟨_,h2⟩ | ⟨a,len,cap,elems,rest,k,hk,hcs,hx,hb,hl,hm,hlen,hel,_,_⟩
 ·simp at h2
 simp only at hcs;subst hcs;refine⟨_,by simpa using World.var?_cell hg hv0 0,rfl,fun num=> ?_⟩;simp only[Qu,DataW.slice.injEq]at hx;obtain⟨⟨hx1,_⟩,_⟩:=hx;have hsl:ss.length=len:=by
  have:=WU List.length hx1;simp only[Xb]at this;omega
 simp only[Qa];refine⟨some a,len,cap,rfl,by simp[hsl],hl,hm,?_⟩;have hget: ∀i s,ss[i]? =some s->W.cell? (a.add i)=some (.string ⟨s.toArray⟩):=by
  intro i s hi;have hil:i < len:=by
   rcases QC i ss.length with h | h
   ·omega
   ·rw[QF h]at hi;cases hi
  have h1:=hel i hil;have h2:elems[i]? =some (elems[i]'(by omega)):=Ze (by omega);rw[h2]at h1;obtain⟨cs',g1,g2⟩:=Mz.1 h1;obtain⟨_,g3,g4⟩:=World.cells?_some g1;obtain⟨s',hs1,hs2,_⟩:=DataW.trod_string he g2;have h3: (elems.map (·.1))[i]? =some (.lit (.string s)):=by rw[<- hx1,Y2,hi];rfl
  rw[Y2,h2,hs2]at h3;simp only[Qt,Qm,DataW.lit.injEq,Lit.string.injEq]at h3;subst h3;have h4:=g4 0 (by rw[hc];omega);rw[hs1,hc,VK]at h4;have h5: (a.add i).add 0=a.add i:=by cases a;simp[Addr.add]
  rw[h5]at h4;rw[h4];simp
 by_cases h0:ss=[]
 ·left;simp[h0]
 ·right;obtain⟨ab,ao,asp⟩:=a;have hsp:asp=none:=by
   cases ss with
   | nil=>exact absurd rfl h0
   | cons s ss=>
    have h1:=hget 0 s rfl;unfold World.cell? at h1;split at h1
    ·split at h1
     ·cases h1
     ·rename_i hq;simpa[Addr.add]using hq
    ·cases h1
  subst hsp;refine⟨ab,ao,rfl,?_⟩;rw[ZT];intro i x hx;rw[Y2]at hx;cases hi:ss[i]? with
  | none=>rw[hi]at hx;cases hx
  | some s=>
   rw[hi]at hx;injection hx with hx
   subst hx;refine⟨rfl,?_⟩;simp only[ZB];refine⟨⟨.string ⟨s.toArray⟩,?_,rfl,by simp only[Qa]⟩,trivial⟩;rw[Df];have:=hget i s hi;rw[Zh]at this;simpa using this
end Go.Am
