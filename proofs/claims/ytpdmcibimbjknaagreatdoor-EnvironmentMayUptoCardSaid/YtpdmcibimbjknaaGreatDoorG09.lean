/-
  Am25, Am26, Am20, Am27.
-/
import Derived.Test.YtpdmcibimbjknaaGreatDoorG08
import Derived.SizedLaws
import Derived.Deep.Slices
import Derived.ChangeArms
import Derived.DataReads
import Derived.Carry
import Derived.ReadAgain
import Derived.ChangeSame
import Derived.OpenShut
set_option linter.unusedVariables false
set_option linter.unusedSimpArgs false
namespace Go.Am
section
variable {P:Program} {num:Nat→Option Nat} {tb:Nat→Option AFn}
def Ent (P:Program) (g:Nat):Prop:=∃fn,P.funcs[g]? =some fn∧(fn.name == "runtime.NumGoroutine")=false∧fn.body.isNone=false
theorem EH {L:List (Nat×Nat)} {f g:Nat} (h:L.lookup f=some g): (f,g)∈L:=by
 induction L with
 | nil=>cases h
 | cons p L ih=>
  obtain⟨a,b⟩:=p;rw[List.lookup_cons]at h;by_cases hab:f=a
  ·subst hab;simp at h;subst h;simp
  ·have: (f == a)=false:=by simpa using hab
   rw[this]at h;exact List.mem_cons_of_mem _ (ih h)
theorem Br [Dr] {L:List (Nat×Nat)} (h: ∀p∈L,Ent P p.2):XI P (fun f=>L.lookup f):=fun f g hfg=>h (f,g) (EH hfg)
theorem WO {α:Type} {p:α→Prop} {a:α} {l:List α} (h:p a) (hl: ∀x∈l,p x): ∀x∈a:: l,p x:=fun x hx=>by
 rcases List.mem_cons.1 hx with rfl | hx
 ·exact h
 ·exact hl x hx
theorem Qhr {α:Type} {p:α→Prop}: ∀x∈([]:List α),p x:=fun x hx=>by cases hx
def Eo (P:Program) (g:Nat):Bool:=match P.funcs[g]? with
 | some fn=> !(fn.name == "runtime.NumGoroutine") && !fn.body.isNone
 | none=>false
theorem VG [Dr] {L:List (Nat×Nat)} (h: (L.all fun p=>Eo P p.2)=true):XI P (fun f=>L.lookup f):=Br fun p hp=>by
 have h1:=List.all_eq_true.1 h p hp;unfold Eo at h1;split at h1
 ·rename_i fn hf;simp only[Bool.and_eq_true,Bool.not_eq_true']at h1;exact⟨fn,hf,h1.1,h1.2⟩
 ·cases h1
def Yq (P:Program) (L:List (Nat×Nat)) (T:List (Nat×AFn)):Bool:=T.all fun p=>match p.2 with
 | .code fn=>(match L.lookup p.1 with
  | some g=>(match P.funcs[g]? with
   | some F=>EN P (fun f=>L.lookup f) fn F
   | none=>false)
  | none=>true)
 | .orc _=>true
theorem YL {L:List (Nat×Nat)} {T:List (Nat×AFn)} (n:Nat) (h1:Yq P L (T.take n)=true) (h2:Yq P L (T.drop n)=true):Yq P L T=true:=by
 unfold Yq at *;rw[← List.take_append_drop n T,List.all_append,h1,h2];rfl
theorem Nh {L:List (Nat×AFn)} {f:Nat} {g:AFn} (h:L.lookup f=some g): (f,g)∈L:=by
 induction L with
 | nil=>cases h
 | cons p L ih=>
  obtain⟨a,b⟩:=p;rw[List.lookup_cons]at h;by_cases hab:f=a
  ·subst hab;simp at h;subst h;simp
  ·have: (f == a)=false:=by simpa using hab
   rw[this]at h;exact List.mem_cons_of_mem _ (ih h)
def Oat [Dr] (P:Program) (L:List (Nat×Nat)) (Γ:Yg) (tb:Nat→Option AFn) (f:Nat):Prop:=∀g h,L.lookup f=some g→tb f=some (.orc h)→Vq P (fun f=>L.lookup f) Γ h g
theorem X4 [Dr] {L:List (Nat×Nat)} {Γ:Yg} {f g:Nat} {h:List AV→List (List AV)→Option (AV×List (List AV))} (ht:tb f=some (.orc h)) (hg:L.lookup f=some g) (hO:Vq P (fun f=>L.lookup f) Γ h g):Oat P L Γ tb f:=
 fun g2 h2 e1 e2=>by
  rw[hg]at e1;rw[ht]at e2;injection e1 with e1
  injection e2 with e2
  injection e2 with e2
  subst e1;subst e2;exact hO
theorem IY [Dr] {Γ:Yg} {L:List (Nat×Nat)} {T:List (Nat×AFn)} (os:List Nat) (htb: ∀f,tb f=T.lookup f) (hmix:P.follows .mixedOrders=true) (hE: (L.all fun p=>Eo P p.2)=true) (hc:Yq P L T=true)
  (ho: (T.all fun p=>match p.2 with | .orc _=>os.contains p.1 | .code _=>true)=true) (hO: ∀f∈os,Oat P L Γ tb f):M0 P (fun f=>L.lookup f) Γ tb where
 mix:=hmix
 enters:=VG hE
 code:=fun f g fn hfg ht=>by
  rw[htb]at ht;have h1:=List.all_eq_true.1 hc _ (Nh ht);simp only[hfg]at h1;split at h1
  ·rename_i F hF;exact⟨F,hF,h1⟩
  ·cases h1
 orc:=fun f g h hfg ht=>by
  have ht2:=ht;rw[htb]at ht2;have h1:=List.all_eq_true.1 ho _ (Nh ht2);simp only at h1;exact hO f (by simpa using h1) g h hfg ht
end
end Go.Am
namespace Go.Am
def mW (w:World):Nat→Nat:=fun b=>match w.heap[b]? with
 | some (.cells c _ _)=>c.size
 | _=>0
theorem QiM (w:World) (b i:Nat):hg w (mW w) b i=w.cell? ⟨b,i,none⟩:=by
 unfold hg mW World.cell?;cases h:w.heap[b]? with
 | none=>simp
 | some o=>
  cases o <;> simp
def Np (R:TypeId→List AV→Prop):List Field→List AV→Prop
 | [],avs=>avs=[]
 | f:: fs,avs=>∃p q,avs=p ++ q∧R f.type p∧Np R fs q
def Shp (B:Nat) (P:Program):Nat→TypeId→List AV→Prop
 | 0,_,_=>False
 | n+1,t,avs=>match P.underlying t with
  | some (.int k)=>∃i,avs=[.int k i]∧(Lit.int k i).wf=true
  | some .bool=>∃b,avs=[.bool b]
  | some .string=>∃s:List UInt8,avs=[.str s]∧s.length≤B
  | some (.slice e)=>∃xs:List (List AV),avs=[.sl false (P.cellsOf e) xs]∧xs.length*P.bytesOf e≤B∧∀x∈xs,Shp B P n e x
  | some (.struct fs)=>Np (Shp B P n) fs.toList avs
  | _=>False
def Hc (P:Program) (tot:Nat):List Field→Nat→Bool
 | [],o=>decide (o=tot)
 | f:: fs,o=>decide (f.offset=o) && Hc P tot fs (o+P.cellsOf f.type)
def Kw (P:Program) (S:List TypeId):Bool:=S.all fun t=>match P.underlying t with
 | some (.int _)=>decide (P.cellsOf t=1)
 | some .bool=>decide (P.cellsOf t=1)
 | some .string=>decide (P.cellsOf t=1)
 | some (.slice e)=>S.contains e && decide (0 < P.cellsOf e) && decide (P.cellsOf t=1)
 | some (.struct fs)=>fs.toList.all (fun f=>S.contains f.type) && Hc P (P.cellsOf t) fs.toList 0
 | _=>false
theorem Fr {α:Type} {Q:Nat→α→Prop}: ∀{n:Nat},(∀i,i < n→∃x,Q i x)→∃xs:List α,xs.length=n∧∀i x,xs[i]? =some x→Q i x
 | 0,_=>⟨[],rfl,fun i x h=>by simp at h⟩
 | n+1,h=>by
  obtain⟨xs,h1,h2⟩:=Fr (n:=n) fun i hi=>h i (by omega);obtain⟨x,hx⟩:=h n (by omega);refine⟨xs ++ [x],by simp[h1],fun i y hy=> ?_⟩;rcases Nat.lt_trichotomy i n with hi | hi | hi
  ·rw[List.getElem?_append_left (by omega)]at hy;exact h2 i y hy
  ·subst hi;rw[List.getElem?_append_right (by omega),h1,Nat.sub_self]at hy;simp at hy;subst hy;exact hx
  ·rw[List.getElem?_eq_none (by simp;omega)]at hy;cases hy
theorem Gw {H:Type} {P:Program} {e:TypeId} {ds:List (DataW H)}: ∀{d:DataW H},d∈ds→∀n∈d.weights P e,n∈DataW.weightsAll P e ds:=by
 induction ds with
 | nil=>intro d h;cases h
 | cons a ds ih=>
  intro d h n hn;simp only[DataW.weightsAll,List.mem_append];rcases List.mem_cons.1 h with rfl | h
  ·exact .inl hn
  ·exact .inr (ih h n hn)
section
variable {B:Nat} {H:Type} {enc:TypeId×Value→H} {P:Program} {w:World} {base:Nat} {spare:Nat→Bool} {held:Bool} {num:Nat→Option Nat} {β:List Blk} {S:List TypeId}
theorem MN [Dr] (hS:Kw P S=true): ∀(fuel:Nat) (t:TypeId) (cs:List Value) (x:DataW H×List MemPlace),t∈S→DataW.trod enc P w base spare held fuel t cs=some x→
  (∀n∈x.1.weights P t,n≤B)→∃avs,Shp B P fuel t avs∧avs.length=cs.length∧cs.length=P.cellsOf t∧RepC num β w (mW w) avs (fun i=>cs[i]?) 0:=by
 intro fuel
 induction fuel with
 | zero=>intro t cs x _ h;simp[DataW.trod]at h
 | succ fuel ih=>
  intro t cs x ht h hwt;have hs:=List.all_eq_true.1 hS t ht;simp only[Shp];split at hs
  ·rename_i k hu;simp only[decide_eq_true_eq]at hs;obtain⟨n,rfl,rfl,hwf⟩:=DataW.trod_int hu h;exact⟨_,⟨n,rfl,hwf⟩,rfl,by rw[hs];rfl,by simp[RepC,Qd];rfl⟩
  ·rename_i hu;simp only[decide_eq_true_eq]at hs;have: ∃b,cs=[.bool b]:=by
    unfold DataW.trod at h;rw[hu]at h;split at h <;> simp_all
   obtain⟨b,rfl⟩:=this;exact⟨_,⟨b,rfl⟩,rfl,by rw[hs];rfl,by simp[RepC,Qd];rfl⟩
  ·rename_i hu;simp only[decide_eq_true_eq]at hs;obtain⟨s,rfl,rfl,hmx⟩:=DataW.trod_string hu h;refine⟨_,⟨s.data.toList,rfl,hwt _ (by simp[DataW.weights])⟩,rfl,by rw[hs];rfl,?_⟩;simp only[RepC,Qd];exact⟨⟨_,rfl,rfl,by simp⟩,trivial⟩
  ·rename_i e hu;simp only[Bool.and_eq_true,decide_eq_true_eq]at hs;obtain⟨⟨hse,hc0⟩,hc1⟩:=hs;have he:e∈S:=by simpa using hse
   rcases DataW.trod_slice hu h with⟨rfl,rfl⟩ | ⟨a,len,cap,elems,rest,n,hn,rfl,rfl,hb,hl,hm,hlen,hel,_,_⟩
   ·refine⟨_,⟨[],rfl,by simp,by simp⟩,rfl,by rw[hc1];rfl,?_⟩;simp only[RepC,Qd];exact⟨⟨_,rfl,rfl,none,0,0,rfl,rfl,Nat.le_refl _,Nat.zero_le _,.inl trivial⟩,trivial⟩
   ·injection hn with hn
    subst hn;have hel2: ∀i,i < len→∃av,Shp B P fuel e av∧av.length=P.cellsOf e∧∃cs':List Value,(∀j,j < P.cellsOf e→w.cell? ((a.add (i*P.cellsOf e)).add j)=cs'[j]?)∧cs'.length=P.cellsOf e∧RepC num β w (mW w) av (fun j=>cs'[j]?) 0:=by
     intro i hi;have h1:=hel i hi;have h2:elems[i]? =some (elems[i]'(by omega)):=List.getElem?_eq_getElem (by omega);rw[h2]at h1;obtain⟨cs',g1,g2⟩:=Option.bind_eq_some_iff.1 h1;obtain⟨_,g3,g4⟩:=World.cells?_some g1;obtain⟨av,k1,k2,k3,k4⟩:=ih e cs' _ he g2 (fun n hn=>hwt n (by
      simp only[DataW.weights,hu,List.mem_cons,List.mem_append];right;left
      refine Gw (d:=(elems[i]'(by omega)).1) ?_ n hn;exact List.mem_map.2 ⟨_,List.getElem_mem _,rfl⟩))
     exact⟨av,k1,by rw[k2,k3],cs',g4,g3,k4⟩
    obtain⟨xs,x1,x2⟩:=Fr hel2;refine⟨_,⟨xs,rfl,?_,fun x hx=> ?_⟩,rfl,by rw[hc1];rfl,?_⟩
    ·have:=hwt ((elems.length+rest.length)*P.bytesOf e) (by simp[DataW.weights,hu]);refine Nat.le_trans (Nat.mul_le_mul_right _ ?_) this;omega
    ·obtain⟨i,hi⟩:=List.getElem?_of_mem hx;exact(x2 i x hi).1
    ·simp only[RepC,Qd];refine⟨⟨_,rfl,rfl,some a,len,cap,rfl,x1,hl,hm,?_⟩,trivial⟩;by_cases h0:xs=[]
     ·exact .inl h0
     ·right;have hl0:0 < len:=by rw[← x1];exact List.length_pos_iff.2 h0
      have hsp:a.spot=none:=by
       obtain⟨av,_,_,cs',g4,g3,_⟩:=hel2 0 hl0;have h1:=g4 0 hc0;rw[List.getElem?_eq_getElem (by omega)]at h1;unfold World.cell? at h1;split at h1
       ·split at h1
        ·cases h1
        ·rename_i hq;simpa[Addr.add]using hq
       ·cases h1
      obtain⟨ab,ao,asp⟩:=a;simp only at hsp;subst hsp;refine⟨ab,ao,rfl,?_⟩;rw[Y3];intro i x hx;obtain⟨k1,k2,cs',g4,g3,k4⟩:=x2 i x hx;refine⟨k2,?_⟩;rw[Zp]at k4 ⊢;intro j c hj;obtain⟨u,u1,u2,u3⟩:=k4 j c hj;have hjl:j < P.cellsOf e:=by
       rcases Nat.lt_or_ge j x.length with hh | hh
       ·omega
       ·rw[List.getElem?_eq_none hh]at hj;cases hj
      refine⟨u,?_,u2,u3⟩;rw[QiM];have:=g4 j hjl;simp only[Nat.zero_add]at u1;rw[u1,Yo,Yo]at this;exact this
  ·rename_i fs hu;simp only[Bool.and_eq_true]at hs;obtain⟨hs1,hs2⟩:=hs;obtain⟨xs,n,hn,rfl,hcl,hxl,hf⟩:=DataW.trod_struct hu h;injection hn with hn
   subst hn;have key: ∀(l:List Field) (k o:Nat),fs.toList.drop k=l→Hc P (P.cellsOf t) l o=true→∃avs,Np (Shp B P fuel) l avs∧avs.length+o=P.cellsOf t∧RepC num β w (mW w) avs (fun i=>cs[i]?) o:=by
    intro l
    induction l with
    | nil=>
     intro k o _ hl;simp only[Hc,decide_eq_true_eq]at hl;exact⟨[],rfl,by simpa using hl,by simp[RepC]⟩
    | cons f l ihl=>
     intro k o hk hl;simp only[Hc,Bool.and_eq_true,decide_eq_true_eq]at hl;obtain⟨rfl,hl2⟩:=hl;have hkf:fs.toList[k]? =some f:=by
      have: (fs.toList.drop k)[0]? =some f:=by rw[hk];rfl
      simpa using this
     have hk2:fs.toList.drop (k+1)=l:=by
      rw[← List.drop_drop,hk];rfl
     obtain⟨q,q1,q2,q3⟩:=ihl (k+1) _ hk2 hl2;have hkf2:fs[k]? =some f:=by simpa using hkf
     have hfm:f.type∈S:=by
      have:=List.all_eq_true.1 hs1 f (List.mem_of_getElem? hkf);simpa using this
     have h1:=hf k f hkf2;have hkl:k < xs.length:=by
      rw[hxl];exact(Array.getElem?_eq_some_iff.1 hkf2).1
     rw[List.getElem?_eq_getElem hkl]at h1;obtain⟨p,p1,p2,p3,p4⟩:=ih f.type _ _ hfm h1 (fun n hn=>hwt n (by
      simp only[DataW.weights,hu];exact DataW.weights_mem_each (j:=k) (t:=f.type) (d:=xs[k].1) (by simp[hkf2]) (by simp[List.getElem?_eq_getElem hkl]) n hn))
     rw[p3]at p2;refine⟨p ++ q,⟨p,q,rfl,p1,q1⟩,by simp;omega,?_⟩;rw[Zp]at p4 q3 ⊢;intro i c hi;by_cases hil:i < p.length
     ·rw[List.getElem?_append_left hil]at hi;obtain⟨u,u1,u2,u3⟩:=p4 i c hi;refine⟨u,?_,u2,u3⟩;simp only[Nat.zero_add]at u1;rw[List.getElem?_take]at u1;split at u1
      ·rwa[List.getElem?_drop]at u1
      ·cases u1
     ·rw[List.getElem?_append_right (by omega)]at hi;obtain⟨u,u1,u2,u3⟩:=q3 (i - p.length) c hi;refine⟨u,?_,u2,u3⟩;rwa[show f.offset+P.cellsOf f.type+ (i - p.length)=f.offset+i by omega]at u1
   obtain⟨avs,a1,a2,a3⟩:=key fs.toList 0 0 (by simp) hs2;exact⟨avs,a1,by omega,hcl,a3⟩
  ·cases hs
end
end Go.Am
namespace Go.Am
def KLe (K K':ZJ):Prop:=∀f args bs r,K f args bs=some r→K' f args bs=some r
theorem Bz {K K':ZJ} (h:KLe K K') {op:AOp} {σ:St} {p:AV×St} (he:Qg K op σ=some p):Qg K' op σ=some p:=by
 cases op <;> try exact he
 case call f args=>
  simp only[Qg]at he ⊢;split at he
  ·rename_i hok;rw[if_pos hok];cases hk:K f (args.map (val σ.env)) σ.bs with
   | none=>rw[hk]at he;cases he
   | some r=>rw[hk]at he;rw[h _ _ _ _ hk];exact he
  ·cases he
 case callq f args=>
  simp only[Qg]at he ⊢;split at he
  ·rename_i hok;rw[if_pos hok];cases hk:K f (args.map (val σ.env)) σ.bs with
   | none=>rw[hk]at he;cases he
   | some r=>rw[hk]at he;rw[h _ _ _ _ hk];exact he
  ·cases he
 case callv g args=>
  simp only[Qg]at he ⊢;split at he
  ·rename_i f caps hf;split at he
   ·rename_i hok;rw[if_pos hok];cases hk:K f (args.map (val σ.env)++ caps) σ.bs with
    | none=>rw[hk]at he;cases he
    | some r=>rw[hk]at he;rw[h _ _ _ _ hk];exact he
   ·cases he
  ·cases he
theorem MI {K K':ZJ} (h:KLe K K') {o:Qr} {σ s:St} (he:Zr K o σ=some s):Zr K' o σ=some s:=by
 have key: ((Qg K o.op σ).map fun p=>({p.2 with env:=ZR p.2.env o.dst p.1}:St))=some s→((Qg K' o.op σ).map fun p=>({p.2 with env:=ZR p.2.env o.dst p.1}:St))=some s:=fun he=>by
  cases hx:Qg K o.op σ with
  | none=>rw[hx]at he;cases he
  | some p=>rw[hx]at he;rw[Bz h hx];exact he
 unfold Zr at he ⊢;split at he
 ·exact key he
 ·split at he
  ·split at he
   ·rename_i hc;rw[if_pos hc];exact key he
   ·rename_i hc;rw[if_neg hc];exact he
  ·exact he
  ·cases he
theorem Vp {K K':ZJ} (h:KLe K K'): ∀{os:List Qr} {σ s:St},Zn K os σ=some s→Zn K' os σ=some s
 | [],_,_,he=>he
 | o:: os,σ,s,he=>by
  simp only[Zn]at he ⊢;cases ho:Zr K o σ with
  | none=>rw[ho]at he;cases he
  | some s1=>
   rw[ho]at he;rw[MI h ho];exact Vp h he
theorem TV {f g:St→Option (Ex×St)} (h: ∀s x,f s=some x→g s=some x): ∀{n m:Nat} {σ:St} {x:Ex×St},n≤m→Vk f n σ=some x→Vk g m σ=some x
 | 0,_,_,_,_,he=>by simp[Vk]at he
 | n+1,0,_,_,hnm,_=>by omega
 | n+1,m+1,σ,x,hnm,he=>by
  simp only[Vk]at he ⊢;split at he
  ·rename_i s hf;rw[h _ _ hf];exact TV h (by omega) he
  ·rename_i hne;have:=h _ _ he;rw[this];obtain⟨e,s⟩:=x;cases e
   ·exact absurd he (hne s)
   ·rfl
   ·rfl
theorem T1 {K K':ZJ} (h:KLe K K') {n m:Nat} (hnm:n≤m): ∀{c:AC} {σ:St} {x:Ex×St},Q2 K n c σ=some x→Q2 K' m c σ=some x:=by
 intro c
 induction c with
 | bad=>intro σ x he;simp[Q2]at he
 | skip=>intro σ x he;exact he
 | reg d ops=>
  intro σ x he;simp only[Q2]at he ⊢;cases ho:Zn K ops σ with
  | none=>rw[ho]at he;cases he
  | some s=>rw[ho]at he;rw[Vp h ho];exact he
 | seq a b iha ihb=>
  intro σ x he;simp only[Q2]at he ⊢;split at he
  ·rename_i s ha;rw[iha ha];exact ihb he
  ·rename_i hne;rw[iha he];obtain⟨e,s⟩:=x;cases e
   ·exact absurd he (hne s)
   ·rfl
   ·rfl
 | cond c a b iha ihb=>
  intro σ x he;simp only[Q2]at he ⊢;split at he
  ·exact iha he
  ·exact ihb he
  ·cases he
 | block id c ih=>
  intro σ x he;simp only[Q2]at he ⊢;split at he
  ·rename_i i s hc;rw[ih hc];exact he
  ·rename_i hne;rw[ih he];obtain⟨e,s⟩:=x;cases e
   ·rfl
   ·exact absurd he (hne _ s)
   ·rfl
 | loop c ih=>
  intro σ x he;simp only[Q2]at he ⊢;exact TV (fun s x hx=>ih hx) hnm he
 | exit id=>intro σ x he;exact he
 | ret=>intro σ x he;exact he
theorem XY {T:Nat→Option AFn}: ∀{n m:Nat},n≤m→KLe (ZT T n) (ZT T m)
 | 0,_,_=>fun _ _ _ _ h=>by simp[ZT]at h
 | n+1,0,h=>by omega
 | n+1,m+1,h=>fun f args bs r he=>by
  simp only[ZT]at he ⊢;split at he
  ·cases he
  ·rename_i g hg;exact he
  ·rename_i fn hf;split at he
   ·rename_i hl;rw[if_pos hl];have hr: ∀x,Q2 (ZT T n) n fn.body {env:=YK args,bs}=some x→Q2 (ZT T m) m fn.body {env:=YK args,bs}=some x:=fun x hx=>T1 (XY (by omega)) (by omega) hx;split at he
    ·rename_i s hs;rw[hr _ hs];exact he
    ·rename_i s hs;rw[hr _ hs];exact he
    ·cases he
   ·cases he
open Classical in
noncomputable def call (T:Nat→Option AFn):ZJ:=fun f args bs=>if h: ∃r n,ZT T n f args bs=some r then some h.choose else none
open Classical in
noncomputable def run (T:Nat→Option AFn) (c:AC) (σ:St):Option (Ex×St):=if h: ∃x n,Q2 (ZT T n) n c σ=some x then some h.choose else none
section
variable {T:Nat→Option AFn}
theorem Vv {f:Nat} {args:List AV} {bs:List (List AV)} {r:AV×List (List AV)}:call T f args bs=some r↔∃n,ZT T n f args bs=some r:=by
 have huniq: ∀{r1 r2:AV×List (List AV)} {n m:Nat},ZT T n f args bs=some r1→ZT T m f args bs=some r2→r1=r2:=fun {r1 r2 n m} h1 h2=>by
  have g1:=XY (T:=T) (Nat.le_max_left n m) _ _ _ _ h1;have g2:=XY (T:=T) (Nat.le_max_right n m) _ _ _ _ h2;rw[g1]at g2;injection g2
 unfold call;constructor
 ·intro h;split at h
  ·rename_i hx;injection h with h
   obtain⟨n,hn⟩:=hx.choose_spec;exact⟨n,h▸hn⟩
  ·cases h
 ·rintro⟨n,hn⟩
  have hx: ∃r n,ZT T n f args bs=some r:=⟨r,n,hn⟩;rw[dif_pos hx];obtain⟨m,hm⟩:=hx.choose_spec;rw[huniq hm hn]
theorem Zg {c:AC} {σ:St} {x:Ex×St}:run T c σ=some x↔∃n,Q2 (ZT T n) n c σ=some x:=by
 have huniq: ∀{r1 r2:Ex×St} {n m:Nat},Q2 (ZT T n) n c σ=some r1→Q2 (ZT T m) m c σ=some r2→r1=r2:=fun {r1 r2 n m} h1 h2=>by
  have g1:=T1 (XY (T:=T) (Nat.le_max_left n m)) (Nat.le_max_left n m) h1;have g2:=T1 (XY (T:=T) (Nat.le_max_right n m)) (Nat.le_max_right n m) h2;rw[g1]at g2;injection g2
 unfold run;constructor
 ·intro h;split at h
  ·rename_i hx;injection h with h
   obtain⟨n,hn⟩:=hx.choose_spec;exact⟨n,h▸hn⟩
  ·cases h
 ·rintro⟨n,hn⟩
  have hx: ∃x n,Q2 (ZT T n) n c σ=some x:=⟨x,n,hn⟩;rw[dif_pos hx];obtain⟨m,hm⟩:=hx.choose_spec;rw[huniq hm hn]
theorem L8 (n:Nat):KLe (ZT T n) (call T):=fun _ _ _ _ h=>Vv.2 ⟨n,h⟩
theorem QaH {op:AOp} {σ:St} {p:AV×St} (h:Qg (call T) op σ=some p): ∃n,Qg (ZT T n) op σ=some p:=by
 cases op <;> try exact⟨0,h⟩
 case call f args=>
  simp only[Qg]at h ⊢;split at h
  ·rename_i hok;simp only[hok,if_true];cases hk:call T f (args.map (val σ.env)) σ.bs with
   | none=>rw[hk]at h;cases h
   | some r=>
    obtain⟨n,hn⟩:=Vv.1 hk;rw[hk]at h;exact⟨n,by rw[hn];exact h⟩
  ·cases h
 case callq f args=>
  simp only[Qg]at h ⊢;split at h
  ·rename_i hok;simp only[hok,if_true];cases hk:call T f (args.map (val σ.env)) σ.bs with
   | none=>rw[hk]at h;cases h
   | some r=>
    obtain⟨n,hn⟩:=Vv.1 hk;rw[hk]at h;exact⟨n,by rw[hn];exact h⟩
  ·cases h
 case callv g args=>
  simp only[Qg]at h ⊢;split at h
  ·rename_i f caps hf;split at h
   ·rename_i hok;simp only[hok,if_true];cases hk:call T f (args.map (val σ.env)++ caps) σ.bs with
    | none=>rw[hk]at h;cases h
    | some r=>
     obtain⟨n,hn⟩:=Vv.1 hk;rw[hk]at h;exact⟨n,by rw[hn];exact h⟩
   ·cases h
  ·cases h
theorem Ac {o:Qr} {σ s:St} (h:Zr (call T) o σ=some s): ∃n,Zr (ZT T n) o σ=some s:=by
 have key: ((Qg (call T) o.op σ).map fun p=>({p.2 with env:=ZR p.2.env o.dst p.1}:St))=some s→∃n,((Qg (ZT T n) o.op σ).map fun p=>({p.2 with env:=ZR p.2.env o.dst p.1}:St))=some s:=fun he=>by
  cases hx:Qg (call T) o.op σ with
  | none=>rw[hx]at he;cases he
  | some p=>
   obtain⟨n,hn⟩:=QaH hx;rw[hx]at he;exact⟨n,by rw[hn];exact he⟩
 unfold Zr at h ⊢;split at h
 ·exact key h
 ·split at h
  ·split at h
   ·rename_i hc;obtain⟨n,hn⟩:=key h;exact⟨n,by rw[if_pos hc];exact hn⟩
   ·rename_i hc;exact⟨0,by rw[if_neg hc];exact h⟩
  ·exact⟨0,h⟩
  ·cases h
theorem MJ: ∀{os:List Qr} {σ s:St},Zn (call T) os σ=some s→∃n,Zn (ZT T n) os σ=some s
 | [],_,_,h=>⟨0,h⟩
 | o:: os,σ,s,h=>by
  simp only[Zn]at h;cases ho:Zr (call T) o σ with
  | none=>rw[ho]at h;cases h
  | some s1=>
   rw[ho]at h;obtain⟨n,hn⟩:=Ac ho;obtain⟨m,hm⟩:=MJ (os:=os) h;refine⟨max n m,?_⟩;simp only[Zn];rw[MI (XY (Nat.le_max_left n m)) hn];exact Vp (XY (Nat.le_max_right n m)) hm
theorem UJ {n m:Nat} (h:n≤m) {c:AC} {σ:St} {x:Ex×St} (hr:Q2 (ZT T n) n c σ=some x):Q2 (ZT T m) m c σ=some x:=T1 (XY h) h hr
theorem Te {α:Type} {a b:Option α} (h: ∀x,a=some x↔b=some x):a=b:=by
 cases a with
 | none=>cases b with
  | none=>rfl
  | some y=>exact absurd ((h y).2 rfl) (by simp)
 | some x=>exact((h x).1 rfl).symm
theorem HB (σ:St):run T .skip σ=some (.normal,σ):=Zg.2 ⟨0,rfl⟩
theorem Fx (σ:St):run T .ret σ=some (.ret,σ):=Zg.2 ⟨0,rfl⟩
theorem Hz (id:Nat) (σ:St):run T (.exit id) σ=some (.exit id,σ):=Zg.2 ⟨0,rfl⟩
theorem Fw (d:Bool) (ops:List Qr) (σ:St):run T (.reg d ops) σ=(Zn (call T) ops σ).map fun s=>(.normal,s):=by
 apply Te;intro x;rw[Zg];simp only[Q2];constructor
 ·rintro⟨n,h⟩
  cases ho:Zn (ZT T n) ops σ with
  | none=>rw[ho]at h;cases h
  | some s=>rw[ho]at h;rw[Vp (L8 n) ho];exact h
 ·intro h;cases ho:Zn (call T) ops σ with
  | none=>rw[ho]at h;cases h
  | some s=>
   obtain⟨n,hn⟩:=MJ ho;rw[ho]at h;exact⟨n,by rw[hn];exact h⟩
theorem Fy (a b:AC) (σ:St):run T (.seq a b) σ=match run T a σ with
  | some (.normal,s)=>run T b s
  | r=>r:=by
 apply Te;intro x;rw[Zg];constructor
 ·rintro⟨n,h⟩
  simp only[Q2]at h;split at h
  ·rename_i s hs;rw[Zg.2 ⟨n,hs⟩];exact Zg.2 ⟨n,h⟩
  ·rename_i hne;rw[Zg.2 ⟨n,h⟩];obtain⟨e,s⟩:=x;cases e
   ·exact absurd h (hne s)
   ·rfl
   ·rfl
 ·intro h;split at h
  ·rename_i s hs;obtain⟨n,hn⟩:=Zg.1 hs;obtain⟨m,hm⟩:=Zg.1 h;refine⟨max n m,?_⟩;simp only[Q2];rw[UJ (Nat.le_max_left n m) hn];exact UJ (Nat.le_max_right n m) hm
  ·rename_i hne;obtain⟨n,hn⟩:=Zg.1 h;refine⟨n,?_⟩;simp only[Q2];rw[hn];obtain⟨e,s⟩:=x;cases e
   ·exact absurd h (hne s)
   ·rfl
   ·rfl
theorem Hy (c:AO) (a b:AC) (σ:St):run T (.cond c a b) σ=match val σ.env c with
  | .bool true=>run T a σ
  | .bool false=>run T b σ
  | _=>none:=by
 apply Te;intro x;rw[Zg];simp only[Q2];cases hv:val σ.env c <;> try simp
 rename_i b;cases b
 ·exact Zg.symm
 ·exact Zg.symm
theorem L0 (id:Nat) (c:AC) (σ:St):run T (.block id c) σ=match run T c σ with
  | some (.exit i,s)=>some (if i=id then .normal else .exit i,s)
  | r=>r:=by
 apply Te;intro x;rw[Zg];simp only[Q2];constructor
 ·rintro⟨n,h⟩
  split at h
  ·rename_i i s hs;rw[Zg.2 ⟨n,hs⟩];exact h
  ·rename_i hne;rw[Zg.2 ⟨n,h⟩];obtain⟨e,s⟩:=x;cases e
   ·rfl
   ·exact absurd h (hne _ s)
   ·rfl
 ·intro h;split at h
  ·rename_i i s hs;obtain⟨n,hn⟩:=Zg.1 hs;exact⟨n,by rw[hn];exact h⟩
  ·rename_i hne;obtain⟨n,hn⟩:=Zg.1 h;refine⟨n,?_⟩;rw[hn];obtain⟨e,s⟩:=x;cases e
   ·rfl
   ·exact absurd h (hne _ s)
   ·rfl
theorem HA (c:AC) (σ:St):run T (.loop c) σ=match run T c σ with
  | some (.normal,s)=>run T (.loop c) s
  | r=>r:=by
 apply Te;intro x;rw[Zg];constructor
 ·rintro⟨n,h⟩
  simp only[Q2]at h;cases n with
  | zero=>simp[Vk]at h
  | succ n=>
   simp only[Vk]at h;split at h
   ·rename_i s hs;rw[Zg.2 ⟨n+1,hs⟩];refine Zg.2 ⟨n+1,?_⟩;simp only[Q2];exact TV (fun _ _ h=>h) (by omega) h
   ·rename_i hne;rw[Zg.2 ⟨n+1,h⟩];obtain⟨e,s⟩:=x;cases e
    ·exact absurd h (hne s)
    ·rfl
    ·rfl
 ·intro h;split at h
  ·rename_i s hs;obtain⟨n,hn⟩:=Zg.1 hs;obtain⟨m,hm⟩:=Zg.1 h;refine⟨max n m+1,?_⟩;simp only[Q2]at hm ⊢;simp only[Vk];rw[UJ (m:=max n m+1) (by omega) hn];exact TV (fun s x hx=>UJ (by omega) hx) (by omega) hm
  ·rename_i hne;obtain⟨n,hn⟩:=Zg.1 h;refine⟨n+1,?_⟩;simp only[Q2,Vk];rw[UJ (m:=n+1) (by omega) hn];obtain⟨e,s⟩:=x;cases e
   ·exact absurd h (hne s)
   ·rfl
   ·rfl
theorem Ld (f:Nat) (args:List AV) (bs:List (List AV)):call T f args bs=match T f with
  | none=>none
  | some (.orc g)=>g args bs
  | some (.code fn)=>
   if args.length=fn.nparams then
    match run T fn.body {env:=YK args,bs}with
    | some (.normal,σ)=>Yn fn bs σ
    | some (.ret,σ)=>Yn fn bs σ
    | _=>none
   else none:=by
 apply Te;intro x;rw[Vv];constructor
 ·rintro⟨n,h⟩
  cases n with
  | zero=>simp[ZT]at h
  | succ n=>
   simp only[ZT]at h;split at h
   ·cases h
   ·rename_i g hg;simp only[hg];exact h
   ·rename_i fn hf;simp only[hf];split at h
    ·rename_i hl;rw[if_pos hl];split at h
     ·rename_i s hs;rw[Zg.2 ⟨n,hs⟩];exact h
     ·rename_i s hs;rw[Zg.2 ⟨n,hs⟩];exact h
     ·cases h
    ·cases h
 ·intro h;split at h
  ·cases h
  ·rename_i g hg;exact⟨1,by simp only[ZT,hg];exact h⟩
  ·rename_i fn hf;split at h
   ·rename_i hl;split at h
    ·rename_i s hs;obtain⟨n,hn⟩:=Zg.1 hs;exact⟨n+1,by simp only[ZT,hf,hl,if_true,hn];exact h⟩
    ·rename_i s hs;obtain⟨n,hn⟩:=Zg.1 hs;exact⟨n+1,by simp only[ZT,hf,hl,if_true,hn];exact h⟩
    ·cases h
   ·cases h
end
end Go.Am
namespace Go.Am
open Go.RowKit Go.ChangeShapes Go.WideShapes
section
variable {P:Program} {num:Nat→Option Nat} {tb:Nat→Option AFn} {W:World}
def Ww [Dr]:Yg:=⟨fun _=>True,0,fun _ _ _ _ _ _ _ _ _=>trivial⟩
theorem EF [Dr] (hF:M0 P num Ww tb) {f g:Nat} (hnum:num f=some g) {args:List AV} {vs:Array Value} (hok:Y2 args=true) (hvs:vs.size=args.length)
  (hrep: ∀(i:Nat) (c:AV),args[i]? =some c→∃u,vs[i]? =some u∧Qd num [] W (mW W) c u) (hc:call tb f args []=some (.bool true,[])):
  Calls P g vs W fun e W'=>e= .returned (.bool true)∧Below W.heap.size W W':=by
 obtain⟨n,hn⟩:=Vv.1 hc;refine(T8 hF n f g args [] _ _ hnum hn hok W (mW W) [] (fun _=>none) vs trivial (Nat.zero_le _) hvs hrep ⟨rfl,fun i cs k h=>by simp at h⟩ (fun b p h=>by cases h)).mono fun e W' he=> ?_;obtain⟨v,m',β',ν',he,_,hS,_,_,hr,_,_⟩:=he;simp only[Qd]at hr;subst hr;exact⟨he,hS.os,hS.tape,hS.output,hS.size,fun k hk=>(hS.same k hk (fun⟨p,hp⟩=>by cases hp)).1⟩
section
variable {H:Type} {enc:TypeId×Value→H} {S:List TypeId} {base b0:Nat} {spare:Nat→Bool} {held:Bool} {r:Reach}
theorem N2 [Dr] {B:Nat} (hS:Kw P S=true) {t:TypeId} (ht:t∈S) {fs:Array Field} (hu:P.underlying t=some (.struct fs)) {v:Value} {d:DataW H} {p:List MemPlace} (hv:Value.okWide P W r b0 t v)
  (h:DataW.Trod enc P W base spare held t v d p) (hw: ∀n∈d.weights P t,n≤B): ∃n avs,Shp B P n t avs∧Qd num [] W (mW W) (.agg avs) v:=by
 obtain⟨cs,rfl,hsz⟩:=okWide_struct hu hv;obtain⟨fuel,hf⟩:=h;obtain⟨avs,h1,h2,h3,h4⟩:=MN (num:=num) (β:=[]) hS fuel t _ _ ht hf hw;refine⟨fuel,avs,h1,?_⟩;simp only[Qd];have hc: (Value.agg cs).cells=cs:=rfl;rw[hc]at h2 h4;refine⟨cs,rfl,by simpa using h2.symm,?_⟩;simpa using h4
theorem PN (K:Kids P (· < P.types.size)) (hz: ∀t e,t < P.types.size→P.underlying t=some (.slice e)→0 < P.cellsOf e) {W':World} (hb:Below W.heap.size W W') {sp:Nat→Bool}:
  ∀{ts:List TypeId} {vs:List Value} {ds:List (DataW H)} {ps:List MemPlace},(∀t∈ts,t < P.types.size)→DataW.TrodAll enc P W 0 (fun _=>true) true ts vs ds ps→(∀p∈ps,p.block < W.heap.size)→(∀p∈ps,sp p.block=true)→
   DataW.TrodAll enc P W' 0 sp true ts vs ds ps
 | [],[],[],_,_,h,_,_=>h
 | _:: _,_:: _,_:: _,_,hT,⟨p,q,⟨n,h1⟩,h2,e⟩,hlt,hs=>by
  subst e;refine⟨p,q,⟨n,?_⟩,PN K hz hb (fun t ht=>hT t (List.mem_cons_of_mem _ ht)) h2 (fun x hx=>hlt x (List.mem_append_right _ hx)) (fun x hx=>hs x (List.mem_append_right _ hx)),rfl⟩;exact DataW.trod_carry n _ _ _ (DataW.trod_respare K hz n _ _ _ (hT _ (List.mem_cons_self ..)) h1 (fun x hx=>hs x (List.mem_append_left _ hx))) (fun x hx=>hb.same (hlt x (List.mem_append_left _ hx)))
theorem post_of_below {f:Func} {s:ChangeSpec} {apart fresh handsOn again:Bool} {W W':World} {args:Array Value} {v:Value} {ds gs:List (DataW H)} {before pa pv:List MemPlace}
  (hW:DataW.Whole enc P f.params.toList s.vars apart W args.toList ds gs before)
  (hres: ∀(b:Nat) (sp:Nat→Bool) (hd:Bool),DataW.TrodAll enc P W' b sp hd f.resultTypes.toList (v.resultList f.resultTypes.size) (s.fn H (ds ++ gs)).results [])
  (hargs: ∀sp:Nat→Bool,(∀p∈before,sp p.block=true)→DataW.TrodAll enc P W' 0 sp true f.params.toList args.toList (s.fn H (ds ++ gs)).args pa)
  (hvars: ∀sp:Nat→Bool,(∀p∈before,sp p.block=true)→DataW.TrodVars enc P W' sp s.vars (s.fn H (ds ++ gs)).vars pv)
  (hps:before=pa ++ pv) (hb:Below W.heap.size W W')
  (hok: ∀(j:Nat) (t:TypeId) (r:Value),f.resultTypes[j]? =some t→(v.resultList f.resultTypes.size)[j]? =some r→Value.okWide P W' .any 0 t r):
  s.post enc P f apart fresh handsOn again W args v W':=by
 have hlt: ∀p∈before,p.block < W.heap.size:=fun p hp=>hW.lt p hp;have hold: ∀p∈before,(fun b=>decide (b < W.heap.size)) p.block=true:=fun p hp=>by simpa using hlt p hp
 refine⟨ds,gs,before,[],pa,pv,hW,hres _ _ _,hargs _ hold,hvars _ hold,World.keptBut_mono (fun p hp=>⟨hp,?_⟩) (hb.frame (·∈before)),fun _=> ?_⟩
 ·rw[hps,List.mem_append]at hp;exact Or.inr hp
 ·obtain⟨_,_,_,_,_,hz,hn⟩:=hW;refine⟨hok,_,_,([]++ pa)++ pv,⟨[]++ pa,pv,trodAll_append (hargs _ (fun _ _=>rfl)) (hres _ _ _),hvars _ (fun _ _=>rfl),rfl,?_,?_⟩,?_⟩
  ·intro b off hp;have hin:MemPlace.cell b off∈before:=by rw[hps];simpa using hp
   rw[hb.frozen (hlt _ hin)];exact hz b off hin
  ·intro ha;have:=hn ha;rw[hps]at this;simpa using this
  ·intro p hp _;rw[hps];simpa using hp
end
end
end Go.Am
