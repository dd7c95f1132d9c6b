/-
  Am24, Am25, Am26, Am20, Am27.
-/
import Derived.Test.YtpgbndmkiiakaaaGreatDoorG08
import Derived.Below
import Derived.Lib.Bytealg
import Derived.Lib.IndexAny
import Derived.Lib.ItoaNum
import Derived.Lib.LaidTab
import Derived.Lib.ConvBytes
import Derived.Sort.Grow
import Derived.Deep.Draws
import Derived.Lib.AtoiErrMem
import Derived.Lib.AtoiAll
import Derived.SizedLaws
import Derived.Deep.Slices
import Derived.ChangeArms
import Derived.DataReads
import Derived.Carry
import Derived.ReadAgain
import Derived.ChangeSame
import Derived.OpenShut
set_option linter.unusedVariables false
set_option linter.unusedSimpArgs false
namespace Go.Am
open Go.RowKit
def IC (P:Program):Nat:=max (max ((P.globalNamed "internal/strconv.uint64pow10").getD 0) ((P.globalNamed "strconv.ErrSyntax").getD 0)) ((P.globalNamed "strconv.ErrRange").getD 0)+1
theorem KD [Dr] {P:Program} {X:Nat→Prop} {w w':World} {m m':Nat→Nat} {B:Nat} (hS:ZL X w m w' m') (hX: ∀b,X b→B≤b) (hb:B≤w.heap.size) {n:String} (hn: (P.globalNamed n).getD 0 < B):w'.var? P n=w.var? P n:=by
 unfold World.var?;cases hg:P.globalNamed n with
 | none=>rfl
 | some g=>
  rw[hg]at hn;simp only[Option.getD_some]at hn;simp only[Option.bind_some];rw[(hS.same g (by omega) (fun hx=>by have:=hX g hx;omega)).1]
theorem QeN {P:Program} {w:World} {n:String} {cs:Array Value} (h:w.var? P n=some cs): (P.globalNamed n).getD 0 < w.heap.size:=by
 unfold World.var? at h;cases hg:P.globalNamed n with
 | none=>rw[hg]at h;cases h
 | some g=>
  rw[hg]at h;simp only[Option.bind_some]at h;simp only[Option.getD_some];rcases Nat.lt_or_ge g w.heap.size with h1 | h1
  ·exact h1
  ·rw[Array.getElem?_eq_none h1]at h;cases h
def Jj (P:Program) (w:World):Prop:=Lib.TabIs P w "internal/strconv.uint64pow10" .u64 Lib.pow10Tab∧
 (P.globalNamed "strconv.ErrSyntax" ≠none→∃tp p,w.var? P "strconv.ErrSyntax" =some #[.iface tp p])∧(P.globalNamed "strconv.ErrRange" ≠none→∃tp p,w.var? P "strconv.ErrRange" =some #[.iface tp p])
theorem QjS [Dr] {P:Program} {w:World} (h:Jj P w):IC P≤w.heap.size:=by
 obtain⟨h1,h2,h3⟩:=h;have g1:=QeN h1;have key: ∀{n:String},(P.globalNamed n≠none→∃tp p,w.var? P n=some #[.iface tp p])→(P.globalNamed n).getD 0 < w.heap.size:=fun {n} hn=>by
  by_cases c:P.globalNamed n=none
  ·rw[c];simp only[Option.getD_none];omega
  ·obtain⟨_,_,h⟩:=hn c;exact QeN h
 have g2:=key h2;have g3:=key h3;unfold IC;omega
def glob [Dr] (P:Program):YP where
 G:=Jj P
 Gb:=IC P
 step:=fun X w m w' m' hS hX hb hG=>by
  unfold Jj Lib.TabIs at *;rw[KD hS hX hb (by unfold IC;omega),KD hS hX hb (by unfold IC;omega),KD hS hX hb (by unfold IC;omega)];exact hG
theorem QaY [Dr] {w w':World} {m:Nat→Nat} (h:Below w.heap.size w w') (hdr:Dr.d→w.drawn≤w'.drawn):ZL (fun _=>False) w m w' m:=by
 refine⟨h.os,h.tape,h.output,h.size,fun b hb _=>⟨h.block b hb,rfl⟩,fun b i u hu=> ?_,hdr⟩;unfold hg at hu ⊢;split at hu
 ·rename_i hi;rw[if_pos hi];have hb:b < w.heap.size:=by
   rcases Nat.lt_or_ge b w.heap.size with h1 | h1
   ·exact h1
   ·exfalso;unfold World.cell? at hu;rw[Array.getElem?_eq_none h1]at hu;cases hu
  unfold World.cell? at hu ⊢;rw[h.block b hb];exact hu
 ·cases hu
section
variable {P:Program} {num:Nat→Option Nat}
theorem NF [Dr] {Γ:YP} {h:List AV→Option AV} {g:Nat}
  (hc: ∀(args:List AV) (r:AV),h args=some r→∀(w:World) (m:Nat→Nat) (β:List Blk) (vs:Array Value),Γ.G w→vs.size=args.length→
   (∀(i:Nat) (c:AV),args[i]? =some c→∃u,vs[i]? =some u∧Qd num β w m c u)→
   Calls P g vs w fun e w'=>∃v,e= .returned v∧Below w.heap.size w w'∧(Dr.d→w.drawn≤w'.drawn)∧r.ok=true∧(∀w' m',Qd num β w' m' r v)∧(∀w' m' ν',Zq w' m' ν' .f r v)):
  Qa9 P num Γ h g:=by
 intro args r hr hok w m β vs hG hGb hvs hrep;refine(hc args r hr w m β vs hG hvs hrep).mono fun e w' he=> ?_;obtain⟨v,he,hB,hdr,h1,h2,h3⟩:=he;exact⟨v,m,fun _=>none,he,QaY hB hdr,h1,h2 w' m,h3 w' m _,fun b p hp=>by cases hp⟩
theorem Qox {vs:Array Value} {u:Value} (h:vs.size=1) (h0:vs[0]? =some u):vs= #[u]:=by
 apply Array.ext_getElem?;intro i;cases i with
 | zero=>rw[h0];rfl
 | succ i=>rw[Array.getElem?_eq_none (by omega),Array.getElem?_eq_none (by simp)]
theorem AL {vs:Array Value} {u v:Value} (h:vs.size=2) (h0:vs[0]? =some u) (h1:vs[1]? =some v):vs= #[u,v]:=by
 apply Array.ext_getElem?;intro i
 match i with
 | 0=>rw[h0];rfl
 | 1=>rw[h1];rfl
 | i+2=>rw[Array.getElem?_eq_none (by omega),Array.getElem?_eq_none (by simp)]
theorem UN (s:List UInt8): (⟨s.toArray⟩:ByteArray).data.toList=s:=by simp
theorem KT (s:List UInt8): (⟨s.toArray⟩:ByteArray).size=s.length:=by simp[ByteArray.size]
theorem RB: ∀a b:List UInt8,Lib.compareBytes a b=if Op.bytesLess a b then -1 else if a == b then 0 else 1
 | [],[]=>rfl
 | [],_:: _=>by simp[Lib.compareBytes,Op.bytesLess]
 | _:: _,[]=>by simp[Lib.compareBytes,Op.bytesLess]
 | a:: aq,b:: bs=>by
  simp only[Lib.compareBytes,Op.bytesLess,RB aq bs];by_cases h1:a < b
  ·simp[h1]
  ·by_cases h2:b < a
   ·have hne: (a == b)=false:=by
     rw[beq_eq_false_iff_ne];intro e;subst e;exact h1 h2
    simp[h1,h2,hne]
   ·have he:a=b:=by
     apply UInt8.toNat_inj.1;rw[UInt8.lt_iff_toNat_lt]at h1 h2;omega
    subst he;simp[h1]
theorem BA [Dr] {Γ:YP} {g:Nat} (hC: ∀(a b:ByteArray) (w:World),Calls P g #[.string a,.string b] w fun e w'=>e= .returned (.int .i64 (Lib.compareBytes a.data.toList b.data.toList))∧w'=w):Ug P num Γ (XA L9) g:=by
 refine Kv (NF fun args r hr w m β vs hG hvs hrep=> ?_);unfold L9 at hr;split at hr
 ·rename_i a b;injection hr with hr
  subst hr;obtain⟨u,h0,h1⟩:=hrep 0 _ rfl;obtain⟨u2,h2,h3⟩:=hrep 1 _ rfl;simp only[Qd]at h1 h3;subst h1 h3;rw[AL hvs h0 h2];refine(hC _ _ w).mono fun e w' he=> ?_;obtain⟨rfl,rfl⟩:=he;rw[UN,UN,RB];exact⟨_,rfl,Below.refl _ _,fun _=>Nat.le_refl _,rfl,fun _ _=>by simp only[Qd],fun _ _ _=>trivial⟩
 ·cases hr
theorem NU: ∀n:Nat,Lib.decDigits n=YI n:=by
 intro n
 induction n using Nat.strongRecOn with
 | ind n ih=>
  by_cases h:n < 10
  ·rw[Lib.decDigits_one h,Wz h]
  ·rw[Lib.decDigits,dif_neg h,VR h,ih (n / 10) (by omega)]
theorem QjZ [Dr] (n:Int):Lib.itoa n=dec n:=by
 unfold Lib.itoa dec;split
 ·rw[NU]
 ·rw[NU];congr 1;omega
theorem AN (w:World) (k:Nat) (os:Array Obj):Below w.heap.size w (Sort.grow (w.drewN k) os):=
 ⟨rfl,rfl,rfl,by simp[Sort.grow,World.drewN],fun b hb=>by
  show((w.drewN k).heap ++ os)[b]? =_;rw[Array.getElem?_append_left (by simpa[World.drewN]using hb)];rfl⟩
theorem QfV [Dr] {g:Nat} (hC: ∀(n:Int),-9223372036854775808≤n→n≤9223372036854775807→∀(w:World),Lib.TabIs P w "internal/strconv.uint64pow10" .u64 Lib.pow10Tab→
  Calls P g #[.int .i64 n] w fun e w'=>e= .returned (.string ⟨(Lib.itoa n).toArray⟩)∧∃k os,w'=Sort.grow (w.drewN k) os):Ug P num (glob P) (XA LA) g:=by
 refine Kv (NF fun args r hr w m β vs hG hvs hrep=> ?_);unfold LA at hr;split at hr
 ·rename_i n;split at hr
  ·rename_i hn;injection hr with hr
   subst hr;obtain⟨u,h0,h1⟩:=hrep 0 _ rfl;simp only[Qd]at h1;subst h1;rw[Qox hvs h0];refine(hC n hn.1 hn.2 w hG.1).mono fun e w' he=> ?_;obtain⟨rfl,k,os,rfl⟩:=he;rw[QjZ];exact⟨_,rfl,AN w k os,fun _=>Nat.le_add_right _ _,rfl,fun _ _=>by simp only[Qd],fun _ _ _=>trivial⟩
  ·cases hr
 ·cases hr
end
end Go.Am
namespace Go.Am
section
variable {P:Program} {num:Nat→Option Nat} {tb:Nat→Option AFn}
def Ent (P:Program) (g:Nat):Prop:=∃fn,P.funcs[g]? =some fn∧(fn.name == "runtime.NumGoroutine")=false∧fn.body.isNone=false
theorem Qat {L:List (Nat×Nat)} {f g:Nat} (h:L.lookup f=some g): (f,g)∈L:=by
 induction L with
 | nil=>cases h
 | cons p L ih=>
  obtain⟨a,b⟩:=p;rw[List.lookup_cons]at h;by_cases hab:f=a
  ·subst hab;simp at h;subst h;simp
  ·have: (f == a)=false:=by simpa using hab
   rw[this]at h;exact List.mem_cons_of_mem _ (ih h)
theorem Qdn [Dr] {L:List (Nat×Nat)} (h: ∀p∈L,Ent P p.2):Wb P (fun f=>L.lookup f):=fun f g hfg=>h (f,g) (Qat hfg)
theorem T5 {α:Type} {p:α→Prop} {a:α} {l:List α} (h:p a) (hl: ∀x∈l,p x): ∀x∈a:: l,p x:=fun x hx=>by
 rcases List.mem_cons.1 hx with rfl | hx
 ·exact h
 ·exact hl x hx
theorem Qm0 {α:Type} {p:α→Prop}: ∀x∈([]:List α),p x:=fun x hx=>by cases hx
def Qae (P:Program) (g:Nat):Bool:=match P.funcs[g]? with
 | some fn=> !(fn.name == "runtime.NumGoroutine") && !fn.body.isNone
 | none=>false
theorem Lu [Dr] {L:List (Nat×Nat)} (h: (L.all fun p=>Qae P p.2)=true):Wb P (fun f=>L.lookup f):=Qdn fun p hp=>by
 have h1:=List.all_eq_true.1 h p hp;unfold Qae at h1;split at h1
 ·rename_i fn hf;simp only[Bool.and_eq_true,Bool.not_eq_true']at h1;exact⟨fn,hf,h1.1,h1.2⟩
 ·cases h1
def Xx (P:Program) (L:List (Nat×Nat)) (T:List (Nat×AFn)):Bool:=T.all fun p=>match p.2 with
 | .code fn=>(match L.lookup p.1 with
  | some g=>(match P.funcs[g]? with
   | some F=>Qay P (fun f=>L.lookup f) fn F
   | none=>false)
  | none=>true)
 | .orc _=>true
theorem X5 {L:List (Nat×Nat)} {T:List (Nat×AFn)} (n:Nat) (h1:Xx P L (T.take n)=true) (h2:Xx P L (T.drop n)=true):Xx P L T=true:=by
 unfold Xx at *;rw[← List.take_append_drop n T,List.all_append,h1,h2];rfl
theorem LX {L:List (Nat×AFn)} {f:Nat} {g:AFn} (h:L.lookup f=some g): (f,g)∈L:=by
 induction L with
 | nil=>cases h
 | cons p L ih=>
  obtain⟨a,b⟩:=p;rw[List.lookup_cons]at h;by_cases hab:f=a
  ·subst hab;simp at h;subst h;simp
  ·have: (f == a)=false:=by simpa using hab
   rw[this]at h;exact List.mem_cons_of_mem _ (ih h)
def Oat [Dr] (P:Program) (L:List (Nat×Nat)) (Γ:YP) (tb:Nat→Option AFn) (f:Nat):Prop:=∀g h,L.lookup f=some g→tb f=some (.orc h)→Ug P (fun f=>L.lookup f) Γ h g
theorem UW [Dr] {L:List (Nat×Nat)} {Γ:YP} {f g:Nat} {h:List AV→List (List AV)→Option (AV×List (List AV))} (ht:tb f=some (.orc h)) (hg:L.lookup f=some g) (hO:Ug P (fun f=>L.lookup f) Γ h g):Oat P L Γ tb f:=
 fun g2 h2 e1 e2=>by
  rw[hg]at e1;rw[ht]at e2;injection e1 with e1
  injection e2 with e2
  injection e2 with e2
  subst e1;subst e2;exact hO
theorem ED [Dr] {Γ:YP} {L:List (Nat×Nat)} {T:List (Nat×AFn)} (os:List Nat) (htb: ∀f,tb f=T.lookup f) (hmix:P.follows .mixedOrders=true) (hE: (L.all fun p=>Qae P p.2)=true) (hc:Xx P L T=true)
  (ho: (T.all fun p=>match p.2 with | .orc _=>os.contains p.1 | .code _=>true)=true) (hO: ∀f∈os,Oat P L Γ tb f):JC P (fun f=>L.lookup f) Γ tb where
 mix:=hmix
 enters:=Lu hE
 code:=fun f g fn hfg ht=>by
  rw[htb]at ht;have h1:=List.all_eq_true.1 hc _ (LX ht);simp only[hfg]at h1;split at h1
  ·rename_i F hF;exact⟨F,hF,h1⟩
  ·cases h1
 orc:=fun f g h hfg ht=>by
  have ht2:=ht;rw[htb]at ht2;have h1:=List.all_eq_true.1 ho _ (LX ht2);simp only at h1;exact hO f (by simpa using h1) g h hfg ht
end
end Go.Am
namespace Go.Am
def mW (w:World):Nat→Nat:=fun b=>match w.heap[b]? with
 | some (.cells c _ _)=>c.size
 | _=>0
theorem Qoh (w:World) (b i:Nat):hg w (mW w) b i=w.cell? ⟨b,i,none⟩:=by
 unfold hg mW World.cell?;cases h:w.heap[b]? with
 | none=>simp
 | some o=>
  cases o <;> simp
def FR (R:TypeId→List AV→Prop):List Field→List AV→Prop
 | [],avs=>avs=[]
 | f:: fs,avs=>∃p q,avs=p ++ q∧R f.type p∧FR R fs q
def Shp (P:Program):Nat→TypeId→List AV→Prop
 | 0,_,_=>False
 | n+1,t,avs=>match P.underlying t with
  | some (.int k)=>∃i,avs=[.int k i]∧(Lit.int k i).wf=true
  | some .bool=>∃b,avs=[.bool b]
  | some .string=>∃s:List UInt8,avs=[.str s]∧s.length≤reachBytes
  | some (.slice e)=>∃xs:List (List AV),avs=[.sl false (P.cellsOf e) xs]∧xs.length*P.bytesOf e≤reachBytes∧∀x∈xs,Shp P n e x
  | some (.struct fs)=>FR (Shp P n) fs.toList avs
  | _=>False
def EU (P:Program) (tot:Nat):List Field→Nat→Bool
 | [],o=>decide (o=tot)
 | f:: fs,o=>decide (f.offset=o) && EU P tot fs (o+P.cellsOf f.type)
def Qaz (P:Program) (S:List TypeId):Bool:=S.all fun t=>match P.underlying t with
 | some (.int _)=>decide (P.cellsOf t=1)
 | some .bool=>decide (P.cellsOf t=1)
 | some .string=>decide (P.cellsOf t=1)
 | some (.slice e)=>S.contains e && decide (0 < P.cellsOf e) && decide (P.cellsOf t=1)
 | some (.struct fs)=>fs.toList.all (fun f=>S.contains f.type) && EU P (P.cellsOf t) fs.toList 0
 | _=>false
theorem B6 {α:Type} {Q:Nat→α→Prop}: ∀{n:Nat},(∀i,i < n→∃x,Q i x)→∃xs:List α,xs.length=n∧∀i x,xs[i]? =some x→Q i x
 | 0,_=>⟨[],rfl,fun i x h=>by simp at h⟩
 | n+1,h=>by
  obtain⟨xs,h1,h2⟩:=B6 (n:=n) fun i hi=>h i (by omega);obtain⟨x,hx⟩:=h n (by omega);refine⟨xs ++ [x],by simp[h1],fun i y hy=> ?_⟩;rcases Nat.lt_trichotomy i n with hi | hi | hi
  ·rw[List.getElem?_append_left (by omega)]at hy;exact h2 i y hy
  ·subst hi;rw[List.getElem?_append_right (by omega),h1,Nat.sub_self]at hy;simp at hy;subst hy;exact hx
  ·rw[List.getElem?_eq_none (by simp;omega)]at hy;cases hy
theorem Cm {H:Type} {P:Program} {e:TypeId} {ds:List (DataW H)}: ∀{d:DataW H},d∈ds→∀n∈d.weights P e,n∈DataW.weightsAll P e ds:=by
 induction ds with
 | nil=>intro d h;cases h
 | cons a ds ih=>
  intro d h n hn;simp only[DataW.weightsAll,List.mem_append];rcases List.mem_cons.1 h with rfl | h
  ·exact .inl hn
  ·exact .inr (ih h n hn)
section
variable {H:Type} {enc:TypeId×Value→H} {P:Program} {w:World} {base:Nat} {spare:Nat→Bool} {held:Bool} {num:Nat→Option Nat} {β:List Blk} {S:List TypeId}
theorem Qa1 [Dr] (hS:Qaz P S=true): ∀(fuel:Nat) (t:TypeId) (cs:List Value) (x:DataW H×List MemPlace),t∈S→DataW.trod enc P w base spare held fuel t cs=some x→
  (∀n∈x.1.weights P t,n≤reachBytes)→∃avs,Shp P fuel t avs∧avs.length=cs.length∧cs.length=P.cellsOf t∧RepC num β w (mW w) avs (fun i=>cs[i]?) 0:=by
 intro fuel
 induction fuel with
 | zero=>intro t cs x _ h;simp[DataW.trod]at h
 | succ fuel ih=>
  intro t cs x ht h hwt;have hs:=List.all_eq_true.1 hS t ht;simp only[Shp];split at hs
  ·rename_i k hu;simp only[decide_eq_true_eq]at hs;obtain⟨n,rfl,rfl,hwf⟩:=DataW.trod_int hu h;exact⟨_,⟨n,rfl,hwf⟩,rfl,by rw[hs];rfl,by simp[RepC,Qd];rfl⟩
  ·rename_i hu;simp only[decide_eq_true_eq]at hs;have: ∃b,cs=[.bool b]:=by
    unfold DataW.trod at h;rw[hu]at h;split at h <;> simp_all
   obtain⟨b,rfl⟩:=this;exact⟨_,⟨b,rfl⟩,rfl,by rw[hs];rfl,by simp[RepC,Qd];rfl⟩
  ·rename_i hu;simp only[decide_eq_true_eq]at hs;obtain⟨s,rfl,rfl,hmx⟩:=DataW.trod_string hu h;refine⟨_,⟨s.data.toList,rfl,hwt _ (by simp[DataW.weights])⟩,rfl,by rw[hs];rfl,?_⟩;simp only[RepC,Qd];exact⟨⟨_,rfl,rfl,by simp⟩,trivial⟩
  ·rename_i e hu;simp only[Bool.and_eq_true,decide_eq_true_eq]at hs;obtain⟨⟨hse,hc0⟩,hc1⟩:=hs;have he:e∈S:=by simpa using hse
   rcases DataW.trod_slice hu h with⟨rfl,rfl⟩ | ⟨a,len,cap,elems,rest,n,hn,rfl,rfl,hb,hl,hm,hlen,hel,_,_⟩
   ·refine⟨_,⟨[],rfl,by simp,by simp⟩,rfl,by rw[hc1];rfl,?_⟩;simp only[RepC,Qd];exact⟨⟨_,rfl,rfl,none,0,0,rfl,rfl,Nat.le_refl _,Nat.zero_le _,.inl trivial⟩,trivial⟩
   ·injection hn with hn
    subst hn;have hel2: ∀i,i < len→∃av,Shp P fuel e av∧av.length=P.cellsOf e∧∃cs':List Value,(∀j,j < P.cellsOf e→w.cell? ((a.add (i*P.cellsOf e)).add j)=cs'[j]?)∧cs'.length=P.cellsOf e∧RepC num β w (mW w) av (fun j=>cs'[j]?) 0:=by
     intro i hi;have h1:=hel i hi;have h2:elems[i]? =some (elems[i]'(by omega)):=List.getElem?_eq_getElem (by omega);rw[h2]at h1;obtain⟨cs',g1,g2⟩:=Option.bind_eq_some_iff.1 h1;obtain⟨_,g3,g4⟩:=World.cells?_some g1;obtain⟨av,k1,k2,k3,k4⟩:=ih e cs' _ he g2 (fun n hn=>hwt n (by
      simp only[DataW.weights,hu,List.mem_cons,List.mem_append];right;left
      refine Cm (d:=(elems[i]'(by omega)).1) ?_ n hn;exact List.mem_map.2 ⟨_,List.getElem_mem _,rfl⟩))
     exact⟨av,k1,by rw[k2,k3],cs',g4,g3,k4⟩
    obtain⟨xs,x1,x2⟩:=B6 hel2;refine⟨_,⟨xs,rfl,?_,fun x hx=> ?_⟩,rfl,by rw[hc1];rfl,?_⟩
    ·have:=hwt ((elems.length+rest.length)*P.bytesOf e) (by simp[DataW.weights,hu]);refine Nat.le_trans (Nat.mul_le_mul_right _ ?_) this;omega
    ·obtain⟨i,hi⟩:=List.getElem?_of_mem hx;exact(x2 i x hi).1
    ·simp only[RepC,Qd];refine⟨⟨_,rfl,rfl,some a,len,cap,rfl,x1,hl,hm,?_⟩,trivial⟩;by_cases h0:xs=[]
     ·exact .inl h0
     ·right;have hl0:0 < len:=by rw[← x1];exact List.length_pos_iff.2 h0
      have hsp:a.spot=none:=by
       obtain⟨av,_,_,cs',g4,g3,_⟩:=hel2 0 hl0;have h1:=g4 0 hc0;rw[List.getElem?_eq_getElem (by omega)]at h1;unfold World.cell? at h1;split at h1
       ·split at h1
        ·cases h1
        ·rename_i hq;simpa[Addr.add]using hq
       ·cases h1
      obtain⟨ab,ao,asp⟩:=a;simp only at hsp;subst hsp;refine⟨ab,ao,rfl,?_⟩;rw[Wc];intro i x hx;obtain⟨k1,k2,cs',g4,g3,k4⟩:=x2 i x hx;refine⟨k2,?_⟩;rw[ZR]at k4 ⊢;intro j c hj;obtain⟨u,u1,u2,u3⟩:=k4 j c hj;have hjl:j < P.cellsOf e:=by
       rcases Nat.lt_or_ge j x.length with hh | hh
       ·omega
       ·rw[List.getElem?_eq_none hh]at hj;cases hj
      refine⟨u,?_,u2,u3⟩;rw[Qoh];have:=g4 j hjl;simp only[Nat.zero_add]at u1;rw[u1,YL,YL]at this;exact this
  ·rename_i fs hu;simp only[Bool.and_eq_true]at hs;obtain⟨hs1,hs2⟩:=hs;obtain⟨xs,n,hn,rfl,hcl,hxl,hf⟩:=DataW.trod_struct hu h;injection hn with hn
   subst hn;have key: ∀(l:List Field) (k o:Nat),fs.toList.drop k=l→EU P (P.cellsOf t) l o=true→∃avs,FR (Shp P fuel) l avs∧avs.length+o=P.cellsOf t∧RepC num β w (mW w) avs (fun i=>cs[i]?) o:=by
    intro l
    induction l with
    | nil=>
     intro k o _ hl;simp only[EU,decide_eq_true_eq]at hl;exact⟨[],rfl,by simpa using hl,by simp[RepC]⟩
    | cons f l ihl=>
     intro k o hk hl;simp only[EU,Bool.and_eq_true,decide_eq_true_eq]at hl;obtain⟨rfl,hl2⟩:=hl;have hkf:fs.toList[k]? =some f:=by
      have: (fs.toList.drop k)[0]? =some f:=by rw[hk];rfl
      simpa using this
     have hk2:fs.toList.drop (k+1)=l:=by
      rw[← List.drop_drop,hk];rfl
     obtain⟨q,q1,q2,q3⟩:=ihl (k+1) _ hk2 hl2;have hkf2:fs[k]? =some f:=by simpa using hkf
     have hfm:f.type∈S:=by
      have:=List.all_eq_true.1 hs1 f (List.mem_of_getElem? hkf);simpa using this
     have h1:=hf k f hkf2;have hkl:k < xs.length:=by
      rw[hxl];exact(Array.getElem?_eq_some_iff.1 hkf2).1
     rw[List.getElem?_eq_getElem hkl]at h1;obtain⟨p,p1,p2,p3,p4⟩:=ih f.type _ _ hfm h1 (fun n hn=>hwt n (by
      simp only[DataW.weights,hu];exact DataW.weights_mem_each (j:=k) (t:=f.type) (d:=xs[k].1) (by simp[hkf2]) (by simp[List.getElem?_eq_getElem hkl]) n hn))
     rw[p3]at p2;refine⟨p ++ q,⟨p,q,rfl,p1,q1⟩,by simp;omega,?_⟩;rw[ZR]at p4 q3 ⊢;intro i c hi;by_cases hil:i < p.length
     ·rw[List.getElem?_append_left hil]at hi;obtain⟨u,u1,u2,u3⟩:=p4 i c hi;refine⟨u,?_,u2,u3⟩;simp only[Nat.zero_add]at u1;rw[List.getElem?_take]at u1;split at u1
      ·rwa[List.getElem?_drop]at u1
      ·cases u1
     ·rw[List.getElem?_append_right (by omega)]at hi;obtain⟨u,u1,u2,u3⟩:=q3 (i - p.length) c hi;refine⟨u,?_,u2,u3⟩;rwa[show f.offset+P.cellsOf f.type+ (i - p.length)=f.offset+i by omega]at u1
   obtain⟨avs,a1,a2,a3⟩:=key fs.toList 0 0 (by simp) hs2;exact⟨avs,a1,by omega,hcl,a3⟩
  ·cases hs
end
end Go.Am
namespace Go.Am
def KLe (K K':ZX):Prop:=∀f args bs r,K f args bs=some r→K' f args bs=some r
theorem Qdw {K K':ZX} (h:KLe K K') {op:AOp} {σ:St} {p:AV×St} (he:Qh K op σ=some p):Qh K' op σ=some p:=by
 cases op <;> try exact he
 case call f args=>
  simp only[Qh]at he ⊢;split at he
  ·rename_i hok;rw[if_pos hok];cases hk:K f (args.map (val σ.env)) σ.bs with
   | none=>rw[hk]at he;cases he
   | some r=>rw[hk]at he;rw[h _ _ _ _ hk];exact he
  ·cases he
 case callq f args=>
  simp only[Qh]at he ⊢;split at he
  ·rename_i hok;rw[if_pos hok];cases hk:K f (args.map (val σ.env)) σ.bs with
   | none=>rw[hk]at he;cases he
   | some r=>rw[hk]at he;rw[h _ _ _ _ hk];exact he
  ·cases he
 case callv g args=>
  simp only[Qh]at he ⊢;split at he
  ·rename_i f caps hf;split at he
   ·rename_i hok;rw[if_pos hok];cases hk:K f (args.map (val σ.env)++ caps) σ.bs with
    | none=>rw[hk]at he;cases he
    | some r=>rw[hk]at he;rw[h _ _ _ _ hk];exact he
   ·cases he
  ·cases he
theorem Jv {K K':ZX} (h:KLe K K') {o:Qs} {σ s:St} (he:ZH K o σ=some s):ZH K' o σ=some s:=by
 have key: ((Qh K o.op σ).map fun p=>({p.2 with env:=Ye p.2.env o.dst p.1}:St))=some s→((Qh K' o.op σ).map fun p=>({p.2 with env:=Ye p.2.env o.dst p.1}:St))=some s:=fun he=>by
  cases hx:Qh K o.op σ with
  | none=>rw[hx]at he;cases he
  | some p=>rw[hx]at he;rw[Qdw h hx];exact he
 unfold ZH at he ⊢;split at he
 ·exact key he
 ·split at he
  ·split at he
   ·rename_i hc;rw[if_pos hc];exact key he
   ·rename_i hc;rw[if_neg hc];exact he
  ·exact he
  ·cases he
theorem Uf {K K':ZX} (h:KLe K K'): ∀{os:List Qs} {σ s:St},ZE K os σ=some s→ZE K' os σ=some s
 | [],_,_,he=>he
 | o:: os,σ,s,he=>by
  simp only[ZE]at he ⊢;cases ho:ZH K o σ with
  | none=>rw[ho]at he;cases he
  | some s1=>
   rw[ho]at he;rw[Jv h ho];exact Uf h he
theorem RH {f g:St→Option (Ex×St)} (h: ∀s x,f s=some x→g s=some x): ∀{n m:Nat} {σ:St} {x:Ex×St},n≤m→V6 f n σ=some x→V6 g m σ=some x
 | 0,_,_,_,_,he=>by simp[V6]at he
 | n+1,0,_,_,hnm,_=>by omega
 | n+1,m+1,σ,x,hnm,he=>by
  simp only[V6]at he ⊢;split at he
  ·rename_i s hf;rw[h _ _ hf];exact RH h (by omega) he
  ·rename_i hne;have:=h _ _ he;rw[this];obtain⟨e,s⟩:=x;cases e
   ·exact absurd he (hne s)
   ·rfl
   ·rfl
theorem RQ {K K':ZX} (h:KLe K K') {n m:Nat} (hnm:n≤m): ∀{c:AC} {σ:St} {x:Ex×St},Zi K n c σ=some x→Zi K' m c σ=some x:=by
 intro c
 induction c with
 | bad=>intro σ x he;simp[Zi]at he
 | skip=>intro σ x he;exact he
 | reg d ops=>
  intro σ x he;simp only[Zi]at he ⊢;cases ho:ZE K ops σ with
  | none=>rw[ho]at he;cases he
  | some s=>rw[ho]at he;rw[Uf h ho];exact he
 | seq a b iha ihb=>
  intro σ x he;simp only[Zi]at he ⊢;split at he
  ·rename_i s ha;rw[iha ha];exact ihb he
  ·rename_i hne;rw[iha he];obtain⟨e,s⟩:=x;cases e
   ·exact absurd he (hne s)
   ·rfl
   ·rfl
 | cond c a b iha ihb=>
  intro σ x he;simp only[Zi]at he ⊢;split at he
  ·exact iha he
  ·exact ihb he
  ·cases he
 | block id c ih=>
  intro σ x he;simp only[Zi]at he ⊢;split at he
  ·rename_i i s hc;rw[ih hc];exact he
  ·rename_i hne;rw[ih he];obtain⟨e,s⟩:=x;cases e
   ·rfl
   ·exact absurd he (hne _ s)
   ·rfl
 | loop c ih=>
  intro σ x he;simp only[Zi]at he ⊢;exact RH (fun s x hx=>ih hx) hnm he
 | exit id=>intro σ x he;exact he
 | ret=>intro σ x he;exact he
theorem Ww {T:Nat→Option AFn}: ∀{n m:Nat},n≤m→KLe (Yh T n) (Yh T m)
 | 0,_,_=>fun _ _ _ _ h=>by simp[Yh]at h
 | n+1,0,h=>by omega
 | n+1,m+1,h=>fun f args bs r he=>by
  simp only[Yh]at he ⊢;split at he
  ·cases he
  ·rename_i g hg;exact he
  ·rename_i fn hf;split at he
   ·rename_i hl;rw[if_pos hl];have hr: ∀x,Zi (Yh T n) n fn.body {env:=Y3 args,bs}=some x→Zi (Yh T m) m fn.body {env:=Y3 args,bs}=some x:=fun x hx=>RQ (Ww (by omega)) (by omega) hx;split at he
    ·rename_i s hs;rw[hr _ hs];exact he
    ·rename_i s hs;rw[hr _ hs];exact he
    ·cases he
   ·cases he
open Classical in
noncomputable def call (T:Nat→Option AFn):ZX:=fun f args bs=>if h: ∃r n,Yh T n f args bs=some r then some h.choose else none
open Classical in
noncomputable def run (T:Nat→Option AFn) (c:AC) (σ:St):Option (Ex×St):=if h: ∃x n,Zi (Yh T n) n c σ=some x then some h.choose else none
section
variable {T:Nat→Option AFn}
theorem Uo {f:Nat} {args:List AV} {bs:List (List AV)} {r:AV×List (List AV)}:call T f args bs=some r↔∃n,Yh T n f args bs=some r:=by
 have huniq: ∀{r1 r2:AV×List (List AV)} {n m:Nat},Yh T n f args bs=some r1→Yh T m f args bs=some r2→r1=r2:=fun {r1 r2 n m} h1 h2=>by
  have g1:=Ww (T:=T) (Nat.le_max_left n m) _ _ _ _ h1;have g2:=Ww (T:=T) (Nat.le_max_right n m) _ _ _ _ h2;rw[g1]at g2;injection g2
 unfold call;constructor
 ·intro h;split at h
  ·rename_i hx;injection h with h
   obtain⟨n,hn⟩:=hx.choose_spec;exact⟨n,h▸hn⟩
  ·cases h
 ·rintro⟨n,hn⟩
  have hx: ∃r n,Yh T n f args bs=some r:=⟨r,n,hn⟩;rw[dif_pos hx];obtain⟨m,hm⟩:=hx.choose_spec;rw[huniq hm hn]
theorem Zz {c:AC} {σ:St} {x:Ex×St}:run T c σ=some x↔∃n,Zi (Yh T n) n c σ=some x:=by
 have huniq: ∀{r1 r2:Ex×St} {n m:Nat},Zi (Yh T n) n c σ=some r1→Zi (Yh T m) m c σ=some r2→r1=r2:=fun {r1 r2 n m} h1 h2=>by
  have g1:=RQ (Ww (T:=T) (Nat.le_max_left n m)) (Nat.le_max_left n m) h1;have g2:=RQ (Ww (T:=T) (Nat.le_max_right n m)) (Nat.le_max_right n m) h2;rw[g1]at g2;injection g2
 unfold run;constructor
 ·intro h;split at h
  ·rename_i hx;injection h with h
   obtain⟨n,hn⟩:=hx.choose_spec;exact⟨n,h▸hn⟩
  ·cases h
 ·rintro⟨n,hn⟩
  have hx: ∃x n,Zi (Yh T n) n c σ=some x:=⟨x,n,hn⟩;rw[dif_pos hx];obtain⟨m,hm⟩:=hx.choose_spec;rw[huniq hm hn]
theorem HO (n:Nat):KLe (Yh T n) (call T):=fun _ _ _ _ h=>Uo.2 ⟨n,h⟩
theorem QfI {op:AOp} {σ:St} {p:AV×St} (h:Qh (call T) op σ=some p): ∃n,Qh (Yh T n) op σ=some p:=by
 cases op <;> try exact⟨0,h⟩
 case call f args=>
  simp only[Qh]at h ⊢;split at h
  ·rename_i hok;simp only[hok,if_true];cases hk:call T f (args.map (val σ.env)) σ.bs with
   | none=>rw[hk]at h;cases h
   | some r=>
    obtain⟨n,hn⟩:=Uo.1 hk;rw[hk]at h;exact⟨n,by rw[hn];exact h⟩
  ·cases h
 case callq f args=>
  simp only[Qh]at h ⊢;split at h
  ·rename_i hok;simp only[hok,if_true];cases hk:call T f (args.map (val σ.env)) σ.bs with
   | none=>rw[hk]at h;cases h
   | some r=>
    obtain⟨n,hn⟩:=Uo.1 hk;rw[hk]at h;exact⟨n,by rw[hn];exact h⟩
  ·cases h
 case callv g args=>
  simp only[Qh]at h ⊢;split at h
  ·rename_i f caps hf;split at h
   ·rename_i hok;simp only[hok,if_true];cases hk:call T f (args.map (val σ.env)++ caps) σ.bs with
    | none=>rw[hk]at h;cases h
    | some r=>
     obtain⟨n,hn⟩:=Uo.1 hk;rw[hk]at h;exact⟨n,by rw[hn];exact h⟩
   ·cases h
  ·cases h
theorem Qee {o:Qs} {σ s:St} (h:ZH (call T) o σ=some s): ∃n,ZH (Yh T n) o σ=some s:=by
 have key: ((Qh (call T) o.op σ).map fun p=>({p.2 with env:=Ye p.2.env o.dst p.1}:St))=some s→∃n,((Qh (Yh T n) o.op σ).map fun p=>({p.2 with env:=Ye p.2.env o.dst p.1}:St))=some s:=fun he=>by
  cases hx:Qh (call T) o.op σ with
  | none=>rw[hx]at he;cases he
  | some p=>
   obtain⟨n,hn⟩:=QfI hx;rw[hx]at he;exact⟨n,by rw[hn];exact he⟩
 unfold ZH at h ⊢;split at h
 ·exact key h
 ·split at h
  ·split at h
   ·rename_i hc;obtain⟨n,hn⟩:=key h;exact⟨n,by rw[if_pos hc];exact hn⟩
   ·rename_i hc;exact⟨0,by rw[if_neg hc];exact h⟩
  ·exact⟨0,h⟩
  ·cases h
theorem Jw: ∀{os:List Qs} {σ s:St},ZE (call T) os σ=some s→∃n,ZE (Yh T n) os σ=some s
 | [],_,_,h=>⟨0,h⟩
 | o:: os,σ,s,h=>by
  simp only[ZE]at h;cases ho:ZH (call T) o σ with
  | none=>rw[ho]at h;cases h
  | some s1=>
   rw[ho]at h;obtain⟨n,hn⟩:=Qee ho;obtain⟨m,hm⟩:=Jw (os:=os) h;refine⟨max n m,?_⟩;simp only[ZE];rw[Jv (Ww (Nat.le_max_left n m)) hn];exact Uf (Ww (Nat.le_max_right n m)) hm
theorem TP {n m:Nat} (h:n≤m) {c:AC} {σ:St} {x:Ex×St} (hr:Zi (Yh T n) n c σ=some x):Zi (Yh T m) m c σ=some x:=RQ (Ww h) h hr
theorem SZ {α:Type} {a b:Option α} (h: ∀x,a=some x↔b=some x):a=b:=by
 cases a with
 | none=>cases b with
  | none=>rfl
  | some y=>exact absurd ((h y).2 rfl) (by simp)
 | some x=>exact((h x).1 rfl).symm
theorem Dm (σ:St):run T .skip σ=some (.normal,σ):=Zz.2 ⟨0,rfl⟩
theorem Ac (σ:St):run T .ret σ=some (.ret,σ):=Zz.2 ⟨0,rfl⟩
theorem Dk (id:Nat) (σ:St):run T (.exit id) σ=some (.exit id,σ):=Zz.2 ⟨0,rfl⟩
theorem Ab (d:Bool) (ops:List Qs) (σ:St):run T (.reg d ops) σ=(ZE (call T) ops σ).map fun s=>(.normal,s):=by
 apply SZ;intro x;rw[Zz];simp only[Zi];constructor
 ·rintro⟨n,h⟩
  cases ho:ZE (Yh T n) ops σ with
  | none=>rw[ho]at h;cases h
  | some s=>rw[ho]at h;rw[Uf (HO n) ho];exact h
 ·intro h;cases ho:ZE (call T) ops σ with
  | none=>rw[ho]at h;cases h
  | some s=>
   obtain⟨n,hn⟩:=Jw ho;rw[ho]at h;exact⟨n,by rw[hn];exact h⟩
theorem Ad (a b:AC) (σ:St):run T (.seq a b) σ=match run T a σ with
  | some (.normal,s)=>run T b s
  | r=>r:=by
 apply SZ;intro x;rw[Zz];constructor
 ·rintro⟨n,h⟩
  simp only[Zi]at h;split at h
  ·rename_i s hs;rw[Zz.2 ⟨n,hs⟩];exact Zz.2 ⟨n,h⟩
  ·rename_i hne;rw[Zz.2 ⟨n,h⟩];obtain⟨e,s⟩:=x;cases e
   ·exact absurd h (hne s)
   ·rfl
   ·rfl
 ·intro h;split at h
  ·rename_i s hs;obtain⟨n,hn⟩:=Zz.1 hs;obtain⟨m,hm⟩:=Zz.1 h;refine⟨max n m,?_⟩;simp only[Zi];rw[TP (Nat.le_max_left n m) hn];exact TP (Nat.le_max_right n m) hm
  ·rename_i hne;obtain⟨n,hn⟩:=Zz.1 h;refine⟨n,?_⟩;simp only[Zi];rw[hn];obtain⟨e,s⟩:=x;cases e
   ·exact absurd h (hne s)
   ·rfl
   ·rfl
theorem Dj (c:AO) (a b:AC) (σ:St):run T (.cond c a b) σ=match val σ.env c with
  | .bool true=>run T a σ
  | .bool false=>run T b σ
  | _=>none:=by
 apply SZ;intro x;rw[Zz];simp only[Zi];cases hv:val σ.env c <;> try simp
 rename_i b;cases b
 ·exact Zz.symm
 ·exact Zz.symm
theorem HD (id:Nat) (c:AC) (σ:St):run T (.block id c) σ=match run T c σ with
  | some (.exit i,s)=>some (if i=id then .normal else .exit i,s)
  | r=>r:=by
 apply SZ;intro x;rw[Zz];simp only[Zi];constructor
 ·rintro⟨n,h⟩
  split at h
  ·rename_i i s hs;rw[Zz.2 ⟨n,hs⟩];exact h
  ·rename_i hne;rw[Zz.2 ⟨n,h⟩];obtain⟨e,s⟩:=x;cases e
   ·rfl
   ·exact absurd h (hne _ s)
   ·rfl
 ·intro h;split at h
  ·rename_i i s hs;obtain⟨n,hn⟩:=Zz.1 hs;exact⟨n,by rw[hn];exact h⟩
  ·rename_i hne;obtain⟨n,hn⟩:=Zz.1 h;refine⟨n,?_⟩;rw[hn];obtain⟨e,s⟩:=x;cases e
   ·rfl
   ·exact absurd h (hne _ s)
   ·rfl
theorem Dl (c:AC) (σ:St):run T (.loop c) σ=match run T c σ with
  | some (.normal,s)=>run T (.loop c) s
  | r=>r:=by
 apply SZ;intro x;rw[Zz];constructor
 ·rintro⟨n,h⟩
  simp only[Zi]at h;cases n with
  | zero=>simp[V6]at h
  | succ n=>
   simp only[V6]at h;split at h
   ·rename_i s hs;rw[Zz.2 ⟨n+1,hs⟩];refine Zz.2 ⟨n+1,?_⟩;simp only[Zi];exact RH (fun _ _ h=>h) (by omega) h
   ·rename_i hne;rw[Zz.2 ⟨n+1,h⟩];obtain⟨e,s⟩:=x;cases e
    ·exact absurd h (hne s)
    ·rfl
    ·rfl
 ·intro h;split at h
  ·rename_i s hs;obtain⟨n,hn⟩:=Zz.1 hs;obtain⟨m,hm⟩:=Zz.1 h;refine⟨max n m+1,?_⟩;simp only[Zi]at hm ⊢;simp only[V6];rw[TP (m:=max n m+1) (by omega) hn];exact RH (fun s x hx=>TP (by omega) hx) (by omega) hm
  ·rename_i hne;obtain⟨n,hn⟩:=Zz.1 h;refine⟨n+1,?_⟩;simp only[Zi,V6];rw[TP (m:=n+1) (by omega) hn];obtain⟨e,s⟩:=x;cases e
   ·exact absurd h (hne s)
   ·rfl
   ·rfl
theorem Iw (f:Nat) (args:List AV) (bs:List (List AV)):call T f args bs=match T f with
  | none=>none
  | some (.orc g)=>g args bs
  | some (.code fn)=>
   if args.length=fn.nparams then
    match run T fn.body {env:=Y3 args,bs}with
    | some (.normal,σ)=>YK fn bs σ
    | some (.ret,σ)=>YK fn bs σ
    | _=>none
   else none:=by
 apply SZ;intro x;rw[Uo];constructor
 ·rintro⟨n,h⟩
  cases n with
  | zero=>simp[Yh]at h
  | succ n=>
   simp only[Yh]at h;split at h
   ·cases h
   ·rename_i g hg;simp only[hg];exact h
   ·rename_i fn hf;simp only[hf];split at h
    ·rename_i hl;rw[if_pos hl];split at h
     ·rename_i s hs;rw[Zz.2 ⟨n,hs⟩];exact h
     ·rename_i s hs;rw[Zz.2 ⟨n,hs⟩];exact h
     ·cases h
    ·cases h
 ·intro h;split at h
  ·cases h
  ·rename_i g hg;exact⟨1,by simp only[Yh,hg];exact h⟩
  ·rename_i fn hf;split at h
   ·rename_i hl;split at h
    ·rename_i s hs;obtain⟨n,hn⟩:=Zz.1 hs;exact⟨n+1,by simp only[Yh,hf,hl,if_true,hn];exact h⟩
    ·rename_i s hs;obtain⟨n,hn⟩:=Zz.1 hs;exact⟨n+1,by simp only[Yh,hf,hl,if_true,hn];exact h⟩
    ·cases h
   ·cases h
end
end Go.Am
namespace Go.Am
open Go.RowKit Go.ChangeShapes Go.WideShapes
section
variable {P:Program} {num:Nat→Option Nat} {tb:Nat→Option AFn} {W:World}
theorem QdX [Dr] (hF:JC P num (glob P) tb) {f g:Nat} (hnum:num f=some g) {args:List AV} {vs:Array Value} (hG:Jj P W) (hok:Xr args=true) (hvs:vs.size=args.length)
  (hrep: ∀(i:Nat) (c:AV),args[i]? =some c→∃u,vs[i]? =some u∧Qd num [] W (mW W) c u) (hc:call tb f args []=some (.bool true,[])):
  Calls P g vs W fun e W'=>e= .returned (.bool true)∧Below W.heap.size W W':=by
 obtain⟨n,hn⟩:=Uo.1 hc;refine(R0 hF n f g args [] _ _ hnum hn hok W (mW W) [] (fun _=>none) vs hG (QjS hG) hvs hrep ⟨rfl,fun i cs k h=>by simp at h⟩ (fun b p h=>by cases h)).mono fun e W' he=> ?_;obtain⟨v,m',β',ν',he,_,hS,_,_,hr,_,_⟩:=he;simp only[Qd]at hr;subst hr;exact⟨he,hS.os,hS.tape,hS.output,hS.size,fun k hk=>(hS.same k hk (fun⟨p,hp⟩=>by cases hp)).1⟩
section
variable {H:Type} {enc:TypeId×Value→H} {S:List TypeId} {base b0:Nat} {spare:Nat→Bool} {held:Bool} {r:Reach}
theorem Nf [Dr] (hS:Qaz P S=true) {t:TypeId} (ht:t∈S) {fs:Array Field} (hu:P.underlying t=some (.struct fs)) {v:Value} {d:DataW H} {p:List MemPlace} (hv:Value.okWide P W r b0 t v)
  (h:DataW.Trod enc P W base spare held t v d p) (hw: ∀n∈d.weights P t,n≤reachBytes): ∃n avs,Shp P n t avs∧Qd num [] W (mW W) (.agg avs) v:=by
 obtain⟨cs,rfl,hsz⟩:=okWide_struct hu hv;obtain⟨fuel,hf⟩:=h;obtain⟨avs,h1,h2,h3,h4⟩:=Qa1 (num:=num) (β:=[]) hS fuel t _ _ ht hf hw;refine⟨fuel,avs,h1,?_⟩;simp only[Qd];have hc: (Value.agg cs).cells=cs:=rfl;rw[hc]at h2 h4;refine⟨cs,rfl,by simpa using h2.symm,?_⟩;simpa using h4
theorem N1 (K:Kids P (· < P.types.size)) (hz: ∀t e,t < P.types.size→P.underlying t=some (.slice e)→0 < P.cellsOf e) {W':World} (hb:Below W.heap.size W W') {sp:Nat→Bool}:
  ∀{ts:List TypeId} {vs:List Value} {ds:List (DataW H)} {ps:List MemPlace},(∀t∈ts,t < P.types.size)→DataW.TrodAll enc P W 0 (fun _=>true) true ts vs ds ps→(∀p∈ps,p.block < W.heap.size)→(∀p∈ps,sp p.block=true)→
   DataW.TrodAll enc P W' 0 sp true ts vs ds ps
 | [],[],[],_,_,h,_,_=>h
 | _:: _,_:: _,_:: _,_,hT,⟨p,q,⟨n,h1⟩,h2,e⟩,hlt,hs=>by
  subst e;refine⟨p,q,⟨n,?_⟩,N1 K hz hb (fun t ht=>hT t (List.mem_cons_of_mem _ ht)) h2 (fun x hx=>hlt x (List.mem_append_right _ hx)) (fun x hx=>hs x (List.mem_append_right _ hx)),rfl⟩;exact DataW.trod_carry n _ _ _ (DataW.trod_respare K hz n _ _ _ (hT _ (List.mem_cons_self ..)) h1 (fun x hx=>hs x (List.mem_append_left _ hx))) (fun x hx=>hb.same (hlt x (List.mem_append_left _ hx)))
theorem post_of_below {f:Func} {s:ChangeSpec} {apart fresh handsOn again:Bool} {W W':World} {args:Array Value} {v:Value} {ds gs:List (DataW H)} {before pa pv:List MemPlace}
  (hW:DataW.Whole enc P f.params.toList s.vars apart W args.toList ds gs before)
  (hres: ∀(b:Nat) (sp:Nat→Bool) (hd:Bool),DataW.TrodAll enc P W' b sp hd f.resultTypes.toList (v.resultList f.resultTypes.size) (s.fn H (ds ++ gs)).results [])
  (hargs: ∀sp:Nat→Bool,(∀p∈before,sp p.block=true)→DataW.TrodAll enc P W' 0 sp true f.params.toList args.toList (s.fn H (ds ++ gs)).args pa)
  (hvars: ∀sp:Nat→Bool,(∀p∈before,sp p.block=true)→DataW.TrodVars enc P W' sp s.vars (s.fn H (ds ++ gs)).vars pv)
  (hps:before=pa ++ pv) (hb:Below W.heap.size W W')
  (hok: ∀(j:Nat) (t:TypeId) (r:Value),f.resultTypes[j]? =some t→(v.resultList f.resultTypes.size)[j]? =some r→Value.okWide P W' .any 0 t r):
  s.post enc P f apart fresh handsOn again W args v W':=by
 have hlt: ∀p∈before,p.block < W.heap.size:=fun p hp=>hW.lt p hp;have hold: ∀p∈before,(fun b=>decide (b < W.heap.size)) p.block=true:=fun p hp=>by simpa using hlt p hp
 refine⟨ds,gs,before,[],pa,pv,hW,hres _ _ _,hargs _ hold,hvars _ hold,World.keptBut_mono (fun p hp=>⟨hp,?_⟩) (hb.frame (·∈before)),fun _=> ?_⟩
 ·rw[hps,List.mem_append]at hp;exact Or.inr hp
 ·obtain⟨_,_,_,_,_,hz,hn⟩:=hW;refine⟨hok,_,_,([]++ pa)++ pv,⟨[]++ pa,pv,trodAll_append (hargs _ (fun _ _=>rfl)) (hres _ _ _),hvars _ (fun _ _=>rfl),rfl,?_,?_⟩,?_⟩
  ·intro b off hp;have hin:MemPlace.cell b off∈before:=by rw[hps];simpa using hp
   rw[hb.frozen (hlt _ hin)];exact hz b off hin
  ·intro ha;have:=hn ha;rw[hps]at this;simpa using this
  ·intro p hp _;rw[hps];simpa using hp
end
end
end Go.Am
