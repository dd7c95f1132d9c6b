/-
  PfM, Jf, AmPs.
-/
import Derived.Test.YtmlbijpbecpjoaaGreatDoorG27
import Derived.Test.YtmlbijpbecpjoaaGreatDoorG28
import Derived.Test.YtmlbijpbecpjoaaGreatDoorG29
import Derived.Test.YtmlbijpbecpjoaaGreatDoorG30
import Derived.Test.YtmlbijpbecpjoaaGreatDoorG31
import Derived.Test.YtmlbijpbecpjoaaGreatDoorG32
import Derived.Test.YtmlbijpbecpjoaaGreatDoorG33
import Derived.Test.YtmlbijpbecpjoaaGreatDoorG34
import Derived.Test.YtmlbijpbecpjoaaGreatDoorG35
import Derived.Test.YtmlbijpbecpjoaaGreatDoorG36
import Derived.Test.YtmlbijpbecpjoaaGreatDoorG37
import Derived.Test.YtmlbijpbecpjoaaGreatDoorG38
import Derived.Test.YtmlbijpbecpjoaaGreatDoorG39
import Derived.Test.YtmlbijpbecpjoaaGreatDoorG40
import Derived.Test.YtmlbijpbecpjoaaGreatDoorG41
import Derived.Test.YtmlbijpbecpjoaaGreatDoorG42
import Derived.Test.YtmlbijpbecpjoaaGreatDoorG26
import Derived.JoinedOf
import GoSem.ClaimGoes
import Derived.Test.YtmlbijpbecpjoaaGreatDoorG12
import Derived.Test.YtmlbijpbecpjoaaGreatDoorG09
import Derived.Shelf.Sort.Plain
import Derived.Shelf.Slices.In.SortNone
set_option linter.all false
open Go.Am.F
namespace Go.Am
def Qn8:RU tb BW:=trivial
def Qn9:=Q9 Qn8 QnY
def Qoa:=Q9 Qn9 QnZ
def Qob:=Q9 Qoa Qn0
def Qoc:=Q9 Qob Qn1
def Qod:=Q9 Qoc Qn2
def Qoe:=Q9 Qod Qn3
def Qof:=Q9 Qoe Qn4
def Qog:=Q9 Qof Qn5
def Qoh:=Q9 Qog Qn6
def Qlc:=Q9 Qoh Qn7
def Qld:=Q9 Qlc QjS
def Qle:=Q9 Qld QjT
def Qlf:=Q9 Qle QjU
def Qlg:=Q9 Qlf QjV
def Qlh:=Q9 Qlg QjW
def Qli:=Q9 Qlh QjX
def Qlj:=Q9 Qli QjY
def Qlk:=Q9 Qlj QjZ
def Qll:=Q9 Qlk Qj0
def Qlm:=Q9 Qll Qj1
def Qln:=Q9 Qlm Qj2
def Qlo:=Q9 Qln Qj3
def Qlp:=Q9 Qlo Qj4
def Qlq:=Q9 Qlp Qj5
def Qlr:=Q9 Qlq Qj6
def Qls:=Q9 Qlr Qj7
def Qlt:=Q9 Qls Qj8
def Qlu:=Q9 Qlt Qj9
def Qlv:=Q9 Qlu Qka
def Qlw:=Q9 Qlv Qkb
def Qlx:=Q9 Qlw Qkc
def Qly:=Q9 Qlx Qkd
def Qlz:=Q9 Qly Qke
def QlA:=Q9 Qlz Qkf
def QlB:=Q9 QlA Qkg
def QlC:=Q9 QlB Qkh
def QlD:=Q9 QlC Qki
def QlE:=Q9 QlD Qkj
def QlF:=Q9 QlE Qkk
def QlG:=Q9 QlF Qkl
def QlH:=Q9 QlG Qkm
def QlI:=Q9 QlH Qkn
def QlJ:=Q9 QlI Qko
def QlK:=Q9 QlJ Qkp
def QlL:=Q9 QlK Qkq
def QlM:=Q9 QlL Qkr
def QlN:=Q9 QlM Qks
def QlO:=Q9 QlN Qkt
def QlP:=Q9 QlO Qku
def QlQ:=Q9 QlP Qkv
def QlR:=Q9 QlQ Qkw
def QlS:=Q9 QlR Qkx
def QlT:=Q9 QlS Qky
def QlU:=Q9 QlT Qkz
def QlV:=Q9 QlU QkA
def QlW:=Q9 QlV QkB
def QlX:=Q9 QlW QkC
def QlY:=Q9 QlX QkD
def QlZ:=Q9 QlY QkE
def Ql0:=Q9 QlZ QkF
def Ql1:=Q9 Ql0 QkG
def Ql2:=Q9 Ql1 QkH
def Ql3:=Q9 Ql2 QkI
def Ql4:=Q9 Ql3 QkJ
def Ql5:=Q9 Ql4 QkK
def Ql6:=Q9 Ql5 QkL
def Ql7:=Q9 Ql6 QkM
def Ql8:=Q9 Ql7 QkN
def Ql9:=Q9 Ql8 QkO
def Qma:=Q9 Ql9 QkP
def Qmb:=Q9 Qma QkQ
def Qmc:=Q9 Qmb QkR
def Qmd:=Q9 Qmc QkS
def Qme:=Q9 Qmd QkT
def Qmf:=Q9 Qme QkU
def Qmg:=Q9 Qmf QkV
def Qmh:=Q9 Qmg QkW
def Qmi:=Q9 Qmh QkX
def Qmj:=Q9 Qmi QkY
def Qmk:=Q9 Qmj QkZ
def Qml:=Q9 Qmk Qk0
def Qmm:=Q9 Qml Qk1
def Qmn:=Q9 Qmm Qk2
def Qmo:=Q9 Qmn Qk3
def Qmp:=Q9 Qmo Qk4
def Qmq:=Q9 Qmp Qk5
def Qmr:=Q9 Qmq Qk6
def Qms:=Q9 Qmr Qk7
def Qmt:=Q9 Qms Qk8
def Qmu:=Q9 Qmt Qk9
def Qmv:=Q9 Qmu Qla
def BV:Lo tb Qlb 400 633 [] []=some (.bool true,[]):=by kernel_rfl
def QaS:call tb 633 [] []=some (.bool true,[]):=L4 Qmv _ _ _ _ _ BV
def aa {a b:Bool} (h:a=true) (k:b=true): (a && b)=true:=by rw[h,k];rfl
def Qdh {P:Program} {f:FuncId} {fn:Func} {s:ChangeSpec} {c:OpenClaim} (h1:c.wf (OpenSpec.ofChange s)=true) (h2:laidOutB P=true) (h3:mapsRowed P=true)
  (h4:fn.params.all (P.readableRec ·)=true) (h5:namedTie P c.named s.vars=true) (h6: (c.stops == [])=true) (h7: (P.stops == [])=true) (h8: (c.knobs == [])=true) (h9: (P.stopKnobs == [])=true)
  (k1: (c.inPlace == P.inPlace f)=true) (k2: (c.unfollowed == P.unfollowed f)=true) (k3: (c.recurses == P.recurses f)=true) (k4: (c.named == P.varsNamed f)=true)
  (i1: (c.maps == (fn.params.toList ++ s.plain.varTypes P).any (P.mapsRec ·))=true) (i2: (c.ifaces == (fn.params.toList ++ s.plain.varTypes P).any (P.ifacesRec ·))=true) (i3: (c.mapsOut == P.mapsAmong fn.resultTypes.toList)=true)
  (i4: (c.loops == (fn.params.toList ++ s.plain.varTypes P).any (P.loopsFrom ·))=true) (i5: (c.wideKeys == (fn.params.toList ++ s.plain.varTypes P ++ fn.resultTypes.toList).any (P.wideKeysFrom ·))=true)
  (i6:s.vars.all (P.varReadable ·)=true) (i7:fn.resultTypes.all (fun t=>P.readableRec t && decide (t < P.types.size))=true) (i8: (c.ifacesOut == fn.resultTypes.toList.any (P.ifacesRec ·))=true)
  (i9: (c.loopsOut == fn.resultTypes.toList.any (P.loopsFrom ·))=true) (m1: (c.plainKeys == P.plainKeys)=true) (m2:c.shortTexts.isNone=true) (m3:P.stopsHeard=true) (m4:P.mayEnter=true)
  (m5: (c.lifted == P.liftsFinal)=true) (m6: (P.make == some c.make)=true)
  (m7: (c.kinds == (if c.domain.isEmpty then []else fn.params.toList.map fun t=>match P.underlying t with | some (.int k)=>some k | _=>none))=true) (m8: (c.pinned == c.pinnedBy)=true)
  (m9: (c.veiled == (fn.params.toList ++ s.plain.varTypes P ++ fn.resultTypes.toList).any (P.veiledRec ·))=true) (n1:c.veiledFits P fn.params.toList (fn.params.toList ++ s.plain.varTypes P ++ fn.resultTypes.toList)=true):
  joinedFacts P f fn s c=true:=by
 exact(aa (aa (aa (aa (aa (aa (aa (aa (aa (aa (aa (aa (aa (aa (aa (aa (aa (aa (aa (aa (aa (aa (aa (aa (aa (aa (aa (aa (aa (aa (aa h1 h2) h3) h4) h5) h6) h7) h8) h9) k1) k2) k3) k4) i1) i2) i3) i4) i5) i6) i7) i8) i9) m1) m2) m3) m4) m5) m6) m7) m8) m9) n1)
end Go.Am
namespace Go.Am
def Qc7 {P:Program} {c:OpenClaim} (h:P.funcs.any Func.goes=false) (hs:c.start= .entering):false=c.goesBy P:=by
 have h1: ∀g:Nat,(P.funcs[g]?).any Func.goes=false:=by
  intro g;cases hg:P.funcs[g]? with
  | none=>rfl
  | some fn=>
   simp only[Option.any_some];cases hfn:Func.goes fn with
   | false=>rfl
   | true=>
    rw[Array.any_eq_false]at h;obtain⟨hlt,he⟩:=Array.getElem?_eq_some_iff.1 hg;have:=h g hlt;rw[he]at this;exact absurd hfn this
 have h2: ∀f,P.goes f=false:=by
  intro f;unfold Program.goes;rw[h,Bool.and_false,Bool.or_false];rw[List.any_eq_false];intro g _;rw[h1 g];simp
 unfold OpenClaim.goesBy Program.goesAt Program.goesFrom;rw[hs];cases P.funcNamed c.func with
 | none=>rfl
 | some f=>simp[h2]
open Go.Shelf Go.RowKit Go.Lib Go.Proofs Go.Sort
set_option maxRecDepth 20000
def Qny [Dr] {P:Program} {num:Y0} {Γ:YU} (hD: ¬Dr.d) {g gM:Nat} (hG: ∀w m,Γ.G w m->∃v,w.cell? ⟨gM,0,none⟩=some (.int .i64 v))
  (hC: ∀(s t:ByteArray) (m:Int) (w:World),s.size < 4294967281->w.cell? ⟨gM,0,none⟩=some (.int .i64 m)->
   Calls P g #[.string s,.string t] w fun e w'=>e= .returned (.int .i64 (Lib.index s.data.toList t.data.toList))/\w'=w):VF P num Γ (YF ixO) g:=by
 refine S6 (To fun args r hr w m β vs hGw hvs hrep=> ?_);unfold ixO at hr;split at hr
 ·rename_i s t;split at hr
  ·rename_i hs;injection hr with hr
   subst hr;obtain⟨u,h0,h1⟩:=hrep 0 _ rfl;obtain⟨u2,h2,h3⟩:=hrep 1 _ rfl;simp only[Qd]at h1 h3;subst h1 h3;rw[JX hvs h0 h2];obtain⟨v,hv⟩:=hG w m hGw;refine(hC _ _ v w (by rw[Ta];exact hs) hv).mono fun e w' he=> ?_;obtain⟨rfl,rfl⟩:=he;rw[XL,XL];exact⟨_,rfl,Below.refl _ _,fun h=>absurd h hD,rfl,fun _ _=>by simp only[Qd],fun _ _ _=>trivial⟩
  ·cases hr
 ·cases hr
def Qh2 [Dr] {P:Program} {num:Y0} {Γ:YU} (hD: ¬Dr.d) {g:Nat}
  (hC: ∀(s:ByteArray) (c:UInt8) (w:World),Calls P g #[.string s,.string ⟨#[c]⟩] w fun e w'=>e= .returned (.int .i64 (countByte s.data.toList c))/\w'=w):VF P num Γ (YF AH) g:=by
 refine S6 (To fun args r hr w m β vs hGw hvs hrep=> ?_);unfold AH at hr;split at hr
 ·rename_i s c;injection hr with hr
  subst hr;obtain⟨u,h0,h1⟩:=hrep 0 _ rfl;obtain⟨u2,h2,h3⟩:=hrep 1 _ rfl;simp only[Qd]at h1 h3;subst h1 h3;rw[JX hvs h0 h2];refine(hC _ c w).mono fun e w' he=> ?_;obtain⟨rfl,rfl⟩:=he;rw[XL];exact⟨_,rfl,Below.refl _ _,fun h=>absurd h hD,rfl,fun _ _=>by simp only[Qd];rfl,fun _ _ _=>trivial⟩
 ·cases hr
def MZ (x:Int): ∀l,(Kg x l).Perm (x:: l)
 | []=> .refl _
 | y:: l=>by
  unfold Kg;split
  ·exact .refl _
  ·exact((MZ x l).cons y).trans (.swap x y l)
def Lg: ∀l,(SE l).Perm l
 | []=> .refl _
 | x:: l=>(MZ x _).trans ((Lg l).cons x)
def LM (x:Int): ∀l,l.Pairwise (·<= ·)->(Kg x l).Pairwise (·<= ·)
 | [],_=>by simp[Kg]
 | y:: l,h=>by
  obtain⟨h1,h2⟩:=VK.1 h;unfold Kg;split
  ·rename_i hxy;refine VK.2 ⟨fun z hz=> ?_,h⟩;rcases ZS.1 hz with rfl | hz
   ·exact hxy
   ·have:=h1 z hz;omega
  ·rename_i hxy;refine VK.2 ⟨fun z hz=> ?_,LM x l h2⟩;rcases ZS.1 ((MZ x l).mem_iff.1 hz)with rfl | hz
   ·omega
   ·exact h1 z hz
def LU: ∀l,(SE l).Pairwise (·<= ·)
 | []=> .nil
 | x:: l=>LM x _ (LU l)
def Qjv (l:QJ): (l.mergeSort fun x y=>decide (x<=y))=SE l:=by
 have h1:=List.pairwise_mergeSort (le:=fun x y:Int=>decide (x<=y)) (fun a b c h1 h2=>by simp at *;omega) (fun a b=>by simp;omega) l;exact List.Perm.eq_of_pairwise (le:=(·<= ·)) (fun a b _ _ h1 h2=>by omega) (by simpa using h1) (LU l) ((List.mergeSort_perm l _).trans (Lg l).symm)
def Qf9 (l:QJ): (SE l).length=l.length:=(Lg l).length_eq
def Nv: ∀{cs:Qh} {zs:QJ},Ss cs=some zs->cs=zs.map (AV.int .i64)
 | [],zs,h=>by simp[Ss]at h;subst h;rfl
 | c:: r,zs,h=>by
  cases c <;> try (simp[Ss]at h;done)
  rename_i k n;cases k <;> try (simp[Ss]at h;done)
  simp only[Ss]at h;cases h2:Ss r with
  | none=>rw[h2]at h;cases h
  | some ys=>
   rw[h2]at h;injection h with h
   subst h;rw[Nv h2];rfl
def Qfm [Dr] (hD: ¬Dr.d) {P:Program} {num:Y0} {Γ:YU} {g:Nat}
  (hC: ∀(blk off cap:Nat) (zs:QJ) (w:World),Holds (Value.int .i64) w blk off zs.toArray->blk < w.heap.size->zs.length < 4611686018427387904->
   Calls P g #[.slice (some ⟨blk,off,none⟩) zs.length cap] w fun e w'=>
    e= .returned (.tuple #[])/\∃n os,w'=grow (putRow (Value.int .i64) (Sort.ahead w n) blk off (zs.mergeSort fun x y=>decide (x<=y)).toArray) os)
  (hN: ∀(p:UG) (cap:Nat) (w:World),Calls P g #[.slice p 0 cap] w fun e w'=>e= .returned (.tuple #[])/\w'=w):VF P num Γ HL g:=by
 intro args bs r bs' hc hok w m β ν vs hG hGb hvs hrep hbox hlt;unfold HL at hc;split at hc
 ·rename_i i o sz n;obtain⟨u0,hu0,hr0⟩:=hrep 0 _ rfl;have hvs':=Qez hvs hu0;subst hvs';simp only[Qd]at hr0;obtain⟨a,cap,rfl,hcap1,hcap2,hcase⟩:=hr0;have hν: ∀b p,ν b=some p->b < w.heap.size/\(w.heap.size<=b\/∃q,ν b=some q)/\(p.isG=true\/p= .f):=fun b p h=>⟨(hlt b p h).1,.inr ⟨p,h⟩,.inl (hlt b p h).2.2⟩;by_cases hn:n=0
  ·subst hn;rw[Qn rfl]at hc;injection hc with hc
   injection hc with e1 e2
   subst e1 e2;refine(hN a cap w).mono ?_
   rintro e w' ⟨rfl,rfl⟩
   exact⟨.tuple #[],m,β,ν,rfl,Ge.refl β,ZO.refl _ _ _,hbox,rfl,by simp only[Qd];exact⟨_,rfl,rfl,trivial⟩,trivial,hν⟩
  ·rw[Qm hn]at hc;split at hc
   ·rename_i hc1;obtain⟨rfl,hn62⟩:=hc1;cases hbs:bs[i]? with
    | none=>rw[hbs]at hc;cases hc
    | some cs=>
     rw[hbs]at hc;simp only[QC]at hc;split at hc
     ·rename_i hle;cases hdec:Ss ((cs.drop o).take n)with
      | none=>rw[hdec]at hc;cases hc
      | some zs=>
       rw[hdec]at hc;injection hc with hc
       injection hc with e1 e2
       subst e1 e2;rcases hcase with⟨h0,_⟩ | ⟨k,⟨hk,hkm⟩,rfl,hz,_⟩
       ·exact absurd h0 hn
       have hne:cs≠[]:=by intro e;subst e;simp at hle;omega
       obtain⟨cur,et,hcur,⟨hcs1,hcs2⟩,hm0,hnu,hcells⟩:=(hbox.2 i cs k hbs hk hne).1 hkm;obtain⟨curT,hcurT⟩:=(hbox.2 i cs k hbs hk hne).2.2 hkm;have het:et=k.ty:=by
        have:=hcur.symm.trans hcurT;simp only[QD,Obj.cells.injEq]at this;exact this.2.1
       have hzl:zs.length=n:=by
        have:=Wu List.length (Nv hdec);simp only[Xf,Ut,Vv]at this;omega
       have hzg: ∀j z,zs[j]? =some z->cur[o+j]? =some (.int .i64 z):=by
        intro j z hj;have hjl:j < n:=by
         rcases QR j zs.length with h | h
         ·omega
         ·rw[Q3 h]at hj;cases hj
        have h1: ((cs.drop o).take n)[j]? =some (.int .i64 z):=by rw[Nv hdec,Wb,hj];rfl
        rw[WB hjl,XJ]at h1;obtain⟨u,a1,_,a3,_⟩:=hcells _ _ h1;simp only[Qd]at a3;rw[a1,a3]
       have hblk:k.b < w.heap.size:=(hlt _ _ hnu).1;have hH:Holds (Value.int .i64) w k.b o zs.toArray:=by
        intro j hj;have hj':j < zs.length:=by simpa using hj
        have h1:=hzg j _ (Zv hj');refine⟨?_,?_⟩
        ·unfold World.cell?;rw[hcur];rw[Vl _ _ (by simpa using hj')];simpa using h1
        ·unfold World.frozen?;rw[hcur];simp
       have hcall:=hC k.b o cap zs w hH hblk (by omega);rw[hzl]at hcall;refine hcall.mono ?_
       rintro e w' ⟨rfl,q,os,rfl⟩
       rw[Qjv];have hsl: (SE zs).length=n:=by rw[Qf9,hzl]
       generalize hW:grow (putRow (Value.int .i64) (Sort.ahead w q) k.b o (SE zs).toArray) os=w' at *;have hheap: ∀b,b < w.heap.size->w'.heap[b]? =if b=k.b then some (.cells (putCells (Value.int .i64) o (SE zs).toArray cur) et)else w.heap[b]? :=fun b hb=>by
        rw[<- hW];have hsz: (mapBlock (Sort.ahead w q) k.b (putCells (Value.int .i64) o (SE zs).toArray)).heap.size=w.heap.size:=by simp[mapBlock,Sort.ahead]
        unfold putRow grow;rw[U7 (by rw[hsz];exact hb)];simp only[mapBlock,Sort.ahead,TG];by_cases hbk:b=k.b
        ·subst hbk;rw[Qn rfl,Qn rfl,hcur];rfl
        ·rw[Qm (fun e=>hbk e.symm),Qm hbk]
       have hsz':w.heap.size<=w'.heap.size:=by
        rw[<- hW];simp[grow,putRow,mapBlock,Sort.ahead]
       have hoth: ∀b,b < w.heap.size->b≠k.b->w'.heap[b]? =w.heap[b]? :=fun b hb hbk=>by rw[hheap b hb,Qm hbk]
       have hle':Le w m w' m:=by
        intro b j u hu;unfold hg at hu ⊢;split at hu
        ·rename_i hj;rw[Qn hj];have hbk:b≠k.b:=fun e=>by subst e;omega
         have hb:b < w.heap.size:=by
          rcases QR b w.heap.size with h1 | h1
          ·exact h1
          ·exfalso;unfold World.cell? at hu;rw[VI h1]at hu;cases hu
         unfold World.cell? at hu ⊢;rw[hoth b hb hbk];exact hu
        ·cases hu
       have keep: ∀p,p≠ .g i->R7 w m ν w' m ν id p:=fun p hp b hb=>by
        refine⟨hoth b (hlt b p hb).1 fun e=> ?_,rfl,hb⟩;subst e;rw[hnu]at hb;injection hb with hb;exact hp hb.symm
       refine⟨.tuple #[],m,β,ν,rfl,Ge.refl β,⟨?_,?_,?_,hsz',fun b hb hx=>⟨hoth b hb fun e=>hx ⟨.g i,by rw[e];exact hnu⟩,rfl⟩,hle',fun hd=>absurd hd hD⟩,⟨?_,?_⟩,rfl,by simp only[Qd];exact⟨_,rfl,rfl,trivial⟩,trivial,fun b p h=>⟨Pj (hlt b p h).1 hsz',.inr ⟨p,h⟩,.inl (hlt b p h).2.2⟩⟩
       ·rw[<- hW];rfl
       ·rw[<- hW];rfl
       ·rw[<- hW];rfl
       ·rw[Mp];exact hbox.1
       ·intro i2 cs2 k2 h1 h2 h3;by_cases hi:i2=i
        ·subst hi;have hk2:k2=k:=by rw[hk]at h2;injection h2 with h2;exact h2.symm
         subst hk2;have hil:i2 < bs.length:=by
          rcases QR i2 bs.length with h | h
          ·exact h
          ·rw[Q3 h]at hbs;cases hbs
         rw[Y8,Qn rfl,Qn hil]at h1;injection h1 with h1
         subst h1;have hnew:=hheap _ hblk;rw[Qn rfl]at hnew;refine⟨fun _=> ?_,fun e=>(by rw[hkm]at e;cases e),fun _=>⟨_,by rw[<- het];exact hnew⟩⟩;refine⟨_,et,hnew,⟨?_,?_⟩,hm0,hnu,?_⟩
         ·simp[putCells,hcs1]
         ·simp only[put,Zo,Xf,Ut,Vv,hsl];omega
         ·intro j c hj;have hpc: ∀x:Value,cur[j]? =some x->(putCells (Value.int .i64) o (SE zs).toArray cur)[j]? =some (if o<=j/\j < o+n then(.int .i64 (SE zs).toArray[j - o]!)else x):=by
           intro x hx;simp only[putCells,Array.getElem?_mapIdx,hx,QS,WD,hsl]
          have hto: (cs.take o).length=o:=by rw[Xf];omega
          by_cases hin:o<=j/\j < o+n
          ·obtain⟨rr,rfl⟩: ∃rr,j=o+rr:=⟨j - o,by omega⟩;have hr:rr < n:=by omega
           have hjc: ((SE zs).map (AV.int .i64))[rr]? =some c:=by
            simp only[put]at hj;rw[ZR,YS (by omega),hto,Oy,ZM (by simp[hsl];omega)]at hj;exact hj
           rw[Wb,Zv (by omega)]at hjc;injection hjc with hjc
           subst hjc;refine⟨.int .i64 ((SE zs)[rr]'(by omega)),?_,rfl,by simp only[Qd],trivial⟩;rw[hpc _ (Wa (show o+rr < cur.size by omega)),Qn hin,Oy,Vl _ _ (by simp;omega)];simp
          ·have hjc:cs[j]? =some c:=by
            simp only[put]at hj;by_cases hjo:j < o
            ·rw[ZR,ZM (by omega),WB hjo]at hj;exact hj
            ·rw[YS (by rw[Zo,Vv];omega),Zo,hto,XJ,Vv,hsl]at hj;have:o+n+ (j - (o+n))=j:=by omega
             rw[this]at hj;exact hj
           obtain⟨u,g1,g2,g3,g4⟩:=hcells j c hjc;refine⟨u,?_,g2,Zc (Ge.refl β) hle' _ _ g3,Wn (θ:=id) (keep _ (by simp)) g4⟩;rw[hpc u g1,Qm hin]
        ·rw[Y8,Qm (fun e=>hi e.symm)]at h1;have hB:=hbox.2 i2 cs2 k2 h1 h2 h3;exact Wm (Ge.refl β) hle' (keep _ (by simp[hi])) (fun j=>keep _ (by simp)) hB
     ·cases hc
   ·cases hc
 ·cases hc
end Go.Am
