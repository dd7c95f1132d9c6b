/-
  PfM, Jf, AmPs.
-/
import Derived.Test.YtmlbinmlblbfgaaGreatDoorG23
import Derived.Test.YtmlbinmlblbfgaaGreatDoorG24
import Derived.Test.YtmlbinmlblbfgaaGreatDoorG25
import Derived.Test.YtmlbinmlblbfgaaGreatDoorG26
import Derived.Test.YtmlbinmlblbfgaaGreatDoorG27
import Derived.Test.YtmlbinmlblbfgaaGreatDoorG28
import Derived.Test.YtmlbinmlblbfgaaGreatDoorG29
import Derived.Test.YtmlbinmlblbfgaaGreatDoorG30
import Derived.Test.YtmlbinmlblbfgaaGreatDoorG31
import Derived.Test.YtmlbinmlblbfgaaGreatDoorG32
import Derived.Test.YtmlbinmlblbfgaaGreatDoorG33
import Derived.Test.YtmlbinmlblbfgaaGreatDoorG34
import Derived.Test.YtmlbinmlblbfgaaGreatDoorG35
import Derived.Test.YtmlbinmlblbfgaaGreatDoorG36
import Derived.Test.YtmlbinmlblbfgaaGreatDoorG37
import Derived.Test.YtmlbinmlblbfgaaGreatDoorG38
import Derived.Test.YtmlbinmlblbfgaaGreatDoorG22
import Derived.JoinedOf
import GoSem.ClaimGoes
import Derived.Test.YtmlbinmlblbfgaaGreatDoorG12
import Derived.Test.YtmlbinmlblbfgaaGreatDoorG09
import Derived.Shelf.Sort.Plain
import Derived.Shelf.Slices.In.SortNone
set_option linter.all false
open Go.Am.F
namespace Go.Am
def Qiu:TF tb G3:=trivial
def Qiv:=QR Qiu Qik
def Qiw:=QR Qiv Qil
def Qix:=QR Qiw Qim
def Qiy:=QR Qix Qin
def Qiz:=QR Qiy Qio
def QiA:=QR Qiz Qip
def QiB:=QR QiA Qiq
def QiC:=QR QiB Qir
def QiD:=QR QiC Qis
def Qfr:=QR QiD Qit
def Qfs:=QR Qfr Qd7
def Qft:=QR Qfs Qd8
def Qfu:=QR Qft Qd9
def Qfv:=QR Qfu Qea
def Qfw:=QR Qfv Qeb
def Qfx:=QR Qfw Qec
def Qfy:=QR Qfx Qed
def Qfz:=QR Qfy Qee
def QfA:=QR Qfz Qef
def QfB:=QR QfA Qeg
def QfC:=QR QfB Qeh
def QfD:=QR QfC Qei
def QfE:=QR QfD Qej
def QfF:=QR QfE Qek
def QfG:=QR QfF Qel
def QfH:=QR QfG Qem
def QfI:=QR QfH Qen
def QfJ:=QR QfI Qeo
def QfK:=QR QfJ Qep
def QfL:=QR QfK Qeq
def QfM:=QR QfL Qer
def QfN:=QR QfM Qes
def QfO:=QR QfN Qet
def QfP:=QR QfO Qeu
def QfQ:=QR QfP Qev
def QfR:=QR QfQ Qew
def QfS:=QR QfR Qex
def QfT:=QR QfS Qey
def QfU:=QR QfT Qez
def QfV:=QR QfU QeA
def QfW:=QR QfV QeB
def QfX:=QR QfW QeC
def QfY:=QR QfX QeD
def QfZ:=QR QfY QeE
def Qf0:=QR QfZ QeF
def Qf1:=QR Qf0 QeG
def Qf2:=QR Qf1 QeH
def Qf3:=QR Qf2 QeI
def Qf4:=QR Qf3 QeJ
def Qf5:=QR Qf4 QeK
def Qf6:=QR Qf5 QeL
def Qf7:=QR Qf6 QeM
def Qf8:=QR Qf7 QeN
def Qf9:=QR Qf8 QeO
def Qga:=QR Qf9 QeP
def Qgb:=QR Qga QeQ
def Qgc:=QR Qgb QeR
def Qgd:=QR Qgc QeS
def Qge:=QR Qgd QeT
def Qgf:=QR Qge QeU
def Qgg:=QR Qgf QeV
def Qgh:=QR Qgg QeW
def Qgi:=QR Qgh QeX
def Qgj:=QR Qgi QeY
def Qgk:=QR Qgj QeZ
def Qgl:=QR Qgk Qe0
def Qgm:=QR Qgl Qe1
def Qgn:=QR Qgm Qe2
def Qgo:=QR Qgn Qe3
def Qgp:=QR Qgo Qe4
def Qgq:=QR Qgp Qe5
def Qgr:=QR Qgq Qe6
def Qgs:=QR Qgr Qe7
def Qgt:=QR Qgs Qe8
def Qgu:=QR Qgt Qe9
def Qgv:=QR Qgu Qfa
def Qgw:=QR Qgv Qfb
def Qgx:=QR Qgw Qfc
def Qgy:=QR Qgx Qfd
def Qgz:=QR Qgy Qfe
def QgA:=QR Qgz Qff
def QgB:=QR QgA Qfg
def QgC:=QR QgB Qfh
def QgD:=QR QgC Qfi
def QgE:=QR QgD Qfj
def QgF:=QR QgE Qfk
def QgG:=QR QgF Qfl
def QgH:=QR QgG Qfm
def QgI:=QR QgH Qfn
def QgJ:=QR QgI Qfo
def QgK:=QR QgJ Qfp
def G2:P0 tb Qfq 400 633 [] []=some (.bool true,[]):=by kernel_rfl
def MJ:call tb 633 [] []=some (.bool true,[]):=OB QgK _ _ _ _ _ G2
def aa {a b:Bool} (h:a=true) (k:b=true): (a && b)=true:=by rw[h,k];rfl
def M9 {P:Program} {f:FuncId} {fn:Func} {s:ChangeSpec} {c:OpenClaim} (h1:c.wf (OpenSpec.ofChange s)=true) (h2:laidOutB P=true) (h3:mapsRowed P=true)
  (h4:fn.params.all (P.readableRec ·)=true) (h5:namedTie P c.named s.vars=true) (h6: (c.stops == [])=true) (h7: (P.stops == [])=true) (h8: (c.knobs == [])=true) (h9: (P.stopKnobs == [])=true)
  (k1: (c.inPlace == P.inPlace f)=true) (k2: (c.unfollowed == P.unfollowed f)=true) (k3: (c.recurses == P.recurses f)=true) (k4: (c.named == P.varsNamed f)=true)
  (i1: (c.maps == (fn.params.toList ++ s.plain.varTypes P).any (P.mapsRec ·))=true) (i2: (c.ifaces == (fn.params.toList ++ s.plain.varTypes P).any (P.ifacesRec ·))=true) (i3: (c.mapsOut == P.mapsAmong fn.resultTypes.toList)=true)
  (i4: (c.loops == (fn.params.toList ++ s.plain.varTypes P).any (P.loopsFrom ·))=true) (i5: (c.wideKeys == (fn.params.toList ++ s.plain.varTypes P ++ fn.resultTypes.toList).any (P.wideKeysFrom ·))=true)
  (i6:s.vars.all (P.varReadable ·)=true) (i7:fn.resultTypes.all (fun t=>P.readableRec t && decide (t < P.types.size))=true) (i8: (c.ifacesOut == fn.resultTypes.toList.any (P.ifacesRec ·))=true)
  (i9: (c.loopsOut == fn.resultTypes.toList.any (P.loopsFrom ·))=true) (m1: (c.plainKeys == P.plainKeys)=true) (m2:c.shortTexts.isNone=true) (m3:P.stopsHeard=true) (m4:P.mayEnter=true)
  (m5: (c.lifted == P.liftsFinal)=true) (m6: (P.make == some c.make)=true)
  (m7: (c.kinds == (if c.domain.isEmpty then []else fn.params.toList.map fun t=>match P.underlying t with | some (.int k)=>some k | _=>none))=true) (m8: (c.pinned == c.pinnedBy)=true)
  (m9: (c.veiled == (fn.params.toList ++ s.plain.varTypes P ++ fn.resultTypes.toList).any (P.veiledRec ·))=true) (n1:c.veiledFits P fn.params.toList (fn.params.toList ++ s.plain.varTypes P ++ fn.resultTypes.toList)=true):
  joinedFacts P f fn s c=true:=by
 exact(aa (aa (aa (aa (aa (aa (aa (aa (aa (aa (aa (aa (aa (aa (aa (aa (aa (aa (aa (aa (aa (aa (aa (aa (aa (aa (aa (aa (aa (aa (aa h1 h2) h3) h4) h5) h6) h7) h8) h9) k1) k2) k3) k4) i1) i2) i3) i4) i5) i6) i7) i8) i9) m1) m2) m3) m4) m5) m6) m7) m8) m9) n1)
end Go.Am
namespace Go.Am
def M5 {P:Program} {c:OpenClaim} (h:P.funcs.any Func.goes=false) (hs:c.start= .entering):false=c.goesBy P:=by
 have h1: ∀g:Nat,(P.funcs[g]?).any Func.goes=false:=by
  intro g;cases hg:P.funcs[g]? with
  | none=>rfl
  | some fn=>
   simp only[Option.any_some];cases hfn:Func.goes fn with
   | false=>rfl
   | true=>
    rw[Array.any_eq_false]at h;obtain⟨hlt,he⟩:=Array.getElem?_eq_some_iff.1 hg;have:=h g hlt;rw[he]at this;exact absurd hfn this
 have h2: ∀f,P.goes f=false:=by
  intro f;unfold Program.goes;rw[h,Bool.and_false,Bool.or_false];rw[List.any_eq_false];intro g _;rw[h1 g];simp
 unfold OpenClaim.goesBy Program.goesAt Program.goesFrom;rw[hs];cases P.funcNamed c.func with
 | none=>rfl
 | some f=>simp[h2]
open Go.Shelf Go.RowKit Go.Lib Go.Proofs Go.Sort
set_option maxRecDepth 20000
def QhR [Dr] {P:Program} {num:Z3} {Γ:Z1} (hD: ¬Dr.d) {g gM:Nat} (hG: ∀w m,Γ.G w m->∃v,w.cell? ⟨gM,0,none⟩=some (.int .i64 v))
  (hC: ∀(s t:ByteArray) (m:Int) (w:World),s.size < 4294967281->w.cell? ⟨gM,0,none⟩=some (.int .i64 m)->
   Calls P g #[.string s,.string t] w fun e w'=>e= .returned (.int .i64 (Lib.index s.data.toList t.data.toList))/\w'=w):XI P num Γ (ZG ixO) g:=by
 refine UU (Vv fun args r hr w m β vs hGw hvs hrep=> ?_);unfold ixO at hr;split at hr
 ·rename_i s t;split at hr
  ·rename_i hs;injection hr with hr
   subst hr;obtain⟨u,h0,h1⟩:=hrep 0 _ rfl;obtain⟨u2,h2,h3⟩:=hrep 1 _ rfl;simp only[Qa]at h1 h3;subst h1 h3;rw[N8 hvs h0 h2];obtain⟨v,hv⟩:=hG w m hGw;refine(hC _ _ v w (by rw[Vl];exact hs) hv).mono fun e w' he=> ?_;obtain⟨rfl,rfl⟩:=he;rw[Yy,Yy];exact⟨_,rfl,Below.refl _ _,fun h=>absurd h hD,rfl,fun _ _=>by simp only[Qa],fun _ _ _=>trivial⟩
  ·cases hr
 ·cases hr
def Qco [Dr] {P:Program} {num:Z3} {Γ:Z1} (hD: ¬Dr.d) {g:Nat}
  (hC: ∀(s:ByteArray) (c:UInt8) (w:World),Calls P g #[.string s,.string ⟨#[c]⟩] w fun e w'=>e= .returned (.int .i64 (countByte s.data.toList c))/\w'=w):XI P num Γ (ZG Ia) g:=by
 refine UU (Vv fun args r hr w m β vs hGw hvs hrep=> ?_);unfold Ia at hr;split at hr
 ·rename_i s c;injection hr with hr
  subst hr;obtain⟨u,h0,h1⟩:=hrep 0 _ rfl;obtain⟨u2,h2,h3⟩:=hrep 1 _ rfl;simp only[Qa]at h1 h3;subst h1 h3;rw[N8 hvs h0 h2];refine(hC _ c w).mono fun e w' he=> ?_;obtain⟨rfl,rfl⟩:=he;rw[Yy];exact⟨_,rfl,Below.refl _ _,fun h=>absurd h hD,rfl,fun _ _=>by simp only[Qa];rfl,fun _ _ _=>trivial⟩
 ·cases hr
def PJ (x:Int): ∀l,(OK x l).Perm (x:: l)
 | []=> .refl _
 | y:: l=>by
  unfold OK;split
  ·exact .refl _
  ·exact((PJ x l).cons y).trans (.swap x y l)
def PS: ∀l,(Uv l).Perm l
 | []=> .refl _
 | x:: l=>(PJ x _).trans ((PS l).cons x)
def On (x:Int): ∀l,l.Pairwise (·<= ·)->(OK x l).Pairwise (·<= ·)
 | [],_=>by simp[OK]
 | y:: l,h=>by
  obtain⟨h1,h2⟩:=Va.1 h;unfold OK;split
  ·rename_i hxy;refine Va.2 ⟨fun z hz=> ?_,h⟩;rcases Yd.1 hz with rfl | hz
   ·exact hxy
   ·have:=h1 z hz;omega
  ·rename_i hxy;refine Va.2 ⟨fun z hz=> ?_,On x l h2⟩;rcases Yd.1 ((PJ x l).mem_iff.1 hz)with rfl | hz
   ·omega
   ·exact h1 z hz
def Ov: ∀l,(Uv l).Pairwise (·<= ·)
 | []=> .nil
 | x:: l=>On x _ (Ov l)
def QdL (l:QH): (l.mergeSort fun x y=>decide (x<=y))=Uv l:=by
 have h1:=List.pairwise_mergeSort (le:=fun x y:Int=>decide (x<=y)) (fun a b c h1 h2=>by simp at *;omega) (fun a b=>by simp;omega) l;exact List.Perm.eq_of_pairwise (le:=(·<= ·)) (fun a b _ _ h1 h2=>by omega) (by simpa using h1) (Ov l) ((List.mergeSort_perm l _).trans (PS l).symm)
def Qa6 (l:QH): (Uv l).length=l.length:=(PS l).length_eq
def Rw: ∀{cs:Qf} {zs:QH},Ul cs=some zs->cs=zs.map (AV.int .i64)
 | [],zs,h=>by simp[Ul]at h;subst h;rfl
 | c:: r,zs,h=>by
  cases c <;> try (simp[Ul]at h;done)
  rename_i k n;cases k <;> try (simp[Ul]at h;done)
  simp only[Ul]at h;cases h2:Ul r with
  | none=>rw[h2]at h;cases h
  | some ys=>
   rw[h2]at h;injection h with h
   subst h;rw[Rw h2];rfl
def A8 [Dr] (hD: ¬Dr.d) {P:Program} {num:Z3} {Γ:Z1} {g:Nat}
  (hC: ∀(blk off cap:Nat) (zs:QH) (w:World),Holds (Value.int .i64) w blk off zs.toArray->blk < w.heap.size->zs.length < 4611686018427387904->
   Calls P g #[.slice (some ⟨blk,off,none⟩) zs.length cap] w fun e w'=>
    e= .returned (.tuple #[])/\∃n os,w'=grow (putRow (Value.int .i64) (Sort.ahead w n) blk off (zs.mergeSort fun x y=>decide (x<=y)).toArray) os)
  (hN: ∀(p:WU) (cap:Nat) (w:World),Calls P g #[.slice p 0 cap] w fun e w'=>e= .returned (.tuple #[])/\w'=w):XI P num Γ LJ g:=by
 intro args bs r bs' hc hok w m β ν vs hG hGb hvs hrep hbox hlt;unfold LJ at hc;split at hc
 ·rename_i i o sz n;obtain⟨u0,hu0,hr0⟩:=hrep 0 _ rfl;have hvs':=Ao hvs hu0;subst hvs';simp only[Qa]at hr0;obtain⟨a,cap,rfl,hcap1,hcap2,hcase⟩:=hr0;have hν: ∀b p,ν b=some p->b < w.heap.size/\(w.heap.size<=b\/∃q,ν b=some q)/\(p.isG=true\/p= .f):=fun b p h=>⟨(hlt b p h).1,.inr ⟨p,h⟩,.inl (hlt b p h).2.2⟩;by_cases hn:n=0
  ·subst hn;rw[Qh rfl]at hc;injection hc with hc
   injection hc with e1 e2
   subst e1 e2;refine(hN a cap w).mono ?_
   rintro e w' ⟨rfl,rfl⟩
   exact⟨.tuple #[],m,β,ν,rfl,Ge.refl β,Zm.refl _ _ _,hbox,rfl,by simp only[Qa];exact⟨_,rfl,rfl,trivial⟩,trivial,hν⟩
  ·rw[Qe hn]at hc;split at hc
   ·rename_i hc1;obtain⟨rfl,hn62⟩:=hc1;cases hbs:bs[i]? with
    | none=>rw[hbs]at hc;cases hc
    | some cs=>
     rw[hbs]at hc;simp only[Qt]at hc;split at hc
     ·rename_i hle;cases hdec:Ul ((cs.drop o).take n)with
      | none=>rw[hdec]at hc;cases hc
      | some zs=>
       rw[hdec]at hc;injection hc with hc
       injection hc with e1 e2
       subst e1 e2;rcases hcase with⟨h0,_⟩ | ⟨k,⟨hk,hkm⟩,rfl,hz,_⟩
       ·exact absurd h0 hn
       have hne:cs≠[]:=by intro e;subst e;simp at hle;omega
       obtain⟨cur,et,hcur,⟨hcs1,hcs2⟩,hm0,hnu,hcells⟩:=(hbox.2 i cs k hbs hk hne).1 hkm;obtain⟨curT,hcurT⟩:=(hbox.2 i cs k hbs hk hne).2.2 hkm;have het:et=k.ty:=by
        have:=hcur.symm.trans hcurT;simp only[Qs,Obj.cells.injEq]at this;exact this.2.1
       have hzl:zs.length=n:=by
        have:=Xb List.length (Rw hdec);simp only[YO,YN,Wa]at this;omega
       have hzg: ∀j z,zs[j]? =some z->cur[o+j]? =some (.int .i64 z):=by
        intro j z hj;have hjl:j < n:=by
         rcases QL j zs.length with h | h
         ·omega
         ·rw[QT h]at hj;cases hj
        have h1: ((cs.drop o).take n)[j]? =some (.int .i64 z):=by rw[Rw hdec,Xm,hj];rfl
        rw[XC hjl,YM]at h1;obtain⟨u,a1,_,a3,_⟩:=hcells _ _ h1;simp only[Qa]at a3;rw[a1,a3]
       have hblk:k.b < w.heap.size:=(hlt _ _ hnu).1;have hH:Holds (Value.int .i64) w k.b o zs.toArray:=by
        intro j hj;have hj':j < zs.length:=by simpa using hj
        have h1:=hzg j _ (Zr hj');refine⟨?_,?_⟩
        ·unfold World.cell?;rw[hcur];rw[Xw _ _ (by simpa using hj')];simpa using h1
        ·unfold World.frozen?;rw[hcur];simp
       have hcall:=hC k.b o cap zs w hH hblk (by omega);rw[hzl]at hcall;refine hcall.mono ?_
       rintro e w' ⟨rfl,q,os,rfl⟩
       rw[QdL];have hsl: (Uv zs).length=n:=by rw[Qa6,hzl]
       generalize hW:grow (putRow (Value.int .i64) (Sort.ahead w q) k.b o (Uv zs).toArray) os=w' at *;have hheap: ∀b,b < w.heap.size->w'.heap[b]? =if b=k.b then some (.cells (putCells (Value.int .i64) o (Uv zs).toArray cur) et)else w.heap[b]? :=fun b hb=>by
        rw[<- hW];have hsz: (mapBlock (Sort.ahead w q) k.b (putCells (Value.int .i64) o (Uv zs).toArray)).heap.size=w.heap.size:=by simp[mapBlock,Sort.ahead]
        unfold putRow grow;rw[Vj (by rw[hsz];exact hb)];simp only[mapBlock,Sort.ahead,VO];by_cases hbk:b=k.b
        ·subst hbk;rw[Qh rfl,Qh rfl,hcur];rfl
        ·rw[Qe (fun e=>hbk e.symm),Qe hbk]
       have hsz':w.heap.size<=w'.heap.size:=by
        rw[<- hW];simp[grow,putRow,mapBlock,Sort.ahead]
       have hoth: ∀b,b < w.heap.size->b≠k.b->w'.heap[b]? =w.heap[b]? :=fun b hb hbk=>by rw[hheap b hb,Qe hbk]
       have hle':Le w m w' m:=by
        intro b j u hu;unfold hg at hu ⊢;split at hu
        ·rename_i hj;rw[Qh hj];have hbk:b≠k.b:=fun e=>by subst e;omega
         have hb:b < w.heap.size:=by
          rcases QL b w.heap.size with h1 | h1
          ·exact h1
          ·exfalso;unfold World.cell? at hu;rw[XN h1]at hu;cases hu
         unfold World.cell? at hu ⊢;rw[hoth b hb hbk];exact hu
        ·cases hu
       have keep: ∀p,p≠ .g i->TP w m ν w' m ν id p:=fun p hp b hb=>by
        refine⟨hoth b (hlt b p hb).1 fun e=> ?_,rfl,hb⟩;subst e;rw[hnu]at hb;injection hb with hb;exact hp hb.symm
       refine⟨.tuple #[],m,β,ν,rfl,Ge.refl β,⟨?_,?_,?_,hsz',fun b hb hx=>⟨hoth b hb fun e=>hx ⟨.g i,by rw[e];exact hnu⟩,rfl⟩,hle',fun hd=>absurd hd hD⟩,⟨?_,?_⟩,rfl,by simp only[Qa];exact⟨_,rfl,rfl,trivial⟩,trivial,fun b p h=>⟨TV (hlt b p h).1 hsz',.inr ⟨p,h⟩,.inl (hlt b p h).2.2⟩⟩
       ·rw[<- hW];rfl
       ·rw[<- hW];rfl
       ·rw[<- hW];rfl
       ·rw[Pc];exact hbox.1
       ·intro i2 cs2 k2 h1 h2 h3;by_cases hi:i2=i
        ·subst hi;have hk2:k2=k:=by rw[hk]at h2;injection h2 with h2;exact h2.symm
         subst hk2;have hil:i2 < bs.length:=by
          rcases QL i2 bs.length with h | h
          ·exact h
          ·rw[QT h]at hbs;cases hbs
         rw[YE,Qh rfl,Qh hil]at h1;injection h1 with h1
         subst h1;have hnew:=hheap _ hblk;rw[Qh rfl]at hnew;refine⟨fun _=> ?_,fun e=>(by rw[hkm]at e;cases e),fun _=>⟨_,by rw[<- het];exact hnew⟩⟩;refine⟨_,et,hnew,⟨?_,?_⟩,hm0,hnu,?_⟩
         ·simp[putCells,hcs1]
         ·simp only[put,Zf,YO,YN,Wa,hsl];omega
         ·intro j c hj;have hpc: ∀x:Value,cur[j]? =some x->(putCells (Value.int .i64) o (Uv zs).toArray cur)[j]? =some (if o<=j/\j < o+n then(.int .i64 (Uv zs).toArray[j - o]!)else x):=by
           intro x hx;simp only[putCells,Array.getElem?_mapIdx,hx,QA,Y4,hsl]
          have hto: (cs.take o).length=o:=by rw[YO];omega
          by_cases hin:o<=j/\j < o+n
          ·obtain⟨rr,rfl⟩: ∃rr,j=o+rr:=⟨j - o,by omega⟩;have hr:rr < n:=by omega
           have hjc: ((Uv zs).map (AV.int .i64))[rr]? =some c:=by
            simp only[put]at hj;rw[XP,Yn (by omega),hto,U9,ZO (by simp[hsl];omega)]at hj;exact hj
           rw[Xm,Zr (by omega)]at hjc;injection hjc with hjc
           subst hjc;refine⟨.int .i64 ((Uv zs)[rr]'(by omega)),?_,rfl,by simp only[Qa],trivial⟩;rw[hpc _ (YL (show o+rr < cur.size by omega)),Qh hin,U9,Xw _ _ (by simp;omega)];simp
          ·have hjc:cs[j]? =some c:=by
            simp only[put]at hj;by_cases hjo:j < o
            ·rw[XP,ZO (by omega),XC hjo]at hj;exact hj
            ·rw[Yn (by rw[Zf,Wa];omega),Zf,hto,YM,Wa,hsl]at hj;have:o+n+ (j - (o+n))=j:=by omega
             rw[this]at hj;exact hj
           obtain⟨u,g1,g2,g3,g4⟩:=hcells j c hjc;refine⟨u,?_,g2,QU (Ge.refl β) hle' _ _ g3,YV (θ:=id) (keep _ (by simp)) g4⟩;rw[hpc u g1,Qe hin]
        ·rw[YE,Qe (fun e=>hi e.symm)]at h1;have hB:=hbox.2 i2 cs2 k2 h1 h2 h3;exact YU (Ge.refl β) hle' (keep _ (by simp[hi])) (fun j=>keep _ (by simp)) hB
     ·cases hc
   ·cases hc
 ·cases hc
end Go.Am
