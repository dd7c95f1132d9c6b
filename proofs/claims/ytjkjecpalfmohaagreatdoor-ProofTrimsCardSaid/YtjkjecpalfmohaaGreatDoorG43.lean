/-
  PfM, Jf, AmPs.
-/
import Derived.Test.YtjkjecpalfmohaaGreatDoorG27
import Derived.Test.YtjkjecpalfmohaaGreatDoorG28
import Derived.Test.YtjkjecpalfmohaaGreatDoorG29
import Derived.Test.YtjkjecpalfmohaaGreatDoorG30
import Derived.Test.YtjkjecpalfmohaaGreatDoorG31
import Derived.Test.YtjkjecpalfmohaaGreatDoorG32
import Derived.Test.YtjkjecpalfmohaaGreatDoorG33
import Derived.Test.YtjkjecpalfmohaaGreatDoorG34
import Derived.Test.YtjkjecpalfmohaaGreatDoorG35
import Derived.Test.YtjkjecpalfmohaaGreatDoorG36
import Derived.Test.YtjkjecpalfmohaaGreatDoorG37
import Derived.Test.YtjkjecpalfmohaaGreatDoorG38
import Derived.Test.YtjkjecpalfmohaaGreatDoorG39
import Derived.Test.YtjkjecpalfmohaaGreatDoorG40
import Derived.Test.YtjkjecpalfmohaaGreatDoorG41
import Derived.Test.YtjkjecpalfmohaaGreatDoorG42
import Derived.Test.YtjkjecpalfmohaaGreatDoorG26
import Derived.JoinedOf
import GoSem.ClaimGoes
import Derived.Test.YtjkjecpalfmohaaGreatDoorG12
import Derived.Test.YtjkjecpalfmohaaGreatDoorG09
import Derived.Shelf.Sort.Plain
import Derived.Shelf.Slices.In.SortNone
set_option linter.all false
open Go.Am.F
namespace Go.Am
def Qqb:Pu tb Qao:=trivial
def Qqc:=Q8 Qqb Qp1
def Qqd:=Q8 Qqc Qp2
def Qqe:=Q8 Qqd Qp3
def Qqf:=Q8 Qqe Qp4
def Qqg:=Q8 Qqf Qp5
def Qqh:=Q8 Qqg Qp6
def Qqi:=Q8 Qqh Qp7
def Qqj:=Q8 Qqi Qp8
def Qqk:=Q8 Qqj Qp9
def Qm4:=Q8 Qqk Qqa
def Qm5:=Q8 Qm4 QlK
def Qm6:=Q8 Qm5 QlL
def Qm7:=Q8 Qm6 QlM
def Qm8:=Q8 Qm7 QlN
def Qm9:=Q8 Qm8 QlO
def Qna:=Q8 Qm9 QlP
def Qnb:=Q8 Qna QlQ
def Qnc:=Q8 Qnb QlR
def Qnd:=Q8 Qnc QlS
def Qne:=Q8 Qnd QlT
def Qnf:=Q8 Qne QlU
def Qng:=Q8 Qnf QlV
def Qnh:=Q8 Qng QlW
def Qni:=Q8 Qnh QlX
def Qnj:=Q8 Qni QlY
def Qnk:=Q8 Qnj QlZ
def Qnl:=Q8 Qnk Ql0
def Qnm:=Q8 Qnl Ql1
def Qnn:=Q8 Qnm Ql2
def Qno:=Q8 Qnn Ql3
def Qnp:=Q8 Qno Ql4
def Qnq:=Q8 Qnp Ql5
def Qnr:=Q8 Qnq Ql6
def Qns:=Q8 Qnr Ql7
def Qnt:=Q8 Qns Ql8
def Qnu:=Q8 Qnt Ql9
def Qnv:=Q8 Qnu Qma
def Qnw:=Q8 Qnv Qmb
def Qnx:=Q8 Qnw Qmc
def Qny:=Q8 Qnx Qmd
def Qnz:=Q8 Qny Qme
def QnA:=Q8 Qnz Qmf
def QnB:=Q8 QnA Qmg
def QnC:=Q8 QnB Qmh
def QnD:=Q8 QnC Qmi
def QnE:=Q8 QnD Qmj
def QnF:=Q8 QnE Qmk
def QnG:=Q8 QnF Qml
def QnH:=Q8 QnG Qmm
def QnI:=Q8 QnH Qmn
def QnJ:=Q8 QnI Qmo
def QnK:=Q8 QnJ Qmp
def QnL:=Q8 QnK Qmq
def QnM:=Q8 QnL Qmr
def QnN:=Q8 QnM Qms
def QnO:=Q8 QnN Qmt
def QnP:=Q8 QnO Qmu
def QnQ:=Q8 QnP Qmv
def QnR:=Q8 QnQ Qmw
def QnS:=Q8 QnR Qmx
def QnT:=Q8 QnS Qmy
def QnU:=Q8 QnT Qmz
def QnV:=Q8 QnU QmA
def QnW:=Q8 QnV QmB
def QnX:=Q8 QnW QmC
def QnY:=Q8 QnX QmD
def QnZ:=Q8 QnY QmE
def Qn0:=Q8 QnZ QmF
def Qn1:=Q8 Qn0 QmG
def Qn2:=Q8 Qn1 QmH
def Qn3:=Q8 Qn2 QmI
def Qn4:=Q8 Qn3 QmJ
def Qn5:=Q8 Qn4 QmK
def Qn6:=Q8 Qn5 QmL
def Qn7:=Q8 Qn6 QmM
def Qn8:=Q8 Qn7 QmN
def Qn9:=Q8 Qn8 QmO
def Qoa:=Q8 Qn9 QmP
def Qob:=Q8 Qoa QmQ
def Qoc:=Q8 Qob QmR
def Qod:=Q8 Qoc QmS
def Qoe:=Q8 Qod QmT
def Qof:=Q8 Qoe QmU
def Qog:=Q8 Qof QmV
def Qoh:=Q8 Qog QmW
def Qoi:=Q8 Qoh QmX
def Qoj:=Q8 Qoi QmY
def Qok:=Q8 Qoj QmZ
def Qol:=Q8 Qok Qm0
def Qom:=Q8 Qol Qm1
def Qon:=Q8 Qom Qm2
def Qan:Ke tb Qm3 400 633 [] []=some (.bool true,[]):=by kernel_rfl
def Qb8:call tb 633 [] []=some (.bool true,[]):=KV Qon _ _ _ _ _ Qan
def aa {a b:Bool} (h:a=true) (k:b=true): (a && b)=true:=by rw[h,k];rfl
def QeD {P:Program} {f:FuncId} {fn:Func} {s:ChangeSpec} {c:OpenClaim} (h1:c.wf (OpenSpec.ofChange s)=true) (h2:laidOutB P=true) (h3:mapsRowed P=true)
  (h4:fn.params.all (P.readableRec ·)=true) (h5:namedTie P c.named s.vars=true) (h6: (c.stops == [])=true) (h7: (P.stops == [])=true) (h8: (c.knobs == [])=true) (h9: (P.stopKnobs == [])=true)
  (k1: (c.inPlace == P.inPlace f)=true) (k2: (c.unfollowed == P.unfollowed f)=true) (k3: (c.recurses == P.recurses f)=true) (k4: (c.named == P.varsNamed f)=true)
  (i1: (c.maps == (fn.params.toList ++ s.plain.varTypes P).any (P.mapsRec ·))=true) (i2: (c.ifaces == (fn.params.toList ++ s.plain.varTypes P).any (P.ifacesRec ·))=true) (i3: (c.mapsOut == P.mapsAmong fn.resultTypes.toList)=true)
  (i4: (c.loops == (fn.params.toList ++ s.plain.varTypes P).any (P.loopsFrom ·))=true) (i5: (c.wideKeys == (fn.params.toList ++ s.plain.varTypes P ++ fn.resultTypes.toList).any (P.wideKeysFrom ·))=true)
  (i6:s.vars.all (P.varReadable ·)=true) (i7:fn.resultTypes.all (fun t=>P.readableRec t && decide (t < P.types.size))=true) (i8: (c.ifacesOut == fn.resultTypes.toList.any (P.ifacesRec ·))=true)
  (i9: (c.loopsOut == fn.resultTypes.toList.any (P.loopsFrom ·))=true) (m1: (c.plainKeys == P.plainKeys)=true) (m2:c.shortTexts.isNone=true) (m3:P.stopsHeard=true) (m4:P.mayEnter=true)
  (m5: (c.lifted == P.liftsFinal)=true) (m6: (P.make == some c.make)=true)
  (m7: (c.kinds == (if c.domain.isEmpty then []else fn.params.toList.map fun t=>match P.underlying t with | some (.int k)=>some k | _=>none))=true) (m8: (c.pinned == c.pinnedBy)=true)
  (m9: (c.veiled == (fn.params.toList ++ s.plain.varTypes P ++ fn.resultTypes.toList).any (P.veiledRec ·))=true) (n1:c.veiledFits P fn.params.toList (fn.params.toList ++ s.plain.varTypes P ++ fn.resultTypes.toList)=true):
  joinedFacts P f fn s c=true:=by
 exact(aa (aa (aa (aa (aa (aa (aa (aa (aa (aa (aa (aa (aa (aa (aa (aa (aa (aa (aa (aa (aa (aa (aa (aa (aa (aa (aa (aa (aa (aa (aa h1 h2) h3) h4) h5) h6) h7) h8) h9) k1) k2) k3) k4) i1) i2) i3) i4) i5) i6) i7) i8) i9) m1) m2) m3) m4) m5) m6) m7) m8) m9) n1)
end Go.Am
namespace Go.Am
def Qes {P:Program} {c:OpenClaim} (h:P.funcs.any Func.goes=false) (hs:c.start= .entering):false=c.goesBy P:=by
 have h1: ∀g:Nat,(P.funcs[g]?).any Func.goes=false:=by
  intro g;cases hg:P.funcs[g]? with
  | none=>rfl
  | some fn=>
   simp only[Option.any_some];cases hfn:Func.goes fn with
   | false=>rfl
   | true=>
    rw[Array.any_eq_false]at h;obtain⟨hlt,he⟩:=Array.getElem?_eq_some_iff.1 hg;have:=h g hlt;rw[he]at this;exact absurd hfn this
 have h2: ∀f,P.goes f=false:=by
  intro f;unfold Program.goes;rw[h,Bool.and_false,Bool.or_false];rw[List.any_eq_false];intro g _;rw[h1 g];simp
 unfold OpenClaim.goesBy Program.goesAt Program.goesFrom;rw[hs];cases P.funcNamed c.func with
 | none=>rfl
 | some f=>simp[h2]
open Go.Shelf Go.RowKit Go.Lib Go.Proofs Go.Sort
set_option maxRecDepth 20000
def Qpu [Dr] {P:Program} {num:Xb} {Γ:Y5} (hD: ¬Dr.d) {g gM:Nat} (hG: ∀w m,Γ.G w m->∃v,w.cell? ⟨gM,0,none⟩=some (.int .i64 v))
  (hC: ∀(s t:ByteArray) (m:Int) (w:World),s.size < 4294967281->w.cell? ⟨gM,0,none⟩=some (.int .i64 m)->
   Calls P g #[.string s,.string t] w fun e w'=>e= .returned (.int .i64 (Lib.index s.data.toList t.data.toList))/\w'=w):VS P num Γ (YS ixO) g:=by
 refine Ru (TM fun args r hr w m β vs hGw hvs hrep=> ?_);unfold ixO at hr;split at hr
 ·rename_i s t;split at hr
  ·rename_i hs;injection hr with hr
   subst hr;obtain⟨u,h0,h1⟩:=hrep 0 _ rfl;obtain⟨u2,h2,h3⟩:=hrep 1 _ rfl;simp only[Qg]at h1 h3;subst h1 h3;rw[IZ hvs h0 h2];obtain⟨v,hv⟩:=hG w m hGw;refine(hC _ _ v w (by rw[TD];exact hs) hv).mono fun e w' he=> ?_;obtain⟨rfl,rfl⟩:=he;rw[XY,XY];exact⟨_,rfl,Below.refl _ _,fun h=>absurd h hD,rfl,fun _ _=>by simp only[Qg],fun _ _ _=>trivial⟩
  ·cases hr
 ·cases hr
def QjS [Dr] {P:Program} {num:Xb} {Γ:Y5} (hD: ¬Dr.d) {g:Nat}
  (hC: ∀(s:ByteArray) (c:UInt8) (w:World),Calls P g #[.string s,.string ⟨#[c]⟩] w fun e w'=>e= .returned (.int .i64 (countByte s.data.toList c))/\w'=w):VS P num Γ (YS Qa0) g:=by
 refine Ru (TM fun args r hr w m β vs hGw hvs hrep=> ?_);unfold Qa0 at hr;split at hr
 ·rename_i s c;injection hr with hr
  subst hr;obtain⟨u,h0,h1⟩:=hrep 0 _ rfl;obtain⟨u2,h2,h3⟩:=hrep 1 _ rfl;simp only[Qg]at h1 h3;subst h1 h3;rw[IZ hvs h0 h2];refine(hC _ c w).mono fun e w' he=> ?_;obtain⟨rfl,rfl⟩:=he;rw[XY];exact⟨_,rfl,Below.refl _ _,fun h=>absurd h hD,rfl,fun _ _=>by simp only[Qg];rfl,fun _ _ _=>trivial⟩
 ·cases hr
def LO (x:Int): ∀l,(K7 x l).Perm (x:: l)
 | []=> .refl _
 | y:: l=>by
  unfold K7;split
  ·exact .refl _
  ·exact((LO x l).cons y).trans (.swap x y l)
def L3: ∀l,(S9 l).Perm l
 | []=> .refl _
 | x:: l=>(LO x _).trans ((L3 l).cons x)
def KA (x:Int): ∀l,l.Pairwise (·<= ·)->(K7 x l).Pairwise (·<= ·)
 | [],_=>by simp[K7]
 | y:: l,h=>by
  obtain⟨h1,h2⟩:=VY.1 h;unfold K7;split
  ·rename_i hxy;refine VY.2 ⟨fun z hz=> ?_,h⟩;rcases ZE.1 hz with rfl | hz
   ·exact hxy
   ·have:=h1 z hz;omega
  ·rename_i hxy;refine VY.2 ⟨fun z hz=> ?_,KA x l h2⟩;rcases ZE.1 ((LO x l).mem_iff.1 hz)with rfl | hz
   ·omega
   ·exact h1 z hz
def KJ: ∀l,(S9 l).Pairwise (·<= ·)
 | []=> .nil
 | x:: l=>KA x _ (KJ l)
def Qll (l:QO): (l.mergeSort fun x y=>decide (x<=y))=S9 l:=by
 have h1:=List.pairwise_mergeSort (le:=fun x y:Int=>decide (x<=y)) (fun a b c h1 h2=>by simp at *;omega) (fun a b=>by simp;omega) l;exact List.Perm.eq_of_pairwise (le:=(·<= ·)) (fun a b _ _ h1 h2=>by omega) (by simpa using h1) (KJ l) ((List.mergeSort_perm l _).trans (L3 l).symm)
def QhK (l:QO): (S9 l).length=l.length:=(L3 l).length_eq
def Mc: ∀{cs:Qh} {zs:QO},SZ cs=some zs->cs=zs.map (AV.int .i64)
 | [],zs,h=>by simp[SZ]at h;subst h;rfl
 | c:: r,zs,h=>by
  cases c <;> try (simp[SZ]at h;done)
  rename_i k n;cases k <;> try (simp[SZ]at h;done)
  simp only[SZ]at h;cases h2:SZ r with
  | none=>rw[h2]at h;cases h
  | some ys=>
   rw[h2]at h;injection h with h
   subst h;rw[Mc h2];rfl
def QgS [Dr] (hD: ¬Dr.d) {P:Program} {num:Xb} {Γ:Y5} {g:Nat}
  (hC: ∀(blk off cap:Nat) (zs:QO) (w:World),Holds (Value.int .i64) w blk off zs.toArray->blk < w.heap.size->zs.length < 4611686018427387904->
   Calls P g #[.slice (some ⟨blk,off,none⟩) zs.length cap] w fun e w'=>
    e= .returned (.tuple #[])/\∃n os,w'=grow (putRow (Value.int .i64) (Sort.ahead w n) blk off (zs.mergeSort fun x y=>decide (x<=y)).toArray) os)
  (hN: ∀(p:Tb) (cap:Nat) (w:World),Calls P g #[.slice p 0 cap] w fun e w'=>e= .returned (.tuple #[])/\w'=w):VS P num Γ GN g:=by
 intro args bs r bs' hc hok w m β ν vs hG hGb hvs hrep hbox hlt;unfold GN at hc;split at hc
 ·rename_i i o sz n;obtain⟨u0,hu0,hr0⟩:=hrep 0 _ rfl;have hvs':=Qf0 hvs hu0;subst hvs';simp only[Qg]at hr0;obtain⟨a,cap,rfl,hcap1,hcap2,hcase⟩:=hr0;have hν: ∀b p,ν b=some p->b < w.heap.size/\(w.heap.size<=b\/∃q,ν b=some q)/\(p.isG=true\/p= .f):=fun b p h=>⟨(hlt b p h).1,.inr ⟨p,h⟩,.inl (hlt b p h).2.2⟩;by_cases hn:n=0
  ·subst hn;rw[Qn rfl]at hc;injection hc with hc
   injection hc with e1 e2
   subst e1 e2;refine(hN a cap w).mono ?_
   rintro e w' ⟨rfl,rfl⟩
   exact⟨.tuple #[],m,β,ν,rfl,Ge.refl β,Z0.refl _ _ _,hbox,rfl,by simp only[Qg];exact⟨_,rfl,rfl,trivial⟩,trivial,hν⟩
  ·rw[Qm hn]at hc;split at hc
   ·rename_i hc1;obtain⟨rfl,hn62⟩:=hc1;cases hbs:bs[i]? with
    | none=>rw[hbs]at hc;cases hc
    | some cs=>
     rw[hbs]at hc;simp only[QC]at hc;split at hc
     ·rename_i hle;cases hdec:SZ ((cs.drop o).take n)with
      | none=>rw[hdec]at hc;cases hc
      | some zs=>
       rw[hdec]at hc;injection hc with hc
       injection hc with e1 e2
       subst e1 e2;rcases hcase with⟨h0,_⟩ | ⟨k,⟨hk,hkm⟩,rfl,hz,_⟩
       ·exact absurd h0 hn
       have hne:cs≠[]:=by intro e;subst e;simp at hle;omega
       obtain⟨cur,et,hcur,⟨hcs1,hcs2⟩,hm0,hnu,hcells⟩:=(hbox.2 i cs k hbs hk hne).1 hkm;obtain⟨curT,hcurT⟩:=(hbox.2 i cs k hbs hk hne).2.2 hkm;have het:et=k.ty:=by
        have:=hcur.symm.trans hcurT;simp only[QG,Obj.cells.injEq]at this;exact this.2.1
       have hzl:zs.length=n:=by
        have:=WF List.length (Mc hdec);simp only[Xr,UW,WQ]at this;omega
       have hzg: ∀j z,zs[j]? =some z->cur[o+j]? =some (.int .i64 z):=by
        intro j z hj;have hjl:j < n:=by
         rcases QT j zs.length with h | h
         ·omega
         ·rw[Q2 h]at hj;cases hj
        have h1: ((cs.drop o).take n)[j]? =some (.int .i64 z):=by rw[Mc hdec,Wr,hj];rfl
        rw[WO hjl,XX]at h1;obtain⟨u,a1,_,a3,_⟩:=hcells _ _ h1;simp only[Qg]at a3;rw[a1,a3]
       have hblk:k.b < w.heap.size:=(hlt _ _ hnu).1;have hH:Holds (Value.int .i64) w k.b o zs.toArray:=by
        intro j hj;have hj':j < zs.length:=by simpa using hj
        have h1:=hzg j _ (Zq hj');refine⟨?_,?_⟩
        ·unfold World.cell?;rw[hcur];rw[VB _ _ (by simpa using hj')];simpa using h1
        ·unfold World.frozen?;rw[hcur];simp
       have hcall:=hC k.b o cap zs w hH hblk (by omega);rw[hzl]at hcall;refine hcall.mono ?_
       rintro e w' ⟨rfl,q,os,rfl⟩
       rw[Qll];have hsl: (S9 zs).length=n:=by rw[QhK,hzl]
       generalize hW:grow (putRow (Value.int .i64) (Sort.ahead w q) k.b o (S9 zs).toArray) os=w' at *;have hheap: ∀b,b < w.heap.size->w'.heap[b]? =if b=k.b then some (.cells (putCells (Value.int .i64) o (S9 zs).toArray cur) et)else w.heap[b]? :=fun b hb=>by
        rw[<- hW];have hsz: (mapBlock (Sort.ahead w q) k.b (putCells (Value.int .i64) o (S9 zs).toArray)).heap.size=w.heap.size:=by simp[mapBlock,Sort.ahead]
        unfold putRow grow;rw[TB (by rw[hsz];exact hb)];simp only[mapBlock,Sort.ahead,T5];by_cases hbk:b=k.b
        ·subst hbk;rw[Qn rfl,Qn rfl,hcur];rfl
        ·rw[Qm (fun e=>hbk e.symm),Qm hbk]
       have hsz':w.heap.size<=w'.heap.size:=by
        rw[<- hW];simp[grow,putRow,mapBlock,Sort.ahead]
       have hoth: ∀b,b < w.heap.size->b≠k.b->w'.heap[b]? =w.heap[b]? :=fun b hb hbk=>by rw[hheap b hb,Qm hbk]
       have hle':Le w m w' m:=by
        intro b j u hu;unfold hg at hu ⊢;split at hu
        ·rename_i hj;rw[Qn hj];have hbk:b≠k.b:=fun e=>by subst e;omega
         have hb:b < w.heap.size:=by
          rcases QT b w.heap.size with h1 | h1
          ·exact h1
          ·exfalso;unfold World.cell? at hu;rw[VW h1]at hu;cases hu
         unfold World.cell? at hu ⊢;rw[hoth b hb hbk];exact hu
        ·cases hu
       have keep: ∀p,p≠ .g i->PG w m ν w' m ν id p:=fun p hp b hb=>by
        refine⟨hoth b (hlt b p hb).1 fun e=> ?_,rfl,hb⟩;subst e;rw[hnu]at hb;injection hb with hb;exact hp hb.symm
       refine⟨.tuple #[],m,β,ν,rfl,Ge.refl β,⟨?_,?_,?_,hsz',fun b hb hx=>⟨hoth b hb fun e=>hx ⟨.g i,by rw[e];exact hnu⟩,rfl⟩,hle',fun hd=>absurd hd hD⟩,⟨?_,?_⟩,rfl,by simp only[Qg];exact⟨_,rfl,rfl,trivial⟩,trivial,fun b p h=>⟨PT (hlt b p h).1 hsz',.inr ⟨p,h⟩,.inl (hlt b p h).2.2⟩⟩
       ·rw[<- hW];rfl
       ·rw[<- hW];rfl
       ·rw[<- hW];rfl
       ·rw[La];exact hbox.1
       ·intro i2 cs2 k2 h1 h2 h3;by_cases hi:i2=i
        ·subst hi;have hk2:k2=k:=by rw[hk]at h2;injection h2 with h2;exact h2.symm
         subst hk2;have hil:i2 < bs.length:=by
          rcases QT i2 bs.length with h | h
          ·exact h
          ·rw[Q2 h]at hbs;cases hbs
         rw[Xq,Qn rfl,Qn hil]at h1;injection h1 with h1
         subst h1;have hnew:=hheap _ hblk;rw[Qn rfl]at hnew;refine⟨fun _=> ?_,fun e=>(by rw[hkm]at e;cases e),fun _=>⟨_,by rw[<- het];exact hnew⟩⟩;refine⟨_,et,hnew,⟨?_,?_⟩,hm0,hnu,?_⟩
         ·simp[putCells,hcs1]
         ·simp only[put,Zk,Xr,UW,WQ,hsl];omega
         ·intro j c hj;have hpc: ∀x:Value,cur[j]? =some x->(putCells (Value.int .i64) o (S9 zs).toArray cur)[j]? =some (if o<=j/\j < o+n then(.int .i64 (S9 zs).toArray[j - o]!)else x):=by
           intro x hx;simp only[putCells,Array.getElem?_mapIdx,hx,QS,WP,hsl]
          have hto: (cs.take o).length=o:=by rw[Xr];omega
          by_cases hin:o<=j/\j < o+n
          ·obtain⟨rr,rfl⟩: ∃rr,j=o+rr:=⟨j - o,by omega⟩;have hr:rr < n:=by omega
           have hjc: ((S9 zs).map (AV.int .i64))[rr]? =some c:=by
            simp only[put]at hj;rw[ZY,YQ (by omega),hto,Nc,ZH (by simp[hsl];omega)]at hj;exact hj
           rw[Wr,Zq (by omega)]at hjc;injection hjc with hjc
           subst hjc;refine⟨.int .i64 ((S9 zs)[rr]'(by omega)),?_,rfl,by simp only[Qg],trivial⟩;rw[hpc _ (Wp (show o+rr < cur.size by omega)),Qn hin,Nc,VB _ _ (by simp;omega)];simp
          ·have hjc:cs[j]? =some c:=by
            simp only[put]at hj;by_cases hjo:j < o
            ·rw[ZY,ZH (by omega),WO hjo]at hj;exact hj
            ·rw[YQ (by rw[Zk,WQ];omega),Zk,hto,XX,WQ,hsl]at hj;have:o+n+ (j - (o+n))=j:=by omega
             rw[this]at hj;exact hj
           obtain⟨u,g1,g2,g3,g4⟩:=hcells j c hjc;refine⟨u,?_,g2,Zd (Ge.refl β) hle' _ _ g3,WB (θ:=id) (keep _ (by simp)) g4⟩;rw[hpc u g1,Qm hin]
        ·rw[Xq,Qm (fun e=>hi e.symm)]at h1;have hB:=hbox.2 i2 cs2 k2 h1 h2 h3;exact WA (Ge.refl β) hle' (keep _ (by simp[hi])) (fun j=>keep _ (by simp)) hB
     ·cases hc
   ·cases hc
 ·cases hc
end Go.Am
