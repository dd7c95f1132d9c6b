/-
  PfM, Jf, AmPs.
-/
import Derived.Test.YthpfccfeelhpeaaGreatDoorG19
import Derived.Test.YthpfccfeelhpeaaGreatDoorG20
import Derived.Test.YthpfccfeelhpeaaGreatDoorG21
import Derived.Test.YthpfccfeelhpeaaGreatDoorG22
import Derived.Test.YthpfccfeelhpeaaGreatDoorG23
import Derived.Test.YthpfccfeelhpeaaGreatDoorG24
import Derived.Test.YthpfccfeelhpeaaGreatDoorG25
import Derived.Test.YthpfccfeelhpeaaGreatDoorG26
import Derived.Test.YthpfccfeelhpeaaGreatDoorG27
import Derived.Test.YthpfccfeelhpeaaGreatDoorG28
import Derived.Test.YthpfccfeelhpeaaGreatDoorG29
import Derived.Test.YthpfccfeelhpeaaGreatDoorG30
import Derived.Test.YthpfccfeelhpeaaGreatDoorG31
import Derived.Test.YthpfccfeelhpeaaGreatDoorG32
import Derived.Test.YthpfccfeelhpeaaGreatDoorG33
import Derived.Test.YthpfccfeelhpeaaGreatDoorG34
import Derived.Test.YthpfccfeelhpeaaGreatDoorG18
import Derived.JoinedOf
import Derived.Test.YthpfccfeelhpeaaGreatDoorG12
import Derived.Test.YthpfccfeelhpeaaGreatDoorG09
import Derived.Shelf.Sort.Plain
import Derived.Shelf.Slices.In.SortNone
set_option linter.all false
open Go.Am.F
namespace Go.Am
def QcF:V7 tb KT:=trivial
def QcG:=QE QcF Qcv
def QcH:=QE QcG Qcw
def QcI:=QE QcH Qcx
def QcJ:=QE QcI Qcy
def QcK:=QE QcJ Qcz
def QcL:=QE QcK QcA
def QcM:=QE QcL QcB
def QcN:=QE QcM QcC
def QcO:=QE QcN QcD
def AG:=QE QcO QcE
def AH:=QE AG Bd
def AJ:=QE AH Be
def AK:=QE AJ Bf
def AL:=QE AK Bg
def AM:=QE AL Bh
def AN:=QE AM Bi
def AP:=QE AN Bj
def AQ:=QE AP Bk
def AR:=QE AQ Bl
def AU:=QE AR Bm
def AW:=QE AU Bn
def AX:=QE AW Bo
def AY:=QE AX Bp
def AZ:=QE AY Bq
def A0:=QE AZ Br
def A3:=QE A0 Bs
def A4:=QE A3 Bt
def A5:=QE A4 Bu
def A6:=QE A5 Bv
def A7:=QE A6 Bw
def A8:=QE A7 Bx
def A9:=QE A8 Bz
def Qaa:=QE A9 BA
def Qab:=QE Qaa BB
def Qac:=QE Qab BC
def Qad:=QE Qac BD
def Qae:=QE Qad BE
def Qaf:=QE Qae BF
def Qag:=QE Qaf BG
def Qah:=QE Qag BH
def Qai:=QE Qah BI
def Qaj:=QE Qai BJ
def Qak:=QE Qaj BK
def Qal:=QE Qak BL
def Qam:=QE Qal BM
def Qan:=QE Qam BN
def Qao:=QE Qan BO
def Qap:=QE Qao BP
def Qaq:=QE Qap BQ
def Qar:=QE Qaq BR
def Qas:=QE Qar BS
def Qat:=QE Qas BT
def Qau:=QE Qat BU
def Qav:=QE Qau BV
def Qaw:=QE Qav BW
def Qax:=QE Qaw BX
def Qay:=QE Qax BZ
def Qaz:=QE Qay B4
def QaA:=QE Qaz B5
def QaB:=QE QaA B6
def QaC:=QE QaB B7
def QaD:=QE QaC B8
def QaE:=QE QaD B9
def QaF:=QE QaE Aa
def QaG:=QE QaF Ab
def QaH:=QE QaG Ac
def QaI:=QE QaH Ad
def QaJ:=QE QaI Ae
def QaK:=QE QaJ Af
def QaL:=QE QaK Ag
def QaM:=QE QaL Ah
def QaN:=QE QaM Ai
def QaO:=QE QaN Aj
def QaP:=QE QaO Ak
def QaQ:=QE QaP Al
def QaR:=QE QaQ An
def QaS:=QE QaR Ao
def QaT:=QE QaS Ap
def QaU:=QE QaT Aq
def QaV:=QE QaU Ar
def QaW:=QE QaV As
def QaX:=QE QaW Au
def QaY:=QE QaX Av
def QaZ:=QE QaY Aw
def Qa0:=QE QaZ Ax
def Qa1:=QE Qa0 Ay
def Qa2:=QE Qa1 Az
def Qa3:=QE Qa2 AA
def Qa4:=QE Qa3 AB
def Qa5:=QE Qa4 AD
def Qa6:=QE Qa5 AE
def KS:S5 tb AF 400 633 [] []=some (.bool true,[]):=by kernel_rfl
def Ic:call tb 633 [] []=some (.bool true,[]):=Rw Qa6 _ _ _ _ _ KS
def aa {a b:Bool} (h:a=true) (k:b=true): (a && b)=true:=by rw[h,k];rfl
def Gx {P:Program} {f:FuncId} {fn:Func} {s:ChangeSpec} {c:OpenClaim} (h1:c.wf (OpenSpec.ofChange s)=true) (h2:laidOutB P=true) (h3:mapsRowed P=true)
  (h4:fn.params.all (P.readableRec ·)=true) (h5:namedTie P c.named s.vars=true) (h6: (c.stops == [])=true) (h7: (P.stops == [])=true) (h8: (c.knobs == [])=true) (h9: (P.stopKnobs == [])=true)
  (k1: (c.inPlace == P.inPlace f)=true) (k2: (c.unfollowed == P.unfollowed f)=true) (k3: (c.recurses == P.recurses f)=true) (k4: (c.named == P.varsNamed f)=true)
  (i1: (c.maps == (fn.params.toList ++ s.plain.varTypes P).any (P.mapsRec ·))=true) (i2: (c.ifaces == (fn.params.toList ++ s.plain.varTypes P).any (P.ifacesRec ·))=true) (i3: (c.mapsOut == P.mapsAmong fn.resultTypes.toList)=true)
  (i4: (c.loops == (fn.params.toList ++ s.plain.varTypes P).any (P.loopsFrom ·))=true) (i5: (c.wideKeys == (fn.params.toList ++ s.plain.varTypes P ++ fn.resultTypes.toList).any (P.wideKeysFrom ·))=true)
  (i6:s.vars.all (P.varReadable ·)=true) (i7:fn.resultTypes.all (fun t=>P.readableRec t && decide (t < P.types.size))=true) (i8: (c.ifacesOut == fn.resultTypes.toList.any (P.ifacesRec ·))=true)
  (i9: (c.loopsOut == fn.resultTypes.toList.any (P.loopsFrom ·))=true) (m1: (c.plainKeys == P.plainKeys)=true) (m2:c.shortTexts.isNone=true) (m3:P.stopsHeard=true) (m4:P.mayEnter=true)
  (m5: (c.lifted == P.liftsFinal)=true) (m6: (P.make == some c.make)=true)
  (m7: (c.kinds == (if c.domain.isEmpty then []else fn.params.toList.map fun t=>match P.underlying t with | some (.int k)=>some k | _=>none))=true) (m8: (c.pinned == c.pinnedBy)=true)
  (m9: (c.veiled == (fn.params.toList ++ s.plain.varTypes P ++ fn.resultTypes.toList).any (P.veiledRec ·))=true) (n1:c.veiledFits P fn.params.toList (fn.params.toList ++ s.plain.varTypes P ++ fn.resultTypes.toList)=true):
  joinedFacts P f fn s c=true:=by
 exact(aa (aa (aa (aa (aa (aa (aa (aa (aa (aa (aa (aa (aa (aa (aa (aa (aa (aa (aa (aa (aa (aa (aa (aa (aa (aa (aa (aa (aa (aa (aa h1 h2) h3) h4) h5) h6) h7) h8) h9) k1) k2) k3) k4) i1) i2) i3) i4) i5) i6) i7) i8) i9) m1) m2) m3) m4) m5) m6) m7) m8) m9) n1)
open Go.Shelf Go.RowKit Go.Lib Go.Proofs Go.Sort
set_option maxRecDepth 20000
def Qcb [Dr] {P:Program} {num:ZH} {Γ:ZA} (hD: ¬Dr.d) {g gM:Nat} (hG: ∀w m,Γ.G w m->∃v,w.cell? ⟨gM,0,none⟩=some (.int .i64 v))
  (hC: ∀(s t:ByteArray) (m:Int) (w:World),s.size < 4294967281->w.cell? ⟨gM,0,none⟩=some (.int .i64 m)->
   Calls P g #[.string s,.string t] w fun e w'=>e= .returned (.int .i64 (Lib.index s.data.toList t.data.toList))/\w'=w):Y7 P num Γ (Zw ixO) g:=by
 refine Vp (Wl fun args r hr w m β vs hGw hvs hrep=> ?_);unfold ixO at hr;split at hr
 ·rename_i s t;split at hr
  ·rename_i hs;injection hr with hr
   subst hr;obtain⟨u,h0,h1⟩:=hrep 0 _ rfl;obtain⟨u2,h2,h3⟩:=hrep 1 _ rfl;simp only[Qa]at h1 h3;subst h1 h3;rw[PC hvs h0 h2];obtain⟨v,hv⟩:=hG w m hGw;refine(hC _ _ v w (by rw[We];exact hs) hv).mono fun e w' he=> ?_;obtain⟨rfl,rfl⟩:=he;rw[Z4,Z4];exact⟨_,rfl,Below.refl _ _,fun h=>absurd h hD,rfl,fun _ _=>by simp only[Qa],fun _ _ _=>trivial⟩
  ·cases hr
 ·cases hr
def DL [Dr] {P:Program} {num:ZH} {Γ:ZA} (hD: ¬Dr.d) {g:Nat}
  (hC: ∀(s:ByteArray) (c:UInt8) (w:World),Calls P g #[.string s,.string ⟨#[c]⟩] w fun e w'=>e= .returned (.int .i64 (countByte s.data.toList c))/\w'=w):Y7 P num Γ (Zw Je) g:=by
 refine Vp (Wl fun args r hr w m β vs hGw hvs hrep=> ?_);unfold Je at hr;split at hr
 ·rename_i s c;injection hr with hr
  subst hr;obtain⟨u,h0,h1⟩:=hrep 0 _ rfl;obtain⟨u2,h2,h3⟩:=hrep 1 _ rfl;simp only[Qa]at h1 h3;subst h1 h3;rw[PC hvs h0 h2];refine(hC _ c w).mono fun e w' he=> ?_;obtain⟨rfl,rfl⟩:=he;rw[Z4];exact⟨_,rfl,Below.refl _ _,fun h=>absurd h hD,rfl,fun _ _=>by simp only[Qa];rfl,fun _ _ _=>trivial⟩
 ·cases hr
def SM (x:Int): ∀l,(WB x l).Perm (x:: l)
 | []=> .refl _
 | y:: l=>by
  unfold WB;split
  ·exact .refl _
  ·exact((SM x l).cons y).trans (.swap x y l)
def SV: ∀l,(ZR l).Perm l
 | []=> .refl _
 | x:: l=>(SM x _).trans ((SV l).cons x)
def Rm (x:Int): ∀l,l.Pairwise (·<= ·)->(WB x l).Pairwise (·<= ·)
 | [],_=>by simp[WB]
 | y:: l,h=>by
  obtain⟨h1,h2⟩:=Yo.1 h;unfold WB;split
  ·rename_i hxy;refine Yo.2 ⟨fun z hz=> ?_,h⟩;rcases ZK.1 hz with rfl | hz
   ·exact hxy
   ·have:=h1 z hz;omega
  ·rename_i hxy;refine Yo.2 ⟨fun z hz=> ?_,Rm x l h2⟩;rcases ZK.1 ((SM x l).mem_iff.1 hz)with rfl | hz
   ·omega
   ·exact h1 z hz
def Rs: ∀l,(ZR l).Pairwise (·<= ·)
 | []=> .nil
 | x:: l=>Rm x _ (Rs l)
def CT (l:Qv): (l.mergeSort fun x y=>decide (x<=y))=ZR l:=by
 have h1:=List.pairwise_mergeSort (le:=fun x y:Int=>decide (x<=y)) (fun a b c h1 h2=>by simp at *;omega) (fun a b=>by simp;omega) l;exact List.Perm.eq_of_pairwise (le:=(·<= ·)) (fun a b _ _ h1 h2=>by omega) (by simpa using h1) (Rs l) ((List.mergeSort_perm l _).trans (SV l).symm)
def ER (l:Qv): (ZR l).length=l.length:=(SV l).length_eq
def TI: ∀{cs:Qd} {zs:Qv},X4 cs=some zs->cs=zs.map (AV.int .i64)
 | [],zs,h=>by simp[X4]at h;subst h;rfl
 | c:: r,zs,h=>by
  cases c <;> try (simp[X4]at h;done)
  rename_i k n;cases k <;> try (simp[X4]at h;done)
  simp only[X4]at h;cases h2:X4 r with
  | none=>rw[h2]at h;cases h
  | some ys=>
   rw[h2]at h;injection h with h
   subst h;rw[TI h2];rfl
def F4 [Dr] (hD: ¬Dr.d) {P:Program} {num:ZH} {Γ:ZA} {g:Nat}
  (hC: ∀(blk off cap:Nat) (zs:Qv) (w:World),Holds (Value.int .i64) w blk off zs.toArray->blk < w.heap.size->zs.length < 4611686018427387904->
   Calls P g #[.slice (some ⟨blk,off,none⟩) zs.length cap] w fun e w'=>
    e= .returned (.tuple #[])/\∃n os,w'=grow (putRow (Value.int .i64) (Sort.ahead w n) blk off (zs.mergeSort fun x y=>decide (x<=y)).toArray) os)
  (hN: ∀(p:XR) (cap:Nat) (w:World),Calls P g #[.slice p 0 cap] w fun e w'=>e= .returned (.tuple #[])/\w'=w):Y7 P num Γ S9 g:=by
 intro args bs r bs' hc hok w m β ν vs hG hGb hvs hrep hbox hlt;unfold S9 at hc;split at hc
 ·rename_i i o sz n;obtain⟨u0,hu0,hr0⟩:=hrep 0 _ rfl;have hvs':=Fv hvs hu0;subst hvs';simp only[Qa]at hr0;obtain⟨a,cap,rfl,hcap1,hcap2,hcase⟩:=hr0;have hν: ∀b p,ν b=some p->b < w.heap.size/\(w.heap.size<=b\/∃q,ν b=some q)/\(p.isG=true\/p= .f):=fun b p h=>⟨(hlt b p h).1,.inr ⟨p,h⟩,.inl (hlt b p h).2.2⟩;by_cases hn:n=0
  ·subst hn;rw[Qj rfl]at hc;injection hc with hc
   injection hc with e1 e2
   subst e1 e2;refine(hN a cap w).mono ?_
   rintro e w' ⟨rfl,rfl⟩
   exact⟨.tuple #[],m,β,ν,rfl,Ge.refl β,Q1.refl _ _ _,hbox,rfl,by simp only[Qa];exact⟨_,rfl,rfl,trivial⟩,trivial,hν⟩
  ·rw[Qi hn]at hc;split at hc
   ·rename_i hc1;obtain⟨rfl,hn62⟩:=hc1;cases hbs:bs[i]? with
    | none=>rw[hbs]at hc;cases hc
    | some cs=>
     rw[hbs]at hc;simp only[Qn]at hc;split at hc
     ·rename_i hle;cases hdec:X4 ((cs.drop o).take n)with
      | none=>rw[hdec]at hc;cases hc
      | some zs=>
       rw[hdec]at hc;injection hc with hc
       injection hc with e1 e2
       subst e1 e2;rcases hcase with⟨h0,_⟩ | ⟨k,⟨hk,hkm⟩,rfl,hz,_⟩
       ·exact absurd h0 hn
       have hne:cs≠[]:=by intro e;subst e;simp at hle;omega
       obtain⟨cur,et,hcur,⟨hcs1,hcs2⟩,hm0,hnu,hcells⟩:=(hbox.2 i cs k hbs hk hne).1 hkm;obtain⟨curT,hcurT⟩:=(hbox.2 i cs k hbs hk hne).2.2 hkm;have het:et=k.ty:=by
        have:=hcur.symm.trans hcurT;simp only[Qm,Obj.cells.injEq]at this;exact this.2.1
       have hzl:zs.length=n:=by
        have:=WU List.length (TI hdec);simp only[YG,Vu,Xb]at this;omega
       have hzg: ∀j z,zs[j]? =some z->cur[o+j]? =some (.int .i64 z):=by
        intro j z hj;have hjl:j < n:=by
         rcases QC j zs.length with h | h
         ·omega
         ·rw[QF h]at hj;cases hj
        have h1: ((cs.drop o).take n)[j]? =some (.int .i64 z):=by rw[TI hdec,Y2,hj];rfl
        rw[Y1 hjl,Yn]at h1;obtain⟨u,a1,_,a3,_⟩:=hcells _ _ h1;simp only[Qa]at a3;rw[a1,a3]
       have hblk:k.b < w.heap.size:=(hlt _ _ hnu).1;have hH:Holds (Value.int .i64) w k.b o zs.toArray:=by
        intro j hj;have hj':j < zs.length:=by simpa using hj
        have h1:=hzg j _ (Ze hj');refine⟨?_,?_⟩
        ·unfold World.cell?;rw[hcur];rw[Xy _ _ (by simpa using hj')];simpa using h1
        ·unfold World.frozen?;rw[hcur];simp
       have hcall:=hC k.b o cap zs w hH hblk (by omega);rw[hzl]at hcall;refine hcall.mono ?_
       rintro e w' ⟨rfl,q,os,rfl⟩
       rw[CT];have hsl: (ZR zs).length=n:=by rw[ER,hzl]
       generalize hW:grow (putRow (Value.int .i64) (Sort.ahead w q) k.b o (ZR zs).toArray) os=w' at *;have hheap: ∀b,b < w.heap.size->w'.heap[b]? =if b=k.b then some (.cells (putCells (Value.int .i64) o (ZR zs).toArray cur) et)else w.heap[b]? :=fun b hb=>by
        rw[<- hW];have hsz: (mapBlock (Sort.ahead w q) k.b (putCells (Value.int .i64) o (ZR zs).toArray)).heap.size=w.heap.size:=by simp[mapBlock,Sort.ahead]
        unfold putRow grow;rw[Wb (by rw[hsz];exact hb)];simp only[mapBlock,Sort.ahead,Ww];by_cases hbk:b=k.b
        ·subst hbk;rw[Qj rfl,Qj rfl,hcur];rfl
        ·rw[Qi (fun e=>hbk e.symm),Qi hbk]
       have hsz':w.heap.size<=w'.heap.size:=by
        rw[<- hW];simp[grow,putRow,mapBlock,Sort.ahead]
       have hoth: ∀b,b < w.heap.size->b≠k.b->w'.heap[b]? =w.heap[b]? :=fun b hb hbk=>by rw[hheap b hb,Qi hbk]
       have hle':Le w m w' m:=by
        intro b j u hu;unfold hg at hu ⊢;split at hu
        ·rename_i hj;rw[Qj hj];have hbk:b≠k.b:=fun e=>by subst e;omega
         have hb:b < w.heap.size:=by
          rcases QC b w.heap.size with h1 | h1
          ·exact h1
          ·exfalso;unfold World.cell? at hu;rw[Xa h1]at hu;cases hu
         unfold World.cell? at hu ⊢;rw[hoth b hb hbk];exact hu
        ·cases hu
       have keep: ∀p,p≠ .g i->Ue w m ν w' m ν id p:=fun p hp b hb=>by
        refine⟨hoth b (hlt b p hb).1 fun e=> ?_,rfl,hb⟩;subst e;rw[hnu]at hb;injection hb with hb;exact hp hb.symm
       refine⟨.tuple #[],m,β,ν,rfl,Ge.refl β,⟨?_,?_,?_,hsz',fun b hb hx=>⟨hoth b hb fun e=>hx ⟨.g i,by rw[e];exact hnu⟩,rfl⟩,hle',fun hd=>absurd hd hD⟩,⟨?_,?_⟩,rfl,by simp only[Qa];exact⟨_,rfl,rfl,trivial⟩,trivial,fun b p h=>⟨Uh (hlt b p h).1 hsz',.inr ⟨p,h⟩,.inl (hlt b p h).2.2⟩⟩
       ·rw[<- hW];rfl
       ·rw[<- hW];rfl
       ·rw[<- hW];rfl
       ·rw[Sn];exact hbox.1
       ·intro i2 cs2 k2 h1 h2 h3;by_cases hi:i2=i
        ·subst hi;have hk2:k2=k:=by rw[hk]at h2;injection h2 with h2;exact h2.symm
         subst hk2;have hil:i2 < bs.length:=by
          rcases QC i2 bs.length with h | h
          ·exact h
          ·rw[QF h]at hbs;cases hbs
         rw[YM,Qj rfl,Qj hil]at h1;injection h1 with h1
         subst h1;have hnew:=hheap _ hblk;rw[Qj rfl]at hnew;refine⟨fun _=> ?_,fun e=>(by rw[hkm]at e;cases e),fun _=>⟨_,by rw[<- het];exact hnew⟩⟩;refine⟨_,et,hnew,⟨?_,?_⟩,hm0,hnu,?_⟩
         ·simp[putCells,hcs1]
         ·simp only[put,YF,YG,Vu,Xb,hsl];omega
         ·intro j c hj;have hpc: ∀x:Value,cur[j]? =some x->(putCells (Value.int .i64) o (ZR zs).toArray cur)[j]? =some (if o<=j/\j < o+n then(.int .i64 (ZR zs).toArray[j - o]!)else x):=by
           intro x hx;simp only[putCells,Array.getElem?_mapIdx,hx,Qt,Yy,hsl]
          have hto: (cs.take o).length=o:=by rw[YG];omega
          by_cases hin:o<=j/\j < o+n
          ·obtain⟨rr,rfl⟩: ∃rr,j=o+rr:=⟨j - o,by omega⟩;have hr:rr < n:=by omega
           have hjc: ((ZR zs).map (AV.int .i64))[rr]? =some c:=by
            simp only[put]at hj;rw[Xo,ZV (by omega),hto,S4,Zt (by simp[hsl];omega)]at hj;exact hj
           rw[Y2,Ze (by omega)]at hjc;injection hjc with hjc
           subst hjc;refine⟨.int .i64 ((ZR zs)[rr]'(by omega)),?_,rfl,by simp only[Qa],trivial⟩;rw[hpc _ (Ye (show o+rr < cur.size by omega)),Qj hin,S4,Xy _ _ (by simp;omega)];simp
          ·have hjc:cs[j]? =some c:=by
            simp only[put]at hj;by_cases hjo:j < o
            ·rw[Xo,Zt (by omega),Y1 hjo]at hj;exact hj
            ·rw[ZV (by rw[YF,Xb];omega),YF,hto,Yn,Xb,hsl]at hj;have:o+n+ (j - (o+n))=j:=by omega
             rw[this]at hj;exact hj
           obtain⟨u,g1,g2,g3,g4⟩:=hcells j c hjc;refine⟨u,?_,g2,QH (Ge.refl β) hle' _ _ g3,Yl (θ:=id) (keep _ (by simp)) g4⟩;rw[hpc u g1,Qi hin]
        ·rw[YM,Qi (fun e=>hi e.symm)]at h1;have hB:=hbox.2 i2 cs2 k2 h1 h2 h3;exact Yk (Ge.refl β) hle' (keep _ (by simp[hi])) (fun j=>keep _ (by simp)) hB
     ·cases hc
   ·cases hc
 ·cases hc
end Go.Am
