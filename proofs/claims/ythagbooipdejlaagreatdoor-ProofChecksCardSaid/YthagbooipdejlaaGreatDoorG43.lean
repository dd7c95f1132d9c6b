/-
  PfM, Jf, AmPs.
-/
import Derived.Test.YthagbooipdejlaaGreatDoorG27
import Derived.Test.YthagbooipdejlaaGreatDoorG28
import Derived.Test.YthagbooipdejlaaGreatDoorG29
import Derived.Test.YthagbooipdejlaaGreatDoorG30
import Derived.Test.YthagbooipdejlaaGreatDoorG31
import Derived.Test.YthagbooipdejlaaGreatDoorG32
import Derived.Test.YthagbooipdejlaaGreatDoorG33
import Derived.Test.YthagbooipdejlaaGreatDoorG34
import Derived.Test.YthagbooipdejlaaGreatDoorG35
import Derived.Test.YthagbooipdejlaaGreatDoorG36
import Derived.Test.YthagbooipdejlaaGreatDoorG37
import Derived.Test.YthagbooipdejlaaGreatDoorG38
import Derived.Test.YthagbooipdejlaaGreatDoorG39
import Derived.Test.YthagbooipdejlaaGreatDoorG40
import Derived.Test.YthagbooipdejlaaGreatDoorG41
import Derived.Test.YthagbooipdejlaaGreatDoorG42
import Derived.Test.YthagbooipdejlaaGreatDoorG26
import Derived.JoinedOf
import Derived.Test.YthagbooipdejlaaGreatDoorG12
import Derived.Test.YthagbooipdejlaaGreatDoorG09
import Derived.Shelf.Sort.Plain
import Derived.Shelf.Slices.In.SortNone
set_option linter.all false
open Go.Am.F
namespace Go.Am
def Qo9:R4 tb AA:=trivial
def Qpa:=Q6 Qo9 QoZ
def Qpb:=Q6 Qpa Qo0
def Qpc:=Q6 Qpb Qo1
def Qpd:=Q6 Qpc Qo2
def Qpe:=Q6 Qpd Qo3
def Qpf:=Q6 Qpe Qo4
def Qpg:=Q6 Qpf Qo5
def Qph:=Q6 Qpg Qo6
def Qpi:=Q6 Qph Qo7
def Ql4:=Q6 Qpi Qo8
def Ql5:=Q6 Ql4 QkK
def Ql6:=Q6 Ql5 QkL
def Ql7:=Q6 Ql6 QkM
def Ql8:=Q6 Ql7 QkN
def Ql9:=Q6 Ql8 QkO
def Qma:=Q6 Ql9 QkP
def Qmb:=Q6 Qma QkQ
def Qmc:=Q6 Qmb QkR
def Qmd:=Q6 Qmc QkS
def Qme:=Q6 Qmd QkT
def Qmf:=Q6 Qme QkU
def Qmg:=Q6 Qmf QkV
def Qmh:=Q6 Qmg QkW
def Qmi:=Q6 Qmh QkX
def Qmj:=Q6 Qmi QkY
def Qmk:=Q6 Qmj QkZ
def Qml:=Q6 Qmk Qk0
def Qmm:=Q6 Qml Qk1
def Qmn:=Q6 Qmm Qk2
def Qmo:=Q6 Qmn Qk3
def Qmp:=Q6 Qmo Qk4
def Qmq:=Q6 Qmp Qk5
def Qmr:=Q6 Qmq Qk6
def Qms:=Q6 Qmr Qk7
def Qmt:=Q6 Qms Qk8
def Qmu:=Q6 Qmt Qk9
def Qmv:=Q6 Qmu Qla
def Qmw:=Q6 Qmv Qlb
def Qmx:=Q6 Qmw Qlc
def Qmy:=Q6 Qmx Qld
def Qmz:=Q6 Qmy Qle
def QmA:=Q6 Qmz Qlf
def QmB:=Q6 QmA Qlg
def QmC:=Q6 QmB Qlh
def QmD:=Q6 QmC Qli
def QmE:=Q6 QmD Qlj
def QmF:=Q6 QmE Qlk
def QmG:=Q6 QmF Qll
def QmH:=Q6 QmG Qlm
def QmI:=Q6 QmH Qln
def QmJ:=Q6 QmI Qlo
def QmK:=Q6 QmJ Qlp
def QmL:=Q6 QmK Qlq
def QmM:=Q6 QmL Qlr
def QmN:=Q6 QmM Qls
def QmO:=Q6 QmN Qlt
def QmP:=Q6 QmO Qlu
def QmQ:=Q6 QmP Qlv
def QmR:=Q6 QmQ Qlw
def QmS:=Q6 QmR Qlx
def QmT:=Q6 QmS Qly
def QmU:=Q6 QmT Qlz
def QmV:=Q6 QmU QlA
def QmW:=Q6 QmV QlB
def QmX:=Q6 QmW QlC
def QmY:=Q6 QmX QlD
def QmZ:=Q6 QmY QlE
def Qm0:=Q6 QmZ QlF
def Qm1:=Q6 Qm0 QlG
def Qm2:=Q6 Qm1 QlH
def Qm3:=Q6 Qm2 QlI
def Qm4:=Q6 Qm3 QlJ
def Qm5:=Q6 Qm4 QlK
def Qm6:=Q6 Qm5 QlL
def Qm7:=Q6 Qm6 QlM
def Qm8:=Q6 Qm7 QlN
def Qm9:=Q6 Qm8 QlO
def Qna:=Q6 Qm9 QlP
def Qnb:=Q6 Qna QlQ
def Qnc:=Q6 Qnb QlR
def Qnd:=Q6 Qnc QlS
def Qne:=Q6 Qnd QlT
def Qnf:=Q6 Qne QlU
def Qng:=Q6 Qnf QlV
def Qnh:=Q6 Qng QlW
def Qni:=Q6 Qnh QlX
def Qnj:=Q6 Qni QlY
def Qnk:=Q6 Qnj QlZ
def Qnl:=Q6 Qnk Ql0
def Qnm:=Q6 Qnl Ql1
def Qnn:=Q6 Qnm Ql2
def Az:LH tb Ql3 400 633 [] []=some (.bool true,[]):=by kernel_rfl
def Qbr:call tb 633 [] []=some (.bool true,[]):=Kh Qnn _ _ _ _ _ Az
def aa {a b:Bool} (h:a=true) (k:b=true): (a && b)=true:=by rw[h,k];rfl
def QdS {P:Program} {f:FuncId} {fn:Func} {s:ChangeSpec} {c:OpenClaim} (h1:c.wf (OpenSpec.ofChange s)=true) (h2:laidOutB P=true) (h3:mapsRowed P=true)
  (h4:fn.params.all (P.readableRec ·)=true) (h5:namedTie P c.named s.vars=true) (h6: (c.stops == [])=true) (h7: (P.stops == [])=true) (h8: (c.knobs == [])=true) (h9: (P.stopKnobs == [])=true)
  (k1: (c.inPlace == P.inPlace f)=true) (k2: (c.unfollowed == P.unfollowed f)=true) (k3: (c.recurses == P.recurses f)=true) (k4: (c.named == P.varsNamed f)=true)
  (i1: (c.maps == (fn.params.toList ++ s.plain.varTypes P).any (P.mapsRec ·))=true) (i2: (c.ifaces == (fn.params.toList ++ s.plain.varTypes P).any (P.ifacesRec ·))=true) (i3: (c.mapsOut == P.mapsAmong fn.resultTypes.toList)=true)
  (i4: (c.loops == (fn.params.toList ++ s.plain.varTypes P).any (P.loopsFrom ·))=true) (i5: (c.wideKeys == (fn.params.toList ++ s.plain.varTypes P ++ fn.resultTypes.toList).any (P.wideKeysFrom ·))=true)
  (i6:s.vars.all (P.varReadable ·)=true) (i7:fn.resultTypes.all (fun t=>P.readableRec t && decide (t < P.types.size))=true) (i8: (c.ifacesOut == fn.resultTypes.toList.any (P.ifacesRec ·))=true)
  (i9: (c.loopsOut == fn.resultTypes.toList.any (P.loopsFrom ·))=true) (m1: (c.plainKeys == P.plainKeys)=true) (m2:c.shortTexts.isNone=true) (m3:P.stopsHeard=true) (m4:P.mayEnter=true)
  (m5: (c.lifted == P.liftsFinal)=true) (m6: (P.make == some c.make)=true)
  (m7: (c.kinds == (if c.domain.isEmpty then []else fn.params.toList.map fun t=>match P.underlying t with | some (.int k)=>some k | _=>none))=true) (m8: (c.pinned == c.pinnedBy)=true)
  (m9: (c.veiled == (fn.params.toList ++ s.plain.varTypes P ++ fn.resultTypes.toList).any (P.veiledRec ·))=true) (n1:c.veiledFits P fn.params.toList (fn.params.toList ++ s.plain.varTypes P ++ fn.resultTypes.toList)=true):
  joinedFacts P f fn s c=true:=by
 exact(aa (aa (aa (aa (aa (aa (aa (aa (aa (aa (aa (aa (aa (aa (aa (aa (aa (aa (aa (aa (aa (aa (aa (aa (aa (aa (aa (aa (aa (aa (aa h1 h2) h3) h4) h5) h6) h7) h8) h9) k1) k2) k3) k4) i1) i2) i3) i4) i5) i6) i7) i8) i9) m1) m2) m3) m4) m5) m6) m7) m8) m9) n1)
open Go.Shelf Go.RowKit Go.Lib Go.Proofs Go.Sort
set_option maxRecDepth 20000
def Qou [Dr] {P:Program} {num:Y3} {Γ:YW} (hD: ¬Dr.d) {g gM:Nat} (hG: ∀w m,Γ.G w m->∃v,w.cell? ⟨gM,0,none⟩=some (.int .i64 v))
  (hC: ∀(s t:ByteArray) (m:Int) (w:World),s.size < 4294967281->w.cell? ⟨gM,0,none⟩=some (.int .i64 m)->
   Calls P g #[.string s,.string t] w fun e w'=>e= .returned (.int .i64 (Lib.index s.data.toList t.data.toList))/\w'=w):VJ P num Γ (YL ixO) g:=by
 refine Rb (Tt fun args r hr w m β vs hGw hvs hrep=> ?_);unfold ixO at hr;split at hr
 ·rename_i s t;split at hr
  ·rename_i hs;injection hr with hr
   subst hr;obtain⟨u,h0,h1⟩:=hrep 0 _ rfl;obtain⟨u2,h2,h3⟩:=hrep 1 _ rfl;simp only[Qg]at h1 h3;subst h1 h3;rw[Il hvs h0 h2];obtain⟨v,hv⟩:=hG w m hGw;refine(hC _ _ v w (by rw[Tj];exact hs) hv).mono fun e w' he=> ?_;obtain⟨rfl,rfl⟩:=he;rw[XO,XO];exact⟨_,rfl,Below.refl _ _,fun h=>absurd h hD,rfl,fun _ _=>by simp only[Qg],fun _ _ _=>trivial⟩
  ·cases hr
 ·cases hr
def QiX [Dr] {P:Program} {num:Y3} {Γ:YW} (hD: ¬Dr.d) {g:Nat}
  (hC: ∀(s:ByteArray) (c:UInt8) (w:World),Calls P g #[.string s,.string ⟨#[c]⟩] w fun e w'=>e= .returned (.int .i64 (countByte s.data.toList c))/\w'=w):VJ P num Γ (YL Qal) g:=by
 refine Rb (Tt fun args r hr w m β vs hGw hvs hrep=> ?_);unfold Qal at hr;split at hr
 ·rename_i s c;injection hr with hr
  subst hr;obtain⟨u,h0,h1⟩:=hrep 0 _ rfl;obtain⟨u2,h2,h3⟩:=hrep 1 _ rfl;simp only[Qg]at h1 h3;subst h1 h3;rw[Il hvs h0 h2];refine(hC _ c w).mono fun e w' he=> ?_;obtain⟨rfl,rfl⟩:=he;rw[XO];exact⟨_,rfl,Below.refl _ _,fun h=>absurd h hD,rfl,fun _ _=>by simp only[Qg];rfl,fun _ _ _=>trivial⟩
 ·cases hr
def Ll (x:Int): ∀l,(Kv x l).Perm (x:: l)
 | []=> .refl _
 | y:: l=>by
  unfold Kv;split
  ·exact .refl _
  ·exact((Ll x l).cons y).trans (.swap x y l)
def Ly: ∀l,(SM l).Perm l
 | []=> .refl _
 | x:: l=>(Ll x _).trans ((Ly l).cons x)
def L1 (x:Int): ∀l,l.Pairwise (·<= ·)->(Kv x l).Pairwise (·<= ·)
 | [],_=>by simp[Kv]
 | y:: l,h=>by
  obtain⟨h1,h2⟩:=VP.1 h;unfold Kv;split
  ·rename_i hxy;refine VP.2 ⟨fun z hz=> ?_,h⟩;rcases Zt.1 hz with rfl | hz
   ·exact hxy
   ·have:=h1 z hz;omega
  ·rename_i hxy;refine VP.2 ⟨fun z hz=> ?_,L1 x l h2⟩;rcases Zt.1 ((Ll x l).mem_iff.1 hz)with rfl | hz
   ·omega
   ·exact h1 z hz
def L8: ∀l,(SM l).Pairwise (·<= ·)
 | []=> .nil
 | x:: l=>L1 x _ (L8 l)
def Qkn (l:Zf): (l.mergeSort fun x y=>decide (x<=y))=SM l:=by
 have h1:=List.pairwise_mergeSort (le:=fun x y:Int=>decide (x<=y)) (fun a b c h1 h2=>by simp at *;omega) (fun a b=>by simp;omega) l;exact List.Perm.eq_of_pairwise (le:=(·<= ·)) (fun a b _ _ h1 h2=>by omega) (by simpa using h1) (L8 l) ((List.mergeSort_perm l _).trans (Ly l).symm)
def QgP (l:Zf): (SM l).length=l.length:=(Ly l).length_eq
def ND: ∀{cs:Qh} {zs:Zf},SC cs=some zs->cs=zs.map (AV.int .i64)
 | [],zs,h=>by simp[SC]at h;subst h;rfl
 | c:: r,zs,h=>by
  cases c <;> try (simp[SC]at h;done)
  rename_i k n;cases k <;> try (simp[SC]at h;done)
  simp only[SC]at h;cases h2:SC r with
  | none=>rw[h2]at h;cases h
  | some ys=>
   rw[h2]at h;injection h with h
   subst h;rw[ND h2];rfl
def QfY [Dr] (hD: ¬Dr.d) {P:Program} {num:Y3} {Γ:YW} {g:Nat}
  (hC: ∀(blk off cap:Nat) (zs:Zf) (w:World),Holds (Value.int .i64) w blk off zs.toArray->blk < w.heap.size->zs.length < 4611686018427387904->
   Calls P g #[.slice (some ⟨blk,off,none⟩) zs.length cap] w fun e w'=>
    e= .returned (.tuple #[])/\∃n os,w'=grow (putRow (Value.int .i64) (Sort.ahead w n) blk off (zs.mergeSort fun x y=>decide (x<=y)).toArray) os)
  (hN: ∀(p:UR) (cap:Nat) (w:World),Calls P g #[.slice p 0 cap] w fun e w'=>e= .returned (.tuple #[])/\w'=w):VJ P num Γ Gf g:=by
 intro args bs r bs' hc hok w m β ν vs hG hGb hvs hrep hbox hlt;unfold Gf at hc;split at hc
 ·rename_i i o sz n;obtain⟨u0,hu0,hr0⟩:=hrep 0 _ rfl;have hvs':=Qe9 hvs hu0;subst hvs';simp only[Qg]at hr0;obtain⟨a,cap,rfl,hcap1,hcap2,hcase⟩:=hr0;have hν: ∀b p,ν b=some p->b < w.heap.size/\(w.heap.size<=b\/∃q,ν b=some q)/\(p.isG=true\/p= .f):=fun b p h=>⟨(hlt b p h).1,.inr ⟨p,h⟩,.inl (hlt b p h).2.2⟩;by_cases hn:n=0
  ·subst hn;rw[Qn rfl]at hc;injection hc with hc
   injection hc with e1 e2
   subst e1 e2;refine(hN a cap w).mono ?_
   rintro e w' ⟨rfl,rfl⟩
   exact⟨.tuple #[],m,β,ν,rfl,Ge.refl β,ZR.refl _ _ _,hbox,rfl,by simp only[Qg];exact⟨_,rfl,rfl,trivial⟩,trivial,hν⟩
  ·rw[Qm hn]at hc;split at hc
   ·rename_i hc1;obtain⟨rfl,hn62⟩:=hc1;cases hbs:bs[i]? with
    | none=>rw[hbs]at hc;cases hc
    | some cs=>
     rw[hbs]at hc;simp only[QB]at hc;split at hc
     ·rename_i hle;cases hdec:SC ((cs.drop o).take n)with
      | none=>rw[hdec]at hc;cases hc
      | some zs=>
       rw[hdec]at hc;injection hc with hc
       injection hc with e1 e2
       subst e1 e2;rcases hcase with⟨h0,_⟩ | ⟨k,⟨hk,hkm⟩,rfl,hz,_⟩
       ·exact absurd h0 hn
       have hne:cs≠[]:=by intro e;subst e;simp at hle;omega
       obtain⟨cur,et,hcur,⟨hcs1,hcs2⟩,hm0,hnu,hcells⟩:=(hbox.2 i cs k hbs hk hne).1 hkm;obtain⟨curT,hcurT⟩:=(hbox.2 i cs k hbs hk hne).2.2 hkm;have het:et=k.ty:=by
        have:=hcur.symm.trans hcurT;simp only[QD,Obj.cells.injEq]at this;exact this.2.1
       have hzl:zs.length=n:=by
        have:=Wu List.length (ND hdec);simp only[Xi,UC,WH]at this;omega
       have hzg: ∀j z,zs[j]? =some z->cur[o+j]? =some (.int .i64 z):=by
        intro j z hj;have hjl:j < n:=by
         rcases QT j zs.length with h | h
         ·omega
         ·rw[Q0 h]at hj;cases hj
        have h1: ((cs.drop o).take n)[j]? =some (.int .i64 z):=by rw[ND hdec,W0,hj];rfl
        rw[WE hjl,XL]at h1;obtain⟨u,a1,_,a3,_⟩:=hcells _ _ h1;simp only[Qg]at a3;rw[a1,a3]
       have hblk:k.b < w.heap.size:=(hlt _ _ hnu).1;have hH:Holds (Value.int .i64) w k.b o zs.toArray:=by
        intro j hj;have hj':j < zs.length:=by simpa using hj
        have h1:=hzg j _ (Zw hj');refine⟨?_,?_⟩
        ·unfold World.cell?;rw[hcur];rw[Vr _ _ (by simpa using hj')];simpa using h1
        ·unfold World.frozen?;rw[hcur];simp
       have hcall:=hC k.b o cap zs w hH hblk (by omega);rw[hzl]at hcall;refine hcall.mono ?_
       rintro e w' ⟨rfl,q,os,rfl⟩
       rw[Qkn];have hsl: (SM zs).length=n:=by rw[QgP,hzl]
       generalize hW:grow (putRow (Value.int .i64) (Sort.ahead w q) k.b o (SM zs).toArray) os=w' at *;have hheap: ∀b,b < w.heap.size->w'.heap[b]? =if b=k.b then some (.cells (putCells (Value.int .i64) o (SM zs).toArray cur) et)else w.heap[b]? :=fun b hb=>by
        rw[<- hW];have hsz: (mapBlock (Sort.ahead w q) k.b (putCells (Value.int .i64) o (SM zs).toArray)).heap.size=w.heap.size:=by simp[mapBlock,Sort.ahead]
        unfold putRow grow;rw[Tf (by rw[hsz];exact hb)];simp only[mapBlock,Sort.ahead,TG];by_cases hbk:b=k.b
        ·subst hbk;rw[Qn rfl,Qn rfl,hcur];rfl
        ·rw[Qm (fun e=>hbk e.symm),Qm hbk]
       have hsz':w.heap.size<=w'.heap.size:=by
        rw[<- hW];simp[grow,putRow,mapBlock,Sort.ahead]
       have hoth: ∀b,b < w.heap.size->b≠k.b->w'.heap[b]? =w.heap[b]? :=fun b hb hbk=>by rw[hheap b hb,Qm hbk]
       have hle':Le w m w' m:=by
        intro b j u hu;unfold hg at hu ⊢;split at hu
        ·rename_i hj;rw[Qn hj];have hbk:b≠k.b:=fun e=>by subst e;omega
         have hb:b < w.heap.size:=by
          rcases QT b w.heap.size with h1 | h1
          ·exact h1
          ·exfalso;unfold World.cell? at hu;rw[VN h1]at hu;cases hu
         unfold World.cell? at hu ⊢;rw[hoth b hb hbk];exact hu
        ·cases hu
       have keep: ∀p,p≠ .g i->Pe w m ν w' m ν id p:=fun p hp b hb=>by
        refine⟨hoth b (hlt b p hb).1 fun e=> ?_,rfl,hb⟩;subst e;rw[hnu]at hb;injection hb with hb;exact hp hb.symm
       refine⟨.tuple #[],m,β,ν,rfl,Ge.refl β,⟨?_,?_,?_,hsz',fun b hb hx=>⟨hoth b hb fun e=>hx ⟨.g i,by rw[e];exact hnu⟩,rfl⟩,hle',fun hd=>absurd hd hD⟩,⟨?_,?_⟩,rfl,by simp only[Qg];exact⟨_,rfl,rfl,trivial⟩,trivial,fun b p h=>⟨Pn (hlt b p h).1 hsz',.inr ⟨p,h⟩,.inl (hlt b p h).2.2⟩⟩
       ·rw[<- hW];rfl
       ·rw[<- hW];rfl
       ·rw[<- hW];rfl
       ·rw[MD];exact hbox.1
       ·intro i2 cs2 k2 h1 h2 h3;by_cases hi:i2=i
        ·subst hi;have hk2:k2=k:=by rw[hk]at h2;injection h2 with h2;exact h2.symm
         subst hk2;have hil:i2 < bs.length:=by
          rcases QT i2 bs.length with h | h
          ·exact h
          ·rw[Q0 h]at hbs;cases hbs
         rw[Xh,Qn rfl,Qn hil]at h1;injection h1 with h1
         subst h1;have hnew:=hheap _ hblk;rw[Qn rfl]at hnew;refine⟨fun _=> ?_,fun e=>(by rw[hkm]at e;cases e),fun _=>⟨_,by rw[<- het];exact hnew⟩⟩;refine⟨_,et,hnew,⟨?_,?_⟩,hm0,hnu,?_⟩
         ·simp[putCells,hcs1]
         ·simp only[put,Zc,Xi,UC,WH,hsl];omega
         ·intro j c hj;have hpc: ∀x:Value,cur[j]? =some x->(putCells (Value.int .i64) o (SM zs).toArray cur)[j]? =some (if o<=j/\j < o+n then(.int .i64 (SM zs).toArray[j - o]!)else x):=by
           intro x hx;simp only[putCells,Array.getElem?_mapIdx,hx,QS,WG,hsl]
          have hto: (cs.take o).length=o:=by rw[Xi];omega
          by_cases hin:o<=j/\j < o+n
          ·obtain⟨rr,rfl⟩: ∃rr,j=o+rr:=⟨j - o,by omega⟩;have hr:rr < n:=by omega
           have hjc: ((SM zs).map (AV.int .i64))[rr]? =some c:=by
            simp only[put]at hj;rw[ZW,Xc (by omega),hto,OE,Z8 (by simp[hsl];omega)]at hj;exact hj
           rw[W0,Zw (by omega)]at hjc;injection hjc with hjc
           subst hjc;refine⟨.int .i64 ((SM zs)[rr]'(by omega)),?_,rfl,by simp only[Qg],trivial⟩;rw[hpc _ (Wf (show o+rr < cur.size by omega)),Qn hin,OE,Vr _ _ (by simp;omega)];simp
          ·have hjc:cs[j]? =some c:=by
            simp only[put]at hj;by_cases hjo:j < o
            ·rw[ZW,Z8 (by omega),WE hjo]at hj;exact hj
            ·rw[Xc (by rw[Zc,WH];omega),Zc,hto,XL,WH,hsl]at hj;have:o+n+ (j - (o+n))=j:=by omega
             rw[this]at hj;exact hj
           obtain⟨u,g1,g2,g3,g4⟩:=hcells j c hjc;refine⟨u,?_,g2,Q9 (Ge.refl β) hle' _ _ g3,Wq (θ:=id) (keep _ (by simp)) g4⟩;rw[hpc u g1,Qm hin]
        ·rw[Xh,Qm (fun e=>hi e.symm)]at h1;have hB:=hbox.2 i2 cs2 k2 h1 h2 h3;exact Wp (Ge.refl β) hle' (keep _ (by simp[hi])) (fun j=>keep _ (by simp)) hB
     ·cases hc
   ·cases hc
 ·cases hc
end Go.Am
