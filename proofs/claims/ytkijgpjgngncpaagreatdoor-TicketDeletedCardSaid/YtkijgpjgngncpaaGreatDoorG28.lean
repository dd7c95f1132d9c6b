/-
  AmSort5, AmGrow, AmIdx.
-/
import Derived.Test.YtkijgpjgngncpaaGreatDoorG27
import Derived.Test.YtkijgpjgngncpaaGreatDoorG13
import Derived.Test.YtkijgpjgngncpaaGreatDoorG12
import Derived.Shelf.Spec.SlicesGrow
import Derived.Test.YtkijgpjgngncpaaGreatDoorG09
set_option linter.all false
namespace Go.Am
open Go.Shelf Go.RowKit Go.Lib Go.Proofs Go.Sort
set_option maxRecDepth 8000
theorem Jp: ∀{l:List Tm} {r:Nat} {c:AV},(encTs l).flatten[r]? =some c→∃t,l[r / 4]? =some t∧(Qb t)[r % 4]? =some c
 | [],r,c,h=>by simp[encTs]at h
 | x:: l,r,c,h=>by
  simp only[encTs,List.flatten_cons]at h;by_cases hr:r < 4
  ·rw[List.getElem?_append_left (by rw[Zw];exact hr)]at h;exact⟨x,by rw[Nat.div_eq_of_lt hr];rfl,by rw[Nat.mod_eq_of_lt hr];exact h⟩
  ·rw[List.getElem?_append_right (by rw[Zw];omega),Zw]at h;obtain⟨t,h1,h2⟩:=Jp h;refine⟨t,?_,?_⟩
   ·rw[show r / 4=(r - 4) / 4+1 by omega];simpa using h1
   ·rw[show r % 4=(r - 4) % 4 by omega];exact h2
theorem Qam [Dr] (hD: ¬Dr.d) {P:Program} {num:Nat→Option Nat} {Γ:Yi} {id:Nat} {ρ:Ren} (L:SlLaysF0.n6 P ρ) (hid:ρ.f 6=id) (aE: ∀w,(isAgg (ρ.t 24)).run P w= .ok true w) (zE: ∀w,(Go.sizeOf (ρ.t 24)).run P w= .ok 4 w)
  (hgC: ∀g,num 30=some g→Mq P num g∧∀args w,(callFunc g args).run P w= .ok (.enter g args) w):WX P num Γ SQ id:=by
 intro args bs r bs' hc hok w m β ν vs hG hGb hvs hrep hbox hlt;subst hid;unfold SQ at hc;split at hc
 ·rename_i i o sz n;obtain⟨u0,hu0,hr0⟩:=hrep 0 _ rfl;obtain⟨u1,hu1,hr1⟩:=hrep 1 _ rfl;have hvs':=Ku hvs hu0 hu1;subst hvs';simp only[Qc]at hr0 hr1;obtain⟨a,cap,rfl,hcap1,hcap2,hcase⟩:=hr0;obtain⟨g,us,hg1,rfl,hus,_⟩:=hr1;have hus0:us= #[]:=Array.eq_empty_of_size_eq_zero (by simpa using hus);subst hus0;obtain⟨hC,eg⟩:=hgC g hg1;have hν: ∀b p,ν b=some p→b < w.heap.size∧(w.heap.size≤b∨∃q,ν b=some q)∧(p.isG=true∨p= .f):=fun b p h=>⟨(hlt b p h).1,.inr ⟨p,h⟩,.inl (hlt b p h).2.2⟩;by_cases hn:n=0
  ·subst hn;rw[if_pos rfl]at hc;injection hc with hc
   injection hc with e1 e2
   subst e1 e2;refine(AnyF.slices_SortFunc_none L a cap _ w).mono ?_
   rintro e w' ⟨rfl,rfl⟩
   exact⟨.tuple #[],m,β,ν,rfl,Ge.refl β,Zl.refl _ _ _,hbox,rfl,by simp only[Qc];exact⟨_,rfl,rfl,trivial⟩,trivial,hν⟩
  ·rw[if_neg hn]at hc;split at hc
   ·rename_i hc1;obtain⟨rfl,hn62⟩:=hc1;cases hbs:bs[i]? with
    | none=>rw[hbs]at hc;cases hc
    | some cs=>
     rw[hbs]at hc;simp only[Option.bind_some]at hc;split at hc
     ·rename_i hle;cases hdec:decE (QY cs o 4 n)with
      | none=>rw[hdec]at hc;cases hc
      | some ts=>
       rw[hdec]at hc;simp only[Option.bind_some]at hc;split at hc
       ·rename_i hall;injection hc with hc
        injection hc with e1 e2
        subst e1 e2;rcases hcase with⟨h0,_⟩ | ⟨k,⟨hk,hkm⟩,rfl,hz,_⟩
        ·exact absurd h0 hn
        have hne:cs≠[]:=by intro e;subst e;simp at hle;omega
        obtain⟨cur,et,hcur,⟨hcs1,hcs2⟩,hm0,hnu,hcells⟩:=(hbox.2 i cs k hbs hk hne).1 hkm;have hmass: ∀t∈ts,t.mass < big:=fun t ht=>by simpa using List.all_eq_true.1 hall t ht
        obtain⟨d,hdl,hdt,hdv⟩:=QcY (cur:=cur) hle (fun j c hj=>by obtain⟨u,a1,a2,a3,_⟩:=hcells j c hj;exact⟨u,a1,a2,a3⟩) hdec hmass;have hd0:0 < d.length:=by omega
        letI:Inhabited (El num β w m):=⟨d[0]⟩
        have hblk:k.b < w.heap.size:=(hlt _ _ hnu).1;have hsz:d.toArray.size=n:=by simp[hdl]
        have hH:HoldsK (El.v (num:=num) (β:=β) (w:=w) (m:=m)) 4 w k.b o d.toArray:=by
         intro j hj;rw[size_flatK,hsz]at hj;have hj4:j / 4 < n:=by omega
         have he:d[j / 4]? =some d[j / 4]:=List.getElem?_eq_getElem (by omega);have h1:=hdv (j / 4) _ (j % 4) he (by omega);have h2:o+j / 4*4+j % 4=o+j:=by omega
         rw[h2]at h1;rw[get_flatK _ _ _ _ (by rw[hsz];exact hj)];have h3:d.toArray[j / 4]! =d[j / 4]:=by rw[getElem!_pos _ _ (by rw[hsz];exact hj4)];simp
         rw[h3];have h4:d[j / 4].v[j % 4]? =some d[j / 4].v[j % 4]! :=by
          rw[getElem!_pos _ _ (by rw[El.len];omega)];exact List.getElem?_eq_getElem _
         rw[h4]at h1;refine⟨?_,?_⟩
         ·unfold World.cell?;rw[hcur];simpa using h1
         ·unfold World.frozen?;rw[hcur];simp
        have hcall:=AnyQ.slices_SortFunc L 4 aE zE El.v El.len El.one (fun x y=>Qh x.t y.t) Qdg g #[] k.b o cap d.toArray w eg (Bz hC hm0) hH hblk (by rw[hsz];exact hn62);rw[hsz]at hcall;refine hcall.mono ?_
        rintro e w' ⟨rfl,d',q,os,hP,hS,rfl⟩
        have hd't: (d'.toList.map (·.t))=Zt ts:=by
         refine Hg ?_ ?_
         ·rw[← hdt];have hp:=hP.2.2;have e1:d'.extract 0 n=d':=by rw[← hsz,← hP.1];exact Array.extract_size
          have e2:d.toArray.extract 0 n=d.toArray:=by rw[← hsz];exact Array.extract_size
          rw[e1,e2]at hp;exact hp.map _
         ·rw[List.pairwise_iff_getElem];intro x y hx hy hxy;have hd's:d'.size=n:=by rw[hP.1,hsz]
          simp at hx hy;have:=hS x y (Nat.zero_le _) hxy (by omega);rw[getElem!_pos d' y (by omega),getElem!_pos d' x (by omega)]at this;simp only[ltOf,decide_eq_false_iff_not]at this;simp only[List.getElem_map,Array.getElem_toList];exact this
        have hle':=FW (w:=w) (m:=m) (El.v (num:=num) (β:=β) (w:=w) (m:=m)) 4 (q:=q) (off:=o) d' os hm0;have hsz':=Qdf (El.v (num:=num) (β:=β) (w:=w) (m:=m)) 4 w k.b o q d' os;have hheap:=Gh (El.v (num:=num) (β:=β) (w:=w) (m:=m)) 4 w k.b o q d' os;have hd's:d'.size=n:=by rw[hP.1,hsz]
        generalize hW:sortWorldK (El.v (num:=num) (β:=β) (w:=w) (m:=m)) 4 w k.b o q d' os=w' at *;have hoth: ∀b,b < w.heap.size→b≠k.b→w'.heap[b]? =w.heap[b]? :=fun b hb hbk=>by rw[hheap b hb,if_neg hbk]
        have keep: ∀p,p≠ .g i→SV w m ν w' m ν id p:=fun p hp b hb=>by
         refine⟨hoth b (hlt b p hb).1 fun e=> ?_,rfl,hb⟩;subst e;rw[hnu]at hb;injection hb with hb;exact hp hb.symm
        refine⟨.tuple #[],m,β,ν,rfl,Ge.refl β,⟨?_,?_,?_,hsz',fun b hb hx=>⟨hoth b hb fun e=>hx ⟨.g i,by rw[e];exact hnu⟩,rfl⟩,hle',fun hd=>absurd hd hD⟩,⟨?_,?_⟩,rfl,by simp only[Qc];exact⟨_,rfl,rfl,trivial⟩,trivial,fun b p h=>⟨Nat.lt_of_lt_of_le (hlt b p h).1 hsz',.inr ⟨p,h⟩,.inl (hlt b p h).2.2⟩⟩
        ·rw[← hW];rfl
        ·rw[← hW];rfl
        ·rw[← hW];rfl
        ·rw[List.length_set];exact hbox.1
        ·intro i2 cs2 k2 h1 h2 h3;by_cases hi:i2=i
         ·subst hi;have hk2:k2=k:=by rw[hk]at h2;injection h2 with h2;exact h2.symm
          subst hk2;have hil:i2 < bs.length:=by
           rcases Nat.lt_or_ge i2 bs.length with h | h
           ·exact h
           ·rw[List.getElem?_eq_none h]at hbs;cases hbs
          rw[List.getElem?_set,if_pos rfl,if_pos hil]at h1;injection h1 with h1
          subst h1;refine⟨fun _=> ?_,fun e=>by rw[hkm]at e;cases e⟩;have hfl: (encTs (Zt ts)).flatten.length=n*4:=by
           have: ∀l:List Tm,(encTs l).flatten.length=l.length*4:=by
            intro l
            induction l with
            | nil=>simp[encTs]
            | cons x l ih=>simp only[encTs,List.flatten_cons,List.length_append,Zw,ih,List.length_cons];omega
           rw[this,XE,RH hdec,Xc]
          refine⟨putCells id o (flatK El.v 4 d') cur,et,?_,⟨?_,?_⟩,hm0,hnu,?_⟩
          ·rw[hheap _ hblk,if_pos rfl,hcur];rfl
          ·simp[putCells,hcs1]
          ·simp only[put,List.length_append,List.length_take,List.length_drop,hfl];omega
          ·intro j c hj;have hFs: (flatK (El.v (num:=num) (β:=β) (w:=w) (m:=m)) 4 d').size=n*4:=by rw[size_flatK,hd's]
           have hpc: ∀x:Value,cur[j]? =some x→(putCells id o (flatK (El.v (num:=num) (β:=β) (w:=w) (m:=m)) 4 d') cur)[j]? =some (if o≤j∧j < o+n*4 then(flatK (El.v (num:=num) (β:=β) (w:=w) (m:=m)) 4 d')[j - o]! else x):=by
            intro x hx;simp only[putCells,Array.getElem?_mapIdx,hx,Option.map_some,hFs,id]
           have hto: (cs.take o).length=o:=by rw[List.length_take];omega
           by_cases hin:o≤j∧j < o+n*4
           ·obtain⟨rr,rfl⟩: ∃rr,j=o+rr:=⟨j - o,by omega⟩;have hr:rr < n*4:=by omega
            have hjc: (encTs (Zt ts)).flatten[rr]? =some c:=by
             simp only[put]at hj;rw[List.append_assoc,List.getElem?_append_right (by omega),hto,Nat.add_sub_cancel_left,List.getElem?_append_left (by omega)]at hj;exact hj
            obtain⟨t,ht,hcc⟩:=Jp hjc;have hcu: ∃x,cur[o+rr]? =some x:=⟨cur[o+rr]'(by omega),Array.getElem?_eq_getElem _⟩;obtain⟨x,hx⟩:=hcu;have hq:rr / 4 < d'.size:=by omega
            have hdt':d'[rr / 4].t=t:=by
             rw[← hd't,List.getElem?_map]at ht;rw[show d'.toList[rr / 4]? =some d'[rr / 4] by rw[Array.getElem?_toList];exact Array.getElem?_eq_getElem hq]at ht;simpa using ht
            have hrep':=d'[rr / 4].rep;rw[hdt']at hrep';simp only[Qc]at hrep';obtain⟨us,hus1,hus2,hus3⟩:=hrep';injection hus1 with hus1
            subst hus1;obtain⟨u,g1,g2,g3⟩:=(Zd _ _ _).1 hus3 _ c hcc;have hu: (flatK (El.v (num:=num) (β:=β) (w:=w) (m:=m)) 4 d')[rr]! =u:=by
             rw[get_flatK _ _ _ _ (by rw[hd's];exact hr),getElem!_pos d' _ hq];have h4:rr % 4 < d'[rr / 4].v.length:=by rw[El.len];omega
             have hgp:d'[rr / 4].v[rr % 4]! =d'[rr / 4].v[rr % 4]:=getElem!_pos d'[rr / 4].v (rr % 4) h4;rw[hgp];simp at g1;rw[List.getElem?_eq_getElem h4]at g1;injection g1
            refine⟨u,?_,g2,QS (Ge.refl β) hle' _ _ g3,?_⟩
            ·rw[hpc x hx,if_pos hin,Nat.add_sub_cancel_left,hu]
            ·have h4:rr % 4 < 4:=by omega
             rw[Qz]at hcc
             match hm4:rr % 4,h4,hcc with
             | 0,_,hcc=>simp at hcc;subst hcc;exact trivial
             | 1,_,hcc=>simp at hcc;subst hcc;exact trivial
             | 2,_,hcc=>simp at hcc;subst hcc;exact trivial
             | 3,_,hcc=>simp at hcc;subst hcc;exact trivial
           ·have hjc:cs[j]? =some c:=by
             simp only[put]at hj;by_cases hjo:j < o
             ·rw[List.append_assoc,List.getElem?_append_left (by omega),List.getElem?_take_of_lt hjo]at hj;exact hj
             ·rw[List.getElem?_append_right (by rw[List.length_append];omega),List.length_append,hto,List.getElem?_drop,hfl]at hj;have:o+n*4+ (j - (o+n*4))=j:=by omega
              rw[this]at hj;exact hj
            obtain⟨u,g1,g2,g3,g4⟩:=hcells j c hjc;refine⟨u,?_,g2,QS (Ge.refl β) hle' _ _ g3,Xz (θ:=id) (keep _ (by simp)) g4⟩;rw[hpc u g1,if_neg hin]
         ·rw[List.getElem?_set,if_neg (fun e=>hi e.symm)]at h1;have hB:=hbox.2 i2 cs2 k2 h1 h2 h3;exact Xy (Ge.refl β) hle' (keep _ (by simp[hi])) (fun j=>keep _ (by simp)) hB
       ·cases hc
     ·cases hc
   ·cases hc
 ·cases hc
theorem Qal {P:Program} {num:Nat→Option Nat} {g0:Nat} (hE:XJ P num) (hn:num 30=some g0) (hC:Mq P num g0): ∀g,num 30=some g→Mq P num g∧∀args w,(callFunc g args).run P w= .ok (.enter g args) w:=by
 intro g hg;rw[hn]at hg;injection hg with hg
 subst hg;obtain⟨fn,h1,h2,h3⟩:=hE 30 g0 hn;exact⟨hC,fun args w=>Lh h1 h2 h3⟩
end Go.Am
namespace Go.Am
open Go.Shelf Go.RowKit Go.Lib Go.Proofs
set_option maxRecDepth 8000
theorem Qax [Dr] {P:Program} {num:Nat→Option Nat} {Γ:Yi} (hD: ¬Dr.d) {g:Nat} (hC: ∀(s cs:ByteArray) (w:World),s.size≤9223372036854775807→cs.size < 4294967281→(∀(j:Nat) b,cs.data.toList[j]? =some b→b.toNat < 128)→
  Calls P g #[.string s,.string cs] w fun e w'=>e= .returned (.string ⟨(Lib.trimS s.data.toList cs.data.toList).toArray⟩)∧Below w.heap.size w w'):WX P num Γ (Z2 Mo) g:=by
 refine Sk (Uu fun args r hr w m β vs hG hvs hrep=> ?_);unfold Mo at hr;split at hr
 ·rename_i s cs;split at hr
  ·rename_i hcond;injection hr with hr
   subst hr;simp only[Bool.and_eq_true,decide_eq_true_eq]at hcond;obtain⟨⟨c1,c2⟩,c3⟩:=hcond;obtain⟨u,h0,h1⟩:=hrep 0 _ rfl;obtain⟨u2,h2,h3⟩:=hrep 1 _ rfl;simp only[Qc]at h1 h3;subst h1 h3;rw[Ku hvs h0 h2];have asc: ∀l:List UInt8,l.all (· < 128)=true→∀(j:Nat) b,(⟨l.toArray⟩:ByteArray).data.toList[j]? =some b→b.toNat < 128:=fun l hl j b hj=>by
    rw[Yv]at hj;rw[List.all_eq_true]at hl;have:=hl b (List.mem_of_getElem? hj);have h2:=of_decide_eq_true this;rw[UInt8.lt_iff_toNat_lt]at h2;exact h2
   refine(hC _ _ w (by rw[WA];omega) (by rw[WA];omega) (asc cs c1)).mono fun e w' he=> ?_;obtain⟨rfl,hB⟩:=he;rw[Yv,Yv];exact⟨_,rfl,hB,fun h=>absurd h hD,rfl,fun _ _=>by simp only[Qc],fun _ _ _=>trivial⟩
  ·cases hr
 ·cases hr
theorem B9 [Dr] {P:Program} {num:Nat→Option Nat} {Γ:Yi} (hD: ¬Dr.d) {ρ:Ren} {id sz bytes:Nat} (L:Lays8.n4 P ρ) (hid:ρ.f 4=id) {i0:TypeInfo} {z:Value} (hi0:P.info? (ρ.t 25)=some i0) (hz0:i0.zero=some z) (hsz:i0.size=sz) (hby:i0.bytes=bytes) (hs0:0 < sz)
  (hzc:z.cells.size=sz):WX P num Γ (Ow bytes sz) id:=by
 intro args bs r bs' hc hok w m β ν vs hG hGb hvs hrep hbox hlt;subst hid hsz hby;unfold Ow at hc;split at hc
 ·rename_i i o n;split at hc
  ·rename_i hcond;injection hc with hc
   injection hc with e1 e2
   subst e1 e2;obtain⟨c1,c2,c3⟩:=hcond;obtain⟨u0,hu0,hr0⟩:=hrep 0 _ rfl;obtain⟨u1,hu1,hr1⟩:=hrep 1 _ rfl;simp only[Qc]at hr0 hr1;subst hr1;obtain⟨a,cap,rfl,hcap1,hcap2,hcase⟩:=hr0;have hcap:cap=0:=by
    rcases hcase with⟨_,h,_⟩ | ⟨_,_,_,_,h⟩
    ·exact h
    ·omega
   subst hcap;rw[Ku hvs hu0 hu1];obtain⟨q,rfl⟩: ∃q:Nat,n=(q:Int):=⟨n.toNat,by omega⟩;simp only[Int.toNat_natCast]at c2;have hν: ∀b p,ν b=some p→b < w.heap.size∧(w.heap.size≤b∨∃q,ν b=some q)∧(p.isG=true∨p= .f):=fun b p h=>⟨(hlt b p h).1,.inr ⟨p,h⟩,.inl (hlt b p h).2.2⟩;by_cases hq:q=0
   ·subst hq;refine(Any8.slices_Grow_room L a 0 0 0 w (Nat.le_refl _) (by omega) (by omega) (by omega)).mono ?_
    rintro e w' ⟨rfl,rfl⟩
    refine⟨.slice a 0 0,m,β,ν,rfl,Ge.refl β,Zl.refl _ _ _,hbox,rfl,?_,.inl ⟨a,rfl⟩,hν⟩;simp only[Qc];exact⟨a,0,0,rfl,rfl,Nat.le_refl _,Nat.zero_le _,.inl trivial⟩
   ·refine(Any8.slices_Grow_grow L i0 z hi0 hz0 hs0 a 0 0 q [] w (Nat.le_refl _) (by omega) (by simpa using c2) (by omega) (by simp) (fun _=>rfl) (fun _ _ j v h=>by simp at h)).mono ?_
    rintro e w' ⟨rfl,rfl⟩
    have hge:=grownCap_ge w (0+q) 0 (ρ.t 25);have hmx:=grownCap_le_maxLen w (0+q) 0 (ρ.t 25) (by unfold maxLen;omega);generalize grownCap w (0+q) 0 (ρ.t 25)=G at *;obtain⟨R,hR⟩: ∃R:Array Value,R=([]:List Value).toArray ++ Builtin.zeroCells z.cells (0+q - 0)++ Builtin.zeroCells z.cells (G - (0+q)):=⟨_,rfl⟩;have hRs:R.size=G*i0.size:=by
     rw[hR];simp only[Array.size_append,Vt _ i0.size _ hzc,List.size_toArray,List.length_nil];rw[Nat.zero_add,← Nat.add_mul];congr 1;omega
    rw[← hR];have hheap: (w.drew.alloc (.cells R (ρ.t 25))).heap=w.heap.push (.cells R (ρ.t 25)):=rfl;have hdr: (w.drew.alloc (.cells R (ρ.t 25))).os=w.os∧(w.drew.alloc (.cells R (ρ.t 25))).tape=w.tape∧(w.drew.alloc (.cells R (ρ.t 25))).output=w.output:=⟨rfl,rfl,rfl⟩;generalize w.drew.alloc (.cells R (ρ.t 25))=w' at *;have hsz1:w'.heap.size=w.heap.size+1:=by rw[hheap,Array.size_push]
    have hold: ∀b,b < w.heap.size→w'.heap[b]? =w.heap[b]? :=fun b hb=>by
     rw[hheap,Array.getElem?_push_lt hb];exact(Array.getElem?_eq_getElem hb).symm
    have hnew:w'.heap[w.heap.size]? =some (.cells R (ρ.t 25)):=by rw[hheap];exact Array.getElem?_push_size
    have hne: ∀b p,ν b=some p→b≠w.heap.size:=fun b p h=>by have:=(hlt b p h).1;omega
    have hle:Le w m w' (m1 m w.heap.size 0):=by
     intro b i u hu;unfold hg at hu ⊢;split at hu
     ·rename_i hi;have hb:b < w.heap.size:=by
       rcases Nat.lt_or_ge b w.heap.size with h1 | h1
       ·exact h1
       ·exfalso;unfold World.cell? at hu;rw[Array.getElem?_eq_none h1]at hu;cases hu
      have hm1:m1 m w.heap.size 0 b=m b:=by unfold m1;rw[if_neg (by omega)]
      rw[hm1,if_pos hi];unfold World.cell? at hu ⊢;rw[hold b hb];exact hu
     ·cases hu
    have keep: ∀p,SV w m ν w' (m1 m w.heap.size 0) (Zm ν w.heap.size .f) id p:=fun p b hb=>
     ⟨hold b (hlt b p hb).1,by unfold m1;rw[if_neg (hne b p hb)],by unfold Zm;rw[if_neg (hne b p hb)];exact hb⟩
    refine⟨_,m1 m w.heap.size 0,β,Zm ν w.heap.size .f,rfl,Ge.refl β,⟨hdr.1,hdr.2.1,hdr.2.2,by omega,fun b hb _=>⟨hold b hb,by unfold m1;rw[if_neg (by omega)]⟩,hle,fun h=>absurd h hD⟩,⟨hbox.1,fun i cs k h1 h2 h3=>Xy (Ge.refl β) hle (keep _) (fun j=>keep _) (hbox.2 i cs k h1 h2 h3)⟩,rfl,?_,.inr ⟨w.heap.size,G,R,_,rfl,hnew,hRs,by unfold m1;simp,by unfold Zm;simp⟩,?_⟩
    ·simp only[Qc];exact⟨_,0,G,rfl,rfl,Nat.zero_le _,hmx,.inl trivial⟩
    ·intro b p hp;unfold Zm at hp;split at hp
     ·rename_i hb;injection hp with hp
      subst hb hp;exact⟨by omega,.inl (Nat.le_refl _),.inr rfl⟩
     ·have:=hν b p hp;exact⟨by omega,this.2⟩
  ·cases hc
 ·cases hc
theorem Dj [Dr] {P:Program} {num:Nat→Option Nat} {Γ:Yi} (hD: ¬Dr.d) {ρ:Ren} {id sz bytes:Nat} (L:Lays8.n4 P ρ) (hid:ρ.f 4=id) {z:Value}
  (hi: (P.info? (ρ.t 25)).map (fun i=>(i.zero,i.size,i.bytes))=some (some z,sz,bytes)) (hs0:0 < sz) (hzc:z.cells.size=sz):WX P num Γ (Ow bytes sz) id:=by
 cases h:P.info? (ρ.t 25)with
 | none=>rw[h]at hi;cases hi
 | some i0=>
  rw[h]at hi;simp only[Option.map_some,Option.some.injEq,Prod.mk.injEq]at hi;exact B9 hD L hid h hi.1 hi.2.1 hi.2.2 hs0 hzc
end Go.Am
namespace Go.Am
open Go.RowKit
end Go.Am
