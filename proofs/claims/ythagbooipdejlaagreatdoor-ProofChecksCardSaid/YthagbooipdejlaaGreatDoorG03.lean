/-
  Am9.
-/
import Derived.Test.YthagbooipdejlaaGreatDoorG02
set_option linter.all false
namespace Go.Am
def VD (num:Y3):Option AO->Option Operand->Bool
 | none,none=>true
 | some x,some y=>okO num x y
 | _,_=>false
section
variable {P:Program} {num:Nat->Option Nat} {β:List Blk} {w w':World} {m:Nat->Nat} {ν:Own} {N:Nat} {w0:World} {m0:Nat->Nat} {T:Nat->Prop} {β0:List Blk} {σ σ1:St} {a:Act}
 {o:Oper} {next:Act->World->Prop} {Q:Exit->Act->World->Prop} {K:Ys} {v:AV}
def OQ:=@List.foldl_cons
def Df (off:Nat): ∀(vs:ZG) (k:Nat) (cs:Za),off+k+vs.length<=cs.size->
  ((vs.zipIdx k).foldl (fun cs (p:Value×Nat)=>cs.setIfInBounds (off+p.2) p.1) cs).size=cs.size/\
  ∀(i:Nat),((vs.zipIdx k).foldl (fun cs (p:Value×Nat)=>cs.setIfInBounds (off+p.2) p.1) cs)[i]? =if off+k<=i/\i < off+k+vs.length then vs[i - (off+k)]? else cs[i]?
 | [],k,cs,_=>⟨rfl,fun i=>by rw[Qm (by simp)];rfl⟩
 | v:: vs,k,cs,h=>by
  simp only[ZM]at h;have ih:=Df off vs (k+1) (cs.setIfInBounds (off+k) v) (by simp;omega);simp only[List.zipIdx_cons,OQ];refine⟨by rw[ih.1];simp,fun i=> ?_⟩;rw[ih.2 i];by_cases h1:off+ (k+1)<=i/\i < off+ (k+1)+vs.length
  ·rw[Qn h1,Qn (by simp only[ZM];omega)];rw[show i - (off+k)=(i - (off+ (k+1)))+1 by omega];rfl
  ·rw[Qm h1];by_cases h2:i=off+k
   ·subst h2;rw[Qn (by simp only[ZM];omega),F3 (by omega)];simp
   ·rw[Nb (fun e=>h2 e.symm),Qm (by simp only[ZM];omega)]
def Lf [Dr] (off:Nat) (u:Za) (cs:Za) (h:off+u.size<=cs.size):
  (u.zipIdx.foldl (fun cs (p:Value×Nat)=>cs.setIfInBounds (off+p.2) p.1) cs).size=cs.size/\
  ∀(i:Nat),(u.zipIdx.foldl (fun cs (p:Value×Nat)=>cs.setIfInBounds (off+p.2) p.1) cs)[i]? =if off<=i/\i < off+u.size then u[i - off]? else cs[i]? :=by
 have:=Df off u.toList 0 cs (by simpa using h);rw[<- Array.foldl_toList,Array.toList_zipIdx];simpa using this
def X4:=@List.map_nil
def OE:=@Nat.add_sub_cancel_left
def Nz [Dr] (hI:Inv num N w0 m0 T β0 σ a w m β ν) (sz n:Nat): ∀(xs:Uq) (ys:SV) (k:Nat) (cells:Za) (vs:Qa),
  Xq num xs ys=true->XF sz (xs.map (Am.val σ.env))=some vs->cells.size=n*sz->k+xs.length=n->
  ∃cells',Instr.fill (fun i=>some (i*sz,sz)) cells ((ys.zipIdx k).map fun p=>(p.2,a.eval p.1))=some cells'/\cells'.size=n*sz/\(∀i,i < k*sz->cells'[i]? =cells[i]?)/\
   ∀(i:Nat) (x:Qh),vs[i]? =some x->x.length=sz/\∀(j:Nat) (c:AV),x[j]? =some c->∃u,cells'[(k+i)*sz+j]? =some u/\u.oneCell'=true/\Qg num β w m c u
 | [],[],k,cells,vs,_,hv,hc,_=>by
  simp only[X4,XF]at hv;injection hv with hv
  subst hv;exact⟨cells,rfl,hc,fun _ _=>rfl,fun i x h=>by simp at h⟩
 | x:: xs,y:: ys,k,cells,vs,ho,hv,hc,hk=>by
  simp only[Xq,Qo]at ho;simp only[Ya,XF]at hv;split at hv
  ·rename_i e es he hes;split at hv
   ·rename_i hl;injection hv with hv
    subst hv;have hr:=(hI.val ho.1 (UN he)).1;obtain⟨_,hz,hcs⟩:=WJ he hr;simp only[ZM]at hk;have hle: (k+1)*sz<=n*sz:=Z9 _ (by omega);rw[VA]at hle;have hfit:k*sz+ (a.eval y).cells.size<=cells.size:=by rw[hz,hl,hc];exact hle
    have hp:=Lf (k*sz) (a.eval y).cells cells hfit;obtain⟨cells',f1,f2,f3,f4⟩:=Nz hI sz n xs ys (k+1) _ es ho.2 hes (hp.1.trans hc) (by omega);refine⟨cells',?_,f2,fun i hi=> ?_,fun i z hz2=> ?_⟩
    ·simp only[List.zipIdx_cons,Ya,Instr.fill];rw[Qm (by rw[hz,hl];simp;omega)];exact f1
    ·rw[f3 i (by rw[VA];omega),hp.2 i,Qm (by omega)]
    ·cases i with
     | zero=>
      simp at hz2;subst hz2;refine⟨by simpa using hl,fun j c hj=> ?_⟩;obtain⟨d,hd,rfl⟩:=Zl hj;obtain⟨u,g1,g2,g3⟩:=hcs j d hd;have hjl:j < sz:=by
       rcases QT j e.length with h | h
       ·omega
       ·rw[Q0 h]at hd;cases hd
      refine⟨u,?_,g2,by rw[QP];exact g3⟩;rw[TB,f3 _ (by rw[VA];omega),hp.2,Qn (by rw[hz,hl];omega),OE];exact g1
     | succ i=>
      simp at hz2;have:=f4 i z hz2;rwa[show k+1+i=k+ (i+1) by omega]at this
   ·cases hv
  ·cases hv
 | [],_:: _,_,_,_,h,_,_,_=>by simp[Xq]at h
 | _:: _,[],_,_,_,h,_,_,_=>by simp[Xq]at h
def RY (P:Program) (t:TypeId) (sz n:Nat):Bool:=match P.underlying t with
 | some (.slice e)=>Z5 P e sz && (match P.info? e with
  | some i=>i.zero.isSome
  | none=>false) && decide (n*sz<=2 ^ 24) && decide (0 < sz)
 | _=>false
def KX:=@Option.isSome_iff_exists
def ML:=@List.map_map
def Y4:=@Function.comp_def
def OG:=@Nat.le_mul_of_pos_right
def Qjl [Dr] {sz:Nat} {parts:Uq} {ps:SV} {t:TypeId} (hI:Inv num N w0 m0 T β0 σ a w m β ν) (ho:o.op= .buildSlice t ps.length (ps.zipIdx.map fun p=>(p.2,p.1)).toArray)
  (ht:RY P t sz ps.length=true) (hp:Xq num parts ps=true)
  (he:Qj K (.mksl sz parts) σ=some (v,σ1)) (h:Aft num N w0 m0 T β0 σ1 a v fun u w'=>next (a.put o.dst u) w'):o.wp P a w next Q:=by
 simp only[Qj]at he;cases hr:XF sz (parts.map (val σ.env))with
 | none=>rw[hr]at he;cases he
 | some xs=>
  rw[hr]at he;injection he with he
  injection he with h1 h2
  subst h1 h2;have hlen: ∀(parts:Uq) (ps:SV),Xq num parts ps=true->parts.length=ps.length:=by
   intro parts
   induction parts with
   | nil=>intro ps hp;cases ps <;> simp[Xq]at hp ⊢
   | cons x xs ih=>intro ps hp;cases ps with
    | nil=>simp[Xq]at hp
    | cons y ys=>simp only[Xq,Qo]at hp;simp[ih ys hp.2]
  have hlen2: ∀(vs:Qh) (xs:Qa),XF sz vs=some xs->xs.length=vs.length:=by
   intro vs
   induction vs with
   | nil=>intro xs h;simp[XF]at h;subst h;rfl
   | cons v vs ih=>
    intro xs h;simp only[XF]at h;split at h
    ·rename_i e es h1 h2;split at h
     ·injection h with h;subst h;simp[ih es h2]
     ·cases h
    ·cases h
  have hL:=hlen parts ps hp;have hX:xs.length=ps.length:=by rw[hlen2 _ _ hr];simpa using hL
  unfold RY at ht;split at ht
  ·rename_i e hu;simp only[Qo,Qy]at ht;obtain⟨⟨⟨ht1,ht2⟩,ht3⟩,ht4⟩:=ht;split at ht2
   ·rename_i i hi;obtain⟨z,hz⟩:=KX.1 ht2;have hsz:i.size=sz:=by unfold Z5 at ht1;rw[hi]at ht1;simpa using ht1
    obtain⟨zc,hzc⟩: ∃zc:Za,zc=(if ps.length*sz=0 then #[]else z.cells):=⟨_,rfl⟩;obtain⟨cells',f1,f2,_,f4⟩:=Nz hI sz ps.length parts ps 0 ((Array.range (ps.length*sz)).map (zc[· % zc.size]!)) xs hp hr (by simp) (by omega);refine Qs (u:= .slice (some ⟨w.heap.size,0,none⟩) ps.length ps.length) (w':=w.alloc (.cells cells' e)) ?_ ?_
    ·have hps: (Array.map (fun x:Nat×Operand=>(x.fst,a.eval x.snd)) (ps.zipIdx.map fun p=>(p.2,p.1)).toArray).toList=(ps.zipIdx 0).map fun p=>(p.2,a.eval p.1):=by
      simp[ML,Y4]
     simp only[execOp,ho,Instr.buildSlice,Sem.run_bind,run_underlying hu,Result.andThen_ok,ZJ ht1];rw[Qm (by omega)];by_cases h0:ps.length*sz=0
     ·rw[Qn h0]at hzc;simp only[h0,Zd,Sem.run_bind,Sem.run_pure,Result.andThen_ok,hps];rw[hzc,h0]at f1;rw[f1];simp[newRow]
     ·rw[Qm h0]at hzc;simp only[h0,Zp,Sem.run_pure,Sem.run_bind,Result.andThen_ok,zeroValue,typeInfo,run_program,hi,hz,hps];rw[hzc]at f1;rw[f1];simp[newRow]
    ·refine h _ _ _ β _ (hI.fresh cells' e (ps.length*sz) .f) ((QO rfl).2 ⟨?_,.inr ⟨w.heap.size,ps.length,cells',e,by rw[hX],heap_alloc_new w _,by rw[f2],by simp[m1,hX],by simp[Ye]⟩⟩);simp only[Qg];refine⟨_,_,_,rfl,hX,Zx _,?_,.inr ⟨w.heap.size,0,rfl,?_⟩⟩
     ·have:ps.length<=2 ^ 24:=VL (OG _ ht4) ht3;unfold maxLen;omega
     ·rw[Xx];intro i2 x hx;obtain⟨g1,g2⟩:=f4 i2 x hx;refine⟨g1,?_⟩;rw[ZT];intro j c hc;obtain⟨u,k1,k2,k3⟩:=g2 j c hc;have hlt:i2*sz+j < ps.length*sz:=by
       have hjl:j < sz:=by
        rcases QT j x.length with h | h
        ·omega
        ·rw[Q0 h]at hc;cases hc
       have hil:i2 < ps.length:=by
        rcases QT i2 xs.length with h | h
        ·omega
        ·rw[Q0 h]at hx;cases hx
       have: (i2+1)*sz<=ps.length*sz:=Z9 _ hil;rw[VA]at this;omega
      refine⟨u,?_,k2,Q9 (Ge.refl β) (ZR.alloc (fun _=>False) w m cells' e _).le c u k3⟩;unfold hg;rw[Qn (by simp[m1];omega),cell_of_row _ _ _ cells' e (0,0) (heap_alloc_new w _)];rw[Zm]at k1 ⊢;exact k1
   ·cases ht2
  ·cases ht
def Jj:=@List.mapM_cons
def N6 {α γ:Type} (f:α->Sem γ) (g:α->γ): ∀(l:List α),(∀x∈l,(f x).run P w= .ok (g x) w)->(l.mapM f).run P w= .ok (l.map g) w
 | [],_=>by simp
 | x:: l,h=>by
  rw[Jj];simp only[Sem.run_bind,h x (by simp),Result.andThen_ok,N6 f g l (fun y hy=>h y (by simp[hy])),Sem.run_pure,Ya]
def QfN (P:Program) (fs:Array Field):Bool:=fs.all fun f=>(P.info? f.type).isSome
def Qd3 (P:Program) (fs:Array Field) (i off sz:Nat):Bool:=match fs[i]? with
 | some f=>decide (f.offset=off) && Z5 P f.type sz
 | none=>false
def Pb (P:Program) (num:Y3) (fs:Array Field):List (Nat×Nat×AO)->List (Nat×Operand)->Bool
 | [],[]=>true
 | (off,sz,x):: r,(i,y):: r'=>Qd3 P fs i off sz && okO num x y && Pb P num fs r r'
 | _,_=>false
def RZ (P:Program) (num:Y3) (e:TypeId):List (Nat×Nat×AO)->List (Nat×Operand)->Bool
 | [],[]=>true
 | (off,sz,x):: r,(i,y):: r'=>Z5 P e sz && decide (off=i*sz) && okO num x y && RZ P num e r r'
 | _,_=>false
def Cg (P:Program) (num:Y3) (t:TypeId) (zs:Qh) (parts:List (Nat×Nat×AO)) (ps:List (Nat×Operand)):Bool:=match P.underlying t with
 | some (.struct fs)=>TF P t zs && QfN P fs && Pb P num fs parts ps
 | some (.array _ e)=>TF P t zs && (P.info? e).isSome && RZ P num e parts ps
 | _=>false
def PM (P:Program) (fs:Array Field):Array (Nat×Nat):=(fs.toList.map fun f=>(f.offset,((P.info? f.type).map (·.size)).getD 0)).toArray
def WH:=@List.length_map
def LW [Dr] (hI:Inv num N w0 m0 T β0 σ a w m β ν) (fs:Array Field): ∀(parts:List (Nat×Nat×AO)) (ps:List (Nat×Operand)) (zs cs:Qh) (cells:Za),
  Pb P num fs parts ps=true->VV zs (parts.map fun p=>(p.1,p.2.1,Am.val σ.env p.2.2))=some cs->cells.size=zs.length->
  (∀(i:Nat) (c:AV),zs[i]? =some c->∃u,cells[i]? =some u/\u.oneCell'=true/\Qg num β w m c u)->
  ∃cells',Instr.fill (fun i=>(PM P fs)[i]?) cells (ps.map fun p=>(p.1,a.eval p.2))=some cells'/\cells'.size=cs.length/\
   ∀(i:Nat) (c:AV),cs[i]? =some c->∃u,cells'[i]? =some u/\u.oneCell'=true/\Qg num β w m c u
 | [],[],zs,cs,cells,_,hv,hz,hc=>by
  simp only[X4,VV]at hv;injection hv with hv
  subst hv;exact⟨cells,rfl,hz,hc⟩
 | (off,sz,x):: r,(i,y):: r',zs,cs,cells,ho,hv,hz,hc=>by
  simp only[Pb,Qo]at ho;obtain⟨⟨ho1,ho2⟩,ho3⟩:=ho;simp only[Ya,VV]at hv;split at hv
  ·rename_i vs hvs;split at hv
   ·rename_i hl;obtain⟨hl1,hl2⟩:=hl;have hr:=(hI.val ho2 (UN hvs)).1;obtain⟨_,hz2,hcs⟩:=WJ hvs hr;have hpl: (PM P fs)[i]? =some (off,sz):=by
     unfold Qd3 at ho1;split at ho1
     ·rename_i f hf;simp only[Qo,Qy]at ho1;obtain⟨rfl,ho1⟩:=ho1;unfold Z5 at ho1;split at ho1
      ·rename_i inf hinf;simp only[Qy]at ho1;simp[PM,hf,hinf,ho1]
      ·cases ho1
     ·cases ho1
    have hfit:off+ (a.eval y).cells.size<=cells.size:=by rw[hz2,hz];exact hl2
    have hp:=Lf off (a.eval y).cells cells hfit;have hlen: (put zs off (vs.map AV.strip)).length=zs.length:=by unfold put;rw[Vm _ _ _ (by simpa using hl2)]
    obtain⟨cells',f1,f2,f3⟩:=LW hI fs r r' _ cs _ ho3 hv (by rw[hp.1,hz,hlen]) (fun j c hj=>by
     unfold put at hj;rw[Wo _ _ _ (by simpa using hl2)]at hj;rw[hp.2 j];simp only[WH]at hj;split at hj
     ·rename_i h1;obtain⟨u,g1,g2⟩:=hc j c hj;exact⟨u,by rw[Qm (by omega)];exact g1,g2⟩
     ·rename_i h1;split at hj
      ·rename_i h2;obtain⟨d,hd,rfl⟩:=Zl hj;obtain⟨u,g1,g2,g3⟩:=hcs _ d hd;exact⟨u,by rw[Qn (by rw[hz2];omega)];exact g1,g2,by rw[QP];exact g3⟩
      ·rename_i h2;obtain⟨u,g1,g2⟩:=hc j c hj;exact⟨u,by rw[Qm (by rw[hz2];omega)];exact g1,g2⟩)
    refine⟨cells',?_,f2,f3⟩;simp only[Ya,Instr.fill,hpl];rw[Qm (by rw[hz2,hl1,hz];simp;omega)];exact f1
   ·cases hv
  ·cases hv
 | [],_:: _,_,_,_,h,_,_,_=>by simp[Pb]at h
 | _:: _,[],_,_,_,h,_,_,_=>by simp[Pb]at h
def Dc [Dr] (hI:Inv num N w0 m0 T β0 σ a w m β ν) (e:TypeId): ∀(parts:List (Nat×Nat×AO)) (ps:List (Nat×Operand)) (zs cs:Qh) (cells:Za),
  RZ P num e parts ps=true->VV zs (parts.map fun p=>(p.1,p.2.1,Am.val σ.env p.2.2))=some cs->cells.size=zs.length->
  (∀(i:Nat) (c:AV),zs[i]? =some c->∃u,cells[i]? =some u/\u.oneCell'=true/\Qg num β w m c u)->
  ∃cells',Instr.fill (fun i=>some (i* ((P.info? e).map (·.size)).getD 0,((P.info? e).map (·.size)).getD 0)) cells (ps.map fun p=>(p.1,a.eval p.2))=some cells'/\cells'.size=cs.length/\
   ∀(i:Nat) (c:AV),cs[i]? =some c->∃u,cells'[i]? =some u/\u.oneCell'=true/\Qg num β w m c u
 | [],[],zs,cs,cells,_,hv,hz,hc=>by
  simp only[X4,VV]at hv;injection hv with hv
  subst hv;exact⟨cells,rfl,hz,hc⟩
 | (off,sz,x):: r,(i,y):: r',zs,cs,cells,ho,hv,hz,hc=>by
  simp only[RZ,Qo,Qy]at ho;obtain⟨⟨⟨ho0,ho1⟩,ho2⟩,ho3⟩:=ho;simp only[Ya,VV]at hv;split at hv
  ·rename_i vs hvs;split at hv
   ·rename_i hl;obtain⟨hl1,hl2⟩:=hl;have hr:=(hI.val ho2 (UN hvs)).1;obtain⟨_,hz2,hcs⟩:=WJ hvs hr;have hsz: ((P.info? e).map (·.size)).getD 0=sz:=by
     unfold Z5 at ho0;split at ho0
     ·rename_i inf hinf;simp only[Qy]at ho0;simp[hinf,ho0]
     ·cases ho0
    have hfit:off+ (a.eval y).cells.size<=cells.size:=by rw[hz2,hz];exact hl2
    have hp:=Lf off (a.eval y).cells cells hfit;have hlen: (put zs off (vs.map AV.strip)).length=zs.length:=by unfold put;rw[Vm _ _ _ (by simpa using hl2)]
    obtain⟨cells',f1,f2,f3⟩:=Dc hI e r r' _ cs _ ho3 hv (by rw[hp.1,hz,hlen]) (fun j c hj=>by
     unfold put at hj;rw[Wo _ _ _ (by simpa using hl2)]at hj;rw[hp.2 j];simp only[WH]at hj;split at hj
     ·rename_i h1;obtain⟨u,g1,g2⟩:=hc j c hj;exact⟨u,by rw[Qm (by omega)];exact g1,g2⟩
     ·rename_i h1;split at hj
      ·rename_i h2;obtain⟨d,hd,rfl⟩:=Zl hj;obtain⟨u,g1,g2,g3⟩:=hcs _ d hd;exact⟨u,by rw[Qn (by rw[hz2];omega)];exact g1,g2,by rw[QP];exact g3⟩
      ·rename_i h2;obtain⟨u,g1,g2⟩:=hc j c hj;exact⟨u,by rw[Qm (by rw[hz2];omega)];exact g1,g2⟩)
    refine⟨cells',?_,f2,f3⟩;simp only[Ya,Instr.fill,hsz];rw[<- ho1];rw[Qm (by rw[hz2,hl1,hz];simp;omega)];rw[hsz]at f1;exact f1
   ·cases hv
  ·cases hv
 | [],_:: _,_,_,_,h,_,_,_=>by simp[RZ]at h
 | _:: _,[],_,_,_,h,_,_,_=>by simp[RZ]at h
def Qda:=@Array.mapM_eq_mapM_toList
def Qc7:=@Array.all_eq_true_iff_forall_mem
def QS:=@Option.map_some
def Sk:=@Option.getD_some
def B4 [Dr] {zs:Qh} {parts:List (Nat×Nat×AO)} {ps:List (Nat×Operand)} {t:TypeId} (hI:Inv num N w0 m0 T β0 σ a w m β ν) (ho:o.op= .build t ps.toArray)
  (ht:Cg P num t zs parts ps=true)
  (he:Qj K (.mkst zs parts) σ=some (v,σ1)) (h:Aft num N w0 m0 T β0 σ1 a v fun u w'=>next (a.put o.dst u) w'):o.wp P a w next Q:=by
 simp only[Qj]at he;cases hr:VV zs (parts.map fun p=>(p.1,p.2.1,val σ.env p.2.2))with
 | none=>rw[hr]at he;cases he
 | some cs=>
  rw[hr]at he;injection he with he
  injection he with h1 h2
  subst h1 h2;unfold Cg at ht;split at ht
  ·rename_i fs hu;simp only[Qo]at ht;obtain⟨⟨ht1,ht2⟩,ht3⟩:=ht;obtain⟨z,hz,hzc⟩:=SP (w:=w) ht1;obtain⟨hl,hcs⟩:=YR _ _ hzc;obtain⟨cells',f1,f2,f3⟩:=LW hI fs parts ps zs cs z.cells ht3 hr (by simpa using hl) (fun i c hc=>by
    obtain⟨u,g1,g2⟩:=hcs i c hc;have:=Zv (num:=num) (β:=β) (w:=w) (m:=m) (ν:=ν) g2;exact⟨u,by simpa using g1,this.2.1,this.1⟩)
   have hpl: (fs.mapM fun f=>do pure (f.offset,<- sizeOf f.type):Sem _).run P w= .ok (PM P fs) w:=by
    rw[Qda];simp only[Sem.run_map];rw[N6 (fun f=>do pure (f.offset,<- sizeOf f.type)) (fun f:Field=>(f.offset,((P.info? f.type).map (·.size)).getD 0)) fs.toList (fun f hf=>by
     have:=Qc7.1 ht2 f (by simpa using hf);obtain⟨i,hi⟩:=KX.1 this;simp[sizeOf,typeInfo,hi])]
    rfl
   refine Qs (u:= .agg cells') (w':=w) ?_ (h.same hI rfl ?_ trivial)
   ·have hps: (Array.map (fun x:Nat×Operand=>(x.fst,a.eval x.snd)) ps.toArray).toList=ps.map fun p=>(p.1,a.eval p.2):=by simp
    simp only[execOp,ho,Instr.build,Sem.run_bind,hz,Result.andThen_ok,run_underlying hu];simp only[hpl,Result.andThen_ok,hps];have f1':Instr.fill (fun x=>(PM P fs)[x]?) z.cells (ps.map fun p=>(p.1,a.eval p.2))=some cells':=f1;simp only[f1',Sem.run_pure,Result.andThen_ok]
   ·simp only[Qg];exact⟨cells',rfl,f2,by rw[ZT];intro i c hc;rw[Zm];exact f3 i c hc⟩
  ·rename_i n e hu;simp only[Qo]at ht;obtain⟨⟨ht1,ht2⟩,ht3⟩:=ht;obtain⟨inf,hinf⟩:=KX.1 ht2;obtain⟨z,hz,hzc⟩:=SP (w:=w) ht1;obtain⟨hl,hcs⟩:=YR _ _ hzc;obtain⟨cells',f1,f2,f3⟩:=Dc hI e parts ps zs cs z.cells ht3 hr (by simpa using hl) (fun i c hc=>by
    obtain⟨u,g1,g2⟩:=hcs i c hc;have:=Zv (num:=num) (β:=β) (w:=w) (m:=m) (ν:=ν) g2;exact⟨u,by simpa using g1,this.2.1,this.1⟩)
   refine Qs (u:= .agg cells') (w':=w) ?_ (h.same hI rfl ?_ trivial)
   ·have hps: (Array.map (fun x:Nat×Operand=>(x.fst,a.eval x.snd)) ps.toArray).toList=ps.map fun p=>(p.1,a.eval p.2):=by simp
    rw[hinf]at f1;simp only[QS,Sk]at f1;simp only[execOp,ho,Instr.build,Sem.run_bind,hz,Result.andThen_ok,run_underlying hu];simp[sizeOf,typeInfo,hinf,f1,Result.andThen]
   ·simp only[Qg];exact⟨cells',rfl,f2,by rw[ZT];intro i c hc;rw[Zm];exact f3 i c hc⟩
  ·cases ht
def Pq:=@Option.map_none
def ZP [Dr] {k:Nat} {n d:Nat} {x:Option AO} {y:Option Operand} (hI:Inv num N w0 m0 T β0 σ a w m β ν) (ho:VD num x y=true) (h:ZI n d (x.map (Am.val σ.env))=some k):
  (y=none/\k=d)\/∃y',y=some y'/\k<=n/\∃kd,a.eval y'= .int kd (k:Int):=by
 cases x with
 | none=>
  cases y with
  | none=>simp only[Pq,ZI]at h;injection h with h;exact .inl ⟨rfl,h.symm⟩
  | some y=>simp[VD]at ho
 | some x=>
  cases y with
  | none=>simp[VD]at ho
  | some y=>
   simp only[VD]at ho;simp only[QS]at h;unfold ZI at h;split at h
   ·rename_i h2;cases h2
   ·rename_i kd i h2;injection h2 with h2
    split at h
    ·rename_i h3;injection h with h
     have g1:=(hI.val ho (by rw[h2];rfl)).1;rw[h2]at g1;simp only[Qg]at g1;exact .inr ⟨y,rfl,by omega,kd,by rw[g1];congr 1;omega⟩
    ·cases h
   ·cases h
abbrev Qnv:=Option Value
def Ja:=@Option.isSome_none
def VY {l h len cap:Nat} {isSl:Bool} {lo hi:Qnv} (hh: (hi=none/\h=len)\/∃kd,hi=some (.int kd (h:Int))) (hl: (lo=none/\l=0)\/∃kd,lo=some (.int kd (l:Int)))
  (h1:h<=cap) (h2:l<=h): (Instr.sliceBounds isSl len cap lo hi none).run P w= .ok (l,h,cap) w:=by
 have hb: ∀(kd:IntKind) (n y:Nat) (c:BoundsCode),n<=y->(Instr.sliceBound (.int kd (n:Int)) y c).run P w= .ok n w:=fun kd n y c hn=>by
  simp only[Instr.sliceBound,asIntOf,Sem.run_bind,Sem.run_pure,Result.andThen_ok];rw[Qn (by omega)];rfl
 rcases hh with⟨rfl,rfl⟩ | ⟨kd,rfl⟩ <;> rcases hl with⟨rfl,rfl⟩ | ⟨kd2,rfl⟩ <;> simp only[Instr.sliceBounds,Sem.run_bind,Sem.run_pure,Result.andThen_ok,hb _ _ _ _ h1,hb _ _ _ _ h2,Ja,YO,Zp]
def Qjq [Dr] {x:AO} {lo hi:Option AO} {x':Operand} {lo' hi':Option Operand} {t:TypeId} (hI:Inv num N w0 m0 T β0 σ a w m β ν) (ho:o.op= .slice t x' lo' hi' none) (ht:LA P t=true) (hx:okO num x x'=true)
  (hlo:VD num lo lo'=true) (hhi:VD num hi hi'=true)
  (he:Qj K (.slcs x lo hi) σ=some (v,σ1)) (h:Aft num N w0 m0 T β0 σ1 a v fun u w'=>next (a.put o.dst u) w'):o.wp P a w next Q:=by
 simp only[Qj]at he;split at he
 ·rename_i s hA;cases hb1:ZI s.length s.length (hi.map (val σ.env))with
  | none=>rw[hb1]at he;cases he
  | some H=>
   rw[hb1]at he;simp only[QB]at he;cases hb2:ZI H 0 (lo.map (val σ.env))with
   | none=>rw[hb2]at he;cases he
   | some L=>
    rw[hb2]at he;injection he with he
    injection he with h1 h2
    subst h1 h2;have g1:=(hI.val hx (by rw[hA];rfl)).1;rw[hA]at g1;simp only[Qg]at g1;have hH:H<=s.length:=by
     rcases ZP hI hhi hb1 with⟨_,rfl⟩ | ⟨_,_,h,_⟩ <;> omega
    have hL:L<=H:=by
     rcases ZP hI hlo hb2 with⟨_,rfl⟩ | ⟨_,_,h,_⟩ <;> omega
    have e1: (hi'.map a.eval=none/\H=s.length)\/∃kd,hi'.map a.eval=some (.int kd (H:Int)):=by
     rcases ZP hI hhi hb1 with⟨rfl,rfl⟩ | ⟨y',rfl,_,kd,hk⟩
     ·exact .inl ⟨rfl,rfl⟩
     ·exact .inr ⟨kd,by simp[hk]⟩
    have e2: (lo'.map a.eval=none/\L=0)\/∃kd,lo'.map a.eval=some (.int kd (L:Int)):=by
     rcases ZP hI hlo hb2 with⟨rfl,rfl⟩ | ⟨y',rfl,_,kd,hk⟩
     ·exact .inl ⟨rfl,rfl⟩
     ·exact .inr ⟨kd,by simp[hk]⟩
    have hu:=IL ht;refine Qs (u:= .string ((⟨s.toArray⟩:ByteArray).extract L H)) (w':=w) ?_ (h.same hI rfl ?_ trivial)
    ·simp only[execOp,ho,g1,Instr.sliceAt,Instr.slice,Sem.run_bind,run_underlying hu,Result.andThen_ok,Pq,Ja,YO,Zp];rw[VY (len:=(⟨s.toArray⟩:ByteArray).size) e1 e2 (by simpa[ByteArray.size_mk']using hH) hL];rfl
    ·simp only[Qg];rw[ByteArray.extract_mk,List.drop_take]
 ·cases he
def ZV:=@Nat.add_mul
def Qjp [Dr] {sz:Nat} {x:AO} {lo hi:Option AO} {x':Operand} {lo' hi':Option Operand} {t:TypeId} (hI:Inv num N w0 m0 T β0 σ a w m β ν) (ho:o.op= .slice t x' lo' hi' none) (ht:XH P t sz=true) (hx:okO num x x'=true)
  (hlo:VD num lo lo'=true) (hhi:VD num hi hi'=true)
  (he:Qj K (.slcl sz x lo hi) σ=some (v,σ1)) (h:Aft num N w0 m0 T β0 σ1 a v fun u w'=>next (a.put o.dst u) w'):o.wp P a w next Q:=by
 simp only[Qj]at he;split at he
 ·rename_i o2 sz1 xs hA;split at he
  ·rename_i hsz;subst hsz;cases hb1:ZI xs.length xs.length (hi.map (val σ.env))with
   | none=>rw[hb1]at he;cases he
   | some H=>
    rw[hb1]at he;simp only[QB]at he;cases hb2:ZI H 0 (lo.map (val σ.env))with
    | none=>rw[hb2]at he;cases he
    | some L=>
     rw[hb2]at he;injection he with he
     injection he with h1 h2
     subst h1 h2;have g1:=(hI.val hx (by rw[hA];rfl)).1;rw[hA]at g1;simp only[Qg]at g1;obtain⟨A,len,cap,g1,g2,g3,g4,g5⟩:=g1;have hH:H<=xs.length:=by
      rcases ZP hI hhi hb1 with⟨_,rfl⟩ | ⟨_,_,h,_⟩ <;> omega
     have hL:L<=H:=by
      rcases ZP hI hlo hb2 with⟨_,rfl⟩ | ⟨_,_,h,_⟩ <;> omega
     have e1: (hi'.map a.eval=none/\H=len)\/∃kd,hi'.map a.eval=some (.int kd (H:Int)):=by
      rcases ZP hI hhi hb1 with⟨rfl,rfl⟩ | ⟨y',rfl,_,kd,hk⟩
      ·exact .inl ⟨rfl,g2⟩
      ·exact .inr ⟨kd,by simp[hk]⟩
     have e2: (lo'.map a.eval=none/\L=0)\/∃kd,lo'.map a.eval=some (.int kd (L:Int)):=by
      rcases ZP hI hlo hb2 with⟨rfl,rfl⟩ | ⟨y',rfl,_,kd,hk⟩
      ·exact .inl ⟨rfl,rfl⟩
      ·exact .inr ⟨kd,by simp[hk]⟩
     unfold XH at ht;split at ht
     ·rename_i e hu;refine Qs (u:= .slice (if cap=L then A else A.map (·.add (L*sz1))) (H - L) (cap - L)) (w':=w) ?_ (h.same hI rfl ?_ trivial)
      ·simp only[execOp,ho,g1,Instr.sliceAt,Instr.slice,Sem.run_bind,run_underlying hu,Result.andThen_ok,Pq];rw[VY e1 e2 (by omega) hL];simp only[Result.andThen_ok,ZJ ht];rfl
      ·simp only[Qg];refine⟨_,_,_,rfl,by simp;omega,by omega,by omega,?_⟩;by_cases hLH:L=H
       ·left;subst hLH;simp
       ·right;rcases g5 with g5 | ⟨b,of,rfl,g5⟩
        ·subst g5;simp at hH;omega
        ·refine⟨b,of+L*sz1,by rw[Qm (by omega)];simp[Yq],?_⟩;rw[Xx]at g5 ⊢;intro i z hz;rw[XL]at hz;have hz2:xs[L+i]? =some z:=by
          rw[VO]at hz;split at hz
          ·exact hz
          ·cases hz
         obtain⟨k1,k2⟩:=g5 _ z hz2;refine⟨k1,?_⟩;rwa[show of+L*sz1+i*sz1=of+ (L+i)*sz1 by rw[ZV];omega]
     ·cases ht
  ·cases he
 ·rename_i id of sz1 kn hA;split at he
  ·rename_i hsz;obtain⟨rfl,hszp⟩:=hsz;cases hb1:ZI kn kn (hi.map (val σ.env))with
   | none=>rw[hb1]at he;cases he
   | some H=>
    rw[hb1]at he;simp only[QB]at he;cases hb2:ZI H 0 (lo.map (val σ.env))with
    | none=>rw[hb2]at he;cases he
    | some L=>
     rw[hb2]at he;injection he with he
     injection he with h1 h2
     subst h1 h2;have g1:=(hI.val hx (by rw[hA];rfl)).1;rw[hA]at g1;simp only[Qg]at g1;obtain⟨A,cap,g1,g3,g4,g5⟩:=g1;have hH:H<=kn:=by
      rcases ZP hI hhi hb1 with⟨_,rfl⟩ | ⟨_,_,h,_⟩ <;> omega
     have hL:L<=H:=by
      rcases ZP hI hlo hb2 with⟨_,rfl⟩ | ⟨_,_,h,_⟩ <;> omega
     have e1: (hi'.map a.eval=none/\H=kn)\/∃kd,hi'.map a.eval=some (.int kd (H:Int)):=by
      rcases ZP hI hhi hb1 with⟨rfl,rfl⟩ | ⟨y',rfl,_,kd,hk⟩
      ·exact .inl ⟨rfl,rfl⟩
      ·exact .inr ⟨kd,by simp[hk]⟩
     have e2: (lo'.map a.eval=none/\L=0)\/∃kd,lo'.map a.eval=some (.int kd (L:Int)):=by
      rcases ZP hI hlo hb2 with⟨rfl,rfl⟩ | ⟨y',rfl,_,kd,hk⟩
      ·exact .inl ⟨rfl,rfl⟩
      ·exact .inr ⟨kd,by simp[hk]⟩
     unfold XH at ht;split at ht
     ·rename_i e hu;refine Qs (u:= .slice (if cap=L then A else A.map (·.add (L*sz1))) (H - L) (cap - L)) (w':=w) ?_ (h.same hI rfl ?_ trivial)
      ·simp only[execOp,ho,g1,Instr.sliceAt,Instr.slice,Sem.run_bind,run_underlying hu,Result.andThen_ok,Pq];rw[VY e1 e2 (by omega) hL];simp only[Result.andThen_ok,ZJ ht];rfl
      ·simp only[Qg];refine⟨_,_,rfl,by omega,by omega,?_⟩;by_cases hLH:cap=L
       ·left;refine⟨by omega,by omega,?_⟩;rcases g5 with g5 | ⟨kb,g5,_,g6,_⟩
        ·exact g5.2.2.imp (fun h=>absurd h.1 (by omega)) fun⟨kb,g6,g7⟩=>⟨kb,g6,by omega,hszp⟩
        ·exact .inr ⟨kb,g5,by rw[hLH]at g6;omega,hszp⟩
       ·rcases g5 with g5 | ⟨kb,g5,rfl,g6,_⟩
        ·left;exact⟨by omega,by omega,g5.2.2.imp (fun h=>absurd h.1 (by omega)) fun⟨kb,g6,g7⟩=>⟨kb,g6,by omega,hszp⟩⟩
        ·right;have hmul:L*sz1+ (cap - L)*sz1=cap*sz1:=by rw[<- ZV];congr 1;omega
         exact⟨kb,g5,by rw[Qm (by omega)];simp[Yq],by omega,hszp⟩
     ·cases ht
  ·split at he
   ·rename_i hz;obtain⟨rfl,rfl⟩:=hz;cases hb1:ZI 0 0 (hi.map (val σ.env))with
    | none=>rw[hb1]at he;cases he
    | some H=>
     rw[hb1]at he;simp only[QB]at he;cases hb2:ZI H 0 (lo.map (val σ.env))with
     | none=>rw[hb2]at he;cases he
     | some L=>
      rw[hb2]at he;injection he with he
      injection he with h1 h2
      subst h1 h2;have g1:=(hI.val hx (by rw[hA];rfl)).1;rw[hA]at g1;simp only[Qg]at g1;obtain⟨A,cap,g1,g3,g4,g5⟩:=g1;have hcap:cap=0:=by
       rcases g5 with g5 | ⟨_,_,_,_,g6⟩
       ·exact g5.2.1
       ·omega
      subst hcap;have hH:H=0:=by
       rcases ZP hI hhi hb1 with⟨_,rfl⟩ | ⟨_,_,h,_⟩ <;> omega
      subst hH;have hL:L=0:=by
       rcases ZP hI hlo hb2 with⟨_,rfl⟩ | ⟨_,_,h,_⟩ <;> omega
      subst hL;have e1: (hi'.map a.eval=none/\(0:Nat)=0)\/∃kd,hi'.map a.eval=some (.int kd ((0:Nat):Int)):=by
       rcases ZP hI hhi hb1 with⟨rfl,_⟩ | ⟨y',rfl,_,kd,hk⟩
       ·exact .inl ⟨rfl,rfl⟩
       ·exact .inr ⟨kd,by simp[hk]⟩
      have e2: (lo'.map a.eval=none/\(0:Nat)=0)\/∃kd,lo'.map a.eval=some (.int kd ((0:Nat):Int)):=by
       rcases ZP hI hlo hb2 with⟨rfl,_⟩ | ⟨y',rfl,_,kd,hk⟩
       ·exact .inl ⟨rfl,rfl⟩
       ·exact .inr ⟨kd,by simp[hk]⟩
      unfold XH at ht;split at ht
      ·rename_i e hu;refine Qs (u:= .slice (if 0=0 then A else A.map (·.add (0*sz))) (0 - 0) (0 - 0)) (w':=w) ?_ (h.same hI rfl ?_ trivial)
       ·simp only[execOp,ho,g1,Instr.sliceAt,Instr.slice,Sem.run_bind,run_underlying hu,Result.andThen_ok,Pq];rw[VY e1 e2 (by omega) (by omega)];simp only[Result.andThen_ok,ZJ ht];rfl
       ·simp only[Qg];exact⟨_,_,rfl,by omega,by unfold maxLen;omega,.inl (by simp)⟩
      ·cases ht
   ·cases he
 ·cases he
def Pu:=@Nat.zero_le
def Qoh [Dr] {sz:Nat} {x:AO} {x':Operand} {t:TypeId} {k1 k2:IntKind} (hI:Inv num N w0 m0 T β0 σ a w m β ν) (ho:o.op= .slice t x' none (some (.const (.int k1 0))) (some (.const (.int k2 0)))) (ht:XH P t sz=true) (hx:okO num x x'=true)
  (he:Qj K (.slz sz x) σ=some (v,σ1)) (h:Aft num N w0 m0 T β0 σ1 a v fun u w'=>next (a.put o.dst u) w'):o.wp P a w next Q:=by
 simp only[Qj]at he;split at he
 ·rename_i o2 sz1 xs hA;split at he
  ·rename_i hsz;subst hsz;injection he with he
   injection he with h1 h2
   subst h1 h2;have g1:=(hI.val hx (by rw[hA];rfl)).1;rw[hA]at g1;simp only[Qg]at g1;obtain⟨A,len,cap,g1,g2,g3,g4,g5⟩:=g1;unfold XH at ht;split at ht
   ·rename_i e hu;refine Qs (u:= .slice A 0 0) (w':=w) ?_ (h.same hI rfl ?_ (.inl ⟨A,0,rfl⟩))
    ·have c1:a.eval (.const (.int k1 0))= .int k1 0:=rfl;have c2:a.eval (.const (.int k2 0))= .int k2 0:=rfl;simp[execOp,ho,g1,c1,c2,Instr.sliceAt,Instr.slice,run_underlying hu,Instr.sliceBounds,Instr.sliceBound,asIntOf,ZJ ht]
    ·simp only[Qg];exact⟨A,0,0,rfl,rfl,Zx _,Pu _,.inl trivial⟩
   ·cases ht
  ·cases he
 ·cases he
def XM:=@List.all_eq_true
def WF:=@List.mem_of_getElem?
def Qjj [Dr] {f g:Nat} {caps:Uq} {cs:SV} (hI:Inv num N w0 m0 T β0 σ a w m β ν) (ho:o.op= .makeFunc (.func g) #[] cs.toArray) (hf:num f=some g) (hc:Xq num caps cs=true)
  (he:Qj K (.mkfn f caps) σ=some (v,σ1)) (h:Aft num N w0 m0 T β0 σ1 a v fun u w'=>next (a.put o.dst u) w'):o.wp P a w next Q:=by
 simp only[Qj]at he;split at he
 ·rename_i h1c;injection he with he
  injection he with h1 h2
  subst h1 h2;have hok:XJ (caps.map (val σ.env))=true:=by
   unfold XJ;rw[XM]at h1c ⊢;intro x hx;exact TD (h1c x hx)
  obtain⟨hl,hv⟩:=hI.vals hc hok;refine Qs (u:= .func (.func g) #[] (cs.toArray.map a.eval)) (w':=w) (by simp[execOp,ho,Instr.makeFunc]) (h.same hI rfl ?_ trivial);simp only[Qg];refine⟨g,_,hf,rfl,by simp[hl],?_⟩;rw[ZT];intro i c hci;obtain⟨y,k1,k2,k3⟩:=hv i c hci;have h1:c.one=true:=by
   rw[XM]at h1c;exact h1c c (WF hci)
  exact⟨a.eval y,by simp[k1],SD h1 k3,k3⟩
 ·cases he
def Qji [Dr] {f g:Nat} {caps:Uq} {cs:SV} (hI:Inv num N w0 m0 T β0 σ a w m β ν) (ho:o.op= .makeFunc (.func g) cs.toArray #[]) (hf:num f=some g) (hc:Xq num caps cs=true)
  (he:Qj K (.mkfb f caps) σ=some (v,σ1)) (h:Aft num N w0 m0 T β0 σ1 a v fun u w'=>next (a.put o.dst u) w'):o.wp P a w next Q:=by
 simp only[Qj]at he;split at he
 ·rename_i h1c;injection he with he
  injection he with h1 h2
  subst h1 h2;have hok:XJ (caps.map (val σ.env))=true:=by
   unfold XJ;rw[XM]at h1c ⊢;intro x hx;exact TD (h1c x hx)
  obtain⟨hl,hv⟩:=hI.vals hc hok;refine Qs (u:= .func (.func g) (cs.toArray.map a.eval) #[]) (w':=w) (by simp[execOp,ho,Instr.makeFunc]) (h.same hI rfl ?_ trivial);simp only[Qg];refine⟨g,_,hf,rfl,by simp[hl],?_⟩;rw[ZT];intro i c hci;obtain⟨y,k1,k2,k3⟩:=hv i c hci;have h1:c.one=true:=by
   rw[XM]at h1c;exact h1c c (WF hci)
  exact⟨a.eval y,by simp[k1],SD h1 k3,k3⟩
 ·cases he
end
end Go.Am
