/-
  Am9.
-/
import Derived.Test.YtmlbinmlblbfgaaGreatDoorG02
set_option linter.all false
namespace Go.Am
def XF (num:Z3):Option AO->Option Operand->Bool
 | none,none=>true
 | some x,some y=>okO num x y
 | _,_=>false
section
variable {P:Program} {num:Nat->Option Nat} {β:List Blk} {w w':World} {m:Nat->Nat} {ν:Own} {N:Nat} {w0:World} {m0:Nat->Nat} {T:Nat->Prop} {β0:List Blk} {σ σ1:St} {a:Act}
 {o:Oper} {next:Act->World->Prop} {Q:Exit->Act->World->Prop} {K:ZJ} {v:AV}
def Ip (off:Nat): ∀(vs:Q8) (k:Nat) (cs:QW),off+k+vs.length<=cs.size->
  ((vs.zipIdx k).foldl (fun cs (p:Value×Nat)=>cs.setIfInBounds (off+p.2) p.1) cs).size=cs.size/\
  ∀(i:Nat),((vs.zipIdx k).foldl (fun cs (p:Value×Nat)=>cs.setIfInBounds (off+p.2) p.1) cs)[i]? =if off+k<=i/\i < off+k+vs.length then vs[i - (off+k)]? else cs[i]?
 | [],k,cs,_=>⟨rfl,fun i=>by rw[Qe (by simp)];rfl⟩
 | v:: vs,k,cs,h=>by
  simp only[QO]at h;have ih:=Ip off vs (k+1) (cs.setIfInBounds (off+k) v) (by simp;omega);simp only[List.zipIdx_cons,List.foldl_cons];refine⟨by rw[ih.1];simp,fun i=> ?_⟩;rw[ih.2 i];by_cases h1:off+ (k+1)<=i/\i < off+ (k+1)+vs.length
  ·rw[Qh h1,Qh (by simp only[QO];omega)];rw[show i - (off+k)=(i - (off+ (k+1)))+1 by omega];rfl
  ·rw[Qe h1];by_cases h2:i=off+k
   ·subst h2;rw[Qh (by simp only[QO];omega),Jr (by omega)];simp
   ·rw[Rb (fun e=>h2 e.symm),Qe (by simp only[QO];omega)]
def PC [Dr] (off:Nat) (u:QW) (cs:QW) (h:off+u.size<=cs.size):
  (u.zipIdx.foldl (fun cs (p:Value×Nat)=>cs.setIfInBounds (off+p.2) p.1) cs).size=cs.size/\
  ∀(i:Nat),(u.zipIdx.foldl (fun cs (p:Value×Nat)=>cs.setIfInBounds (off+p.2) p.1) cs)[i]? =if off<=i/\i < off+u.size then u[i - off]? else cs[i]? :=by
 have:=Ip off u.toList 0 cs (by simpa using h);rw[<- Array.foldl_toList,Array.toList_zipIdx];simpa using this
def Y5:=@List.map_nil
def U9:=@Nat.add_sub_cancel_left
def Rt [Dr] (hI:Inv num N w0 m0 T β0 σ a w m β ν) (sz n:Nat): ∀(xs:Wp) (ys:UC) (k:Nat) (cells:QW) (vs:Qd),
  Yf num xs ys=true->Yq sz (xs.map (Am.val σ.env))=some vs->cells.size=n*sz->k+xs.length=n->
  ∃cells',Instr.fill (fun i=>some (i*sz,sz)) cells ((ys.zipIdx k).map fun p=>(p.2,a.eval p.1))=some cells'/\cells'.size=n*sz/\(∀i,i < k*sz->cells'[i]? =cells[i]?)/\
   ∀(i:Nat) (x:Qf),vs[i]? =some x->x.length=sz/\∀(j:Nat) (c:AV),x[j]? =some c->∃u,cells'[(k+i)*sz+j]? =some u/\u.oneCell'=true/\Qa num β w m c u
 | [],[],k,cells,vs,_,hv,hc,_=>by
  simp only[Y5,Yq]at hv;injection hv with hv
  subst hv;exact⟨cells,rfl,hc,fun _ _=>rfl,fun i x h=>by simp at h⟩
 | x:: xs,y:: ys,k,cells,vs,ho,hv,hc,hk=>by
  simp only[Yf,Qi]at ho;simp only[ZP,Yq]at hv;split at hv
  ·rename_i e es he hes;split at hv
   ·rename_i hl;injection hv with hv
    subst hv;have hr:=(hI.val ho.1 (WQ he)).1;obtain⟨_,hz,hcs⟩:=Y6 he hr;simp only[QO]at hk;have hle: (k+1)*sz<=n*sz:=ZZ _ (by omega);rw[WI]at hle;have hfit:k*sz+ (a.eval y).cells.size<=cells.size:=by rw[hz,hl,hc];exact hle
    have hp:=PC (k*sz) (a.eval y).cells cells hfit;obtain⟨cells',f1,f2,f3,f4⟩:=Rt hI sz n xs ys (k+1) _ es ho.2 hes (hp.1.trans hc) (by omega);refine⟨cells',?_,f2,fun i hi=> ?_,fun i z hz2=> ?_⟩
    ·simp only[List.zipIdx_cons,ZP,Instr.fill];rw[Qe (by rw[hz,hl];simp;omega)];exact f1
    ·rw[f3 i (by rw[WI];omega),hp.2 i,Qe (by omega)]
    ·cases i with
     | zero=>
      simp at hz2;subst hz2;refine⟨by simpa using hl,fun j c hj=> ?_⟩;obtain⟨d,hd,rfl⟩:=Q0 hj;obtain⟨u,g1,g2,g3⟩:=hcs j d hd;have hjl:j < sz:=by
       rcases QL j e.length with h | h
       ·omega
       ·rw[QT h]at hd;cases hd
      refine⟨u,?_,g2,by rw[QE];exact g3⟩;rw[WH,f3 _ (by rw[WI];omega),hp.2,Qh (by rw[hz,hl];omega),U9];exact g1
     | succ i=>
      simp at hz2;have:=f4 i z hz2;rwa[show k+1+i=k+ (i+1) by omega]at this
   ·cases hv
  ·cases hv
 | [],_:: _,_,_,_,h,_,_,_=>by simp[Yf]at h
 | _:: _,[],_,_,_,h,_,_,_=>by simp[Yf]at h
def TC (P:Program) (t:TypeId) (sz n:Nat):Bool:=match P.underlying t with
 | some (.slice e)=>Zv P e sz && (match P.info? e with
  | some i=>i.zero.isSome
  | none=>false) && decide (n*sz<=2 ^ 24) && decide (0 < sz)
 | _=>false
def O3:=@Option.isSome_iff_exists
def Z0:=@Function.comp_def
def SK:=@Nat.le_mul_of_pos_right
def QcQ [Dr] {sz:Nat} {parts:Wp} {ps:UC} {t:TypeId} (hI:Inv num N w0 m0 T β0 σ a w m β ν) (ho:o.op= .buildSlice t ps.length (ps.zipIdx.map fun p=>(p.2,p.1)).toArray)
  (ht:TC P t sz ps.length=true) (hp:Yf num parts ps=true)
  (he:Qg K (.mksl sz parts) σ=some (v,σ1)) (h:Aft num N w0 m0 T β0 σ1 a v fun u w'=>next (a.put o.dst u) w'):o.wp P a w next Q:=by
 simp only[Qg]at he;cases hr:Yq sz (parts.map (val σ.env))with
 | none=>rw[hr]at he;cases he
 | some xs=>
  rw[hr]at he;injection he with he
  injection he with h1 h2
  subst h1 h2;have hlen: ∀(parts:Wp) (ps:UC),Yf num parts ps=true->parts.length=ps.length:=by
   intro parts
   induction parts with
   | nil=>intro ps hp;cases ps <;> simp[Yf]at hp ⊢
   | cons x xs ih=>intro ps hp;cases ps with
    | nil=>simp[Yf]at hp
    | cons y ys=>simp only[Yf,Qi]at hp;simp[ih ys hp.2]
  have hlen2: ∀(vs:Qf) (xs:Qd),Yq sz vs=some xs->xs.length=vs.length:=by
   intro vs
   induction vs with
   | nil=>intro xs h;simp[Yq]at h;subst h;rfl
   | cons v vs ih=>
    intro xs h;simp only[Yq]at h;split at h
    ·rename_i e es h1 h2;split at h
     ·injection h with h;subst h;simp[ih es h2]
     ·cases h
    ·cases h
  have hL:=hlen parts ps hp;have hX:xs.length=ps.length:=by rw[hlen2 _ _ hr];simpa using hL
  unfold TC at ht;split at ht
  ·rename_i e hu;simp only[Qi,Qm]at ht;obtain⟨⟨⟨ht1,ht2⟩,ht3⟩,ht4⟩:=ht;split at ht2
   ·rename_i i hi;obtain⟨z,hz⟩:=O3.1 ht2;have hsz:i.size=sz:=by unfold Zv at ht1;rw[hi]at ht1;simpa using ht1
    obtain⟨zc,hzc⟩: ∃zc:QW,zc=(if ps.length*sz=0 then #[]else z.cells):=⟨_,rfl⟩;obtain⟨cells',f1,f2,_,f4⟩:=Rt hI sz ps.length parts ps 0 ((Array.range (ps.length*sz)).map (zc[· % zc.size]!)) xs hp hr (by simp) (by omega);refine Qj (u:= .slice (some ⟨w.heap.size,0,none⟩) ps.length ps.length) (w':=w.alloc (.cells cells' e)) ?_ ?_
    ·have hps: (Array.map (fun x:Nat×Operand=>(x.fst,a.eval x.snd)) (ps.zipIdx.map fun p=>(p.2,p.1)).toArray).toList=(ps.zipIdx 0).map fun p=>(p.2,a.eval p.1):=by
      simp[List.map_map,Z0]
     simp only[execOp,ho,Instr.buildSlice,Sem.run_bind,run_underlying hu,Result.andThen_ok,Zc ht1];rw[Qe (by omega)];by_cases h0:ps.length*sz=0
     ·rw[Qh h0]at hzc;simp only[h0,QF,Sem.run_bind,Sem.run_pure,Result.andThen_ok,hps];rw[hzc,h0]at f1;rw[f1];simp[newRow]
     ·rw[Qe h0]at hzc;simp only[h0,QC,Sem.run_pure,Sem.run_bind,Result.andThen_ok,zeroValue,typeInfo,run_program,hi,hz,hps];rw[hzc]at f1;rw[f1];simp[newRow]
    ·refine h _ _ _ β _ (hI.fresh cells' e (ps.length*sz) .f) ((QD rfl).2 ⟨?_,.inr ⟨w.heap.size,ps.length,cells',e,by rw[hX],heap_alloc_new w _,by rw[f2],by simp[m1,hX],by simp[ZA]⟩⟩);simp only[Qa];refine⟨_,_,_,rfl,hX,Za _,?_,.inr ⟨w.heap.size,0,rfl,?_⟩⟩
     ·have:ps.length<=2 ^ 24:=Vb (SK _ ht4) ht3;unfold maxLen;omega
     ·rw[Yk];intro i2 x hx;obtain⟨g1,g2⟩:=f4 i2 x hx;refine⟨g1,?_⟩;rw[Zp];intro j c hc;obtain⟨u,k1,k2,k3⟩:=g2 j c hc;have hlt:i2*sz+j < ps.length*sz:=by
       have hjl:j < sz:=by
        rcases QL j x.length with h | h
        ·omega
        ·rw[QT h]at hc;cases hc
       have hil:i2 < ps.length:=by
        rcases QL i2 xs.length with h | h
        ·omega
        ·rw[QT h]at hx;cases hx
       have: (i2+1)*sz<=ps.length*sz:=ZZ _ hil;rw[WI]at this;omega
      refine⟨u,?_,k2,QU (Ge.refl β) (Zm.alloc (fun _=>False) w m cells' e _).le c u k3⟩;unfold hg;rw[Qh (by simp[m1];omega),cell_of_row _ _ _ cells' e (0,0) (heap_alloc_new w _)];rw[QP]at k1 ⊢;exact k1
   ·cases ht2
  ·cases ht
def Nn:=@List.mapM_cons
def RK {α γ:Type} (f:α->Sem γ) (g:α->γ): ∀(l:List α),(∀x∈l,(f x).run P w= .ok (g x) w)->(l.mapM f).run P w= .ok (l.map g) w
 | [],_=>by simp
 | x:: l,h=>by
  rw[Nn];simp only[Sem.run_bind,h x (by simp),Result.andThen_ok,RK f g l (fun y hy=>h y (by simp[hy])),Sem.run_pure,ZP]
def AW (P:Program) (fs:Array Field):Bool:=fs.all fun f=>(P.info? f.type).isSome
def Bd (P:Program) (fs:Array Field) (i off sz:Nat):Bool:=match fs[i]? with
 | some f=>decide (f.offset=off) && Zv P f.type sz
 | none=>false
def TL (P:Program) (num:Z3) (fs:Array Field):List (Nat×Nat×AO)->List (Nat×Operand)->Bool
 | [],[]=>true
 | (off,sz,x):: r,(i,y):: r'=>Bd P fs i off sz && okO num x y && TL P num fs r r'
 | _,_=>false
def TD (P:Program) (num:Z3) (e:TypeId):List (Nat×Nat×AO)->List (Nat×Operand)->Bool
 | [],[]=>true
 | (off,sz,x):: r,(i,y):: r'=>Zv P e sz && decide (off=i*sz) && okO num x y && TD P num e r r'
 | _,_=>false
def Hh (P:Program) (num:Z3) (t:TypeId) (zs:Qf) (parts:List (Nat×Nat×AO)) (ps:List (Nat×Operand)):Bool:=match P.underlying t with
 | some (.struct fs)=>VJ P t zs && AW P fs && TL P num fs parts ps
 | some (.array _ e)=>VJ P t zs && (P.info? e).isSome && TD P num e parts ps
 | _=>false
def T9 (P:Program) (fs:Array Field):Array (Nat×Nat):=(fs.toList.map fun f=>(f.offset,((P.info? f.type).map (·.size)).getD 0)).toArray
def Wa:=@List.length_map
def Oj [Dr] (hI:Inv num N w0 m0 T β0 σ a w m β ν) (fs:Array Field): ∀(parts:List (Nat×Nat×AO)) (ps:List (Nat×Operand)) (zs cs:Qf) (cells:QW),
  TL P num fs parts ps=true->XV zs (parts.map fun p=>(p.1,p.2.1,Am.val σ.env p.2.2))=some cs->cells.size=zs.length->
  (∀(i:Nat) (c:AV),zs[i]? =some c->∃u,cells[i]? =some u/\u.oneCell'=true/\Qa num β w m c u)->
  ∃cells',Instr.fill (fun i=>(T9 P fs)[i]?) cells (ps.map fun p=>(p.1,a.eval p.2))=some cells'/\cells'.size=cs.length/\
   ∀(i:Nat) (c:AV),cs[i]? =some c->∃u,cells'[i]? =some u/\u.oneCell'=true/\Qa num β w m c u
 | [],[],zs,cs,cells,_,hv,hz,hc=>by
  simp only[Y5,XV]at hv;injection hv with hv
  subst hv;exact⟨cells,rfl,hz,hc⟩
 | (off,sz,x):: r,(i,y):: r',zs,cs,cells,ho,hv,hz,hc=>by
  simp only[TL,Qi]at ho;obtain⟨⟨ho1,ho2⟩,ho3⟩:=ho;simp only[ZP,XV]at hv;split at hv
  ·rename_i vs hvs;split at hv
   ·rename_i hl;obtain⟨hl1,hl2⟩:=hl;have hr:=(hI.val ho2 (WQ hvs)).1;obtain⟨_,hz2,hcs⟩:=Y6 hvs hr;have hpl: (T9 P fs)[i]? =some (off,sz):=by
     unfold Bd at ho1;split at ho1
     ·rename_i f hf;simp only[Qi,Qm]at ho1;obtain⟨rfl,ho1⟩:=ho1;unfold Zv at ho1;split at ho1
      ·rename_i inf hinf;simp only[Qm]at ho1;simp[T9,hf,hinf,ho1]
      ·cases ho1
     ·cases ho1
    have hfit:off+ (a.eval y).cells.size<=cells.size:=by rw[hz2,hz];exact hl2
    have hp:=PC off (a.eval y).cells cells hfit;have hlen: (put zs off (vs.map AV.strip)).length=zs.length:=by unfold put;rw[Xs _ _ _ (by simpa using hl2)]
    obtain⟨cells',f1,f2,f3⟩:=Oj hI fs r r' _ cs _ ho3 hv (by rw[hp.1,hz,hlen]) (fun j c hj=>by
     unfold put at hj;rw[YT _ _ _ (by simpa using hl2)]at hj;rw[hp.2 j];simp only[Wa]at hj;split at hj
     ·rename_i h1;obtain⟨u,g1,g2⟩:=hc j c hj;exact⟨u,by rw[Qe (by omega)];exact g1,g2⟩
     ·rename_i h1;split at hj
      ·rename_i h2;obtain⟨d,hd,rfl⟩:=Q0 hj;obtain⟨u,g1,g2,g3⟩:=hcs _ d hd;exact⟨u,by rw[Qh (by rw[hz2];omega)];exact g1,g2,by rw[QE];exact g3⟩
      ·rename_i h2;obtain⟨u,g1,g2⟩:=hc j c hj;exact⟨u,by rw[Qe (by rw[hz2];omega)];exact g1,g2⟩)
    refine⟨cells',?_,f2,f3⟩;simp only[ZP,Instr.fill,hpl];rw[Qe (by rw[hz2,hl1,hz];simp;omega)];exact f1
   ·cases hv
  ·cases hv
 | [],_:: _,_,_,_,h,_,_,_=>by simp[TL]at h
 | _:: _,[],_,_,_,h,_,_,_=>by simp[TL]at h
def Ik [Dr] (hI:Inv num N w0 m0 T β0 σ a w m β ν) (e:TypeId): ∀(parts:List (Nat×Nat×AO)) (ps:List (Nat×Operand)) (zs cs:Qf) (cells:QW),
  TD P num e parts ps=true->XV zs (parts.map fun p=>(p.1,p.2.1,Am.val σ.env p.2.2))=some cs->cells.size=zs.length->
  (∀(i:Nat) (c:AV),zs[i]? =some c->∃u,cells[i]? =some u/\u.oneCell'=true/\Qa num β w m c u)->
  ∃cells',Instr.fill (fun i=>some (i* ((P.info? e).map (·.size)).getD 0,((P.info? e).map (·.size)).getD 0)) cells (ps.map fun p=>(p.1,a.eval p.2))=some cells'/\cells'.size=cs.length/\
   ∀(i:Nat) (c:AV),cs[i]? =some c->∃u,cells'[i]? =some u/\u.oneCell'=true/\Qa num β w m c u
 | [],[],zs,cs,cells,_,hv,hz,hc=>by
  simp only[Y5,XV]at hv;injection hv with hv
  subst hv;exact⟨cells,rfl,hz,hc⟩
 | (off,sz,x):: r,(i,y):: r',zs,cs,cells,ho,hv,hz,hc=>by
  simp only[TD,Qi,Qm]at ho;obtain⟨⟨⟨ho0,ho1⟩,ho2⟩,ho3⟩:=ho;simp only[ZP,XV]at hv;split at hv
  ·rename_i vs hvs;split at hv
   ·rename_i hl;obtain⟨hl1,hl2⟩:=hl;have hr:=(hI.val ho2 (WQ hvs)).1;obtain⟨_,hz2,hcs⟩:=Y6 hvs hr;have hsz: ((P.info? e).map (·.size)).getD 0=sz:=by
     unfold Zv at ho0;split at ho0
     ·rename_i inf hinf;simp only[Qm]at ho0;simp[hinf,ho0]
     ·cases ho0
    have hfit:off+ (a.eval y).cells.size<=cells.size:=by rw[hz2,hz];exact hl2
    have hp:=PC off (a.eval y).cells cells hfit;have hlen: (put zs off (vs.map AV.strip)).length=zs.length:=by unfold put;rw[Xs _ _ _ (by simpa using hl2)]
    obtain⟨cells',f1,f2,f3⟩:=Ik hI e r r' _ cs _ ho3 hv (by rw[hp.1,hz,hlen]) (fun j c hj=>by
     unfold put at hj;rw[YT _ _ _ (by simpa using hl2)]at hj;rw[hp.2 j];simp only[Wa]at hj;split at hj
     ·rename_i h1;obtain⟨u,g1,g2⟩:=hc j c hj;exact⟨u,by rw[Qe (by omega)];exact g1,g2⟩
     ·rename_i h1;split at hj
      ·rename_i h2;obtain⟨d,hd,rfl⟩:=Q0 hj;obtain⟨u,g1,g2,g3⟩:=hcs _ d hd;exact⟨u,by rw[Qh (by rw[hz2];omega)];exact g1,g2,by rw[QE];exact g3⟩
      ·rename_i h2;obtain⟨u,g1,g2⟩:=hc j c hj;exact⟨u,by rw[Qe (by rw[hz2];omega)];exact g1,g2⟩)
    refine⟨cells',?_,f2,f3⟩;simp only[ZP,Instr.fill,hsz];rw[<- ho1];rw[Qe (by rw[hz2,hl1,hz];simp;omega)];rw[hsz]at f1;exact f1
   ·cases hv
  ·cases hv
 | [],_:: _,_,_,_,h,_,_,_=>by simp[TD]at h
 | _:: _,[],_,_,_,h,_,_,_=>by simp[TD]at h
def Ct:=@Array.mapM_eq_mapM_toList
def Cq:=@Array.all_eq_true_iff_forall_mem
def QA:=@Option.map_some
def Ua:=@Option.getD_some
def Gy [Dr] {zs:Qf} {parts:List (Nat×Nat×AO)} {ps:List (Nat×Operand)} {t:TypeId} (hI:Inv num N w0 m0 T β0 σ a w m β ν) (ho:o.op= .build t ps.toArray)
  (ht:Hh P num t zs parts ps=true)
  (he:Qg K (.mkst zs parts) σ=some (v,σ1)) (h:Aft num N w0 m0 T β0 σ1 a v fun u w'=>next (a.put o.dst u) w'):o.wp P a w next Q:=by
 simp only[Qg]at he;cases hr:XV zs (parts.map fun p=>(p.1,p.2.1,val σ.env p.2.2))with
 | none=>rw[hr]at he;cases he
 | some cs=>
  rw[hr]at he;injection he with he
  injection he with h1 h2
  subst h1 h2;unfold Hh at ht;split at ht
  ·rename_i fs hu;simp only[Qi]at ht;obtain⟨⟨ht1,ht2⟩,ht3⟩:=ht;obtain⟨z,hz,hzc⟩:=Uz (w:=w) ht1;obtain⟨hl,hcs⟩:=ZX _ _ hzc;obtain⟨cells',f1,f2,f3⟩:=Oj hI fs parts ps zs cs z.cells ht3 hr (by simpa using hl) (fun i c hc=>by
    obtain⟨u,g1,g2⟩:=hcs i c hc;have:=Q5 (num:=num) (β:=β) (w:=w) (m:=m) (ν:=ν) g2;exact⟨u,by simpa using g1,this.2.1,this.1⟩)
   have hpl: (fs.mapM fun f=>do pure (f.offset,<- sizeOf f.type):Sem _).run P w= .ok (T9 P fs) w:=by
    rw[Ct];simp only[Sem.run_map];rw[RK (fun f=>do pure (f.offset,<- sizeOf f.type)) (fun f:Field=>(f.offset,((P.info? f.type).map (·.size)).getD 0)) fs.toList (fun f hf=>by
     have:=Cq.1 ht2 f (by simpa using hf);obtain⟨i,hi⟩:=O3.1 this;simp[sizeOf,typeInfo,hi])]
    rfl
   refine Qj (u:= .agg cells') (w':=w) ?_ (h.same hI rfl ?_ trivial)
   ·have hps: (Array.map (fun x:Nat×Operand=>(x.fst,a.eval x.snd)) ps.toArray).toList=ps.map fun p=>(p.1,a.eval p.2):=by simp
    simp only[execOp,ho,Instr.build,Sem.run_bind,hz,Result.andThen_ok,run_underlying hu];simp only[hpl,Result.andThen_ok,hps];have f1':Instr.fill (fun x=>(T9 P fs)[x]?) z.cells (ps.map fun p=>(p.1,a.eval p.2))=some cells':=f1;simp only[f1',Sem.run_pure,Result.andThen_ok]
   ·simp only[Qa];exact⟨cells',rfl,f2,by rw[Zp];intro i c hc;rw[QP];exact f3 i c hc⟩
  ·rename_i n e hu;simp only[Qi]at ht;obtain⟨⟨ht1,ht2⟩,ht3⟩:=ht;obtain⟨inf,hinf⟩:=O3.1 ht2;obtain⟨z,hz,hzc⟩:=Uz (w:=w) ht1;obtain⟨hl,hcs⟩:=ZX _ _ hzc;obtain⟨cells',f1,f2,f3⟩:=Ik hI e parts ps zs cs z.cells ht3 hr (by simpa using hl) (fun i c hc=>by
    obtain⟨u,g1,g2⟩:=hcs i c hc;have:=Q5 (num:=num) (β:=β) (w:=w) (m:=m) (ν:=ν) g2;exact⟨u,by simpa using g1,this.2.1,this.1⟩)
   refine Qj (u:= .agg cells') (w':=w) ?_ (h.same hI rfl ?_ trivial)
   ·have hps: (Array.map (fun x:Nat×Operand=>(x.fst,a.eval x.snd)) ps.toArray).toList=ps.map fun p=>(p.1,a.eval p.2):=by simp
    rw[hinf]at f1;simp only[QA,Ua]at f1;simp only[execOp,ho,Instr.build,Sem.run_bind,hz,Result.andThen_ok,run_underlying hu];simp[sizeOf,typeInfo,hinf,f1,Result.andThen]
   ·simp only[Qa];exact⟨cells',rfl,f2,by rw[Zp];intro i c hc;rw[QP];exact f3 i c hc⟩
  ·cases ht
def TX:=@Option.map_none
def Zl [Dr] {k:Nat} {n d:Nat} {x:Option AO} {y:Option Operand} (hI:Inv num N w0 m0 T β0 σ a w m β ν) (ho:XF num x y=true) (h:Zb n d (x.map (Am.val σ.env))=some k):
  (y=none/\k=d)\/∃y',y=some y'/\k<=n/\∃kd,a.eval y'= .int kd (k:Int):=by
 cases x with
 | none=>
  cases y with
  | none=>simp only[TX,Zb]at h;injection h with h;exact .inl ⟨rfl,h.symm⟩
  | some y=>simp[XF]at ho
 | some x=>
  cases y with
  | none=>simp[XF]at ho
  | some y=>
   simp only[XF]at ho;simp only[QA]at h;unfold Zb at h;split at h
   ·rename_i h2;cases h2
   ·rename_i kd i h2;injection h2 with h2
    split at h
    ·rename_i h3;injection h with h
     have g1:=(hI.val ho (by rw[h2];rfl)).1;rw[h2]at g1;simp only[Qa]at g1;exact .inr ⟨y,rfl,by omega,kd,by rw[g1];congr 1;omega⟩
    ·cases h
   ·cases h
abbrev QgR:=Option Value
def Nf:=@Option.isSome_none
def XY {l h len cap:Nat} {isSl:Bool} {lo hi:QgR} (hh: (hi=none/\h=len)\/∃kd,hi=some (.int kd (h:Int))) (hl: (lo=none/\l=0)\/∃kd,lo=some (.int kd (l:Int)))
  (h1:h<=cap) (h2:l<=h): (Instr.sliceBounds isSl len cap lo hi none).run P w= .ok (l,h,cap) w:=by
 have hb: ∀(kd:IntKind) (n y:Nat) (c:BoundsCode),n<=y->(Instr.sliceBound (.int kd (n:Int)) y c).run P w= .ok n w:=fun kd n y c hn=>by
  simp only[Instr.sliceBound,asIntOf,Sem.run_bind,Sem.run_pure,Result.andThen_ok];rw[Qh (by omega)];rfl
 rcases hh with⟨rfl,rfl⟩ | ⟨kd,rfl⟩ <;> rcases hl with⟨rfl,rfl⟩ | ⟨kd2,rfl⟩ <;> simp only[Instr.sliceBounds,Sem.run_bind,Sem.run_pure,Result.andThen_ok,hb _ _ _ _ h1,hb _ _ _ _ h2,Nf,Zo,QC]
def Nk:=@List.drop_take
def QcV [Dr] {x:AO} {lo hi:Option AO} {x':Operand} {lo' hi':Option Operand} {t:TypeId} (hI:Inv num N w0 m0 T β0 σ a w m β ν) (ho:o.op= .slice t x' lo' hi' none) (ht:PU P t=true) (hx:okO num x x'=true)
  (hlo:XF num lo lo'=true) (hhi:XF num hi hi'=true)
  (he:Qg K (.slcs x lo hi) σ=some (v,σ1)) (h:Aft num N w0 m0 T β0 σ1 a v fun u w'=>next (a.put o.dst u) w'):o.wp P a w next Q:=by
 simp only[Qg]at he;split at he
 ·rename_i s hA;cases hb1:Zb s.length s.length (hi.map (val σ.env))with
  | none=>rw[hb1]at he;cases he
  | some H=>
   rw[hb1]at he;simp only[Qt]at he;cases hb2:Zb H 0 (lo.map (val σ.env))with
   | none=>rw[hb2]at he;cases he
   | some L=>
    rw[hb2]at he;injection he with he
    injection he with h1 h2
    subst h1 h2;have g1:=(hI.val hx (by rw[hA];rfl)).1;rw[hA]at g1;simp only[Qa]at g1;have hH:H<=s.length:=by
     rcases Zl hI hhi hb1 with⟨_,rfl⟩ | ⟨_,_,h,_⟩ <;> omega
    have hL:L<=H:=by
     rcases Zl hI hlo hb2 with⟨_,rfl⟩ | ⟨_,_,h,_⟩ <;> omega
    have e1: (hi'.map a.eval=none/\H=s.length)\/∃kd,hi'.map a.eval=some (.int kd (H:Int)):=by
     rcases Zl hI hhi hb1 with⟨rfl,rfl⟩ | ⟨y',rfl,_,kd,hk⟩
     ·exact .inl ⟨rfl,rfl⟩
     ·exact .inr ⟨kd,by simp[hk]⟩
    have e2: (lo'.map a.eval=none/\L=0)\/∃kd,lo'.map a.eval=some (.int kd (L:Int)):=by
     rcases Zl hI hlo hb2 with⟨rfl,rfl⟩ | ⟨y',rfl,_,kd,hk⟩
     ·exact .inl ⟨rfl,rfl⟩
     ·exact .inr ⟨kd,by simp[hk]⟩
    have hu:=MC ht;refine Qj (u:= .string ((⟨s.toArray⟩:ByteArray).extract L H)) (w':=w) ?_ (h.same hI rfl ?_ trivial)
    ·simp only[execOp,ho,g1,Instr.sliceAt,Instr.slice,Sem.run_bind,run_underlying hu,Result.andThen_ok,TX,Nf,Zo,QC];rw[XY (len:=(⟨s.toArray⟩:ByteArray).size) e1 e2 (by simpa[ByteArray.size_mk']using hH) hL];rfl
    ·simp only[Qa];rw[ByteArray.extract_mk,Nk]
 ·cases he
def ZQ:=@Nat.add_mul
def QcU [Dr] {sz:Nat} {x:AO} {lo hi:Option AO} {x':Operand} {lo' hi':Option Operand} {t:TypeId} (hI:Inv num N w0 m0 T β0 σ a w m β ν) (ho:o.op= .slice t x' lo' hi' none) (ht:Yu P t sz=true) (hx:okO num x x'=true)
  (hlo:XF num lo lo'=true) (hhi:XF num hi hi'=true)
  (he:Qg K (.slcl sz x lo hi) σ=some (v,σ1)) (h:Aft num N w0 m0 T β0 σ1 a v fun u w'=>next (a.put o.dst u) w'):o.wp P a w next Q:=by
 simp only[Qg]at he;split at he
 ·rename_i o2 sz1 xs hA;split at he
  ·rename_i hsz;subst hsz;cases hb1:Zb xs.length xs.length (hi.map (val σ.env))with
   | none=>rw[hb1]at he;cases he
   | some H=>
    rw[hb1]at he;simp only[Qt]at he;cases hb2:Zb H 0 (lo.map (val σ.env))with
    | none=>rw[hb2]at he;cases he
    | some L=>
     rw[hb2]at he;injection he with he
     injection he with h1 h2
     subst h1 h2;have g1:=(hI.val hx (by rw[hA];rfl)).1;rw[hA]at g1;simp only[Qa]at g1;obtain⟨A,len,cap,g1,g2,g3,g4,g5⟩:=g1;have hH:H<=xs.length:=by
      rcases Zl hI hhi hb1 with⟨_,rfl⟩ | ⟨_,_,h,_⟩ <;> omega
     have hL:L<=H:=by
      rcases Zl hI hlo hb2 with⟨_,rfl⟩ | ⟨_,_,h,_⟩ <;> omega
     have e1: (hi'.map a.eval=none/\H=len)\/∃kd,hi'.map a.eval=some (.int kd (H:Int)):=by
      rcases Zl hI hhi hb1 with⟨rfl,rfl⟩ | ⟨y',rfl,_,kd,hk⟩
      ·exact .inl ⟨rfl,g2⟩
      ·exact .inr ⟨kd,by simp[hk]⟩
     have e2: (lo'.map a.eval=none/\L=0)\/∃kd,lo'.map a.eval=some (.int kd (L:Int)):=by
      rcases Zl hI hlo hb2 with⟨rfl,rfl⟩ | ⟨y',rfl,_,kd,hk⟩
      ·exact .inl ⟨rfl,rfl⟩
      ·exact .inr ⟨kd,by simp[hk]⟩
     unfold Yu at ht;split at ht
     ·rename_i e hu;refine Qj (u:= .slice (if cap=L then A else A.map (·.add (L*sz1))) (H - L) (cap - L)) (w':=w) ?_ (h.same hI rfl ?_ trivial)
      ·simp only[execOp,ho,g1,Instr.sliceAt,Instr.slice,Sem.run_bind,run_underlying hu,Result.andThen_ok,TX];rw[XY e1 e2 (by omega) hL];simp only[Result.andThen_ok,Zc ht];rfl
      ·simp only[Qa];refine⟨_,_,_,rfl,by simp;omega,by omega,by omega,?_⟩;by_cases hLH:L=H
       ·left;subst hLH;simp
       ·right;rcases g5 with g5 | ⟨b,of,rfl,g5⟩
        ·subst g5;simp at hH;omega
        ·refine⟨b,of+L*sz1,by rw[Qe (by omega)];simp[ZI],?_⟩;rw[Yk]at g5 ⊢;intro i z hz;rw[YM]at hz;have hz2:xs[L+i]? =some z:=by
          rw[Ws]at hz;split at hz
          ·exact hz
          ·cases hz
         obtain⟨k1,k2⟩:=g5 _ z hz2;refine⟨k1,?_⟩;rwa[show of+L*sz1+i*sz1=of+ (L+i)*sz1 by rw[ZQ];omega]
     ·cases ht
  ·cases he
 ·rename_i id of sz1 kn hA;split at he
  ·rename_i hsz;obtain⟨rfl,hszp⟩:=hsz;cases hb1:Zb kn kn (hi.map (val σ.env))with
   | none=>rw[hb1]at he;cases he
   | some H=>
    rw[hb1]at he;simp only[Qt]at he;cases hb2:Zb H 0 (lo.map (val σ.env))with
    | none=>rw[hb2]at he;cases he
    | some L=>
     rw[hb2]at he;injection he with he
     injection he with h1 h2
     subst h1 h2;have g1:=(hI.val hx (by rw[hA];rfl)).1;rw[hA]at g1;simp only[Qa]at g1;obtain⟨A,cap,g1,g3,g4,g5⟩:=g1;have hH:H<=kn:=by
      rcases Zl hI hhi hb1 with⟨_,rfl⟩ | ⟨_,_,h,_⟩ <;> omega
     have hL:L<=H:=by
      rcases Zl hI hlo hb2 with⟨_,rfl⟩ | ⟨_,_,h,_⟩ <;> omega
     have e1: (hi'.map a.eval=none/\H=kn)\/∃kd,hi'.map a.eval=some (.int kd (H:Int)):=by
      rcases Zl hI hhi hb1 with⟨rfl,rfl⟩ | ⟨y',rfl,_,kd,hk⟩
      ·exact .inl ⟨rfl,rfl⟩
      ·exact .inr ⟨kd,by simp[hk]⟩
     have e2: (lo'.map a.eval=none/\L=0)\/∃kd,lo'.map a.eval=some (.int kd (L:Int)):=by
      rcases Zl hI hlo hb2 with⟨rfl,rfl⟩ | ⟨y',rfl,_,kd,hk⟩
      ·exact .inl ⟨rfl,rfl⟩
      ·exact .inr ⟨kd,by simp[hk]⟩
     unfold Yu at ht;split at ht
     ·rename_i e hu;refine Qj (u:= .slice (if cap=L then A else A.map (·.add (L*sz1))) (H - L) (cap - L)) (w':=w) ?_ (h.same hI rfl ?_ trivial)
      ·simp only[execOp,ho,g1,Instr.sliceAt,Instr.slice,Sem.run_bind,run_underlying hu,Result.andThen_ok,TX];rw[XY e1 e2 (by omega) hL];simp only[Result.andThen_ok,Zc ht];rfl
      ·simp only[Qa];refine⟨_,_,rfl,by omega,by omega,?_⟩;by_cases hLH:cap=L
       ·left;refine⟨by omega,by omega,?_⟩;rcases g5 with g5 | ⟨kb,g5,_,g6,_⟩
        ·exact g5.2.2.imp (fun h=>absurd h.1 (by omega)) fun⟨kb,g6,g7⟩=>⟨kb,g6,by omega,hszp⟩
        ·exact .inr ⟨kb,g5,by rw[hLH]at g6;omega,hszp⟩
       ·rcases g5 with g5 | ⟨kb,g5,rfl,g6,_⟩
        ·left;exact⟨by omega,by omega,g5.2.2.imp (fun h=>absurd h.1 (by omega)) fun⟨kb,g6,g7⟩=>⟨kb,g6,by omega,hszp⟩⟩
        ·right;have hmul:L*sz1+ (cap - L)*sz1=cap*sz1:=by rw[<- ZQ];congr 1;omega
         exact⟨kb,g5,by rw[Qe (by omega)];simp[ZI],by omega,hszp⟩
     ·cases ht
  ·split at he
   ·rename_i hz;obtain⟨rfl,rfl⟩:=hz;cases hb1:Zb 0 0 (hi.map (val σ.env))with
    | none=>rw[hb1]at he;cases he
    | some H=>
     rw[hb1]at he;simp only[Qt]at he;cases hb2:Zb H 0 (lo.map (val σ.env))with
     | none=>rw[hb2]at he;cases he
     | some L=>
      rw[hb2]at he;injection he with he
      injection he with h1 h2
      subst h1 h2;have g1:=(hI.val hx (by rw[hA];rfl)).1;rw[hA]at g1;simp only[Qa]at g1;obtain⟨A,cap,g1,g3,g4,g5⟩:=g1;have hcap:cap=0:=by
       rcases g5 with g5 | ⟨_,_,_,_,g6⟩
       ·exact g5.2.1
       ·omega
      subst hcap;have hH:H=0:=by
       rcases Zl hI hhi hb1 with⟨_,rfl⟩ | ⟨_,_,h,_⟩ <;> omega
      subst hH;have hL:L=0:=by
       rcases Zl hI hlo hb2 with⟨_,rfl⟩ | ⟨_,_,h,_⟩ <;> omega
      subst hL;have e1: (hi'.map a.eval=none/\(0:Nat)=0)\/∃kd,hi'.map a.eval=some (.int kd ((0:Nat):Int)):=by
       rcases Zl hI hhi hb1 with⟨rfl,_⟩ | ⟨y',rfl,_,kd,hk⟩
       ·exact .inl ⟨rfl,rfl⟩
       ·exact .inr ⟨kd,by simp[hk]⟩
      have e2: (lo'.map a.eval=none/\(0:Nat)=0)\/∃kd,lo'.map a.eval=some (.int kd ((0:Nat):Int)):=by
       rcases Zl hI hlo hb2 with⟨rfl,_⟩ | ⟨y',rfl,_,kd,hk⟩
       ·exact .inl ⟨rfl,rfl⟩
       ·exact .inr ⟨kd,by simp[hk]⟩
      unfold Yu at ht;split at ht
      ·rename_i e hu;refine Qj (u:= .slice (if 0=0 then A else A.map (·.add (0*sz))) (0 - 0) (0 - 0)) (w':=w) ?_ (h.same hI rfl ?_ trivial)
       ·simp only[execOp,ho,g1,Instr.sliceAt,Instr.slice,Sem.run_bind,run_underlying hu,Result.andThen_ok,TX];rw[XY e1 e2 (by omega) (by omega)];simp only[Result.andThen_ok,Zc ht];rfl
       ·simp only[Qa];exact⟨_,_,rfl,by omega,by unfold maxLen;omega,.inl (by simp)⟩
      ·cases ht
   ·cases he
 ·cases he
def Te:=@Nat.zero_le
def QhD [Dr] {sz:Nat} {x:AO} {x':Operand} {t:TypeId} {k1 k2:IntKind} (hI:Inv num N w0 m0 T β0 σ a w m β ν) (ho:o.op= .slice t x' none (some (.const (.int k1 0))) (some (.const (.int k2 0)))) (ht:Yu P t sz=true) (hx:okO num x x'=true)
  (he:Qg K (.slz sz x) σ=some (v,σ1)) (h:Aft num N w0 m0 T β0 σ1 a v fun u w'=>next (a.put o.dst u) w'):o.wp P a w next Q:=by
 simp only[Qg]at he;split at he
 ·rename_i o2 sz1 xs hA;split at he
  ·rename_i hsz;subst hsz;injection he with he
   injection he with h1 h2
   subst h1 h2;have g1:=(hI.val hx (by rw[hA];rfl)).1;rw[hA]at g1;simp only[Qa]at g1;obtain⟨A,len,cap,g1,g2,g3,g4,g5⟩:=g1;unfold Yu at ht;split at ht
   ·rename_i e hu;refine Qj (u:= .slice A 0 0) (w':=w) ?_ (h.same hI rfl ?_ (.inl ⟨A,0,rfl⟩))
    ·have c1:a.eval (.const (.int k1 0))= .int k1 0:=rfl;have c2:a.eval (.const (.int k2 0))= .int k2 0:=rfl;simp[execOp,ho,g1,c1,c2,Instr.sliceAt,Instr.slice,run_underlying hu,Instr.sliceBounds,Instr.sliceBound,asIntOf,Zc ht]
    ·simp only[Qa];exact⟨A,0,0,rfl,rfl,Za _,Te _,.inl trivial⟩
   ·cases ht
  ·cases he
 ·cases he
def YF:=@List.all_eq_true
def WW:=@List.mem_of_getElem?
def QcO [Dr] {f g:Nat} {caps:Wp} {cs:UC} (hI:Inv num N w0 m0 T β0 σ a w m β ν) (ho:o.op= .makeFunc (.func g) #[] cs.toArray) (hf:num f=some g) (hc:Yf num caps cs=true)
  (he:Qg K (.mkfn f caps) σ=some (v,σ1)) (h:Aft num N w0 m0 T β0 σ1 a v fun u w'=>next (a.put o.dst u) w'):o.wp P a w next Q:=by
 simp only[Qg]at he;split at he
 ·rename_i h1c;injection he with he
  injection he with h1 h2
  subst h1 h2;have hok:Yw (caps.map (val σ.env))=true:=by
   unfold Yw;rw[YF]at h1c ⊢;intro x hx;exact VG (h1c x hx)
  obtain⟨hl,hv⟩:=hI.vals hc hok;refine Qj (u:= .func (.func g) #[] (cs.toArray.map a.eval)) (w':=w) (by simp[execOp,ho,Instr.makeFunc]) (h.same hI rfl ?_ trivial);simp only[Qa];refine⟨g,_,hf,rfl,by simp[hl],?_⟩;rw[Zp];intro i c hci;obtain⟨y,k1,k2,k3⟩:=hv i c hci;have h1:c.one=true:=by
   rw[YF]at h1c;exact h1c c (WW hci)
  exact⟨a.eval y,by simp[k1],Um h1 k3,k3⟩
 ·cases he
def QcN [Dr] {f g:Nat} {caps:Wp} {cs:UC} (hI:Inv num N w0 m0 T β0 σ a w m β ν) (ho:o.op= .makeFunc (.func g) cs.toArray #[]) (hf:num f=some g) (hc:Yf num caps cs=true)
  (he:Qg K (.mkfb f caps) σ=some (v,σ1)) (h:Aft num N w0 m0 T β0 σ1 a v fun u w'=>next (a.put o.dst u) w'):o.wp P a w next Q:=by
 simp only[Qg]at he;split at he
 ·rename_i h1c;injection he with he
  injection he with h1 h2
  subst h1 h2;have hok:Yw (caps.map (val σ.env))=true:=by
   unfold Yw;rw[YF]at h1c ⊢;intro x hx;exact VG (h1c x hx)
  obtain⟨hl,hv⟩:=hI.vals hc hok;refine Qj (u:= .func (.func g) (cs.toArray.map a.eval) #[]) (w':=w) (by simp[execOp,ho,Instr.makeFunc]) (h.same hI rfl ?_ trivial);simp only[Qa];refine⟨g,_,hf,rfl,by simp[hl],?_⟩;rw[Zp];intro i c hci;obtain⟨y,k1,k2,k3⟩:=hv i c hci;have h1:c.one=true:=by
   rw[YF]at h1c;exact h1c c (WW hci)
  exact⟨a.eval y,by simp[k1],Um h1 k3,k3⟩
 ·cases he
end
end Go.Am
