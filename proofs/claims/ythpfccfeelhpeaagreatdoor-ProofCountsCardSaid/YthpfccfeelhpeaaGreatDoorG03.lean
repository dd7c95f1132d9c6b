/-
  Am9.
-/
import Derived.Test.YthpfccfeelhpeaaGreatDoorG02
set_option linter.all false
namespace Go.Am
def Y4 (num:ZH):Option AO->Option Operand->Bool
 | none,none=>true
 | some x,some y=>okO num x y
 | _,_=>false
section
variable {P:Program} {num:Nat->Option Nat} {β:List Blk} {w w':World} {m:Nat->Nat} {ν:Own} {N:Nat} {w0:World} {m0:Nat->Nat} {T:Nat->Prop} {β0:List Blk} {σ σ1:St} {a:Act}
 {o:Oper} {next:Act->World->Prop} {Q:Exit->Act->World->Prop} {K:Zi} {v:AV}
def ML:=@List.foldl_cons
def M6 (off:Nat): ∀(vs:QS) (k:Nat) (cs:QP),off+k+vs.length<=cs.size->
  ((vs.zipIdx k).foldl (fun cs (p:Value×Nat)=>cs.setIfInBounds (off+p.2) p.1) cs).size=cs.size/\
  ∀(i:Nat),((vs.zipIdx k).foldl (fun cs (p:Value×Nat)=>cs.setIfInBounds (off+p.2) p.1) cs)[i]? =if off+k<=i/\i < off+k+vs.length then vs[i - (off+k)]? else cs[i]?
 | [],k,cs,_=>⟨rfl,fun i=>by rw[Qi (by simp)];rfl⟩
 | v:: vs,k,cs,h=>by
  simp only[Xp]at h;have ih:=M6 off vs (k+1) (cs.setIfInBounds (off+k) v) (by simp;omega);simp only[List.zipIdx_cons,ML];refine⟨by rw[ih.1];simp,fun i=> ?_⟩;rw[ih.2 i];by_cases h1:off+ (k+1)<=i/\i < off+ (k+1)+vs.length
  ·rw[Qj h1,Qj (by simp only[Xp];omega)];rw[show i - (off+k)=(i - (off+ (k+1)))+1 by omega];rfl
  ·rw[Qi h1];by_cases h2:i=off+k
   ·subst h2;rw[Qj (by simp only[Xp];omega),Mx (by omega)];simp
   ·rw[To (fun e=>h2 e.symm),Qi (by simp only[Xp];omega)]
def SF [Dr] (off:Nat) (u:QP) (cs:QP) (h:off+u.size<=cs.size):
  (u.zipIdx.foldl (fun cs (p:Value×Nat)=>cs.setIfInBounds (off+p.2) p.1) cs).size=cs.size/\
  ∀(i:Nat),(u.zipIdx.foldl (fun cs (p:Value×Nat)=>cs.setIfInBounds (off+p.2) p.1) cs)[i]? =if off<=i/\i < off+u.size then u[i - off]? else cs[i]? :=by
 have:=M6 off u.toList 0 cs (by simpa using h);rw[<- Array.foldl_toList,Array.toList_zipIdx];simpa using this
def Xc:=@List.map_nil
def S4:=@Nat.add_sub_cancel_left
def TF [Dr] (hI:Inv num N w0 m0 T β0 σ a w m β ν) (sz n:Nat): ∀(xs:Xw) (ys:Ve) (k:Nat) (cells:QP) (vs:Qe),
  ZO num xs ys=true->ZX sz (xs.map (Am.val σ.env))=some vs->cells.size=n*sz->k+xs.length=n->
  ∃cells',Instr.fill (fun i=>some (i*sz,sz)) cells ((ys.zipIdx k).map fun p=>(p.2,a.eval p.1))=some cells'/\cells'.size=n*sz/\(∀i,i < k*sz->cells'[i]? =cells[i]?)/\
   ∀(i:Nat) (x:Qd),vs[i]? =some x->x.length=sz/\∀(j:Nat) (c:AV),x[j]? =some c->∃u,cells'[(k+i)*sz+j]? =some u/\u.oneCell'=true/\Qa num β w m c u
 | [],[],k,cells,vs,_,hv,hc,_=>by
  simp only[Xc,ZX]at hv;injection hv with hv
  subst hv;exact⟨cells,rfl,hc,fun _ _=>rfl,fun i x h=>by simp at h⟩
 | x:: xs,y:: ys,k,cells,vs,ho,hv,hc,hk=>by
  simp only[ZO,Qh]at ho;simp only[ZG,ZX]at hv;split at hv
  ·rename_i e es he hes;split at hv
   ·rename_i hl;injection hv with hv
    subst hv;have hr:=(hI.val ho.1 (XO he)).1;obtain⟨_,hz,hcs⟩:=Yz he hr;simp only[Xp]at hk;have hle: (k+1)*sz<=n*sz:=Zy _ (by omega);rw[Wx]at hle;have hfit:k*sz+ (a.eval y).cells.size<=cells.size:=by rw[hz,hl,hc];exact hle
    have hp:=SF (k*sz) (a.eval y).cells cells hfit;obtain⟨cells',f1,f2,f3,f4⟩:=TF hI sz n xs ys (k+1) _ es ho.2 hes (hp.1.trans hc) (by omega);refine⟨cells',?_,f2,fun i hi=> ?_,fun i z hz2=> ?_⟩
    ·simp only[List.zipIdx_cons,ZG,Instr.fill];rw[Qi (by rw[hz,hl];simp;omega)];exact f1
    ·rw[f3 i (by rw[Wx];omega),hp.2 i,Qi (by omega)]
    ·cases i with
     | zero=>
      simp at hz2;subst hz2;refine⟨by simpa using hl,fun j c hj=> ?_⟩;obtain⟨d,hd,rfl⟩:=QL hj;obtain⟨u,g1,g2,g3⟩:=hcs j d hd;have hjl:j < sz:=by
       rcases QC j e.length with h | h
       ·omega
       ·rw[QF h]at hd;cases hd
      refine⟨u,?_,g2,by rw[Qs];exact g3⟩;rw[Wq,f3 _ (by rw[Wx];omega),hp.2,Qj (by rw[hz,hl];omega),S4];exact g1
     | succ i=>
      simp at hz2;have:=f4 i z hz2;rwa[show k+1+i=k+ (i+1) by omega]at this
   ·cases hv
  ·cases hv
 | [],_:: _,_,_,_,h,_,_,_=>by simp[ZO]at h
 | _:: _,[],_,_,_,h,_,_,_=>by simp[ZO]at h
def V4 (P:Program) (t:TypeId) (sz n:Nat):Bool:=match P.underlying t with
 | some (.slice e)=>Q5 P e sz && (match P.info? e with
  | some i=>i.zero.isSome
  | none=>false) && decide (n*sz<=2 ^ 24) && decide (0 < sz)
 | _=>false
def RU:=@Option.isSome_iff_exists
def ZF:=@Function.comp_def
def U2:=@Nat.le_mul_of_pos_right
def Ca [Dr] {sz:Nat} {parts:Xw} {ps:Ve} {t:TypeId} (hI:Inv num N w0 m0 T β0 σ a w m β ν) (ho:o.op= .buildSlice t ps.length (ps.zipIdx.map fun p=>(p.2,p.1)).toArray)
  (ht:V4 P t sz ps.length=true) (hp:ZO num parts ps=true)
  (he:Qc K (.mksl sz parts) σ=some (v,σ1)) (h:Aft num N w0 m0 T β0 σ1 a v fun u w'=>next (a.put o.dst u) w'):o.wp P a w next Q:=by
 simp only[Qc]at he;cases hr:ZX sz (parts.map (val σ.env))with
 | none=>rw[hr]at he;cases he
 | some xs=>
  rw[hr]at he;injection he with he
  injection he with h1 h2
  subst h1 h2;have hlen: ∀(parts:Xw) (ps:Ve),ZO num parts ps=true->parts.length=ps.length:=by
   intro parts
   induction parts with
   | nil=>intro ps hp;cases ps <;> simp[ZO]at hp ⊢
   | cons x xs ih=>intro ps hp;cases ps with
    | nil=>simp[ZO]at hp
    | cons y ys=>simp only[ZO,Qh]at hp;simp[ih ys hp.2]
  have hlen2: ∀(vs:Qd) (xs:Qe),ZX sz vs=some xs->xs.length=vs.length:=by
   intro vs
   induction vs with
   | nil=>intro xs h;simp[ZX]at h;subst h;rfl
   | cons v vs ih=>
    intro xs h;simp only[ZX]at h;split at h
    ·rename_i e es h1 h2;split at h
     ·injection h with h;subst h;simp[ih es h2]
     ·cases h
    ·cases h
  have hL:=hlen parts ps hp;have hX:xs.length=ps.length:=by rw[hlen2 _ _ hr];simpa using hL
  unfold V4 at ht;split at ht
  ·rename_i e hu;simp only[Qh,Ql]at ht;obtain⟨⟨⟨ht1,ht2⟩,ht3⟩,ht4⟩:=ht;split at ht2
   ·rename_i i hi;obtain⟨z,hz⟩:=RU.1 ht2;have hsz:i.size=sz:=by unfold Q5 at ht1;rw[hi]at ht1;simpa using ht1
    obtain⟨zc,hzc⟩: ∃zc:QP,zc=(if ps.length*sz=0 then #[]else z.cells):=⟨_,rfl⟩;obtain⟨cells',f1,f2,_,f4⟩:=TF hI sz ps.length parts ps 0 ((Array.range (ps.length*sz)).map (zc[· % zc.size]!)) xs hp hr (by simp) (by omega);refine Qf (u:= .slice (some ⟨w.heap.size,0,none⟩) ps.length ps.length) (w':=w.alloc (.cells cells' e)) ?_ ?_
    ·have hps: (Array.map (fun x:Nat×Operand=>(x.fst,a.eval x.snd)) (ps.zipIdx.map fun p=>(p.2,p.1)).toArray).toList=(ps.zipIdx 0).map fun p=>(p.2,a.eval p.1):=by
      simp[List.map_map,ZF]
     simp only[execOp,ho,Instr.buildSlice,Sem.run_bind,run_underlying hu,Result.andThen_ok,QV ht1];rw[Qi (by omega)];by_cases h0:ps.length*sz=0
     ·rw[Qj h0]at hzc;simp only[h0,Q9,Sem.run_bind,Sem.run_pure,Result.andThen_ok,hps];rw[hzc,h0]at f1;rw[f1];simp[newRow]
     ·rw[Qi h0]at hzc;simp only[h0,Zz,Sem.run_pure,Sem.run_bind,Result.andThen_ok,zeroValue,typeInfo,run_program,hi,hz,hps];rw[hzc]at f1;rw[f1];simp[newRow]
    ·refine h _ _ _ β _ (hI.fresh cells' e (ps.length*sz) .f) ((Qr rfl).2 ⟨?_,.inr ⟨w.heap.size,ps.length,cells',e,by rw[hX],heap_alloc_new w _,by rw[f2],by simp[m1,hX],by simp[Zc]⟩⟩);simp only[Qa];refine⟨_,_,_,rfl,hX,Zd _,?_,.inr ⟨w.heap.size,0,rfl,?_⟩⟩
     ·have:ps.length<=2 ^ 24:=X0 (U2 _ ht4) ht3;unfold maxLen;omega
     ·rw[ZT];intro i2 x hx;obtain⟨g1,g2⟩:=f4 i2 x hx;refine⟨g1,?_⟩;rw[Q2];intro j c hc;obtain⟨u,k1,k2,k3⟩:=g2 j c hc;have hlt:i2*sz+j < ps.length*sz:=by
       have hjl:j < sz:=by
        rcases QC j x.length with h | h
        ·omega
        ·rw[QF h]at hc;cases hc
       have hil:i2 < ps.length:=by
        rcases QC i2 xs.length with h | h
        ·omega
        ·rw[QF h]at hx;cases hx
       have: (i2+1)*sz<=ps.length*sz:=Zy _ hil;rw[Wx]at this;omega
      refine⟨u,?_,k2,QH (Ge.refl β) (Q1.alloc (fun _=>False) w m cells' e _).le c u k3⟩;unfold hg;rw[Qj (by simp[m1];omega),cell_of_row _ _ _ cells' e (0,0) (heap_alloc_new w _)];rw[QM]at k1 ⊢;exact k1
   ·cases ht2
  ·cases ht
def R7:=@List.mapM_cons
def TW {α γ:Type} (f:α->Sem γ) (g:α->γ): ∀(l:List α),(∀x∈l,(f x).run P w= .ok (g x) w)->(l.mapM f).run P w= .ok (l.map g) w
 | [],_=>by simp
 | x:: l,h=>by
  rw[R7];simp only[Sem.run_bind,h x (by simp),Result.andThen_ok,TW f g l (fun y hy=>h y (by simp[hy])),Sem.run_pure,ZG]
def FX (P:Program) (fs:Array Field):Bool:=fs.all fun f=>(P.info? f.type).isSome
def GH (P:Program) (fs:Array Field) (i off sz:Nat):Bool:=match fs[i]? with
 | some f=>decide (f.offset=off) && Q5 P f.type sz
 | none=>false
def Uc (P:Program) (num:ZH) (fs:Array Field):List (Nat×Nat×AO)->List (Nat×Operand)->Bool
 | [],[]=>true
 | (off,sz,x):: r,(i,y):: r'=>GH P fs i off sz && okO num x y && Uc P num fs r r'
 | _,_=>false
def V5 (P:Program) (num:ZH) (e:TypeId):List (Nat×Nat×AO)->List (Nat×Operand)->Bool
 | [],[]=>true
 | (off,sz,x):: r,(i,y):: r'=>Q5 P e sz && decide (off=i*sz) && okO num x y && V5 P num e r r'
 | _,_=>false
def LI (P:Program) (num:ZH) (t:TypeId) (zs:Qd) (parts:List (Nat×Nat×AO)) (ps:List (Nat×Operand)):Bool:=match P.underlying t with
 | some (.struct fs)=>Wv P t zs && FX P fs && Uc P num fs parts ps
 | some (.array _ e)=>Wv P t zs && (P.info? e).isSome && V5 P num e parts ps
 | _=>false
def Ux (P:Program) (fs:Array Field):Array (Nat×Nat):=(fs.toList.map fun f=>(f.offset,((P.info? f.type).map (·.size)).getD 0)).toArray
def Xb:=@List.length_map
def Rj [Dr] (hI:Inv num N w0 m0 T β0 σ a w m β ν) (fs:Array Field): ∀(parts:List (Nat×Nat×AO)) (ps:List (Nat×Operand)) (zs cs:Qd) (cells:QP),
  Uc P num fs parts ps=true->Xf zs (parts.map fun p=>(p.1,p.2.1,Am.val σ.env p.2.2))=some cs->cells.size=zs.length->
  (∀(i:Nat) (c:AV),zs[i]? =some c->∃u,cells[i]? =some u/\u.oneCell'=true/\Qa num β w m c u)->
  ∃cells',Instr.fill (fun i=>(Ux P fs)[i]?) cells (ps.map fun p=>(p.1,a.eval p.2))=some cells'/\cells'.size=cs.length/\
   ∀(i:Nat) (c:AV),cs[i]? =some c->∃u,cells'[i]? =some u/\u.oneCell'=true/\Qa num β w m c u
 | [],[],zs,cs,cells,_,hv,hz,hc=>by
  simp only[Xc,Xf]at hv;injection hv with hv
  subst hv;exact⟨cells,rfl,hz,hc⟩
 | (off,sz,x):: r,(i,y):: r',zs,cs,cells,ho,hv,hz,hc=>by
  simp only[Uc,Qh]at ho;obtain⟨⟨ho1,ho2⟩,ho3⟩:=ho;simp only[ZG,Xf]at hv;split at hv
  ·rename_i vs hvs;split at hv
   ·rename_i hl;obtain⟨hl1,hl2⟩:=hl;have hr:=(hI.val ho2 (XO hvs)).1;obtain⟨_,hz2,hcs⟩:=Yz hvs hr;have hpl: (Ux P fs)[i]? =some (off,sz):=by
     unfold GH at ho1;split at ho1
     ·rename_i f hf;simp only[Qh,Ql]at ho1;obtain⟨rfl,ho1⟩:=ho1;unfold Q5 at ho1;split at ho1
      ·rename_i inf hinf;simp only[Ql]at ho1;simp[Ux,hf,hinf,ho1]
      ·cases ho1
     ·cases ho1
    have hfit:off+ (a.eval y).cells.size<=cells.size:=by rw[hz2,hz];exact hl2
    have hp:=SF off (a.eval y).cells cells hfit;have hlen: (put zs off (vs.map AV.strip)).length=zs.length:=by unfold put;rw[YT _ _ _ (by simpa using hl2)]
    obtain⟨cells',f1,f2,f3⟩:=Rj hI fs r r' _ cs _ ho3 hv (by rw[hp.1,hz,hlen]) (fun j c hj=>by
     unfold put at hj;rw[Yj _ _ _ (by simpa using hl2)]at hj;rw[hp.2 j];simp only[Xb]at hj;split at hj
     ·rename_i h1;obtain⟨u,g1,g2⟩:=hc j c hj;exact⟨u,by rw[Qi (by omega)];exact g1,g2⟩
     ·rename_i h1;split at hj
      ·rename_i h2;obtain⟨d,hd,rfl⟩:=QL hj;obtain⟨u,g1,g2,g3⟩:=hcs _ d hd;exact⟨u,by rw[Qj (by rw[hz2];omega)];exact g1,g2,by rw[Qs];exact g3⟩
      ·rename_i h2;obtain⟨u,g1,g2⟩:=hc j c hj;exact⟨u,by rw[Qi (by rw[hz2];omega)];exact g1,g2⟩)
    refine⟨cells',?_,f2,f3⟩;simp only[ZG,Instr.fill,hpl];rw[Qi (by rw[hz2,hl1,hz];simp;omega)];exact f1
   ·cases hv
  ·cases hv
 | [],_:: _,_,_,_,h,_,_,_=>by simp[Uc]at h
 | _:: _,[],_,_,_,h,_,_,_=>by simp[Uc]at h
def M3 [Dr] (hI:Inv num N w0 m0 T β0 σ a w m β ν) (e:TypeId): ∀(parts:List (Nat×Nat×AO)) (ps:List (Nat×Operand)) (zs cs:Qd) (cells:QP),
  V5 P num e parts ps=true->Xf zs (parts.map fun p=>(p.1,p.2.1,Am.val σ.env p.2.2))=some cs->cells.size=zs.length->
  (∀(i:Nat) (c:AV),zs[i]? =some c->∃u,cells[i]? =some u/\u.oneCell'=true/\Qa num β w m c u)->
  ∃cells',Instr.fill (fun i=>some (i* ((P.info? e).map (·.size)).getD 0,((P.info? e).map (·.size)).getD 0)) cells (ps.map fun p=>(p.1,a.eval p.2))=some cells'/\cells'.size=cs.length/\
   ∀(i:Nat) (c:AV),cs[i]? =some c->∃u,cells'[i]? =some u/\u.oneCell'=true/\Qa num β w m c u
 | [],[],zs,cs,cells,_,hv,hz,hc=>by
  simp only[Xc,Xf]at hv;injection hv with hv
  subst hv;exact⟨cells,rfl,hz,hc⟩
 | (off,sz,x):: r,(i,y):: r',zs,cs,cells,ho,hv,hz,hc=>by
  simp only[V5,Qh,Ql]at ho;obtain⟨⟨⟨ho0,ho1⟩,ho2⟩,ho3⟩:=ho;simp only[ZG,Xf]at hv;split at hv
  ·rename_i vs hvs;split at hv
   ·rename_i hl;obtain⟨hl1,hl2⟩:=hl;have hr:=(hI.val ho2 (XO hvs)).1;obtain⟨_,hz2,hcs⟩:=Yz hvs hr;have hsz: ((P.info? e).map (·.size)).getD 0=sz:=by
     unfold Q5 at ho0;split at ho0
     ·rename_i inf hinf;simp only[Ql]at ho0;simp[hinf,ho0]
     ·cases ho0
    have hfit:off+ (a.eval y).cells.size<=cells.size:=by rw[hz2,hz];exact hl2
    have hp:=SF off (a.eval y).cells cells hfit;have hlen: (put zs off (vs.map AV.strip)).length=zs.length:=by unfold put;rw[YT _ _ _ (by simpa using hl2)]
    obtain⟨cells',f1,f2,f3⟩:=M3 hI e r r' _ cs _ ho3 hv (by rw[hp.1,hz,hlen]) (fun j c hj=>by
     unfold put at hj;rw[Yj _ _ _ (by simpa using hl2)]at hj;rw[hp.2 j];simp only[Xb]at hj;split at hj
     ·rename_i h1;obtain⟨u,g1,g2⟩:=hc j c hj;exact⟨u,by rw[Qi (by omega)];exact g1,g2⟩
     ·rename_i h1;split at hj
      ·rename_i h2;obtain⟨d,hd,rfl⟩:=QL hj;obtain⟨u,g1,g2,g3⟩:=hcs _ d hd;exact⟨u,by rw[Qj (by rw[hz2];omega)];exact g1,g2,by rw[Qs];exact g3⟩
      ·rename_i h2;obtain⟨u,g1,g2⟩:=hc j c hj;exact⟨u,by rw[Qi (by rw[hz2];omega)];exact g1,g2⟩)
    refine⟨cells',?_,f2,f3⟩;simp only[ZG,Instr.fill,hsz];rw[<- ho1];rw[Qi (by rw[hz2,hl1,hz];simp;omega)];rw[hsz]at f1;exact f1
   ·cases hv
  ·cases hv
 | [],_:: _,_,_,_,h,_,_,_=>by simp[V5]at h
 | _:: _,[],_,_,_,h,_,_,_=>by simp[V5]at h
def H0:=@Array.mapM_eq_mapM_toList
def HW:=@Array.all_eq_true_iff_forall_mem
def Qt:=@Option.map_some
def V0:=@Option.getD_some
def Ky [Dr] {zs:Qd} {parts:List (Nat×Nat×AO)} {ps:List (Nat×Operand)} {t:TypeId} (hI:Inv num N w0 m0 T β0 σ a w m β ν) (ho:o.op= .build t ps.toArray)
  (ht:LI P num t zs parts ps=true)
  (he:Qc K (.mkst zs parts) σ=some (v,σ1)) (h:Aft num N w0 m0 T β0 σ1 a v fun u w'=>next (a.put o.dst u) w'):o.wp P a w next Q:=by
 simp only[Qc]at he;cases hr:Xf zs (parts.map fun p=>(p.1,p.2.1,val σ.env p.2.2))with
 | none=>rw[hr]at he;cases he
 | some cs=>
  rw[hr]at he;injection he with he
  injection he with h1 h2
  subst h1 h2;unfold LI at ht;split at ht
  ·rename_i fs hu;simp only[Qh]at ht;obtain⟨⟨ht1,ht2⟩,ht3⟩:=ht;obtain⟨z,hz,hzc⟩:=Vb (w:=w) ht1;obtain⟨hl,hcs⟩:=Zv _ _ hzc;obtain⟨cells',f1,f2,f3⟩:=Rj hI fs parts ps zs cs z.cells ht3 hr (by simpa using hl) (fun i c hc=>by
    obtain⟨u,g1,g2⟩:=hcs i c hc;have:=QN (num:=num) (β:=β) (w:=w) (m:=m) (ν:=ν) g2;exact⟨u,by simpa using g1,this.2.1,this.1⟩)
   have hpl: (fs.mapM fun f=>do pure (f.offset,<- sizeOf f.type):Sem _).run P w= .ok (Ux P fs) w:=by
    rw[H0];simp only[Sem.run_map];rw[TW (fun f=>do pure (f.offset,<- sizeOf f.type)) (fun f:Field=>(f.offset,((P.info? f.type).map (·.size)).getD 0)) fs.toList (fun f hf=>by
     have:=HW.1 ht2 f (by simpa using hf);obtain⟨i,hi⟩:=RU.1 this;simp[sizeOf,typeInfo,hi])]
    rfl
   refine Qf (u:= .agg cells') (w':=w) ?_ (h.same hI rfl ?_ trivial)
   ·have hps: (Array.map (fun x:Nat×Operand=>(x.fst,a.eval x.snd)) ps.toArray).toList=ps.map fun p=>(p.1,a.eval p.2):=by simp
    simp only[execOp,ho,Instr.build,Sem.run_bind,hz,Result.andThen_ok,run_underlying hu];simp only[hpl,Result.andThen_ok,hps];have f1':Instr.fill (fun x=>(Ux P fs)[x]?) z.cells (ps.map fun p=>(p.1,a.eval p.2))=some cells':=f1;simp only[f1',Sem.run_pure,Result.andThen_ok]
   ·simp only[Qa];exact⟨cells',rfl,f2,by rw[Q2];intro i c hc;rw[QM];exact f3 i c hc⟩
  ·rename_i n e hu;simp only[Qh]at ht;obtain⟨⟨ht1,ht2⟩,ht3⟩:=ht;obtain⟨inf,hinf⟩:=RU.1 ht2;obtain⟨z,hz,hzc⟩:=Vb (w:=w) ht1;obtain⟨hl,hcs⟩:=Zv _ _ hzc;obtain⟨cells',f1,f2,f3⟩:=M3 hI e parts ps zs cs z.cells ht3 hr (by simpa using hl) (fun i c hc=>by
    obtain⟨u,g1,g2⟩:=hcs i c hc;have:=QN (num:=num) (β:=β) (w:=w) (m:=m) (ν:=ν) g2;exact⟨u,by simpa using g1,this.2.1,this.1⟩)
   refine Qf (u:= .agg cells') (w':=w) ?_ (h.same hI rfl ?_ trivial)
   ·have hps: (Array.map (fun x:Nat×Operand=>(x.fst,a.eval x.snd)) ps.toArray).toList=ps.map fun p=>(p.1,a.eval p.2):=by simp
    rw[hinf]at f1;simp only[Qt,V0]at f1;simp only[execOp,ho,Instr.build,Sem.run_bind,hz,Result.andThen_ok,run_underlying hu];simp[sizeOf,typeInfo,hinf,f1,Result.andThen]
   ·simp only[Qa];exact⟨cells',rfl,f2,by rw[Q2];intro i c hc;rw[QM];exact f3 i c hc⟩
  ·cases ht
def Uj:=@Option.map_none
def QY [Dr] {k:Nat} {n d:Nat} {x:Option AO} {y:Option Operand} (hI:Inv num N w0 m0 T β0 σ a w m β ν) (ho:Y4 num x y=true) (h:QT n d (x.map (Am.val σ.env))=some k):
  (y=none/\k=d)\/∃y',y=some y'/\k<=n/\∃kd,a.eval y'= .int kd (k:Int):=by
 cases x with
 | none=>
  cases y with
  | none=>simp only[Uj,QT]at h;injection h with h;exact .inl ⟨rfl,h.symm⟩
  | some y=>simp[Y4]at ho
 | some x=>
  cases y with
  | none=>simp[Y4]at ho
  | some y=>
   simp only[Y4]at ho;simp only[Qt]at h;unfold QT at h;split at h
   ·rename_i h2;cases h2
   ·rename_i kd i h2;injection h2 with h2
    split at h
    ·rename_i h3;injection h with h
     have g1:=(hI.val ho (by rw[h2];rfl)).1;rw[h2]at g1;simp only[Qa]at g1;exact .inr ⟨y,rfl,by omega,kd,by rw[g1];congr 1;omega⟩
    ·cases h
   ·cases h
abbrev Qbd:=Option Value
def R4:=@Option.isSome_none
def Xg {l h len cap:Nat} {isSl:Bool} {lo hi:Qbd} (hh: (hi=none/\h=len)\/∃kd,hi=some (.int kd (h:Int))) (hl: (lo=none/\l=0)\/∃kd,lo=some (.int kd (l:Int)))
  (h1:h<=cap) (h2:l<=h): (Instr.sliceBounds isSl len cap lo hi none).run P w= .ok (l,h,cap) w:=by
 have hb: ∀(kd:IntKind) (n y:Nat) (c:BoundsCode),n<=y->(Instr.sliceBound (.int kd (n:Int)) y c).run P w= .ok n w:=fun kd n y c hn=>by
  simp only[Instr.sliceBound,asIntOf,Sem.run_bind,Sem.run_pure,Result.andThen_ok];rw[Qj (by omega)];rfl
 rcases hh with⟨rfl,rfl⟩ | ⟨kd,rfl⟩ <;> rcases hl with⟨rfl,rfl⟩ | ⟨kd2,rfl⟩ <;> simp only[Instr.sliceBounds,Sem.run_bind,Sem.run_pure,Result.andThen_ok,hb _ _ _ _ h1,hb _ _ _ _ h2,R4,ZQ,Zz]
def Cf [Dr] {x:AO} {lo hi:Option AO} {x':Operand} {lo' hi':Option Operand} {t:TypeId} (hI:Inv num N w0 m0 T β0 σ a w m β ν) (ho:o.op= .slice t x' lo' hi' none) (ht:S0 P t=true) (hx:okO num x x'=true)
  (hlo:Y4 num lo lo'=true) (hhi:Y4 num hi hi'=true)
  (he:Qc K (.slcs x lo hi) σ=some (v,σ1)) (h:Aft num N w0 m0 T β0 σ1 a v fun u w'=>next (a.put o.dst u) w'):o.wp P a w next Q:=by
 simp only[Qc]at he;split at he
 ·rename_i s hA;cases hb1:QT s.length s.length (hi.map (val σ.env))with
  | none=>rw[hb1]at he;cases he
  | some H=>
   rw[hb1]at he;simp only[Qn]at he;cases hb2:QT H 0 (lo.map (val σ.env))with
   | none=>rw[hb2]at he;cases he
   | some L=>
    rw[hb2]at he;injection he with he
    injection he with h1 h2
    subst h1 h2;have g1:=(hI.val hx (by rw[hA];rfl)).1;rw[hA]at g1;simp only[Qa]at g1;have hH:H<=s.length:=by
     rcases QY hI hhi hb1 with⟨_,rfl⟩ | ⟨_,_,h,_⟩ <;> omega
    have hL:L<=H:=by
     rcases QY hI hlo hb2 with⟨_,rfl⟩ | ⟨_,_,h,_⟩ <;> omega
    have e1: (hi'.map a.eval=none/\H=s.length)\/∃kd,hi'.map a.eval=some (.int kd (H:Int)):=by
     rcases QY hI hhi hb1 with⟨rfl,rfl⟩ | ⟨y',rfl,_,kd,hk⟩
     ·exact .inl ⟨rfl,rfl⟩
     ·exact .inr ⟨kd,by simp[hk]⟩
    have e2: (lo'.map a.eval=none/\L=0)\/∃kd,lo'.map a.eval=some (.int kd (L:Int)):=by
     rcases QY hI hlo hb2 with⟨rfl,rfl⟩ | ⟨y',rfl,_,kd,hk⟩
     ·exact .inl ⟨rfl,rfl⟩
     ·exact .inr ⟨kd,by simp[hk]⟩
    have hu:=PS ht;refine Qf (u:= .string ((⟨s.toArray⟩:ByteArray).extract L H)) (w':=w) ?_ (h.same hI rfl ?_ trivial)
    ·simp only[execOp,ho,g1,Instr.sliceAt,Instr.slice,Sem.run_bind,run_underlying hu,Result.andThen_ok,Uj,R4,ZQ,Zz];rw[Xg (len:=(⟨s.toArray⟩:ByteArray).size) e1 e2 (by simpa[ByteArray.size_mk']using hH) hL];rfl
    ·simp only[Qa];rw[ByteArray.extract_mk,List.drop_take]
 ·cases he
def Zm:=@Nat.add_mul
def Ce [Dr] {sz:Nat} {x:AO} {lo hi:Option AO} {x':Operand} {lo' hi':Option Operand} {t:TypeId} (hI:Inv num N w0 m0 T β0 σ a w m β ν) (ho:o.op= .slice t x' lo' hi' none) (ht:Z0 P t sz=true) (hx:okO num x x'=true)
  (hlo:Y4 num lo lo'=true) (hhi:Y4 num hi hi'=true)
  (he:Qc K (.slcl sz x lo hi) σ=some (v,σ1)) (h:Aft num N w0 m0 T β0 σ1 a v fun u w'=>next (a.put o.dst u) w'):o.wp P a w next Q:=by
 simp only[Qc]at he;split at he
 ·rename_i o2 sz1 xs hA;split at he
  ·rename_i hsz;subst hsz;cases hb1:QT xs.length xs.length (hi.map (val σ.env))with
   | none=>rw[hb1]at he;cases he
   | some H=>
    rw[hb1]at he;simp only[Qn]at he;cases hb2:QT H 0 (lo.map (val σ.env))with
    | none=>rw[hb2]at he;cases he
    | some L=>
     rw[hb2]at he;injection he with he
     injection he with h1 h2
     subst h1 h2;have g1:=(hI.val hx (by rw[hA];rfl)).1;rw[hA]at g1;simp only[Qa]at g1;obtain⟨A,len,cap,g1,g2,g3,g4,g5⟩:=g1;have hH:H<=xs.length:=by
      rcases QY hI hhi hb1 with⟨_,rfl⟩ | ⟨_,_,h,_⟩ <;> omega
     have hL:L<=H:=by
      rcases QY hI hlo hb2 with⟨_,rfl⟩ | ⟨_,_,h,_⟩ <;> omega
     have e1: (hi'.map a.eval=none/\H=len)\/∃kd,hi'.map a.eval=some (.int kd (H:Int)):=by
      rcases QY hI hhi hb1 with⟨rfl,rfl⟩ | ⟨y',rfl,_,kd,hk⟩
      ·exact .inl ⟨rfl,g2⟩
      ·exact .inr ⟨kd,by simp[hk]⟩
     have e2: (lo'.map a.eval=none/\L=0)\/∃kd,lo'.map a.eval=some (.int kd (L:Int)):=by
      rcases QY hI hlo hb2 with⟨rfl,rfl⟩ | ⟨y',rfl,_,kd,hk⟩
      ·exact .inl ⟨rfl,rfl⟩
      ·exact .inr ⟨kd,by simp[hk]⟩
     unfold Z0 at ht;split at ht
     ·rename_i e hu;refine Qf (u:= .slice (if cap=L then A else A.map (·.add (L*sz1))) (H - L) (cap - L)) (w':=w) ?_ (h.same hI rfl ?_ trivial)
      ·simp only[execOp,ho,g1,Instr.sliceAt,Instr.slice,Sem.run_bind,run_underlying hu,Result.andThen_ok,Uj];rw[Xg e1 e2 (by omega) hL];simp only[Result.andThen_ok,QV ht];rfl
      ·simp only[Qa];refine⟨_,_,_,rfl,by simp;omega,by omega,by omega,?_⟩;by_cases hLH:L=H
       ·left;subst hLH;simp
       ·right;rcases g5 with g5 | ⟨b,of,rfl,g5⟩
        ·subst g5;simp at hH;omega
        ·refine⟨b,of+L*sz1,by rw[Qi (by omega)];simp[Zh],?_⟩;rw[ZT]at g5 ⊢;intro i z hz;rw[Yn]at hz;have hz2:xs[L+i]? =some z:=by
          rw[Xx]at hz;split at hz
          ·exact hz
          ·cases hz
         obtain⟨k1,k2⟩:=g5 _ z hz2;refine⟨k1,?_⟩;rwa[show of+L*sz1+i*sz1=of+ (L+i)*sz1 by rw[Zm];omega]
     ·cases ht
  ·cases he
 ·rename_i id of sz1 kn hA;split at he
  ·rename_i hsz;obtain⟨rfl,hszp⟩:=hsz;cases hb1:QT kn kn (hi.map (val σ.env))with
   | none=>rw[hb1]at he;cases he
   | some H=>
    rw[hb1]at he;simp only[Qn]at he;cases hb2:QT H 0 (lo.map (val σ.env))with
    | none=>rw[hb2]at he;cases he
    | some L=>
     rw[hb2]at he;injection he with he
     injection he with h1 h2
     subst h1 h2;have g1:=(hI.val hx (by rw[hA];rfl)).1;rw[hA]at g1;simp only[Qa]at g1;obtain⟨A,cap,g1,g3,g4,g5⟩:=g1;have hH:H<=kn:=by
      rcases QY hI hhi hb1 with⟨_,rfl⟩ | ⟨_,_,h,_⟩ <;> omega
     have hL:L<=H:=by
      rcases QY hI hlo hb2 with⟨_,rfl⟩ | ⟨_,_,h,_⟩ <;> omega
     have e1: (hi'.map a.eval=none/\H=kn)\/∃kd,hi'.map a.eval=some (.int kd (H:Int)):=by
      rcases QY hI hhi hb1 with⟨rfl,rfl⟩ | ⟨y',rfl,_,kd,hk⟩
      ·exact .inl ⟨rfl,rfl⟩
      ·exact .inr ⟨kd,by simp[hk]⟩
     have e2: (lo'.map a.eval=none/\L=0)\/∃kd,lo'.map a.eval=some (.int kd (L:Int)):=by
      rcases QY hI hlo hb2 with⟨rfl,rfl⟩ | ⟨y',rfl,_,kd,hk⟩
      ·exact .inl ⟨rfl,rfl⟩
      ·exact .inr ⟨kd,by simp[hk]⟩
     unfold Z0 at ht;split at ht
     ·rename_i e hu;refine Qf (u:= .slice (if cap=L then A else A.map (·.add (L*sz1))) (H - L) (cap - L)) (w':=w) ?_ (h.same hI rfl ?_ trivial)
      ·simp only[execOp,ho,g1,Instr.sliceAt,Instr.slice,Sem.run_bind,run_underlying hu,Result.andThen_ok,Uj];rw[Xg e1 e2 (by omega) hL];simp only[Result.andThen_ok,QV ht];rfl
      ·simp only[Qa];refine⟨_,_,rfl,by omega,by omega,?_⟩;by_cases hLH:cap=L
       ·left;refine⟨by omega,by omega,?_⟩;rcases g5 with g5 | ⟨kb,g5,_,g6,_⟩
        ·exact g5.2.2.imp (fun h=>absurd h.1 (by omega)) fun⟨kb,g6,g7⟩=>⟨kb,g6,by omega,hszp⟩
        ·exact .inr ⟨kb,g5,by rw[hLH]at g6;omega,hszp⟩
       ·rcases g5 with g5 | ⟨kb,g5,rfl,g6,_⟩
        ·left;exact⟨by omega,by omega,g5.2.2.imp (fun h=>absurd h.1 (by omega)) fun⟨kb,g6,g7⟩=>⟨kb,g6,by omega,hszp⟩⟩
        ·right;have hmul:L*sz1+ (cap - L)*sz1=cap*sz1:=by rw[<- Zm];congr 1;omega
         exact⟨kb,g5,by rw[Qi (by omega)];simp[Zh],by omega,hszp⟩
     ·cases ht
  ·split at he
   ·rename_i hz;obtain⟨rfl,rfl⟩:=hz;cases hb1:QT 0 0 (hi.map (val σ.env))with
    | none=>rw[hb1]at he;cases he
    | some H=>
     rw[hb1]at he;simp only[Qn]at he;cases hb2:QT H 0 (lo.map (val σ.env))with
     | none=>rw[hb2]at he;cases he
     | some L=>
      rw[hb2]at he;injection he with he
      injection he with h1 h2
      subst h1 h2;have g1:=(hI.val hx (by rw[hA];rfl)).1;rw[hA]at g1;simp only[Qa]at g1;obtain⟨A,cap,g1,g3,g4,g5⟩:=g1;have hcap:cap=0:=by
       rcases g5 with g5 | ⟨_,_,_,_,g6⟩
       ·exact g5.2.1
       ·omega
      subst hcap;have hH:H=0:=by
       rcases QY hI hhi hb1 with⟨_,rfl⟩ | ⟨_,_,h,_⟩ <;> omega
      subst hH;have hL:L=0:=by
       rcases QY hI hlo hb2 with⟨_,rfl⟩ | ⟨_,_,h,_⟩ <;> omega
      subst hL;have e1: (hi'.map a.eval=none/\(0:Nat)=0)\/∃kd,hi'.map a.eval=some (.int kd ((0:Nat):Int)):=by
       rcases QY hI hhi hb1 with⟨rfl,_⟩ | ⟨y',rfl,_,kd,hk⟩
       ·exact .inl ⟨rfl,rfl⟩
       ·exact .inr ⟨kd,by simp[hk]⟩
      have e2: (lo'.map a.eval=none/\(0:Nat)=0)\/∃kd,lo'.map a.eval=some (.int kd ((0:Nat):Int)):=by
       rcases QY hI hlo hb2 with⟨rfl,_⟩ | ⟨y',rfl,_,kd,hk⟩
       ·exact .inl ⟨rfl,rfl⟩
       ·exact .inr ⟨kd,by simp[hk]⟩
      unfold Z0 at ht;split at ht
      ·rename_i e hu;refine Qf (u:= .slice (if 0=0 then A else A.map (·.add (0*sz))) (0 - 0) (0 - 0)) (w':=w) ?_ (h.same hI rfl ?_ trivial)
       ·simp only[execOp,ho,g1,Instr.sliceAt,Instr.slice,Sem.run_bind,run_underlying hu,Result.andThen_ok,Uj];rw[Xg e1 e2 (by omega) (by omega)];simp only[Result.andThen_ok,QV ht];rfl
       ·simp only[Qa];exact⟨_,_,rfl,by omega,by unfold maxLen;omega,.inl (by simp)⟩
      ·cases ht
   ·cases he
 ·cases he
def Um:=@Nat.zero_le
def QbY [Dr] {sz:Nat} {x:AO} {x':Operand} {t:TypeId} {k1 k2:IntKind} (hI:Inv num N w0 m0 T β0 σ a w m β ν) (ho:o.op= .slice t x' none (some (.const (.int k1 0))) (some (.const (.int k2 0)))) (ht:Z0 P t sz=true) (hx:okO num x x'=true)
  (he:Qc K (.slz sz x) σ=some (v,σ1)) (h:Aft num N w0 m0 T β0 σ1 a v fun u w'=>next (a.put o.dst u) w'):o.wp P a w next Q:=by
 simp only[Qc]at he;split at he
 ·rename_i o2 sz1 xs hA;split at he
  ·rename_i hsz;subst hsz;injection he with he
   injection he with h1 h2
   subst h1 h2;have g1:=(hI.val hx (by rw[hA];rfl)).1;rw[hA]at g1;simp only[Qa]at g1;obtain⟨A,len,cap,g1,g2,g3,g4,g5⟩:=g1;unfold Z0 at ht;split at ht
   ·rename_i e hu;refine Qf (u:= .slice A 0 0) (w':=w) ?_ (h.same hI rfl ?_ (.inl ⟨A,0,rfl⟩))
    ·have c1:a.eval (.const (.int k1 0))= .int k1 0:=rfl;have c2:a.eval (.const (.int k2 0))= .int k2 0:=rfl;simp[execOp,ho,g1,c1,c2,Instr.sliceAt,Instr.slice,run_underlying hu,Instr.sliceBounds,Instr.sliceBound,asIntOf,QV ht]
    ·simp only[Qa];exact⟨A,0,0,rfl,rfl,Zd _,Um _,.inl trivial⟩
   ·cases ht
  ·cases he
 ·cases he
def YN:=@List.all_eq_true
def WV:=@List.mem_of_getElem?
def D8 [Dr] {f g:Nat} {caps:Xw} {cs:Ve} (hI:Inv num N w0 m0 T β0 σ a w m β ν) (ho:o.op= .makeFunc (.func g) #[] cs.toArray) (hf:num f=some g) (hc:ZO num caps cs=true)
  (he:Qc K (.mkfn f caps) σ=some (v,σ1)) (h:Aft num N w0 m0 T β0 σ1 a v fun u w'=>next (a.put o.dst u) w'):o.wp P a w next Q:=by
 simp only[Qc]at he;split at he
 ·rename_i h1c;injection he with he
  injection he with h1 h2
  subst h1 h2;have hok:Z2 (caps.map (val σ.env))=true:=by
   unfold Z2;rw[YN]at h1c ⊢;intro x hx;exact Ws (h1c x hx)
  obtain⟨hl,hv⟩:=hI.vals hc hok;refine Qf (u:= .func (.func g) #[] (cs.toArray.map a.eval)) (w':=w) (by simp[execOp,ho,Instr.makeFunc]) (h.same hI rfl ?_ trivial);simp only[Qa];refine⟨g,_,hf,rfl,by simp[hl],?_⟩;rw[Q2];intro i c hci;obtain⟨y,k1,k2,k3⟩:=hv i c hci;have h1:c.one=true:=by
   rw[YN]at h1c;exact h1c c (WV hci)
  exact⟨a.eval y,by simp[k1],WZ h1 k3,k3⟩
 ·cases he
def D7 [Dr] {f g:Nat} {caps:Xw} {cs:Ve} (hI:Inv num N w0 m0 T β0 σ a w m β ν) (ho:o.op= .makeFunc (.func g) cs.toArray #[]) (hf:num f=some g) (hc:ZO num caps cs=true)
  (he:Qc K (.mkfb f caps) σ=some (v,σ1)) (h:Aft num N w0 m0 T β0 σ1 a v fun u w'=>next (a.put o.dst u) w'):o.wp P a w next Q:=by
 simp only[Qc]at he;split at he
 ·rename_i h1c;injection he with he
  injection he with h1 h2
  subst h1 h2;have hok:Z2 (caps.map (val σ.env))=true:=by
   unfold Z2;rw[YN]at h1c ⊢;intro x hx;exact Ws (h1c x hx)
  obtain⟨hl,hv⟩:=hI.vals hc hok;refine Qf (u:= .func (.func g) (cs.toArray.map a.eval) #[]) (w':=w) (by simp[execOp,ho,Instr.makeFunc]) (h.same hI rfl ?_ trivial);simp only[Qa];refine⟨g,_,hf,rfl,by simp[hl],?_⟩;rw[Q2];intro i c hci;obtain⟨y,k1,k2,k3⟩:=hv i c hci;have h1:c.one=true:=by
   rw[YN]at h1c;exact h1c c (WV hci)
  exact⟨a.eval y,by simp[k1],WZ h1 k3,k3⟩
 ·cases he
end
end Go.Am
