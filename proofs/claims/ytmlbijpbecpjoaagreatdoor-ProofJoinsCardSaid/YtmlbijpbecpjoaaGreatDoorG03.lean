/-
  Am9.
-/
import Derived.Test.YtmlbijpbecpjoaaGreatDoorG02
set_option linter.all false
namespace Go.Am
def Vy (num:Y0):Option AO->Option Operand->Bool
 | none,none=>true
 | some x,some y=>okO num x y
 | _,_=>false
section
variable {P:Program} {num:Nat->Option Nat} {β:List Blk} {w w':World} {m:Nat->Nat} {ν:Own} {N:Nat} {w0:World} {m0:Nat->Nat} {T:Nat->Prop} {β0:List Blk} {σ σ1:St} {a:Act}
 {o:Oper} {next:Act->World->Prop} {Q:Exit->Act->World->Prop} {K:Yo} {v:AV}
def OJ:=@List.foldl_cons
def EW (off:Nat): ∀(vs:ZE) (k:Nat) (cs:Ze),off+k+vs.length<=cs.size->
  ((vs.zipIdx k).foldl (fun cs (p:Value×Nat)=>cs.setIfInBounds (off+p.2) p.1) cs).size=cs.size/\
  ∀(i:Nat),((vs.zipIdx k).foldl (fun cs (p:Value×Nat)=>cs.setIfInBounds (off+p.2) p.1) cs)[i]? =if off+k<=i/\i < off+k+vs.length then vs[i - (off+k)]? else cs[i]?
 | [],k,cs,_=>⟨rfl,fun i=>by rw[Qm (by simp)];rfl⟩
 | v:: vs,k,cs,h=>by
  simp only[ZL]at h;have ih:=EW off vs (k+1) (cs.setIfInBounds (off+k) v) (by simp;omega);simp only[List.zipIdx_cons,OJ];refine⟨by rw[ih.1];simp,fun i=> ?_⟩;rw[ih.2 i];by_cases h1:off+ (k+1)<=i/\i < off+ (k+1)+vs.length
  ·rw[Qn h1,Qn (by simp only[ZL];omega)];rw[show i - (off+k)=(i - (off+ (k+1)))+1 by omega];rfl
  ·rw[Qm h1];by_cases h2:i=off+k
   ·subst h2;rw[Qn (by simp only[ZL];omega),Fz (by omega)];simp
   ·rw[O6 (fun e=>h2 e.symm),Qm (by simp only[ZL];omega)]
def MS [Dr] (off:Nat) (u:Ze) (cs:Ze) (h:off+u.size<=cs.size):
  (u.zipIdx.foldl (fun cs (p:Value×Nat)=>cs.setIfInBounds (off+p.2) p.1) cs).size=cs.size/\
  ∀(i:Nat),(u.zipIdx.foldl (fun cs (p:Value×Nat)=>cs.setIfInBounds (off+p.2) p.1) cs)[i]? =if off<=i/\i < off+u.size then u[i - off]? else cs[i]? :=by
 have:=EW off u.toList 0 cs (by simpa using h);rw[<- Array.foldl_toList,Array.toList_zipIdx];simpa using this
def Wr:=@List.map_nil
def Oy:=@Nat.add_sub_cancel_left
def Nr [Dr] (hI:Inv num N w0 m0 T β0 σ a w m β ν) (sz n:Nat): ∀(xs:Ug) (ys:SN) (k:Nat) (cells:Ze) (vs:Qa),
  Xl num xs ys=true->Xy sz (xs.map (Am.val σ.env))=some vs->cells.size=n*sz->k+xs.length=n->
  ∃cells',Instr.fill (fun i=>some (i*sz,sz)) cells ((ys.zipIdx k).map fun p=>(p.2,a.eval p.1))=some cells'/\cells'.size=n*sz/\(∀i,i < k*sz->cells'[i]? =cells[i]?)/\
   ∀(i:Nat) (x:Qh),vs[i]? =some x->x.length=sz/\∀(j:Nat) (c:AV),x[j]? =some c->∃u,cells'[(k+i)*sz+j]? =some u/\u.oneCell'=true/\Qd num β w m c u
 | [],[],k,cells,vs,_,hv,hc,_=>by
  simp only[Wr,Xy]at hv;injection hv with hv
  subst hv;exact⟨cells,rfl,hc,fun _ _=>rfl,fun i x h=>by simp at h⟩
 | x:: xs,y:: ys,k,cells,vs,ho,hv,hc,hk=>by
  simp only[Xl,Qo]at ho;simp only[Yf,Xy]at hv;split at hv
  ·rename_i e es he hes;split at hv
   ·rename_i hl;injection hv with hv
    subst hv;have hr:=(hI.val ho.1 (UD he)).1;obtain⟨_,hz,hcs⟩:=WF he hr;simp only[ZL]at hk;have hle: (k+1)*sz<=n*sz:=Z5 _ (by omega);rw[Vw]at hle;have hfit:k*sz+ (a.eval y).cells.size<=cells.size:=by rw[hz,hl,hc];exact hle
    have hp:=MS (k*sz) (a.eval y).cells cells hfit;obtain⟨cells',f1,f2,f3,f4⟩:=Nr hI sz n xs ys (k+1) _ es ho.2 hes (hp.1.trans hc) (by omega);refine⟨cells',?_,f2,fun i hi=> ?_,fun i z hz2=> ?_⟩
    ·simp only[List.zipIdx_cons,Yf,Instr.fill];rw[Qm (by rw[hz,hl];simp;omega)];exact f1
    ·rw[f3 i (by rw[Vw];omega),hp.2 i,Qm (by omega)]
    ·cases i with
     | zero=>
      simp at hz2;subst hz2;refine⟨by simpa using hl,fun j c hj=> ?_⟩;obtain⟨d,hd,rfl⟩:=Zn hj;obtain⟨u,g1,g2,g3⟩:=hcs j d hd;have hjl:j < sz:=by
       rcases QR j e.length with h | h
       ·omega
       ·rw[Q3 h]at hd;cases hd
      refine⟨u,?_,g2,by rw[QU];exact g3⟩;rw[Ty,f3 _ (by rw[Vw];omega),hp.2,Qn (by rw[hz,hl];omega),Oy];exact g1
     | succ i=>
      simp at hz2;have:=f4 i z hz2;rwa[show k+1+i=k+ (i+1) by omega]at this
   ·cases hv
  ·cases hv
 | [],_:: _,_,_,_,h,_,_,_=>by simp[Xl]at h
 | _:: _,[],_,_,_,h,_,_,_=>by simp[Xl]at h
def RM (P:Program) (t:TypeId) (sz n:Nat):Bool:=match P.underlying t with
 | some (.slice e)=>Z2 P e sz && (match P.info? e with
  | some i=>i.zero.isSome
  | none=>false) && decide (n*sz<=2 ^ 24) && decide (0 < sz)
 | _=>false
def KH:=@Option.isSome_iff_exists
def Mw:=@List.map_map
def Y1:=@Function.comp_def
def Oz:=@Nat.le_mul_of_pos_right
def Qit [Dr] {sz:Nat} {parts:Ug} {ps:SN} {t:TypeId} (hI:Inv num N w0 m0 T β0 σ a w m β ν) (ho:o.op= .buildSlice t ps.length (ps.zipIdx.map fun p=>(p.2,p.1)).toArray)
  (ht:RM P t sz ps.length=true) (hp:Xl num parts ps=true)
  (he:Qi K (.mksl sz parts) σ=some (v,σ1)) (h:Aft num N w0 m0 T β0 σ1 a v fun u w'=>next (a.put o.dst u) w'):o.wp P a w next Q:=by
 simp only[Qi]at he;cases hr:Xy sz (parts.map (val σ.env))with
 | none=>rw[hr]at he;cases he
 | some xs=>
  rw[hr]at he;injection he with he
  injection he with h1 h2
  subst h1 h2;have hlen: ∀(parts:Ug) (ps:SN),Xl num parts ps=true->parts.length=ps.length:=by
   intro parts
   induction parts with
   | nil=>intro ps hp;cases ps <;> simp[Xl]at hp ⊢
   | cons x xs ih=>intro ps hp;cases ps with
    | nil=>simp[Xl]at hp
    | cons y ys=>simp only[Xl,Qo]at hp;simp[ih ys hp.2]
  have hlen2: ∀(vs:Qh) (xs:Qa),Xy sz vs=some xs->xs.length=vs.length:=by
   intro vs
   induction vs with
   | nil=>intro xs h;simp[Xy]at h;subst h;rfl
   | cons v vs ih=>
    intro xs h;simp only[Xy]at h;split at h
    ·rename_i e es h1 h2;split at h
     ·injection h with h;subst h;simp[ih es h2]
     ·cases h
    ·cases h
  have hL:=hlen parts ps hp;have hX:xs.length=ps.length:=by rw[hlen2 _ _ hr];simpa using hL
  unfold RM at ht;split at ht
  ·rename_i e hu;simp only[Qo,Qv]at ht;obtain⟨⟨⟨ht1,ht2⟩,ht3⟩,ht4⟩:=ht;split at ht2
   ·rename_i i hi;obtain⟨z,hz⟩:=KH.1 ht2;have hsz:i.size=sz:=by unfold Z2 at ht1;rw[hi]at ht1;simpa using ht1
    obtain⟨zc,hzc⟩: ∃zc:Ze,zc=(if ps.length*sz=0 then #[]else z.cells):=⟨_,rfl⟩;obtain⟨cells',f1,f2,_,f4⟩:=Nr hI sz ps.length parts ps 0 ((Array.range (ps.length*sz)).map (zc[· % zc.size]!)) xs hp hr (by simp) (by omega);refine Qr (u:= .slice (some ⟨w.heap.size,0,none⟩) ps.length ps.length) (w':=w.alloc (.cells cells' e)) ?_ ?_
    ·have hps: (Array.map (fun x:Nat×Operand=>(x.fst,a.eval x.snd)) (ps.zipIdx.map fun p=>(p.2,p.1)).toArray).toList=(ps.zipIdx 0).map fun p=>(p.2,a.eval p.1):=by
      simp[Mw,Y1]
     simp only[execOp,ho,Instr.buildSlice,Sem.run_bind,run_underlying hu,Result.andThen_ok,ZH ht1];rw[Qm (by omega)];by_cases h0:ps.length*sz=0
     ·rw[Qn h0]at hzc;simp only[h0,Zl,Sem.run_bind,Sem.run_pure,Result.andThen_ok,hps];rw[hzc,h0]at f1;rw[f1];simp[newRow]
     ·rw[Qm h0]at hzc;simp only[h0,Zd,Sem.run_pure,Sem.run_bind,Result.andThen_ok,zeroValue,typeInfo,run_program,hi,hz,hps];rw[hzc]at f1;rw[f1];simp[newRow]
    ·refine h _ _ _ β _ (hI.fresh cells' e (ps.length*sz) .f) ((QT rfl).2 ⟨?_,.inr ⟨w.heap.size,ps.length,cells',e,by rw[hX],heap_alloc_new w _,by rw[f2],by simp[m1,hX],by simp[Yb]⟩⟩);simp only[Qd];refine⟨_,_,_,rfl,hX,ZJ _,?_,.inr ⟨w.heap.size,0,rfl,?_⟩⟩
     ·have:ps.length<=2 ^ 24:=Uu (Oz _ ht4) ht3;unfold maxLen;omega
     ·rw[Xr];intro i2 x hx;obtain⟨g1,g2⟩:=f4 i2 x hx;refine⟨g1,?_⟩;rw[ZQ];intro j c hc;obtain⟨u,k1,k2,k3⟩:=g2 j c hc;have hlt:i2*sz+j < ps.length*sz:=by
       have hjl:j < sz:=by
        rcases QR j x.length with h | h
        ·omega
        ·rw[Q3 h]at hc;cases hc
       have hil:i2 < ps.length:=by
        rcases QR i2 xs.length with h | h
        ·omega
        ·rw[Q3 h]at hx;cases hx
       have: (i2+1)*sz<=ps.length*sz:=Z5 _ hil;rw[Vw]at this;omega
      refine⟨u,?_,k2,Zc (Ge.refl β) (ZO.alloc (fun _=>False) w m cells' e _).le c u k3⟩;unfold hg;rw[Qn (by simp[m1];omega),cell_of_row _ _ _ cells' e (0,0) (heap_alloc_new w _)];rw[Zk]at k1 ⊢;exact k1
   ·cases ht2
  ·cases ht
def K2:=@List.mapM_cons
def NW {α γ:Type} (f:α->Sem γ) (g:α->γ): ∀(l:List α),(∀x∈l,(f x).run P w= .ok (g x) w)->(l.mapM f).run P w= .ok (l.map g) w
 | [],_=>by simp
 | x:: l,h=>by
  rw[K2];simp only[Sem.run_bind,h x (by simp),Result.andThen_ok,NW f g l (fun y hy=>h y (by simp[hy])),Sem.run_pure,Yf]
def Qfd (P:Program) (fs:Array Field):Bool:=fs.all fun f=>(P.info? f.type).isSome
def Qdt (P:Program) (fs:Array Field) (i off sz:Nat):Bool:=match fs[i]? with
 | some f=>decide (f.offset=off) && Z2 P f.type sz
 | none=>false
def R4 (P:Program) (num:Y0) (fs:Array Field):List (Nat×Nat×AO)->List (Nat×Operand)->Bool
 | [],[]=>true
 | (off,sz,x):: r,(i,y):: r'=>Qdt P fs i off sz && okO num x y && R4 P num fs r r'
 | _,_=>false
def RO (P:Program) (num:Y0) (e:TypeId):List (Nat×Nat×AO)->List (Nat×Operand)->Bool
 | [],[]=>true
 | (off,sz,x):: r,(i,y):: r'=>Z2 P e sz && decide (off=i*sz) && okO num x y && RO P num e r r'
 | _,_=>false
def DQ (P:Program) (num:Y0) (t:TypeId) (zs:Qh) (parts:List (Nat×Nat×AO)) (ps:List (Nat×Operand)):Bool:=match P.underlying t with
 | some (.struct fs)=>TF P t zs && Qfd P fs && R4 P num fs parts ps
 | some (.array _ e)=>TF P t zs && (P.info? e).isSome && RO P num e parts ps
 | _=>false
def PL (P:Program) (fs:Array Field):Array (Nat×Nat):=(fs.toList.map fun f=>(f.offset,((P.info? f.type).map (·.size)).getD 0)).toArray
def Vv:=@List.length_map
def LH [Dr] (hI:Inv num N w0 m0 T β0 σ a w m β ν) (fs:Array Field): ∀(parts:List (Nat×Nat×AO)) (ps:List (Nat×Operand)) (zs cs:Qh) (cells:Ze),
  R4 P num fs parts ps=true->VQ zs (parts.map fun p=>(p.1,p.2.1,Am.val σ.env p.2.2))=some cs->cells.size=zs.length->
  (∀(i:Nat) (c:AV),zs[i]? =some c->∃u,cells[i]? =some u/\u.oneCell'=true/\Qd num β w m c u)->
  ∃cells',Instr.fill (fun i=>(PL P fs)[i]?) cells (ps.map fun p=>(p.1,a.eval p.2))=some cells'/\cells'.size=cs.length/\
   ∀(i:Nat) (c:AV),cs[i]? =some c->∃u,cells'[i]? =some u/\u.oneCell'=true/\Qd num β w m c u
 | [],[],zs,cs,cells,_,hv,hz,hc=>by
  simp only[Wr,VQ]at hv;injection hv with hv
  subst hv;exact⟨cells,rfl,hz,hc⟩
 | (off,sz,x):: r,(i,y):: r',zs,cs,cells,ho,hv,hz,hc=>by
  simp only[R4,Qo]at ho;obtain⟨⟨ho1,ho2⟩,ho3⟩:=ho;simp only[Yf,VQ]at hv;split at hv
  ·rename_i vs hvs;split at hv
   ·rename_i hl;obtain⟨hl1,hl2⟩:=hl;have hr:=(hI.val ho2 (UD hvs)).1;obtain⟨_,hz2,hcs⟩:=WF hvs hr;have hpl: (PL P fs)[i]? =some (off,sz):=by
     unfold Qdt at ho1;split at ho1
     ·rename_i f hf;simp only[Qo,Qv]at ho1;obtain⟨rfl,ho1⟩:=ho1;unfold Z2 at ho1;split at ho1
      ·rename_i inf hinf;simp only[Qv]at ho1;simp[PL,hf,hinf,ho1]
      ·cases ho1
     ·cases ho1
    have hfit:off+ (a.eval y).cells.size<=cells.size:=by rw[hz2,hz];exact hl2
    have hp:=MS off (a.eval y).cells cells hfit;have hlen: (put zs off (vs.map AV.strip)).length=zs.length:=by unfold put;rw[Vh _ _ _ (by simpa using hl2)]
    obtain⟨cells',f1,f2,f3⟩:=LH hI fs r r' _ cs _ ho3 hv (by rw[hp.1,hz,hlen]) (fun j c hj=>by
     unfold put at hj;rw[Wl _ _ _ (by simpa using hl2)]at hj;rw[hp.2 j];simp only[Vv]at hj;split at hj
     ·rename_i h1;obtain⟨u,g1,g2⟩:=hc j c hj;exact⟨u,by rw[Qm (by omega)];exact g1,g2⟩
     ·rename_i h1;split at hj
      ·rename_i h2;obtain⟨d,hd,rfl⟩:=Zn hj;obtain⟨u,g1,g2,g3⟩:=hcs _ d hd;exact⟨u,by rw[Qn (by rw[hz2];omega)];exact g1,g2,by rw[QU];exact g3⟩
      ·rename_i h2;obtain⟨u,g1,g2⟩:=hc j c hj;exact⟨u,by rw[Qm (by rw[hz2];omega)];exact g1,g2⟩)
    refine⟨cells',?_,f2,f3⟩;simp only[Yf,Instr.fill,hpl];rw[Qm (by rw[hz2,hl1,hz];simp;omega)];exact f1
   ·cases hv
  ·cases hv
 | [],_:: _,_,_,_,h,_,_,_=>by simp[R4]at h
 | _:: _,[],_,_,_,h,_,_,_=>by simp[R4]at h
def ER [Dr] (hI:Inv num N w0 m0 T β0 σ a w m β ν) (e:TypeId): ∀(parts:List (Nat×Nat×AO)) (ps:List (Nat×Operand)) (zs cs:Qh) (cells:Ze),
  RO P num e parts ps=true->VQ zs (parts.map fun p=>(p.1,p.2.1,Am.val σ.env p.2.2))=some cs->cells.size=zs.length->
  (∀(i:Nat) (c:AV),zs[i]? =some c->∃u,cells[i]? =some u/\u.oneCell'=true/\Qd num β w m c u)->
  ∃cells',Instr.fill (fun i=>some (i* ((P.info? e).map (·.size)).getD 0,((P.info? e).map (·.size)).getD 0)) cells (ps.map fun p=>(p.1,a.eval p.2))=some cells'/\cells'.size=cs.length/\
   ∀(i:Nat) (c:AV),cs[i]? =some c->∃u,cells'[i]? =some u/\u.oneCell'=true/\Qd num β w m c u
 | [],[],zs,cs,cells,_,hv,hz,hc=>by
  simp only[Wr,VQ]at hv;injection hv with hv
  subst hv;exact⟨cells,rfl,hz,hc⟩
 | (off,sz,x):: r,(i,y):: r',zs,cs,cells,ho,hv,hz,hc=>by
  simp only[RO,Qo,Qv]at ho;obtain⟨⟨⟨ho0,ho1⟩,ho2⟩,ho3⟩:=ho;simp only[Yf,VQ]at hv;split at hv
  ·rename_i vs hvs;split at hv
   ·rename_i hl;obtain⟨hl1,hl2⟩:=hl;have hr:=(hI.val ho2 (UD hvs)).1;obtain⟨_,hz2,hcs⟩:=WF hvs hr;have hsz: ((P.info? e).map (·.size)).getD 0=sz:=by
     unfold Z2 at ho0;split at ho0
     ·rename_i inf hinf;simp only[Qv]at ho0;simp[hinf,ho0]
     ·cases ho0
    have hfit:off+ (a.eval y).cells.size<=cells.size:=by rw[hz2,hz];exact hl2
    have hp:=MS off (a.eval y).cells cells hfit;have hlen: (put zs off (vs.map AV.strip)).length=zs.length:=by unfold put;rw[Vh _ _ _ (by simpa using hl2)]
    obtain⟨cells',f1,f2,f3⟩:=ER hI e r r' _ cs _ ho3 hv (by rw[hp.1,hz,hlen]) (fun j c hj=>by
     unfold put at hj;rw[Wl _ _ _ (by simpa using hl2)]at hj;rw[hp.2 j];simp only[Vv]at hj;split at hj
     ·rename_i h1;obtain⟨u,g1,g2⟩:=hc j c hj;exact⟨u,by rw[Qm (by omega)];exact g1,g2⟩
     ·rename_i h1;split at hj
      ·rename_i h2;obtain⟨d,hd,rfl⟩:=Zn hj;obtain⟨u,g1,g2,g3⟩:=hcs _ d hd;exact⟨u,by rw[Qn (by rw[hz2];omega)];exact g1,g2,by rw[QU];exact g3⟩
      ·rename_i h2;obtain⟨u,g1,g2⟩:=hc j c hj;exact⟨u,by rw[Qm (by rw[hz2];omega)];exact g1,g2⟩)
    refine⟨cells',?_,f2,f3⟩;simp only[Yf,Instr.fill,hsz];rw[<- ho1];rw[Qm (by rw[hz2,hl1,hz];simp;omega)];rw[hsz]at f1;exact f1
   ·cases hv
  ·cases hv
 | [],_:: _,_,_,_,h,_,_,_=>by simp[RO]at h
 | _:: _,[],_,_,_,h,_,_,_=>by simp[RO]at h
def QcC:=@Array.mapM_eq_mapM_toList
def Qcy:=@Array.all_eq_true_iff_forall_mem
def QS:=@Option.map_some
def Sg:=@Option.getD_some
def Bv [Dr] {zs:Qh} {parts:List (Nat×Nat×AO)} {ps:List (Nat×Operand)} {t:TypeId} (hI:Inv num N w0 m0 T β0 σ a w m β ν) (ho:o.op= .build t ps.toArray)
  (ht:DQ P num t zs parts ps=true)
  (he:Qi K (.mkst zs parts) σ=some (v,σ1)) (h:Aft num N w0 m0 T β0 σ1 a v fun u w'=>next (a.put o.dst u) w'):o.wp P a w next Q:=by
 simp only[Qi]at he;cases hr:VQ zs (parts.map fun p=>(p.1,p.2.1,val σ.env p.2.2))with
 | none=>rw[hr]at he;cases he
 | some cs=>
  rw[hr]at he;injection he with he
  injection he with h1 h2
  subst h1 h2;unfold DQ at ht;split at ht
  ·rename_i fs hu;simp only[Qo]at ht;obtain⟨⟨ht1,ht2⟩,ht3⟩:=ht;obtain⟨z,hz,hzc⟩:=SI (w:=w) ht1;obtain⟨hl,hcs⟩:=YN _ _ hzc;obtain⟨cells',f1,f2,f3⟩:=LH hI fs parts ps zs cs z.cells ht3 hr (by simpa using hl) (fun i c hc=>by
    obtain⟨u,g1,g2⟩:=hcs i c hc;have:=Zu (num:=num) (β:=β) (w:=w) (m:=m) (ν:=ν) g2;exact⟨u,by simpa using g1,this.2.1,this.1⟩)
   have hpl: (fs.mapM fun f=>do pure (f.offset,<- sizeOf f.type):Sem _).run P w= .ok (PL P fs) w:=by
    rw[QcC];simp only[Sem.run_map];rw[NW (fun f=>do pure (f.offset,<- sizeOf f.type)) (fun f:Field=>(f.offset,((P.info? f.type).map (·.size)).getD 0)) fs.toList (fun f hf=>by
     have:=Qcy.1 ht2 f (by simpa using hf);obtain⟨i,hi⟩:=KH.1 this;simp[sizeOf,typeInfo,hi])]
    rfl
   refine Qr (u:= .agg cells') (w':=w) ?_ (h.same hI rfl ?_ trivial)
   ·have hps: (Array.map (fun x:Nat×Operand=>(x.fst,a.eval x.snd)) ps.toArray).toList=ps.map fun p=>(p.1,a.eval p.2):=by simp
    simp only[execOp,ho,Instr.build,Sem.run_bind,hz,Result.andThen_ok,run_underlying hu];simp only[hpl,Result.andThen_ok,hps];have f1':Instr.fill (fun x=>(PL P fs)[x]?) z.cells (ps.map fun p=>(p.1,a.eval p.2))=some cells':=f1;simp only[f1',Sem.run_pure,Result.andThen_ok]
   ·simp only[Qd];exact⟨cells',rfl,f2,by rw[ZQ];intro i c hc;rw[Zk];exact f3 i c hc⟩
  ·rename_i n e hu;simp only[Qo]at ht;obtain⟨⟨ht1,ht2⟩,ht3⟩:=ht;obtain⟨inf,hinf⟩:=KH.1 ht2;obtain⟨z,hz,hzc⟩:=SI (w:=w) ht1;obtain⟨hl,hcs⟩:=YN _ _ hzc;obtain⟨cells',f1,f2,f3⟩:=ER hI e parts ps zs cs z.cells ht3 hr (by simpa using hl) (fun i c hc=>by
    obtain⟨u,g1,g2⟩:=hcs i c hc;have:=Zu (num:=num) (β:=β) (w:=w) (m:=m) (ν:=ν) g2;exact⟨u,by simpa using g1,this.2.1,this.1⟩)
   refine Qr (u:= .agg cells') (w':=w) ?_ (h.same hI rfl ?_ trivial)
   ·have hps: (Array.map (fun x:Nat×Operand=>(x.fst,a.eval x.snd)) ps.toArray).toList=ps.map fun p=>(p.1,a.eval p.2):=by simp
    rw[hinf]at f1;simp only[QS,Sg]at f1;simp only[execOp,ho,Instr.build,Sem.run_bind,hz,Result.andThen_ok,run_underlying hu];simp[sizeOf,typeInfo,hinf,f1,Result.andThen]
   ·simp only[Qd];exact⟨cells',rfl,f2,by rw[ZQ];intro i c hc;rw[Zk];exact f3 i c hc⟩
  ·cases ht
def Po:=@Option.map_none
def ZN [Dr] {k:Nat} {n d:Nat} {x:Option AO} {y:Option Operand} (hI:Inv num N w0 m0 T β0 σ a w m β ν) (ho:Vy num x y=true) (h:ZG n d (x.map (Am.val σ.env))=some k):
  (y=none/\k=d)\/∃y',y=some y'/\k<=n/\∃kd,a.eval y'= .int kd (k:Int):=by
 cases x with
 | none=>
  cases y with
  | none=>simp only[Po,ZG]at h;injection h with h;exact .inl ⟨rfl,h.symm⟩
  | some y=>simp[Vy]at ho
 | some x=>
  cases y with
  | none=>simp[Vy]at ho
  | some y=>
   simp only[Vy]at ho;simp only[QS]at h;unfold ZG at h;split at h
   ·rename_i h2;cases h2
   ·rename_i kd i h2;injection h2 with h2
    split at h
    ·rename_i h3;injection h with h
     have g1:=(hI.val ho (by rw[h2];rfl)).1;rw[h2]at g1;simp only[Qd]at g1;exact .inr ⟨y,rfl,by omega,kd,by rw[g1];congr 1;omega⟩
    ·cases h
   ·cases h
abbrev QmC:=Option Value
def KV:=@Option.isSome_none
def VU {l h len cap:Nat} {isSl:Bool} {lo hi:QmC} (hh: (hi=none/\h=len)\/∃kd,hi=some (.int kd (h:Int))) (hl: (lo=none/\l=0)\/∃kd,lo=some (.int kd (l:Int)))
  (h1:h<=cap) (h2:l<=h): (Instr.sliceBounds isSl len cap lo hi none).run P w= .ok (l,h,cap) w:=by
 have hb: ∀(kd:IntKind) (n y:Nat) (c:BoundsCode),n<=y->(Instr.sliceBound (.int kd (n:Int)) y c).run P w= .ok n w:=fun kd n y c hn=>by
  simp only[Instr.sliceBound,asIntOf,Sem.run_bind,Sem.run_pure,Result.andThen_ok];rw[Qn (by omega)];rfl
 rcases hh with⟨rfl,rfl⟩ | ⟨kd,rfl⟩ <;> rcases hl with⟨rfl,rfl⟩ | ⟨kd2,rfl⟩ <;> simp only[Instr.sliceBounds,Sem.run_bind,Sem.run_pure,Result.andThen_ok,hb _ _ _ _ h1,hb _ _ _ _ h2,KV,Z3,Zd]
def Qiy [Dr] {x:AO} {lo hi:Option AO} {x':Operand} {lo' hi':Option Operand} {t:TypeId} (hI:Inv num N w0 m0 T β0 σ a w m β ν) (ho:o.op= .slice t x' lo' hi' none) (ht:Li P t=true) (hx:okO num x x'=true)
  (hlo:Vy num lo lo'=true) (hhi:Vy num hi hi'=true)
  (he:Qi K (.slcs x lo hi) σ=some (v,σ1)) (h:Aft num N w0 m0 T β0 σ1 a v fun u w'=>next (a.put o.dst u) w'):o.wp P a w next Q:=by
 simp only[Qi]at he;split at he
 ·rename_i s hA;cases hb1:ZG s.length s.length (hi.map (val σ.env))with
  | none=>rw[hb1]at he;cases he
  | some H=>
   rw[hb1]at he;simp only[QC]at he;cases hb2:ZG H 0 (lo.map (val σ.env))with
   | none=>rw[hb2]at he;cases he
   | some L=>
    rw[hb2]at he;injection he with he
    injection he with h1 h2
    subst h1 h2;have g1:=(hI.val hx (by rw[hA];rfl)).1;rw[hA]at g1;simp only[Qd]at g1;have hH:H<=s.length:=by
     rcases ZN hI hhi hb1 with⟨_,rfl⟩ | ⟨_,_,h,_⟩ <;> omega
    have hL:L<=H:=by
     rcases ZN hI hlo hb2 with⟨_,rfl⟩ | ⟨_,_,h,_⟩ <;> omega
    have e1: (hi'.map a.eval=none/\H=s.length)\/∃kd,hi'.map a.eval=some (.int kd (H:Int)):=by
     rcases ZN hI hhi hb1 with⟨rfl,rfl⟩ | ⟨y',rfl,_,kd,hk⟩
     ·exact .inl ⟨rfl,rfl⟩
     ·exact .inr ⟨kd,by simp[hk]⟩
    have e2: (lo'.map a.eval=none/\L=0)\/∃kd,lo'.map a.eval=some (.int kd (L:Int)):=by
     rcases ZN hI hlo hb2 with⟨rfl,rfl⟩ | ⟨y',rfl,_,kd,hk⟩
     ·exact .inl ⟨rfl,rfl⟩
     ·exact .inr ⟨kd,by simp[hk]⟩
    have hu:=Iq ht;refine Qr (u:= .string ((⟨s.toArray⟩:ByteArray).extract L H)) (w':=w) ?_ (h.same hI rfl ?_ trivial)
    ·simp only[execOp,ho,g1,Instr.sliceAt,Instr.slice,Sem.run_bind,run_underlying hu,Result.andThen_ok,Po,KV,Z3,Zd];rw[VU (len:=(⟨s.toArray⟩:ByteArray).size) e1 e2 (by simpa[ByteArray.size_mk']using hH) hL];rfl
    ·simp only[Qd];rw[ByteArray.extract_mk,List.drop_take]
 ·cases he
def ZT:=@Nat.add_mul
def Qix [Dr] {sz:Nat} {x:AO} {lo hi:Option AO} {x':Operand} {lo' hi':Option Operand} {t:TypeId} (hI:Inv num N w0 m0 T β0 σ a w m β ν) (ho:o.op= .slice t x' lo' hi' none) (ht:XD P t sz=true) (hx:okO num x x'=true)
  (hlo:Vy num lo lo'=true) (hhi:Vy num hi hi'=true)
  (he:Qi K (.slcl sz x lo hi) σ=some (v,σ1)) (h:Aft num N w0 m0 T β0 σ1 a v fun u w'=>next (a.put o.dst u) w'):o.wp P a w next Q:=by
 simp only[Qi]at he;split at he
 ·rename_i o2 sz1 xs hA;split at he
  ·rename_i hsz;subst hsz;cases hb1:ZG xs.length xs.length (hi.map (val σ.env))with
   | none=>rw[hb1]at he;cases he
   | some H=>
    rw[hb1]at he;simp only[QC]at he;cases hb2:ZG H 0 (lo.map (val σ.env))with
    | none=>rw[hb2]at he;cases he
    | some L=>
     rw[hb2]at he;injection he with he
     injection he with h1 h2
     subst h1 h2;have g1:=(hI.val hx (by rw[hA];rfl)).1;rw[hA]at g1;simp only[Qd]at g1;obtain⟨A,len,cap,g1,g2,g3,g4,g5⟩:=g1;have hH:H<=xs.length:=by
      rcases ZN hI hhi hb1 with⟨_,rfl⟩ | ⟨_,_,h,_⟩ <;> omega
     have hL:L<=H:=by
      rcases ZN hI hlo hb2 with⟨_,rfl⟩ | ⟨_,_,h,_⟩ <;> omega
     have e1: (hi'.map a.eval=none/\H=len)\/∃kd,hi'.map a.eval=some (.int kd (H:Int)):=by
      rcases ZN hI hhi hb1 with⟨rfl,rfl⟩ | ⟨y',rfl,_,kd,hk⟩
      ·exact .inl ⟨rfl,g2⟩
      ·exact .inr ⟨kd,by simp[hk]⟩
     have e2: (lo'.map a.eval=none/\L=0)\/∃kd,lo'.map a.eval=some (.int kd (L:Int)):=by
      rcases ZN hI hlo hb2 with⟨rfl,rfl⟩ | ⟨y',rfl,_,kd,hk⟩
      ·exact .inl ⟨rfl,rfl⟩
      ·exact .inr ⟨kd,by simp[hk]⟩
     unfold XD at ht;split at ht
     ·rename_i e hu;refine Qr (u:= .slice (if cap=L then A else A.map (·.add (L*sz1))) (H - L) (cap - L)) (w':=w) ?_ (h.same hI rfl ?_ trivial)
      ·simp only[execOp,ho,g1,Instr.sliceAt,Instr.slice,Sem.run_bind,run_underlying hu,Result.andThen_ok,Po];rw[VU e1 e2 (by omega) hL];simp only[Result.andThen_ok,ZH ht];rfl
      ·simp only[Qd];refine⟨_,_,_,rfl,by simp;omega,by omega,by omega,?_⟩;by_cases hLH:L=H
       ·left;subst hLH;simp
       ·right;rcases g5 with g5 | ⟨b,of,rfl,g5⟩
        ·subst g5;simp at hH;omega
        ·refine⟨b,of+L*sz1,by rw[Qm (by omega)];simp[Ym],?_⟩;rw[Xr]at g5 ⊢;intro i z hz;rw[XJ]at hz;have hz2:xs[L+i]? =some z:=by
          rw[VJ]at hz;split at hz
          ·exact hz
          ·cases hz
         obtain⟨k1,k2⟩:=g5 _ z hz2;refine⟨k1,?_⟩;rwa[show of+L*sz1+i*sz1=of+ (L+i)*sz1 by rw[ZT];omega]
     ·cases ht
  ·cases he
 ·rename_i id of sz1 kn hA;split at he
  ·rename_i hsz;obtain⟨rfl,hszp⟩:=hsz;cases hb1:ZG kn kn (hi.map (val σ.env))with
   | none=>rw[hb1]at he;cases he
   | some H=>
    rw[hb1]at he;simp only[QC]at he;cases hb2:ZG H 0 (lo.map (val σ.env))with
    | none=>rw[hb2]at he;cases he
    | some L=>
     rw[hb2]at he;injection he with he
     injection he with h1 h2
     subst h1 h2;have g1:=(hI.val hx (by rw[hA];rfl)).1;rw[hA]at g1;simp only[Qd]at g1;obtain⟨A,cap,g1,g3,g4,g5⟩:=g1;have hH:H<=kn:=by
      rcases ZN hI hhi hb1 with⟨_,rfl⟩ | ⟨_,_,h,_⟩ <;> omega
     have hL:L<=H:=by
      rcases ZN hI hlo hb2 with⟨_,rfl⟩ | ⟨_,_,h,_⟩ <;> omega
     have e1: (hi'.map a.eval=none/\H=kn)\/∃kd,hi'.map a.eval=some (.int kd (H:Int)):=by
      rcases ZN hI hhi hb1 with⟨rfl,rfl⟩ | ⟨y',rfl,_,kd,hk⟩
      ·exact .inl ⟨rfl,rfl⟩
      ·exact .inr ⟨kd,by simp[hk]⟩
     have e2: (lo'.map a.eval=none/\L=0)\/∃kd,lo'.map a.eval=some (.int kd (L:Int)):=by
      rcases ZN hI hlo hb2 with⟨rfl,rfl⟩ | ⟨y',rfl,_,kd,hk⟩
      ·exact .inl ⟨rfl,rfl⟩
      ·exact .inr ⟨kd,by simp[hk]⟩
     unfold XD at ht;split at ht
     ·rename_i e hu;refine Qr (u:= .slice (if cap=L then A else A.map (·.add (L*sz1))) (H - L) (cap - L)) (w':=w) ?_ (h.same hI rfl ?_ trivial)
      ·simp only[execOp,ho,g1,Instr.sliceAt,Instr.slice,Sem.run_bind,run_underlying hu,Result.andThen_ok,Po];rw[VU e1 e2 (by omega) hL];simp only[Result.andThen_ok,ZH ht];rfl
      ·simp only[Qd];refine⟨_,_,rfl,by omega,by omega,?_⟩;by_cases hLH:cap=L
       ·left;refine⟨by omega,by omega,?_⟩;rcases g5 with g5 | ⟨kb,g5,_,g6,_⟩
        ·exact g5.2.2.imp (fun h=>absurd h.1 (by omega)) fun⟨kb,g6,g7⟩=>⟨kb,g6,by omega,hszp⟩
        ·exact .inr ⟨kb,g5,by rw[hLH]at g6;omega,hszp⟩
       ·rcases g5 with g5 | ⟨kb,g5,rfl,g6,_⟩
        ·left;exact⟨by omega,by omega,g5.2.2.imp (fun h=>absurd h.1 (by omega)) fun⟨kb,g6,g7⟩=>⟨kb,g6,by omega,hszp⟩⟩
        ·right;have hmul:L*sz1+ (cap - L)*sz1=cap*sz1:=by rw[<- ZT];congr 1;omega
         exact⟨kb,g5,by rw[Qm (by omega)];simp[Ym],by omega,hszp⟩
     ·cases ht
  ·split at he
   ·rename_i hz;obtain⟨rfl,rfl⟩:=hz;cases hb1:ZG 0 0 (hi.map (val σ.env))with
    | none=>rw[hb1]at he;cases he
    | some H=>
     rw[hb1]at he;simp only[QC]at he;cases hb2:ZG H 0 (lo.map (val σ.env))with
     | none=>rw[hb2]at he;cases he
     | some L=>
      rw[hb2]at he;injection he with he
      injection he with h1 h2
      subst h1 h2;have g1:=(hI.val hx (by rw[hA];rfl)).1;rw[hA]at g1;simp only[Qd]at g1;obtain⟨A,cap,g1,g3,g4,g5⟩:=g1;have hcap:cap=0:=by
       rcases g5 with g5 | ⟨_,_,_,_,g6⟩
       ·exact g5.2.1
       ·omega
      subst hcap;have hH:H=0:=by
       rcases ZN hI hhi hb1 with⟨_,rfl⟩ | ⟨_,_,h,_⟩ <;> omega
      subst hH;have hL:L=0:=by
       rcases ZN hI hlo hb2 with⟨_,rfl⟩ | ⟨_,_,h,_⟩ <;> omega
      subst hL;have e1: (hi'.map a.eval=none/\(0:Nat)=0)\/∃kd,hi'.map a.eval=some (.int kd ((0:Nat):Int)):=by
       rcases ZN hI hhi hb1 with⟨rfl,_⟩ | ⟨y',rfl,_,kd,hk⟩
       ·exact .inl ⟨rfl,rfl⟩
       ·exact .inr ⟨kd,by simp[hk]⟩
      have e2: (lo'.map a.eval=none/\(0:Nat)=0)\/∃kd,lo'.map a.eval=some (.int kd ((0:Nat):Int)):=by
       rcases ZN hI hlo hb2 with⟨rfl,_⟩ | ⟨y',rfl,_,kd,hk⟩
       ·exact .inl ⟨rfl,rfl⟩
       ·exact .inr ⟨kd,by simp[hk]⟩
      unfold XD at ht;split at ht
      ·rename_i e hu;refine Qr (u:= .slice (if 0=0 then A else A.map (·.add (0*sz))) (0 - 0) (0 - 0)) (w':=w) ?_ (h.same hI rfl ?_ trivial)
       ·simp only[execOp,ho,g1,Instr.sliceAt,Instr.slice,Sem.run_bind,run_underlying hu,Result.andThen_ok,Po];rw[VU e1 e2 (by omega) (by omega)];simp only[Result.andThen_ok,ZH ht];rfl
       ·simp only[Qd];exact⟨_,_,rfl,by omega,by unfold maxLen;omega,.inl (by simp)⟩
      ·cases ht
   ·cases he
 ·cases he
def Pr:=@Nat.zero_le
def Qnp [Dr] {sz:Nat} {x:AO} {x':Operand} {t:TypeId} {k1 k2:IntKind} (hI:Inv num N w0 m0 T β0 σ a w m β ν) (ho:o.op= .slice t x' none (some (.const (.int k1 0))) (some (.const (.int k2 0)))) (ht:XD P t sz=true) (hx:okO num x x'=true)
  (he:Qi K (.slz sz x) σ=some (v,σ1)) (h:Aft num N w0 m0 T β0 σ1 a v fun u w'=>next (a.put o.dst u) w'):o.wp P a w next Q:=by
 simp only[Qi]at he;split at he
 ·rename_i o2 sz1 xs hA;split at he
  ·rename_i hsz;subst hsz;injection he with he
   injection he with h1 h2
   subst h1 h2;have g1:=(hI.val hx (by rw[hA];rfl)).1;rw[hA]at g1;simp only[Qd]at g1;obtain⟨A,len,cap,g1,g2,g3,g4,g5⟩:=g1;unfold XD at ht;split at ht
   ·rename_i e hu;refine Qr (u:= .slice A 0 0) (w':=w) ?_ (h.same hI rfl ?_ (.inl ⟨A,0,rfl⟩))
    ·have c1:a.eval (.const (.int k1 0))= .int k1 0:=rfl;have c2:a.eval (.const (.int k2 0))= .int k2 0:=rfl;simp[execOp,ho,g1,c1,c2,Instr.sliceAt,Instr.slice,run_underlying hu,Instr.sliceBounds,Instr.sliceBound,asIntOf,ZH ht]
    ·simp only[Qd];exact⟨A,0,0,rfl,rfl,ZJ _,Pr _,.inl trivial⟩
   ·cases ht
  ·cases he
 ·cases he
def XK:=@List.all_eq_true
def WC:=@List.mem_of_getElem?
def Qir [Dr] {f g:Nat} {caps:Ug} {cs:SN} (hI:Inv num N w0 m0 T β0 σ a w m β ν) (ho:o.op= .makeFunc (.func g) #[] cs.toArray) (hf:num f=some g) (hc:Xl num caps cs=true)
  (he:Qi K (.mkfn f caps) σ=some (v,σ1)) (h:Aft num N w0 m0 T β0 σ1 a v fun u w'=>next (a.put o.dst u) w'):o.wp P a w next Q:=by
 simp only[Qi]at he;split at he
 ·rename_i h1c;injection he with he
  injection he with h1 h2
  subst h1 h2;have hok:XH (caps.map (val σ.env))=true:=by
   unfold XH;rw[XK]at h1c ⊢;intro x hx;exact TD (h1c x hx)
  obtain⟨hl,hv⟩:=hI.vals hc hok;refine Qr (u:= .func (.func g) #[] (cs.toArray.map a.eval)) (w':=w) (by simp[execOp,ho,Instr.makeFunc]) (h.same hI rfl ?_ trivial);simp only[Qd];refine⟨g,_,hf,rfl,by simp[hl],?_⟩;rw[ZQ];intro i c hci;obtain⟨y,k1,k2,k3⟩:=hv i c hci;have h1:c.one=true:=by
   rw[XK]at h1c;exact h1c c (WC hci)
  exact⟨a.eval y,by simp[k1],Su h1 k3,k3⟩
 ·cases he
def Qiq [Dr] {f g:Nat} {caps:Ug} {cs:SN} (hI:Inv num N w0 m0 T β0 σ a w m β ν) (ho:o.op= .makeFunc (.func g) cs.toArray #[]) (hf:num f=some g) (hc:Xl num caps cs=true)
  (he:Qi K (.mkfb f caps) σ=some (v,σ1)) (h:Aft num N w0 m0 T β0 σ1 a v fun u w'=>next (a.put o.dst u) w'):o.wp P a w next Q:=by
 simp only[Qi]at he;split at he
 ·rename_i h1c;injection he with he
  injection he with h1 h2
  subst h1 h2;have hok:XH (caps.map (val σ.env))=true:=by
   unfold XH;rw[XK]at h1c ⊢;intro x hx;exact TD (h1c x hx)
  obtain⟨hl,hv⟩:=hI.vals hc hok;refine Qr (u:= .func (.func g) (cs.toArray.map a.eval) #[]) (w':=w) (by simp[execOp,ho,Instr.makeFunc]) (h.same hI rfl ?_ trivial);simp only[Qd];refine⟨g,_,hf,rfl,by simp[hl],?_⟩;rw[ZQ];intro i c hci;obtain⟨y,k1,k2,k3⟩:=hv i c hci;have h1:c.one=true:=by
   rw[XK]at h1c;exact h1c c (WC hci)
  exact⟨a.eval y,by simp[k1],Su h1 k3,k3⟩
 ·cases he
end
end Go.Am
