/-
  Am7, Am8.
-/
import Derived.Test.YtmlbijpbecpjoaaGreatDoorG01
set_option linter.all false
namespace Go.Am
def Xf:=@List.length_take
def ZR:=@List.append_assoc
def YS:=@List.getElem?_append_right
def Zo:=@List.length_append
def Wl {α:Type} (cs:List α) (off:Nat) (vs:List α) (h:off+vs.length<=cs.length) (i:Nat):
  (cs.take off ++ vs ++ cs.drop (off+vs.length))[i]? =if i < off then cs[i]? else if i < off+vs.length then vs[i - off]? else cs[i]? :=by
 have hl: (cs.take off).length=off:=by rw[Xf];omega
 by_cases h1:i < off
 ·rw[Qn h1,ZR,ZM (by omega),WB h1]
 ·rw[Qm h1];by_cases h2:i < off+vs.length
  ·rw[Qn h2,ZR,YS (by omega),hl,ZM (by omega)]
  ·rw[Qm h2,YS (by rw[Zo,hl];omega),Zo,hl,XJ];congr 1;omega
def Ut:=@List.length_drop
def Vh {α:Type} (cs:List α) (off:Nat) (vs:List α) (h:off+vs.length<=cs.length): (cs.take off ++ vs ++ cs.drop (off+vs.length)).length=cs.length:=by
 simp only[Zo,Xf,Ut];omega
section
variable {P:Program} {num:Nat->Option Nat} {β:List Blk} {w w':World} {m:Nat->Nat} {ν:Own} {N:Nat} {w0:World} {m0:Nat->Nat} {T:Nat->Prop} {β0:List Blk} {σ σ1:St} {a:Act}
 {o:Oper} {next:Act->World->Prop} {Q:Exit->Act->World->Prop} {K:Yo} {v:AV}
def KX:=@not_true_eq_false
def VV {t:TypeId} {sz b off:Nat} {e:TypeId} {cur:Ze} {u:Value} (hs:Z2 P t sz=true) (hb:w.heap[b]? =some (.cells cur e (0,0))) (hu:u.cells.size=sz)
  (hl:off+sz<=cur.size) (h1: ∀x∈u.cells.toList,x.oneCell'=true):
  (storeVar t ⟨b,off,none⟩ u).run P w= .ok () (w.setRow b (cur.toList.take off ++ u.cells.toList ++ cur.toList.drop (off+u.cells.toList.length)).toArray):=by
 have:=run_storeCells_at P b off e u.cells.toList 0 cur w hb (by simpa[hu]using hl) h1;simp only[storeVar,Sem.run_bind,ZH hs,Result.andThen_ok,hu,ne_eq,KX,Zd];exact this
def Sk:=@List.getElem?_of_mem
def OB:=@Array.getElem?_toList
def MI {cs:Qh} {u:Value} (hz:u.cells.size=cs.length) (hc: ∀(i:Nat) (c:AV),cs[i]? =some c->∃x,u.cells[i]? =some x/\x.oneCell'=true/\Qd num β w m c x):
  ∀x∈u.cells.toList,x.oneCell'=true:=by
 intro x hx;obtain⟨i,hi⟩:=Sk hx;have hlt:i < u.cells.toList.length:=by
  rcases QR i u.cells.toList.length with h | h
  ·exact h
  ·rw[Q3 h]at hi;cases hi
 obtain⟨y,g1,g2,_⟩:=hc i _ (Zv (by rw[<- hz];simpa using hlt));rw[OB,g1]at hi;injection hi with hi
 subst hi;exact g2
def UD {x:AV} {cs:Qh} (hc:cellsOf x=some cs):x.ok=true:=by
 cases x <;> simp[cellsOf,AV.one]at hc <;> rfl
def Sz [Dr] (cs:Qh) (off:Nat) (vs:Qh) (h:off+vs.length<=cs.length): (put cs off vs).length=cs.length:=by
 unfold put;rw[Vh _ _ _ h]
def WD:=@List.size_toArray
def S8:=@List.getElem?_toArray
def T6 [Dr] {cs vs:Qh} {cur:Ze} {us:ZE} {off:Nat} (hz:cs.length<=cur.size) (hl:off+vs.length<=cs.length) (hu:us.length=vs.length) {R S:Nat->AV->Value->Prop}
  (hcs: ∀(i:Nat) (c:AV),cs[i]? =some c->∃u,cur[i]? =some u/\R i c u) (hvs: ∀(i:Nat) (c:AV),vs[i]? =some c->∃u,us[i]? =some u/\S i c u):
  (cur.toList.take off ++ us ++ cur.toList.drop (off+us.length)).toArray.size=cur.size/\
  ∀(i:Nat) (c:AV),(put cs off vs)[i]? =some c->∃u,(cur.toList.take off ++ us ++ cur.toList.drop (off+us.length)).toArray[i]? =some u/\(R i c u\/(off<=i/\i < off+vs.length/\S (i - off) c u)):=by
 have hl2:off+us.length<=cur.toList.length:=by simp;omega
 refine⟨?_,fun i c hc=> ?_⟩
 ·rw[WD,Vh _ _ _ hl2];simp
 ·unfold put at hc;rw[Wl _ _ _ hl]at hc;rw[S8,Wl _ _ _ hl2,hu];split at hc
  ·rename_i h1;obtain⟨u,g1,g2⟩:=hcs i c hc;exact⟨u,by rw[Qn h1];simpa using g1,.inl g2⟩
  ·rename_i h1;split at hc
   ·rename_i h2;obtain⟨u,g1,g2⟩:=hvs _ c hc;exact⟨u,by rw[Qm h1,Qn h2];exact g1,.inr ⟨by omega,h2,g2⟩⟩
   ·rename_i h2;obtain⟨u,g1,g2⟩:=hcs i c hc;exact⟨u,by rw[Qm h1,Qm h2];simpa using g1,.inl g2⟩
def Rw {t:TypeId} {x y:Operand} {A:Addr} (ho:o.op= .store t x y) (hq:a.eval x= .pointer (some A)) (hr: (storeVar t A (a.eval y)).run P w= .ok () w'):
  (execOp a.eval o).run P w= .ok .skip w':=by
 simp only[execOp,ho,Instr.storeAt,hq,Instr.sureAddr,Sem.run_bind,Sem.run_pure,Result.andThen_ok,hr]
def BO {ρ:Ql} {x:AO} {y:Operand} {vs:Qh} {us:Ze} (ho:okO num x y=true) (hc:cellsOf (val ρ x)=some vs) (hu:us=(a.eval y).cells)
  (hvs: ∀(i:Nat) (c:AV),vs[i]? =some c->∃u,us[i]? =some u/\u.oneCell'=true/\Qd num β w m c u):
  ∀(i:Nat) (c:AV),(stV x vs)[i]? =some c->∃u,us[i]? =some u/\u.oneCell'=true/\Qd num β w m c u/\∀p ν,Zz w m ν p c u:=by
 intro i c hi;unfold stV at hi;split at hi
 ·rename_i z vs;cases y <;> try (simp[okO]at ho;done)
  rename_i u;simp only[okO,Lp]at ho;have h1: ∀ν,_:=fun ν=>Zu (num:=num) (β:=β) (w:=w) (m:=m) (ν:=ν) ho;simp[val,cellsOf,AV.one,AV.strip]at hc;subst hc
  match i with
  | 0=>
   simp at hi;subst hi;obtain⟨v,g1,g2,g3⟩:=hvs 0 _ rfl;have h4: (a.eval (.const u)).cells= #[u]:=by
    have:=(h1 fun _=>none).2.1
    show u.cells= #[u];cases u <;> first | rfl | simp[Value.oneCell']at this
   refine⟨u,by rw[hu,h4];rfl,(h1 fun _=>none).2.1,(h1 fun _=>none).1,fun p ν=>(h1 ν).2.2 p⟩
  | i+1=>simp at hi
 ·obtain⟨d,hd,rfl⟩:=Zn hi;obtain⟨u,g,k1,k2⟩:=hvs i d hd;exact⟨u,g,k1,by rw[QU];exact k2,fun p ν=>Yp _ _ _⟩
def Mv:=@Nat.le_of_eq
def Tv:=@Array.length_toList
def Qnq [Dr] {s q off sz:Nat} {x:AO} {y:Operand} {t:TypeId} (hI:Inv num N w0 m0 T β0 σ a w m β ν) (ho:o.op= .store t (.tmp q) y) (hs:Z2 P t sz=true) (hxy:okO num x y=true)
  (hp:U6 a q s off\/(q=s/\off=0)) (he:Qi K (.stf s off sz x) σ=some (v,σ1)) (h: ∀w' m' β' ν',Inv num N w0 m0 T β0 σ1 a w' m' β' ν'->v= .undef->next (a.put o.dst undef) w'):
  o.wp P a w next Q:=by
 simp only[Qi]at he;split at he
 ·rename_i cs hcs;cases hc:cellsOf (val σ.env x)with
  | none=>rw[hc]at he;cases he
  | some vs=>
   rw[hc]at he;simp only[QC]at he;split at he
   ·rename_i hsz;injection he with he
    injection he with h1 h2
    subst h1 h2;obtain⟨hz1,hl⟩:=hsz;have hv:=(hI.val hxy (UD hc)).1;obtain⟨_,hz,hvs⟩:=WF hc hv;obtain⟨b0,cur0,e0,hx0,hq,hb0,hz0,hcur0⟩:=hI.box_at hcs hp;obtain⟨b,cur,e,hxb,hb,hzc,hcur,hfin⟩:=hI.setBox (cs':=put cs off (stV x vs)) s hcs hx0;injection hxb with hxb
    injection hxb with hxb
    injection hxb with hxb
    subst hxb;have hrun:=VV (w:=w) (off:=off) hs hb (hz.trans hz1) (by omega) (MI hz hvs);have hex:=Rw ho hq hrun;refine TR hex (h _ m β _ (hfin id _ (fun _=>rfl) (fun _ _=>rfl) (fun _=>rfl) (fun _ _=>rfl) ?_ ?_) rfl)
    ·exact(T6 (vs:=stV x vs) (Mv hzc.symm) (by rw[SF];exact hl) (by rw[Tv,hz,SF]) (R:=fun _ _ _=>True) (S:=fun _ _ _=>True) (fun i c hi=>by obtain⟨u,g,_⟩:=hcur i c hi;exact⟨u,g,trivial⟩)
      (fun i c hi=>by obtain⟨u,g,_⟩:=BO (ρ:=σ.env) (a:=a) hxy hc rfl hvs i c hi;exact⟨u,by simpa using g,trivial⟩)).1.trans (by rw[Sz _ _ _ (by rw[SF];exact hl)];exact hzc)
    ·intro i c hi;obtain⟨u,g1,g2⟩:=(T6 (vs:=stV x vs) (Mv hzc.symm) (by rw[SF];exact hl) (by rw[Tv,hz,SF]) (R:=fun i c u=>u.oneCell'=true/\Qd num β w m c u/\Zz w m ν (.c s i) c u)
      (S:=fun _ c u=>u.oneCell'=true/\Qd num β w m c u/\∀p,Zz w m ν p c u) hcur
      (fun i c hi=>by obtain⟨u,g,k1,k2,k3⟩:=BO (ρ:=σ.env) (a:=a) hxy hc rfl hvs i c hi;exact⟨u,by simpa using g,k1,k2,fun p=>k3 p ν⟩)).2 i c hi
     refine⟨u,g1,?_⟩;have hne:ν b0≠some (.c s i):=by
      obtain⟨_,h2⟩:=hI.at_ (n:=s) (by rw[hcs];simp);have h3:=hI.slots s _ h2;rw[hcs]at h3;obtain⟨b2,hxb2,_,_,_,_,_,hν,_⟩:=h3;rw[h2]at hx0;injection hx0 with hx0
      rw[hxb2]at hx0;injection hx0 with hx0
      injection hx0 with hx0
      injection hx0 with hx0
      subst hx0;rw[hν];simp
     rcases g2 with⟨k1,k2,k3⟩ | ⟨_,_,k1,k2,k3⟩
     ·exact⟨k1,k2,_,k3,rfl,hne⟩
     ·exact⟨k1,k2,.c s i,k3 _,rfl,hne⟩
   ·cases he
 ·cases he
def Kl {c z:AV} {u:Value} (h:Qd num β w m c u):Qd num β w m (RA c z) u/\∀p ν,Zz w m ν p (RA c z) u:=by
 unfold RA;split
 ·rename_i i o k;simp only[Qd]at h ⊢;obtain⟨a,cap,rfl,h2,h3,h4⟩:=h;have hc:cap=0:=by
   rcases h4 with h4 | ⟨_,_,_,_,h5⟩
   ·exact h4.2.1
   ·omega
  subst hc;exact⟨⟨a,0,0,rfl,rfl,h2,h3,.inl trivial⟩,fun p ν=> .inl ⟨a,0,rfl⟩⟩
 ·exact⟨by rw[QU];exact h,fun p ν=>Yp _ _ _⟩
def Od: ∀(vs zs:Qh) (i:Nat) (c:AV),(WZ vs zs)[i]? =some c->∃d,vs[i]? =some d/\(c=d.strip\/∃z,c=RA d z)
 | [],_,i,c,h=>by simp[WZ]at h
 | v:: vs,[],0,c,h=>⟨v,rfl,.inl (by simpa[WZ]using h.symm)⟩
 | v:: vs,[],i+1,c,h=>by
  obtain⟨d,h1,h2⟩:=Od vs [] i c (by simpa[WZ]using h);exact⟨d,by simpa using h1,h2⟩
 | v:: vs,z:: zs,0,c,h=>⟨v,rfl,.inr ⟨z,by simpa[WZ]using h.symm⟩⟩
 | v:: vs,z:: zs,i+1,c,h=>by
  obtain⟨d,h1,h2⟩:=Od vs zs i c (by simpa[WZ]using h);exact⟨d,by simpa using h1,h2⟩
def Hb {us:Ze} (vs zs:Qh) (h: ∀(i:Nat) (c:AV),vs[i]? =some c->∃u,us[i]? =some u/\u.oneCell'=true/\Qd num β w m c u) (i:Nat) (c:AV) (hc: (WZ vs zs)[i]? =some c):
  ∃u,us[i]? =some u/\u.oneCell'=true/\Qd num β w m c u/\∀p ν,Zz w m ν p c u:=by
 obtain⟨d,h1,h2⟩:=Od vs zs i c hc;obtain⟨u,g1,g2,g3⟩:=h i d h1;rcases h2 with rfl | ⟨z,rfl⟩
 ·exact⟨u,g1,g2,by rw[QU];exact g3,fun p ν=>Yp _ _ _⟩
 ·exact⟨u,g1,g2,(Kl g3).1,(Kl g3).2⟩
def Qfw {c z:AV} {u:Value} (h:Qd num β w m c u) (p:Pl) (w':World) (m':ZF) (ν':Own):Zz w' m' ν' p (RA c z) u:=by
 unfold RA;split
 ·rename_i i o k;simp only[Qd]at h;obtain⟨a,cap,rfl,h2,h3,h4⟩:=h;have hc:cap=0:=by
   rcases h4 with h4 | ⟨_,_,_,_,h5⟩
   ·exact h4.2.1
   ·omega
  subst hc;exact .inl ⟨a,0,rfl⟩
 ·exact Yp _ _ _
def Qdm {us:Ze} (vs zs:Qh) (h: ∀(i:Nat) (c:AV),vs[i]? =some c->∃u,us[i]? =some u/\u.oneCell'=true/\Qd num β w m c u) (i:Nat) (c:AV) (hc: (WZ vs zs)[i]? =some c):
  ∃u,us[i]? =some u/\u.oneCell'=true/\Qd num β w m c u/\∀p w' m' ν',Zz w' m' ν' p c u:=by
 obtain⟨d,h1,h2⟩:=Od vs zs i c hc;obtain⟨u,g1,g2,g3⟩:=h i d h1;rcases h2 with rfl | ⟨z,rfl⟩
 ·exact⟨u,g1,g2,by rw[QU];exact g3,fun _ _ _ _=>Yp _ _ _⟩
 ·exact⟨u,g1,g2,(Kl g3).1,fun p w' m' ν'=>Qfw g3 p w' m' ν'⟩
def Qik [Dr] {x:AO} {zs:Qh} {y:Operand} {t:TypeId} (hI:Inv num N w0 m0 T β0 σ a w m β ν) (ho:o.op= .box t y) (hxy:okO num x y=true)
  (he:Qi K (.gbxn x zs) σ=some (v,σ1)) (h:Aft num N w0 m0 T β0 σ1 a v fun u w'=>next (a.put o.dst u) w'):o.wp P a w next Q:=by
 simp only[Qi]at he;cases hc:cellsOf (val σ.env x)with
 | none=>rw[hc]at he;cases he
 | some cs=>
  rw[hc]at he
  ·injection he with he
   injection he with h1 h2
   subst h1 h2;have hk: (val σ.env x).ok=true:=by
    cases hv:val σ.env x <;> rw[hv]at hc <;> simp[cellsOf,AV.one]at hc <;> rfl
   have hv:=(hI.val hxy hk).1;obtain⟨_,hz,hcs⟩:=WF hc hv;refine Qr (u:= .pointer (some ⟨w.heap.size,0,none⟩)) (w':=w.alloc (.cells (a.eval y).cells t)) (by simp[execOp,ho,Instr.box,newVar,newRow]) ?_;refine h _ _ _ _ _ (hI.addG (a.eval y).cells t (WZ cs zs) (by rw[WS];simpa using hz) fun i c hci=> ?_) ?_
   ·exact Qdm cs zs (fun i d hd=>hcs i d hd) i c hci
   ·refine(QT rfl).2 ⟨?_,trivial⟩;simp only[Qd];exact⟨⟨w.heap.size,(a.eval y).cells.size,false,t⟩,⟨by rw[<- hI.blen];simp,rfl⟩,rfl⟩
def Qns [Dr] {s q off sz:Nat} {x:AO} {zs:Qh} {y:Operand} {t:TypeId} (hI:Inv num N w0 m0 T β0 σ a w m β ν) (ho:o.op= .store t (.tmp q) y) (hs:Z2 P t sz=true) (hxy:okO num x y=true)
  (hp:U6 a q s off\/(q=s/\off=0)) (he:Qi K (.stn s off sz x zs) σ=some (v,σ1)) (h: ∀w' m' β' ν',Inv num N w0 m0 T β0 σ1 a w' m' β' ν'->v= .undef->next (a.put o.dst undef) w'):
  o.wp P a w next Q:=by
 simp only[Qi]at he;split at he
 ·rename_i cs hcs;cases hc:cellsOf (val σ.env x)with
  | none=>rw[hc]at he;cases he
  | some vs=>
   rw[hc]at he;simp only[QC]at he;split at he
   ·rename_i hsz;injection he with he
    injection he with h1 h2
    subst h1 h2;obtain⟨hz1,hl⟩:=hsz;have hv:=(hI.val hxy (UD hc)).1;obtain⟨_,hz,hvs⟩:=WF hc hv;obtain⟨b0,cur0,e0,hx0,hq,hb0,hz0,hcur0⟩:=hI.box_at hcs hp;obtain⟨b,cur,e,hxb,hb,hzc,hcur,hfin⟩:=hI.setBox (cs':=put cs off (WZ vs zs)) s hcs hx0;injection hxb with hxb
    injection hxb with hxb
    injection hxb with hxb
    subst hxb;have hrun:=VV (w:=w) (off:=off) hs hb (hz.trans hz1) (by omega) (MI hz hvs);have hex:=Rw ho hq hrun;refine TR hex (h _ m β _ (hfin id _ (fun _=>rfl) (fun _ _=>rfl) (fun _=>rfl) (fun _ _=>rfl) ?_ ?_) rfl)
    ·exact(T6 (vs:=WZ vs zs) (Mv hzc.symm) (by rw[WS];exact hl) (by rw[Tv,hz,WS]) (R:=fun _ _ _=>True) (S:=fun _ _ _=>True) (fun i c hi=>by obtain⟨u,g,_⟩:=hcur i c hi;exact⟨u,g,trivial⟩)
      (fun i c hi=>by obtain⟨u,g,_⟩:=Hb vs zs (fun i c hi=>hvs i c hi) i c hi;exact⟨u,by simpa using g,trivial⟩)).1.trans (by rw[Sz _ _ _ (by rw[WS];exact hl)];exact hzc)
    ·intro i c hi;obtain⟨u,g1,g2⟩:=(T6 (vs:=WZ vs zs) (Mv hzc.symm) (by rw[WS];exact hl) (by rw[Tv,hz,WS]) (R:=fun i c u=>u.oneCell'=true/\Qd num β w m c u/\Zz w m ν (.c s i) c u)
      (S:=fun _ c u=>u.oneCell'=true/\Qd num β w m c u/\∀p,Zz w m ν p c u) hcur
      (fun i c hi=>by obtain⟨u,g,k1,k2,k3⟩:=Hb vs zs (fun i c hi=>hvs i c hi) i c hi;exact⟨u,by simpa using g,k1,k2,fun p=>k3 p ν⟩)).2 i c hi
     refine⟨u,g1,?_⟩;have hne:ν b0≠some (.c s i):=by
      obtain⟨_,h2⟩:=hI.at_ (n:=s) (by rw[hcs];simp);have h3:=hI.slots s _ h2;rw[hcs]at h3;obtain⟨b2,hxb2,_,_,_,_,_,hν,_⟩:=h3;rw[h2]at hx0;injection hx0 with hx0
      rw[hxb2]at hx0;injection hx0 with hx0
      injection hx0 with hx0
      injection hx0 with hx0
      subst hx0;rw[hν];simp
     rcases g2 with⟨k1,k2,k3⟩ | ⟨_,_,k1,k2,k3⟩
     ·exact⟨k1,k2,_,k3,rfl,hne⟩
     ·exact⟨k1,k2,.c s i,k3 _,rfl,hne⟩
   ·cases he
 ·cases he
def AW [Dr] {p sz:Nat} {x:AO} {y:Operand} {t:TypeId} (hI:Inv num N w0 m0 T β0 σ a w m β ν) (ho:o.op= .store t (.tmp p) y) (hs:Z2 P t sz=true) (hxy:okO num x y=true)
  (he:Qi K (.st p sz x) σ=some (v,σ1)) (h: ∀w' m' β' ν',Inv num N w0 m0 T β0 σ1 a w' m' β' ν'->v= .undef->next (a.put o.dst undef) w'):
  o.wp P a w next Q:=by
 simp only[Qi]at he;split at he
 ·rename_i i0 off hcs;cases hbs:σ.bs[i0]? with
  | none=>rw[hbs]at he;cases he
  | some cs=>
   rw[hbs]at he;simp only[QC]at he;cases hc:cellsOf (val σ.env x)with
   | none=>rw[hc]at he;cases he
   | some vs=>
    rw[hc]at he;simp only[QC]at he;split at he
    ·rename_i hsz;injection he with he
     injection he with h1 h2
     subst h1 h2;obtain⟨hz1,hl,h0⟩:=hsz;have hv:=(hI.val hxy (UD hc)).1;obtain⟨_,hz,hvs⟩:=WF hc hv;obtain⟨_,h2⟩:=hI.at_ (n:=p) (by rw[hcs];simp);have h3:=hI.slots p _ h2;rw[hcs]at h3;obtain⟨h3,_⟩:=h3;simp only[Qd]at h3;obtain⟨⟨b,z,mp,ty⟩,h4,h5⟩:=h3;have hq:a.eval (.tmp p)= .pointer (some ⟨b,off,none⟩):=h5;have hne0:cs≠[]:=fun e=>by rw[e]at hl;simp only[Yz]at hl;omega
     obtain⟨cur,e,hb,⟨hzc,hzl⟩,hcur,hfin⟩:=hI.setG (cs':=put cs off (vs.map AV.strip)) i0 hbs h4 hne0;simp only at hb hzc hzl;have hrun:=VV (w:=w) (off:=off) hs hb (hz.trans hz1) (by omega) (MI hz hvs);have hex:=Rw ho hq hrun;refine TR hex (h _ m β _ (hfin id _ (fun _=>rfl) (fun _ _=>rfl) (fun _=>rfl) (fun _ _=>rfl) ?_ ?_ ?_) rfl)
     ·exact(T6 (cs:=cs) (vs:=vs.map AV.strip) (by omega) (by simpa using hl) (by rw[Tv,hz];simp) (R:=fun _ _ _=>True) (S:=fun _ _ _=>True) (fun i c hi=>by obtain⟨u,g,_⟩:=hcur i c hi;exact⟨u,g,trivial⟩)
       (fun i c hi=>by obtain⟨d,hd,_⟩:=Zn hi;obtain⟨u,g,_⟩:=hvs i d hd;exact⟨u,by simpa using g,trivial⟩)).1.trans hzc
     ·rw[Sz _ _ _ (by simpa using hl)];exact hzl
     ·intro i c hi;obtain⟨u,g1,g2⟩:=(T6 (vs:=vs.map AV.strip) (by omega) (by simpa using hl) (by rw[Tv,hz];simp) (R:=fun i c u=>u.oneCell'=true/\Qd num β w m c u/\Zz w m ν (.gc i0 i) c u)
       (S:=fun _ c u=>u.oneCell'=true/\Qd num β w m c u/\∀p,Zz w m ν p c u) hcur
       (fun i c hi=>by obtain⟨d,hd,rfl⟩:=Zn hi;obtain⟨u,g,k1,k2⟩:=hvs i d hd;exact⟨u,by simpa using g,k1,by rw[QU];exact k2,fun p=>Yp _ _ _⟩)).2 i c hi
      refine⟨u,g1,?_⟩;have hne:ν b≠some (.gc i0 i):=by
       obtain⟨_,_,_,_,_,hν,_⟩:=(hI.boxes i0 cs _ hbs h4.1 hne0).1 h4.2;rw[hν];simp
      rcases g2 with⟨k1,k2,k3⟩ | ⟨_,_,k1,k2,k3⟩
      ·exact⟨k1,k2,_,k3,rfl,hne⟩
      ·exact⟨k1,k2,.gc i0 i,k3 _,rfl,hne⟩
    ·cases he
 ·cases he
def Tu:=@List.length_singleton
def QiA [Dr] {s q off n:Nat} {t:TypeId} (hI:Inv num N w0 m0 T β0 σ a w m β ν) (ho:o.op= .store t (.tmp q) (.tmp n)) (hs:Z2 P t 1=true)
  (hp:U6 a q s off\/(q=s/\off=0)) (he:Qi K (.stfm s off n) σ=some (v,σ1)) (h: ∀w' m' β' ν',Inv num N w0 m0 T β0 σ1 a w' m' β' ν'->v= .undef->next (a.put o.dst undef) w'):
  o.wp P a w next Q:=by
 simp only[Qi]at he;split at he
 ·rename_i cs hcs;split at he
  ·rename_i hsz;injection he with he
   injection he with h1 h2
   subst h1 h2;obtain⟨hsn,h1n,hl⟩:=hsz;obtain⟨_,hn2⟩:=hI.at_ (n:=n) (fun e=>by rw[e]at h1n;cases h1n);have hn3:=hI.slots n _ hn2;rw[QT (TD h1n)]at hn3;have hI2:=hI.takeSlot n;have hcs2: ({σ with env:=upd σ.env n .undef}:St).env s= .bx cs:=by simp only[upd];rw[Qm hsn];exact hcs
   obtain⟨b0,cur0,e0,hx0,hq,hb0,hz0,hcur0⟩:=hI.box_at hcs hp;obtain⟨b,cur,e,hxb,hb,hzc,hcur,hfin⟩:=hI2.setBox (cs':=cs.set off (σ.env n)) s hcs2 hx0;injection hxb with hxb
   injection hxb with hxb
   injection hxb with hxb
   subst hxb;have h1: (a.eval (.tmp n)).oneCell'=true:=Su h1n hn3.1;have hce: (a.eval (.tmp n)).cells= #[a.eval (.tmp n)]:=by
    cases hu:a.eval (.tmp n) <;> first | rfl | (rw[hu]at h1;simp[Value.oneCell']at h1)
   have hrun:=VV (w:=w) (off:=off) hs hb (u:=a.eval (.tmp n)) (by rw[hce];rfl) (by omega) (by rw[hce];simpa using h1);have hνb:Yg ν (mv (.s n) .f) b0=some (.s s):=by
    obtain⟨_,h2⟩:=hI2.at_ (n:=s) (by rw[hcs2];simp);have h3:=hI2.slots s _ h2;rw[hcs2]at h3;obtain⟨b2,hxb2,_,_,_,_,_,hν,_⟩:=h3;rw[h2]at hx0;injection hx0 with hx0
    rw[hxb2]at hx0;injection hx0 with hx0
    injection hx0 with hx0
    injection hx0 with hx0
    subst hx0;exact hν
   have hown:Zz w m (Yg ν (mv (.s n) .f)) .f (σ.env n) (a.eval (.tmp n)):=by
    have:=VX (θ:=mv (.s n) .f) hn3.2;rwa[show mv (.s n) .f (.s n)= .f by simp[mv]]at this
   have hex:=Rw ho hq hrun;refine TR hex (h _ m β _ (hfin (mv .f (.c s off)) _ (fun _=>by simp[mv]) (fun _ _=>by simp[mv]) (fun _=>by simp[mv]) (fun _ _=>by simp[mv]) ?_ ?_) rfl)
   ·rw[hce,WD,Vh _ _ _ (by simp;omega)];simpa using hzc
   ·intro i c hi;rw[hce,S8,Wl _ _ _ (by simp;omega)];rw[Y8]at hi;split at hi
    ·rename_i hio;subst hio;injection hi with hi
     subst hi;refine⟨a.eval (.tmp n),by rw[Qm (by omega),Qn (by simp)];simp,h1,hn3.1,.f,hown,by simp[mv],by rw[hνb];simp⟩
    ·rename_i hio;obtain⟨u,g1,g2,g3,g4⟩:=hcur i c hi;refine⟨u,?_,g2,g3,.c s i,g4,by simp[mv],by rw[hνb];simp⟩;simp only[Tu];split
     ·simpa using g1
     ·rw[Qm (by omega)];simpa using g1
  ·cases he
 ·cases he
def Qnr [Dr] {p n:Nat} {t:TypeId} (hI:Inv num N w0 m0 T β0 σ a w m β ν) (ho:o.op= .store t (.tmp p) (.tmp n)) (hs:Z2 P t 1=true)
  (he:Qi K (.stm p n) σ=some (v,σ1)) (h: ∀w' m' β' ν',Inv num N w0 m0 T β0 σ1 a w' m' β' ν'->v= .undef->next (a.put o.dst undef) w'):
  o.wp P a w next Q:=by
 simp only[Qi]at he;split at he
 ·rename_i i0 off hcs;cases hbs:σ.bs[i0]? with
  | none=>rw[hbs]at he;cases he
  | some cs=>
   rw[hbs]at he;simp only[QC]at he;split at he
   ·rename_i hsz;injection he with he
    injection he with h1 h2
    subst h1 h2;obtain⟨h1n,hl⟩:=hsz;obtain⟨_,hn2⟩:=hI.at_ (n:=n) (fun e=>by rw[e]at h1n;cases h1n);have hn3:=hI.slots n _ hn2;rw[QT (TD h1n)]at hn3;obtain⟨_,h2⟩:=hI.at_ (n:=p) (by rw[hcs];simp);have h3:=hI.slots p _ h2;rw[hcs]at h3;obtain⟨h3,_⟩:=h3;simp only[Qd]at h3;obtain⟨⟨b,z,mp,ty⟩,h4,h5⟩:=h3;have hq:a.eval (.tmp p)= .pointer (some ⟨b,off,none⟩):=h5;have hI2:=hI.takeSlot n;have hne0:cs≠[]:=fun e=>by rw[e]at hl;simp at hl
    obtain⟨cur,e,hb,⟨hzc,hzl⟩,hcur,hfin⟩:=hI2.setG (cs':=cs.set off (σ.env n)) i0 hbs h4 hne0;simp only at hb hzc hzl;have h1: (a.eval (.tmp n)).oneCell'=true:=Su h1n hn3.1;have hce: (a.eval (.tmp n)).cells= #[a.eval (.tmp n)]:=by
     cases hu:a.eval (.tmp n) <;> first | rfl | (rw[hu]at h1;simp[Value.oneCell']at h1)
    have hrun:=VV (w:=w) (off:=off) hs hb (u:=a.eval (.tmp n)) (by rw[hce];rfl) (by omega) (by rw[hce];simpa using h1);have hνb:Yg ν (mv (.s n) .f) b=some (.g i0):=by
     obtain⟨_,_,_,_,_,hν,_⟩:=(hI2.boxes i0 cs _ hbs h4.1 hne0).1 h4.2;exact hν
    have hown:Zz w m (Yg ν (mv (.s n) .f)) .f (σ.env n) (a.eval (.tmp n)):=by
     have:=VX (θ:=mv (.s n) .f) hn3.2;rwa[show mv (.s n) .f (.s n)= .f by simp[mv]]at this
    have hex:=Rw ho hq hrun;refine TR hex (h _ m β _ (hfin (mv .f (.gc i0 off)) _ (fun _=>by simp[mv]) (fun _ _=>by simp[mv]) (fun _=>by simp[mv]) (fun _ _=>by simp[mv]) ?_ ?_ ?_) rfl)
    ·rw[hce,WD,Vh _ _ _ (by simp;omega)];simpa using hzc
    ·simpa using hzl
    ·intro i c hi;rw[hce,S8,Wl _ _ _ (by simp;omega)];rw[Y8]at hi;split at hi
     ·rename_i hio;subst hio;injection hi with hi
      subst hi;refine⟨a.eval (.tmp n),by rw[Qm (by omega),Qn (by simp)];simp,h1,hn3.1,.f,hown,by simp[mv],by rw[hνb];simp⟩
     ·rename_i hio;obtain⟨u,g1,g2,g3,g4⟩:=hcur i c hi;refine⟨u,?_,g2,g3,.gc i0 i,g4,by simp[mv],by rw[hνb];simp⟩;simp only[Tu];split
      ·simpa using g1
      ·rw[Qm (by omega)];simpa using g1
   ·cases he
 ·cases he
end
end Go.Am
namespace Go.Am
def HJ (P:Program) (t:TypeId):Bool:=match P.underlying t with
 | some .bool=>true
 | _=>false
def Jr (P:Program) (t:TypeId):Bool:=match P.underlying t with
 | some (.interface _)=>true
 | _=>false
def Li (P:Program) (t:TypeId):Bool:=match P.underlying t with
 | some .string=>true
 | _=>false
def slT (P:Program) (t:TypeId):Bool:=match P.underlying t with
 | some (.slice _)=>true
 | _=>false
def XD (P:Program) (t:TypeId) (sz:Nat):Bool:=match P.underlying t with
 | some (.slice e)=>Z2 P e sz
 | _=>false
def Qfk (P:Program) (src dst:TypeId) (k:IntKind):Bool:=match P.underlying src,P.underlying dst with
 | some _,some (.int k')=>decide (k=k')
 | _,_=>false
def QeC {P:Program} {t:TypeId} (h:HJ P t=true):P.underlying t=some .bool:=by
 unfold HJ at h;split at h
 ·assumption
 ·cases h
def Iq {P:Program} {t:TypeId} (h:Li P t=true):P.underlying t=some .string:=by
 unfold Li at h;split at h
 ·assumption
 ·cases h
def Qde {P:Program} {t:TypeId} (h:Jr P t=true): ∃ms,P.underlying t=some (.interface ms):=by
 unfold Jr at h;split at h
 ·exact⟨_,by assumption⟩
 ·cases h
def JM {P:Program} {t:TypeId} (h:slT P t=true): ∃e,P.underlying t=some (.slice e):=by
 unfold slT at h;split at h
 ·exact⟨_,by assumption⟩
 ·cases h
section
variable {P:Program} {num:Nat->Option Nat} {β:List Blk} {w w':World} {m:Nat->Nat} {ν:Own} {N:Nat} {w0:World} {m0:Nat->Nat} {T:Nat->Prop} {β0:List Blk} {σ σ1:St} {a:Act}
 {o:Oper} {next:Act->World->Prop} {Q:Exit->Act->World->Prop} {K:Yo} {v:AV}
def QgR {op:BinOp} {X Y:AV} (h:LW op X Y=some v):X.ok=true/\Y.ok=true:=by
 unfold LW at h;split at h <;> first | exact⟨rfl,rfl⟩ | cases h
def Qeu {op:BinOp} {X Y:AV} {u u':Value} {t:TypeId} {xo yo:Operand} (h:LW op X Y=some v) (hx:Qd num β w m X u) (hy:Qd num β w m Y u'):
  ∃r,((do eqGuard op t xo yo u u';binOp op t u u'):Sem Value).run P w= .ok r w/\v.ok=true/\Qd num β w m v r/\∀p,Zz w m ν p v r:=by
 unfold LW at h;split at h <;> (try simp only[Qd]at hx hy) <;> (try subst hx) <;> (try subst hy)
 all_goals try (cases h;done)
 all_goals try split at h
 all_goals try (cases h;done)
 all_goals (injection h with h;subst h)
 all_goals first
  | (rename_i hk;refine⟨_,?_,rfl,by simp only[toI,Qd];rfl,fun _=>trivial⟩;simp[go_sem,shift_shr_any _ _ _ _ hk];done)
  | (rename_i hk;refine⟨_,?_,rfl,by simp only[toI,Qd];rfl,fun _=>trivial⟩;simp[go_sem,shift_shl_any _ _ _ _ hk];done)
  | (rename_i hk;obtain⟨rfl,hb⟩:=hk;refine⟨_,?_,rfl,by simp only[toI,Qd];rfl,fun _=>trivial⟩;simp[go_sem,Op.intDiv,hb];done)
  | (rename_i hk;subst hk;refine⟨_,?_,rfl,by simp only[toI,Qd];rfl,fun _=>trivial⟩;simp[go_sem,Op.intArith];done)
  | (rename_i hk;subst hk;refine⟨_,?_,rfl,by simp only[toI,Qd];rfl,fun _=>trivial⟩;simp[go_sem,Op.intBits];done)
  | (rename_i hk;refine⟨_,?_,rfl,by simp only[Qd];rfl,fun _=>trivial⟩;simp[go_sem,binOp,Op.stringOp];rw[Qm (by omega),ByteArray.mk_append_mk];done)
  | (refine⟨_,?_,rfl,by simp only[Qd];rfl,fun _=>trivial⟩;simp[go_sem,binOp,Op.stringOp];done)
def Qm4 [Dr] {op:BinOp} {x y:AO} {x' y':Operand} {t t2:TypeId} (hI:Inv num N w0 m0 T β0 σ a w m β ν) (ho:o.op= .binOp op t x' y' t2) (hx:okO num x x'=true) (hy:okO num y y'=true)
  (he:Qi K (.bin op x y) σ=some (v,σ1)) (h:Aft num N w0 m0 T β0 σ1 a v fun u w'=>next (a.put o.dst u) w'):o.wp P a w next Q:=by
 simp only[Qi]at he;cases hr:LW op (val σ.env x) (val σ.env y)with
 | none=>rw[hr]at he;cases he
 | some v2=>
  rw[hr]at he;injection he with he
  injection he with h1 h2
  subst h1 h2;obtain⟨k1,k2⟩:=QgR hr;obtain⟨r,g1,g2,g3,g4⟩:=Qeu (P:=P) (ν:=ν) (t:=t) (xo:=x') (yo:=y') hr (hI.val hx k1).1 (hI.val hy k2).1;refine Qr (u:=r) (w':=w) ?_ (h.same hI g2 g3 (g4 _));simp only[execOp,ho,Sem.run_bind]at g1 ⊢;rw[g1];rfl
def Qm9 [Dr] {ne:Bool} {x y:AO} {x' y':Operand} {t t2:TypeId} (hI:Inv num N w0 m0 T β0 σ a w m β ν) (ho:o.op= .binOp (if ne then .neq else .eql) t x' y' t2) (ht:HJ P t=true) (hx:okO num x x'=true) (hy:okO num y y'=true)
  (he:Qi K (.eqb ne x y) σ=some (v,σ1)) (h:Aft num N w0 m0 T β0 σ1 a v fun u w'=>next (a.put o.dst u) w'):o.wp P a w next Q:=by
 simp only[Qi]at he;split at he
 ·rename_i A B hA hB;injection he with he
  injection he with h1 h2
  subst h1 h2;have g1:=(hI.val hx (by rw[hA];rfl)).1;have g2:=(hI.val hy (by rw[hB];rfl)).1;rw[hA]at g1;rw[hB]at g2;simp only[Qd]at g1 g2;have hu:=QeC ht;refine Qr (u:= .bool (if ne then !(A == B)else A == B)) (w':=w) ?_ (h.same hI rfl (by simp only[Qd]) trivial);have hq: ∀d,(Op.equalIn (d+1) t (.bool A) (.bool B)).run P w= .ok (A == B) w:=fun d=>by
   simp only[Op.equalIn,Sem.run_bind,run_underlying hu,Result.andThen_ok,Sem.run_pure]
  have hq2: (Op.equal t (.bool A) (.bool B)).run P w= .ok (A == B) w:=hq 9999;cases ne
  ·simp only[Z3,Zd]at ho ⊢;simp only[execOp,ho,g1,g2,eqGuard_at_bool,binOp,Sem.run_bind,Sem.run_pure,Result.andThen_ok,hq2]
  ·simp only[Zl]at ho ⊢;simp only[execOp,ho,g1,g2,eqGuard_at_bool,binOp,Sem.run_bind,Sem.run_pure,Result.andThen_ok,hq2]
 ·cases he
def Qna [Dr] {ne:Bool} {x:AO} {x':Operand} {t t2:TypeId} (hI:Inv num N w0 m0 T β0 σ a w m β ν) (ho:o.op= .binOp (if ne then .neq else .eql) t x' (.const .nilIface) t2) (ht:Jr P t=true) (hx:okO num x x'=true)
  (he:Qi K (.eqn ne x) σ=some (v,σ1)) (h:Aft num N w0 m0 T β0 σ1 a v fun u w'=>next (a.put o.dst u) w'):o.wp P a w next Q:=by
 simp only[Qi]at he;split at he
 ·rename_i A hA;injection he with he
  injection he with h1 h2
  subst h1 h2;have g1:=(hI.val hx (by rw[hA];rfl)).1;rw[hA]at g1;simp only[Qd]at g1;obtain⟨ms,hu⟩:=Qde ht;refine Qr (u:= .bool (if ne then !A else A)) (w':=w) ?_ (h.same hI rfl (by simp only[Qd]) trivial);have hc:a.eval (.const .nilIface)= .nilIface:=rfl;rcases g1 with⟨rfl,g1⟩ | ⟨rfl,t3,x3,g1⟩
  ·have hq: ∀d,(Op.equalIn (d+1) t .nilIface .nilIface).run P w= .ok true w:=fun d=>by
    simp only[Op.equalIn,Sem.run_bind,run_underlying hu,Result.andThen_ok,Sem.run_pure]
   have hq2: (Op.equal t .nilIface .nilIface).run P w= .ok true w:=hq 9999;cases ne
   ·simp only[Z3,Zd]at ho ⊢;simp only[execOp,ho,g1,hc,eqGuard_nil_constR,binOp,Sem.run_bind,Sem.run_pure,Result.andThen_ok,hq2]
   ·simp only[Zl]at ho ⊢;simp only[execOp,ho,g1,hc,eqGuard_nil_constR,binOp,Sem.run_bind,Sem.run_pure,Result.andThen_ok,hq2]
  ·have hq: ∀d,(Op.equalIn (d+1) t (.iface t3 x3) .nilIface).run P w= .ok false w:=fun d=>by
    simp only[Op.equalIn,Sem.run_bind,run_underlying hu,Result.andThen_ok,Sem.run_pure]
   have hq2: (Op.equal t (.iface t3 x3) .nilIface).run P w= .ok false w:=hq 9999;cases ne
   ·simp only[Z3,Zd]at ho ⊢;simp only[execOp,ho,g1,hc,eqGuard_at_iface,binOp,Sem.run_bind,Sem.run_pure,Result.andThen_ok,hq2]
   ·simp only[Zl]at ho ⊢;simp only[execOp,ho,g1,hc,eqGuard_at_iface,binOp,Sem.run_bind,Sem.run_pure,Result.andThen_ok,hq2]
 ·cases he
def Ls (P:Program):Nat->VH->List Field->Bool
 | _,[],[]=>true
 | i,k:: ks,f:: fs=>decide (f.name≠ "_") && decide (f.offset=i) && (match P.underlying f.type,k with
  | some (.int _),0=>true
  | some .bool,1=>true
  | some .string,2=>true
  | _,_=>false) && Ls P (i+1) ks fs
 | _,_,_=>false
def Qe4 (P:Program) (t:TypeId) (ks:VH):Bool:=(match P.underlying t with
 | some (.struct fs)=>Ls P 0 ks fs.toList
 | _=>false) && !P.stoodInHeld t && !P.eqGuardType P.depth t
def OL:=@Bool.not_true
def VL:=@Bool.true_and
def Lc (d:Nat) (xs ys:Ze): ∀(fs:List Field) (i:Nat) (ks:VH) (cs ds:Qh) (b:Bool),Ls P i ks fs=true->UA ks cs ds=some b->
  (∀(j:Nat) (c:AV),cs[j]? =some c->∃u,xs[i+j]? =some u/\Qd num β w m c u)->(∀(j:Nat) (c:AV),ds[j]? =some c->∃u,ys[i+j]? =some u/\Qd num β w m c u)->
  (Op.eqFields (d+1) xs ys fs).run P w= .ok b w
 | [],i,ks,cs,ds,b,hf,he,_,_=>by
  cases ks with
  | cons k ks=>simp[Ls]at hf
  | nil=>
   cases cs with
   | cons c cs=>simp[UA]at he
   | nil=>
    cases ds with
    | cons e ds=>simp[UA]at he
    | nil=>simp only[UA,QD]at he;subst he;rfl
 | f:: fs,i,[],cs,ds,b,hf,he,_,_=>by simp[Ls]at hf
 | f:: fs,i,k:: ks,[],ds,b,hf,he,_,_=>by simp[UA]at he
 | f:: fs,i,k:: ks,c:: cs,[],b,_,he,_,_=>by simp[UA]at he
 | f:: fs,i,k:: ks,c:: cs,e:: ds,b,hf,he,hx,hy=>by
  simp only[Ls,Qo,Qv]at hf;obtain⟨⟨⟨h1,h2⟩,h3⟩,h4⟩:=hf;subst h2;simp only[UA]at he;split at he
  ·rename_i b1 b2 e1 e2;injection he with he
   subst he;obtain⟨u,hu1,hu2⟩:=hx 0 c rfl;obtain⟨v,hv1,hv2⟩:=hy 0 e rfl;rw[Ty]at hu1 hv1;have hag:Ws P f.type false=true:=by
    unfold Ws;split at h3
    ·rename_i hun;rw[hun];rfl
    ·rename_i hun;rw[hun];rfl
    ·rename_i hun;rw[hun];rfl
    ·cases h3
   have hp1: (part f.type xs f.offset).run P w= .ok u w:=by
    simp only[part,Sem.run_bind,YX hag,Result.andThen_ok,Z3,Zd,hu1,Sem.run_pure]
   have hp2: (part f.type ys f.offset).run P w= .ok v w:=by
    simp only[part,Sem.run_bind,YX hag,Result.andThen_ok,Z3,Zd,hv1,Sem.run_pure]
   have hq: (Op.equalIn (d+1) f.type u v).run P w= .ok b1 w:=by
    split at h3
    ·rename_i hun;unfold Jk at e1;split at e1
     ·rename_i hk;split at e1
      ·rename_i hk2;subst hk2;injection e1 with e1
       subst e1;simp only[Qd]at hu2 hv2;subst hu2 hv2;exact run_equalIn_int w d _ _ _ _ _ hun
      ·cases e1
     ·rename_i hk;cases hk
     ·rename_i hk;cases hk
     ·cases e1
    ·rename_i hun;unfold Jk at e1;split at e1
     ·rename_i hk;cases hk
     ·injection e1 with e1
      subst e1;simp only[Qd]at hu2 hv2;subst hu2 hv2;exact run_equalIn_bool' w d _ _ _ hun
     ·rename_i hk;cases hk
     ·cases e1
    ·rename_i hun;unfold Jk at e1;split at e1
     ·rename_i hk;cases hk
     ·rename_i hk;cases hk
     ·injection e1 with e1
      subst e1;simp only[Qd]at hu2 hv2;subst hu2 hv2;rw[run_equalIn_string w d _ _ _ hun,ByteArray.toList_eq,ByteArray.toList_eq]
     ·cases e1
    ·cases h3
   simp only[Op.eqFields,h1,ne_eq,not_false_eq_true,Zl,Sem.run_bind,hp1,hp2,hq,Result.andThen_ok];cases b1
   ·rfl
   ·simp only[OL,Z3,Zd,VL];exact Lc d xs ys fs (f.offset+1) ks cs ds b2 h4 e2 (fun j c hj=>by rw[V6,Nat.add_comm 1];exact hx (j+1) c (by simpa using hj))
     (fun j c hj=>by rw[V6,Nat.add_comm 1];exact hy (j+1) c (by simpa using hj))
  ·cases he
def Us:=@Bool.not_eq_true'
def Qm8 [Dr] {ne:Bool} {ks:VH} {x y:AO} {x' y':Operand} {t t2:TypeId} (hI:Inv num N w0 m0 T β0 σ a w m β ν) (ho:o.op= .binOp (if ne then .neq else .eql) t x' y' t2) (ht:Qe4 P t ks=true) (hx:okO num x x'=true) (hy:okO num y y'=true)
  (he:Qi K (.eqa ne ks x y) σ=some (v,σ1)) (h:Aft num N w0 m0 T β0 σ1 a v fun u w'=>next (a.put o.dst u) w'):o.wp P a w next Q:=by
 simp only[Qi]at he;split at he
 ·rename_i cs ds hA hB;cases hr:UA ks cs ds with
  | none=>rw[hr]at he;cases he
  | some b=>
   rw[hr]at he;injection he with he
   injection he with h1 h2
   subst h1 h2;have g1:=(hI.val hx (by rw[hA];rfl)).1;have g2:=(hI.val hy (by rw[hB];rfl)).1;rw[hA]at g1;rw[hB]at g2;simp only[Qd]at g1 g2;obtain⟨us,g1,g3,g4⟩:=g1;obtain⟨vs,g2,g5,g6⟩:=g2;rw[ZQ]at g4 g6;unfold Qe4 at ht;simp only[Qo,Us]at ht;obtain⟨⟨ht1,ht2⟩,ht3⟩:=ht;split at ht1
   ·rename_i fs hun;have hfs:P.fieldsOf t=fs:=by unfold Program.fieldsOf;rw[hun]
    have hq: (Op.equalIn 10000 t (.agg us) (.agg vs)).run P w= .ok b w:=by
     rw[run_equalIn_struct w 9999 t us vs (by rw[hfs];exact hun) ht2,hfs];exact Lc (num:=num) (β:=β) (m:=m) 9998 us vs _ 0 ks cs ds b ht1 hr (fun j c hj=>by obtain⟨u,k1,_,k2⟩:=g4 j c hj;exact⟨u,k1,k2⟩) (fun j c hj=>by obtain⟨u,k1,_,k2⟩:=g6 j c hj;exact⟨u,k1,k2⟩)
    refine Qr (u:= .bool (if ne then !b else b)) (w':=w) ?_ (h.same hI rfl (by simp only[Qd]) trivial);cases ne
    ·simp only[Z3,Zd]at ho ⊢;simp only[execOp,ho,g1,g2,Sem.run_bind,run_eqGuard_agg w _ t x' y' us vs ht3,Result.andThen_ok,run_eql_struct,hq,Sem.run_pure]
    ·simp only[Zl]at ho ⊢;simp only[execOp,ho,g1,g2,Sem.run_bind,run_eqGuard_agg w _ t x' y' us vs ht3,Result.andThen_ok,run_neq_struct,hq,Sem.run_pure]
   ·cases ht1
 ·cases he
abbrev UG:=Option Addr
def NX (w:World) (t e:TypeId) (a:UG) (l c:Nat) (h:P.underlying t=some (.slice e)): (Op.equal t (.slice a l c) (.slice none 0 0)).run P w= .ok a.isNone w:=by
 have: ∀d,(Op.equalIn (d+1) t (.slice a l c) (.slice none 0 0)).run P w= .ok a.isNone w:=fun d=>by
  cases a <;> simp[Op.equalIn,run_underlying h]
 exact this 9999
def Qne [Dr] {ne:Bool} {x:AO} {x':Operand} {t t2:TypeId} (hI:Inv num N w0 m0 T β0 σ a w m β ν) (ho:o.op= .binOp (if ne then .neq else .eql) t x' (.const (.slice none 0 0)) t2) (ht:slT P t=true) (hx:okO num x x'=true)
  (he:Qi K (.isn ne x) σ=some (v,σ1)) (h:Aft num N w0 m0 T β0 σ1 a v fun u w'=>next (a.put o.dst u) w'):o.wp P a w next Q:=by
 obtain⟨e,hu⟩:=JM ht;have key: ∀A len cap,a.eval x'= .slice A len cap->(execOp a.eval o).run P w= .ok (.value (.bool (if ne then !A.isNone else A.isNone))) w:=fun A len cap hA=>by
  have hc:a.eval (.const (.slice none 0 0))= .slice none 0 0:=rfl;cases ne
  ·simp only[Z3,Zd]at ho ⊢;simp only[execOp,ho,hA,hc,eqGuard_at_slice,binOp,Sem.run_bind,Sem.run_pure,Result.andThen_ok,NX w t e A len cap hu]
  ·simp only[Zl]at ho ⊢;simp only[execOp,ho,hA,hc,eqGuard_at_slice,binOp,Sem.run_bind,Sem.run_pure,Result.andThen_ok,NX w t e A len cap hu]
 simp only[Qi]at he;split at he
 ·rename_i o2 sz hA;injection he with he
  injection he with h1 h2
  subst h1 h2;have g1:=(hI.val hx (by rw[hA];rfl)).1;rw[hA]at g1;simp only[Qd]at g1;obtain⟨A,len,cap,g1,_⟩:=g1;exact Qr (key A len cap g1) (h.same hI rfl (by simp only[Qd];exact⟨_,rfl⟩) trivial)
 ·rename_i o2 sz x0 xs hA;injection he with he
  injection he with h1 h2
  subst h1 h2;have g1:=(hI.val hx (by rw[hA];rfl)).1;rw[hA]at g1;simp only[Qd]at g1;obtain⟨A,len,cap,g1,_,_,_,g2⟩:=g1;rcases g2 with g2 | ⟨b,of,rfl,_⟩
  ·cases g2
  ·refine Qr (key _ len cap g1) (h.same hI rfl (by simp only[Qd];cases ne <;> rfl) trivial)
 ·cases he
def QoO [Dr] {op:UnOp} {x:AO} {x':Operand} {t:TypeId} (hI:Inv num N w0 m0 T β0 σ a w m β ν) (ho:o.op= .unOp op t x') (hx:okO num x x'=true)
  (he:Qi K (.un op x) σ=some (v,σ1)) (h:Aft num N w0 m0 T β0 σ1 a v fun u w'=>next (a.put o.dst u) w'):o.wp P a w next Q:=by
 simp only[Qi]at he;cases hr:aun op (val σ.env x)with
 | none=>rw[hr]at he;cases he
 | some v2=>
  rw[hr]at he;injection he with he
  injection he with h1 h2
  subst h1 h2;unfold aun at hr;split at hr
  ·rename_i b hb;injection hr with hr
   subst hr;have g1:=(hI.val hx (by rw[hb];rfl)).1;rw[hb]at g1;simp only[Qd]at g1;exact Qr (u:= .bool !b) (w':=w) (by simp[execOp,ho,g1,Op.unary]) (h.same hI rfl (by simp only[Qd]) trivial)
  ·rename_i k n hb;injection hr with hr
   subst hr;have g1:=(hI.val hx (by rw[hb];rfl)).1;rw[hb]at g1;simp only[Qd]at g1;exact Qr (u:= .int k (k.wrap (0 - n))) (w':=w) (by simp[execOp,ho,g1,Op.unary,Op.intArith]) (h.same hI rfl (by simp only[toI,Qd]) trivial)
  ·cases hr
def Qid [Dr] {k:IntKind} {x:AO} {x':Operand} {t t2:TypeId} (hI:Inv num N w0 m0 T β0 σ a w m β ν) (ho:o.op= .convert t t2 x') (ht:Qfk P t t2 k=true) (hx:okO num x x'=true)
  (he:Qi K (.conv k x) σ=some (v,σ1)) (h:Aft num N w0 m0 T β0 σ1 a v fun u w'=>next (a.put o.dst u) w'):o.wp P a w next Q:=by
 simp only[Qi]at he;split at he
 ·rename_i k2 n hb;injection he with he
  injection he with h1 h2
  subst h1 h2;have g1:=(hI.val hx (by rw[hb];rfl)).1;rw[hb]at g1;simp only[Qd]at g1;unfold Qfk at ht;split at ht
  ·rename_i d k' hu1 hu2;simp only[Qv]at ht;subst ht;refine Qr (u:= .int k (k.wrap n)) (w':=w) ?_ (h.same hI rfl (by simp only[toI,Qd]) trivial);simp[execOp,ho,g1,convert,run_underlying hu1,run_underlying hu2,Conv.intToInt]
  ·cases ht
 ·cases he
def Qip [Dr] {x:AO} {x':Operand} {t:TypeId} (hI:Inv num N w0 m0 T β0 σ a w m β ν) (ho:o.op= .call {callee:= .builtin .len,args:= #[x'],argTypes:= #[t]}) (ht:Li P t=true) (hx:okO num x x'=true)
  (he:Qi K (.lens x) σ=some (v,σ1)) (h:Aft num N w0 m0 T β0 σ1 a v fun u w'=>next (a.put o.dst u) w'):o.wp P a w next Q:=by
 simp only[Qi]at he;split at he
 ·rename_i s hb;injection he with he
  injection he with h1 h2
  subst h1 h2;have g1:=(hI.val hx (by rw[hb];rfl)).1;rw[hb]at g1;simp only[Qd]at g1;have hu:=Iq ht;refine Qr (u:= .int .i64 s.length) (w':=w) ?_ (h.same hI rfl (by simp only[Qd]) trivial);simp[execOp,ho,resolve,invoke,builtin,g1,Builtin.len_,run_underlying hu,goInt,ByteArray.size_mk']
 ·cases he
def Qio [Dr] {x:AO} {x':Operand} {t:TypeId} (hI:Inv num N w0 m0 T β0 σ a w m β ν) (ho:o.op= .call {callee:= .builtin .len,args:= #[x'],argTypes:= #[t]}) (ht:slT P t=true) (hx:okO num x x'=true)
  (he:Qi K (.lenl x) σ=some (v,σ1)) (h:Aft num N w0 m0 T β0 σ1 a v fun u w'=>next (a.put o.dst u) w'):o.wp P a w next Q:=by
 simp only[Qi]at he;split at he
 ·rename_i o2 sz xs hb;injection he with he
  injection he with h1 h2
  subst h1 h2;have g1:=(hI.val hx (by rw[hb];rfl)).1;rw[hb]at g1;simp only[Qd]at g1;obtain⟨a2,len,cap,g1,g2,_⟩:=g1;obtain⟨e,hu⟩:=JM ht;refine Qr (u:= .int .i64 xs.length) (w':=w) ?_ (h.same hI rfl (by simp only[Qd]) trivial);simp[execOp,ho,resolve,invoke,builtin,g1,Builtin.len_,run_underlying hu,goInt,g2]
 ·rename_i id off sz n hb;injection he with he
  injection he with h1 h2
  subst h1 h2;have g1:=(hI.val hx (by rw[hb];rfl)).1;rw[hb]at g1;simp only[Qd]at g1;obtain⟨a2,cap,g1,g2,_⟩:=g1;obtain⟨e,hu⟩:=JM ht;refine Qr (u:= .int .i64 n) (w':=w) ?_ (h.same hI rfl (by simp only[Qd]) trivial);simp[execOp,ho,resolve,invoke,builtin,g1,Builtin.len_,run_underlying hu,goInt]
 ·rename_i ty id n hb;injection he with he
  injection he with h1 h2
  subst h1 h2;have g1:=(hI.val hx (by rw[hb];rfl)).1;rw[hb]at g1;simp only[Qd]at g1;obtain⟨_,cap,_,_,g1,_⟩:=g1;obtain⟨e,hu⟩:=JM ht;refine Qr (u:= .int .i64 n) (w':=w) ?_ (h.same hI rfl (by simp only[Qd]) trivial);simp[execOp,ho,resolve,invoke,builtin,g1,Builtin.len_,run_underlying hu,goInt]
 ·cases he
def QoN [Dr] {x y:AO} {x' y':Operand} {ts:Array TypeId} (hI:Inv num N w0 m0 T β0 σ a w m β ν) (ho:o.op= .call {callee:= .builtin .max,args:= #[x',y'],argTypes:=ts}) (hx:okO num x x'=true) (hy:okO num y y'=true)
  (he:Qi K (.mx x y) σ=some (v,σ1)) (h:Aft num N w0 m0 T β0 σ1 a v fun u w'=>next (a.put o.dst u) w'):o.wp P a w next Q:=by
 simp only[Qi]at he;split at he
 ·rename_i k A k' B hA hB;split at he
  ·rename_i hk;subst hk;injection he with he
   injection he with h1 h2
   subst h1 h2;have g1:=(hI.val hx (by rw[hA];rfl)).1;have g2:=(hI.val hy (by rw[hB];rfl)).1;rw[hA]at g1;rw[hB]at g2;simp only[Qd]at g1 g2;refine Qr (u:= .int k (if B > A then B else A)) (w':=w) ?_ (h.same hI rfl (by simp only[Qd]) trivial);simp[execOp,ho,resolve,invoke,builtin,g1,g2,Builtin.max_,Builtin.max2]
  ·cases he
 ·cases he
def QoM [Dr] {x y:AO} {x' y':Operand} {ts:Array TypeId} (hI:Inv num N w0 m0 T β0 σ a w m β ν) (ho:o.op= .call {callee:= .builtin .min,args:= #[x',y'],argTypes:=ts}) (hx:okO num x x'=true) (hy:okO num y y'=true)
  (he:Qi K (.mn x y) σ=some (v,σ1)) (h:Aft num N w0 m0 T β0 σ1 a v fun u w'=>next (a.put o.dst u) w'):o.wp P a w next Q:=by
 simp only[Qi]at he;split at he
 ·rename_i k A k' B hA hB;split at he
  ·rename_i hk;subst hk;injection he with he
   injection he with h1 h2
   subst h1 h2;have g1:=(hI.val hx (by rw[hA];rfl)).1;have g2:=(hI.val hy (by rw[hB];rfl)).1;rw[hA]at g1;rw[hB]at g2;simp only[Qd]at g1 g2;refine Qr (u:= .int k (if B < A then B else A)) (w':=w) ?_ (h.same hI rfl (by simp only[Qd]) trivial);simp[execOp,ho,resolve,invoke,builtin,g1,g2,Builtin.min_,Builtin.min2]
  ·cases he
 ·cases he
def Qil [Dr] {sz:Nat} {x i:AO} {x' i':Operand} {t:TypeId} (hI:Inv num N w0 m0 T β0 σ a w m β ν) (ho:o.op= .indexAddr t x' i') (ht:XD P t sz=true) (hx:okO num x x'=true) (hi:okO num i i'=true)
  (he:Qi K (.idxa sz x i) σ=some (v,σ1)) (h:Aft num N w0 m0 T β0 σ1 a v fun u w'=>next (a.put o.dst u) w'):o.wp P a w next Q:=by
 simp only[Qi]at he;split at he
 ·rename_i o2 sz1 xs k n hA hB;split at he
  ·rename_i hk;obtain⟨rfl,hn⟩:=hk;cases hxn:xs[n.toNat]? with
   | none=>rw[hxn]at he;cases he
   | some e=>
    rw[hxn]at he;injection he with he
    injection he with h1 h2
    subst h1 h2;have g1:=(hI.val hx (by rw[hA];rfl)).1;have g2:=(hI.val hi (by rw[hB];rfl)).1;rw[hA]at g1;rw[hB]at g2;simp only[Qd]at g1 g2;obtain⟨a2,len,cap,g1,g3,_,_,g4⟩:=g1;have hlt:n.toNat < xs.length:=by
     rcases QR n.toNat xs.length with h | h
     ·exact h
     ·rw[Q3 h]at hxn;cases hxn
    rcases g4 with g4 | ⟨b,of,g4,g5⟩
    ·subst g4;simp at hlt
    rw[Xr]at g5;obtain⟨_,g6⟩:=g5 _ e hxn;unfold XD at ht;split at ht
    ·rename_i el hu;refine Qr (u:= .pointer (some ⟨b,of+n.toNat* sz1,none⟩)) (w':=w) ?_ (h.same hI rfl (by simp only[Qd];exact⟨b,_,rfl,g6⟩) trivial);have hc:0<=n/\n < (len:Int):=by omega
     simp[execOp,ho,g1,g2,Instr.indexAt,asIntOf,run_underlying hu,g4,hc,ZH ht,Ym]
    ·cases ht
  ·cases he
 ·rename_i id of sz1 kn k n hA hB;split at he
  ·rename_i hk;obtain⟨rfl,hn,hlt⟩:=hk;injection he with he
   injection he with h1 h2
   subst h1 h2;have g1:=(hI.val hx (by rw[hA];rfl)).1;have g2:=(hI.val hi (by rw[hB];rfl)).1;rw[hA]at g1;rw[hB]at g2;simp only[Qd]at g1 g2;obtain⟨a2,cap,g1,_,_,g4⟩:=g1;rcases g4 with g4 | ⟨kb,g4,rfl,g5⟩
   ·omega
   unfold XD at ht;split at ht
   ·rename_i el hu;refine Qr (u:= .pointer (some ⟨kb.b,of+n.toNat* sz1,none⟩)) (w':=w) ?_ (h.same hI rfl (by simp only[Qd];exact⟨kb,g4,rfl⟩) trivial);have hc:0<=n/\n < (kn:Int):=by omega
    simp[execOp,ho,g1,g2,Instr.indexAt,asIntOf,run_underlying hu,hc,ZH ht,Ym]
   ·cases ht
  ·cases he
 ·cases he
def Qnd [Dr] {x i:AO} {x' i':Operand} {t:TypeId} (hI:Inv num N w0 m0 T β0 σ a w m β ν) (ho:o.op= .index t x' i') (ht:Li P t=true) (hx:okO num x x'=true) (hi:okO num i i'=true)
  (he:Qi K (.idx x i) σ=some (v,σ1)) (h:Aft num N w0 m0 T β0 σ1 a v fun u w'=>next (a.put o.dst u) w'):o.wp P a w next Q:=by
 simp only[Qi]at he;split at he
 ·rename_i s k n hA hB;split at he
  ·rename_i hn;cases hxn:s[n.toNat]? with
   | none=>rw[hxn]at he;cases he
   | some e=>
    rw[hxn]at he;injection he with he
    injection he with h1 h2
    subst h1 h2;have g1:=(hI.val hx (by rw[hA];rfl)).1;have g2:=(hI.val hi (by rw[hB];rfl)).1;rw[hA]at g1;rw[hB]at g2;simp only[Qd]at g1 g2;have hu:=Iq ht;have hlt:n.toNat < s.length:=by
     rcases QR n.toNat s.length with h | h
     ·exact h
     ·rw[Q3 h]at hxn;cases hxn
    have hb: (⟨s.toArray⟩:ByteArray)[n.toNat]? =some e:=by
     rw[ByteArray.getElem?_lt' _ _ (by simpa[ByteArray.size]using hlt)];rw[Zv hlt]at hxn;injection hxn with hxn
     rw[<- hxn];rfl
    refine Qr (u:= .int .u8 e.toNat) (w':=w) ?_ (h.same hI rfl (by simp only[Qd]) trivial);simp[execOp,ho,g1,g2,Instr.index,asIntOf,run_underlying hu,hn,hb]
  ·cases he
 ·cases he
def Qiu [Dr] {c x y:AO} {c' x' y':Operand} (hI:Inv num N w0 m0 T β0 σ a w m β ν) (ho:o.op= .pick c' x' y') (hc:okO num c c'=true) (hx:okO num x x'=true) (hy:okO num y y'=true)
  (he:Qi K (.pick c x y) σ=some (v,σ1)) (h:Aft num N w0 m0 T β0 σ1 a v fun u w'=>next (a.put o.dst u) w'):o.wp P a w next Q:=by
 simp only[Qi]at he;split at he
 ·rename_i hA;have g1:=(hI.val hc (by rw[hA];rfl)).1;rw[hA]at g1;simp only[Qd]at g1;split at he
  ·rename_i hk;injection he with he
   injection he with h1 h2
   subst h1 h2;exact Qr (u:=a.eval x') (w':=w) (by simp[execOp,ho,g1,asBool]) (h.same hI hk (hI.val hx hk).1 ((hI.val hx hk).2 _))
  ·cases he
 ·rename_i hA;have g1:=(hI.val hc (by rw[hA];rfl)).1;rw[hA]at g1;simp only[Qd]at g1;split at he
  ·rename_i hk;injection he with he
   injection he with h1 h2
   subst h1 h2;exact Qr (u:=a.eval y') (w':=w) (by simp[execOp,ho,g1,asBool]) (h.same hI hk (hI.val hy hk).1 ((hI.val hy hk).2 _))
  ·cases he
 ·cases he
def Qnb [Dr] {x:AO} {i:Nat} {x':Operand} (hI:Inv num N w0 m0 T β0 σ a w m β ν) (ho:o.op= .extract x' i) (hx:okO num x x'=true)
  (he:Qi K (.ext x i) σ=some (v,σ1)) (h:Aft num N w0 m0 T β0 σ1 a v fun u w'=>next (a.put o.dst u) w'):o.wp P a w next Q:=by
 simp only[Qi]at he;split at he
 ·rename_i vs hA;have g1:=(hI.val hx (by rw[hA];rfl)).1;rw[hA]at g1;simp only[Qd]at g1;obtain⟨us,g1,g2,g3⟩:=g1;cases hv:vs[i]? with
  | none=>rw[hv]at he;cases he
  | some c=>
   rw[hv]at he;simp only[QC]at he;split at he
   ·rename_i hk;injection he with he
    injection he with h1 h2
    subst h1 h2;rw[R8]at g3;obtain⟨u,k1,k2⟩:=g3 i c hv;rw[Zk]at k1;exact Qr (u:=u) (w':=w) (by simp[execOp,ho,g1,Instr.extract,k1]) (h.same hI (by rw[PT];exact hk) (by rw[QU];exact k2) (Yp _ _ _))
   ·cases he
 ·cases he
def Qfa [Dr] {x:AO} {x':Operand} (hI:Inv num N w0 m0 T β0 σ a w m β ν) (ho:o.op= .nilCheck x') (hx:okO num x x'=true)
  (he:Qi K (.nilck x) σ=some (v,σ1)) (h:Aft num N w0 m0 T β0 σ1 a v fun u w'=>next (a.put o.dst u) w'):o.wp P a w next Q:=by
 simp only[Qi]at he;split at he
 ·rename_i f cs hA;injection he with he
  injection he with h1 h2
  subst h1 h2;have g1:=(hI.val hx (by rw[hA];rfl)).1;rw[hA]at g1;have g2:=g1;simp only[Qd]at g1;obtain⟨g,us,_,g1,_⟩:=g1;refine Qr (u:=a.eval x') (w':=w) (by simp[execOp,ho,g1]) (h.same hI (by rw[hA];rfl) (by rw[hA];exact g2) (by rw[hA];exact trivial))
 ·rename_i f cs hA;injection he with he
  injection he with h1 h2
  subst h1 h2;have g1:=(hI.val hx (by rw[hA];rfl)).1;rw[hA]at g1;have g2:=g1;simp only[Qd]at g1;obtain⟨g,us,_,g1,_⟩:=g1;refine Qr (u:=a.eval x') (w':=w) (by simp[execOp,ho,g1]) (h.same hI (by rw[hA];rfl) (by rw[hA];exact g2) (by rw[hA];exact trivial))
 ·rename_i i of hA;injection he with he
  injection he with h1 h2
  subst h1 h2;have g1:=(hI.val hx (by rw[hA];rfl)).1;rw[hA]at g1;have g2:=g1;simp only[Qd]at g1;obtain⟨b,_,g1⟩:=g1;refine Qr (u:=a.eval x') (w':=w) (by simp[execOp,ho,g1]) (h.same hI (by rw[hA];rfl) (by rw[hA];exact g2) (by rw[hA];exact trivial))
 ·rename_i ty i hA;injection he with he
  injection he with h1 h2
  subst h1 h2;have g1:=(hI.val hx (by rw[hA];rfl)).1;rw[hA]at g1;have g2:=g1;simp only[Qd]at g1;obtain⟨b,_,_,_,g1⟩:=g1;refine Qr (u:=a.eval x') (w':=w) (by simp[execOp,ho,g1]) (h.same hI (by rw[hA];rfl) (by rw[hA];exact g2) (by rw[hA];exact trivial))
 ·rename_i cs hA;injection he with he
  injection he with h1 h2
  subst h1 h2;have g1:=(hI.val hx (by rw[hA];rfl)).1;rw[hA]at g1;have g2:=g1;simp only[Qd]at g1;obtain⟨b,of,g1,_⟩:=g1;refine Qr (u:=a.eval x') (w':=w) (by simp[execOp,ho,g1]) (h.same hI (by rw[hA];rfl) (by rw[hA];exact g2) (by rw[hA];exact trivial))
 ·cases he
end
end Go.Am
