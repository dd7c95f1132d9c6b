/-
  Am7, Am8.
-/
import Derived.Test.YtjkjecpalfmohaaGreatDoorG01
set_option linter.all false
namespace Go.Am
def Xr:=@List.length_take
def ZY:=@List.append_assoc
def YQ:=@List.getElem?_append_right
def Zk:=@List.length_append
def Wz {α:Type} (cs:List α) (off:Nat) (vs:List α) (h:off+vs.length<=cs.length) (i:Nat):
  (cs.take off ++ vs ++ cs.drop (off+vs.length))[i]? =if i < off then cs[i]? else if i < off+vs.length then vs[i - off]? else cs[i]? :=by
 have hl: (cs.take off).length=off:=by rw[Xr];omega
 by_cases h1:i < off
 ·rw[Qn h1,ZY,ZH (by omega),WO h1]
 ·rw[Qm h1];by_cases h2:i < off+vs.length
  ·rw[Qn h2,ZY,YQ (by omega),hl,ZH (by omega)]
  ·rw[Qm h2,YQ (by rw[Zk,hl];omega),Zk,hl,XX];congr 1;omega
def UW:=@List.length_drop
def Vw {α:Type} (cs:List α) (off:Nat) (vs:List α) (h:off+vs.length<=cs.length): (cs.take off ++ vs ++ cs.drop (off+vs.length)).length=cs.length:=by
 simp only[Zk,Xr,UW];omega
section
variable {P:Program} {num:Nat->Option Nat} {β:List Blk} {w w':World} {m:Nat->Nat} {ν:Own} {N:Nat} {w0:World} {m0:Nat->Nat} {T:Nat->Prop} {β0:List Blk} {σ σ1:St} {a:Act}
 {o:Oper} {next:Act->World->Prop} {Q:Exit->Act->World->Prop} {K:Yy} {v:AV}
def JL:=@not_true_eq_false
def Ub {t:TypeId} {sz b off:Nat} {e:TypeId} {cur:Zg} {u:Value} (hs:Yc P t sz=true) (hb:w.heap[b]? =some (.cells cur e (0,0))) (hu:u.cells.size=sz)
  (hl:off+sz<=cur.size) (h1: ∀x∈u.cells.toList,x.oneCell'=true):
  (storeVar t ⟨b,off,none⟩ u).run P w= .ok () (w.setRow b (cur.toList.take off ++ u.cells.toList ++ cur.toList.drop (off+u.cells.toList.length)).toArray):=by
 have:=run_storeCells_at P b off e u.cells.toList 0 cur w hb (by simpa[hu]using hl) h1;simp only[storeVar,Sem.run_bind,ZS hs,Result.andThen_ok,hu,ne_eq,JL,Zi];exact this
def UG:=@List.getElem?_of_mem
def Ng:=@Array.getElem?_toList
def Lv {cs:Qh} {u:Value} (hz:u.cells.size=cs.length) (hc: ∀(i:Nat) (c:AV),cs[i]? =some c->∃x,u.cells[i]? =some x/\x.oneCell'=true/\Qg num β w m c x):
  ∀x∈u.cells.toList,x.oneCell'=true:=by
 intro x hx;obtain⟨i,hi⟩:=UG hx;have hlt:i < u.cells.toList.length:=by
  rcases QT i u.cells.toList.length with h | h
  ·exact h
  ·rw[Q2 h]at hi;cases hi
 obtain⟨y,g1,g2,_⟩:=hc i _ (Zq (by rw[<- hz];simpa using hlt));rw[Ng,g1]at hi;injection hi with hi
 subst hi;exact g2
def U7 {x:AV} {cs:Qh} (hc:cellsOf x=some cs):x.ok=true:=by
 cases x <;> simp[cellsOf,AV.one]at hc <;> rfl
def S3 [Dr] (cs:Qh) (off:Nat) (vs:Qh) (h:off+vs.length<=cs.length): (put cs off vs).length=cs.length:=by
 unfold put;rw[Vw _ _ _ h]
def WP:=@List.size_toArray
def Rz:=@List.getElem?_toArray
def Sv [Dr] {cs vs:Qh} {cur:Zg} {us:ZO} {off:Nat} (hz:cs.length<=cur.size) (hl:off+vs.length<=cs.length) (hu:us.length=vs.length) {R S:Nat->AV->Value->Prop}
  (hcs: ∀(i:Nat) (c:AV),cs[i]? =some c->∃u,cur[i]? =some u/\R i c u) (hvs: ∀(i:Nat) (c:AV),vs[i]? =some c->∃u,us[i]? =some u/\S i c u):
  (cur.toList.take off ++ us ++ cur.toList.drop (off+us.length)).toArray.size=cur.size/\
  ∀(i:Nat) (c:AV),(put cs off vs)[i]? =some c->∃u,(cur.toList.take off ++ us ++ cur.toList.drop (off+us.length)).toArray[i]? =some u/\(R i c u\/(off<=i/\i < off+vs.length/\S (i - off) c u)):=by
 have hl2:off+us.length<=cur.toList.length:=by simp;omega
 refine⟨?_,fun i c hc=> ?_⟩
 ·rw[WP,Vw _ _ _ hl2];simp
 ·unfold put at hc;rw[Wz _ _ _ hl]at hc;rw[Rz,Wz _ _ _ hl2,hu];split at hc
  ·rename_i h1;obtain⟨u,g1,g2⟩:=hcs i c hc;exact⟨u,by rw[Qn h1];simpa using g1,.inl g2⟩
  ·rename_i h1;split at hc
   ·rename_i h2;obtain⟨u,g1,g2⟩:=hvs _ c hc;exact⟨u,by rw[Qm h1,Qn h2];exact g1,.inr ⟨by omega,h2,g2⟩⟩
   ·rename_i h2;obtain⟨u,g1,g2⟩:=hcs i c hc;exact⟨u,by rw[Qm h1,Qm h2];simpa using g1,.inl g2⟩
def R6 {t:TypeId} {x y:Operand} {A:Addr} (ho:o.op= .store t x y) (hq:a.eval x= .pointer (some A)) (hr: (storeVar t A (a.eval y)).run P w= .ok () w'):
  (execOp a.eval o).run P w= .ok .skip w':=by
 simp only[execOp,ho,Instr.storeAt,hq,Instr.sureAddr,Sem.run_bind,Sem.run_pure,Result.andThen_ok,hr]
def Qac {ρ:Ql} {x:AO} {y:Operand} {vs:Qh} {us:Zg} (ho:okO num x y=true) (hc:cellsOf (val ρ x)=some vs) (hu:us=(a.eval y).cells)
  (hvs: ∀(i:Nat) (c:AV),vs[i]? =some c->∃u,us[i]? =some u/\u.oneCell'=true/\Qg num β w m c u):
  ∀(i:Nat) (c:AV),(stV x vs)[i]? =some c->∃u,us[i]? =some u/\u.oneCell'=true/\Qg num β w m c u/\∀p ν,ZJ w m ν p c u:=by
 intro i c hi;unfold stV at hi;split at hi
 ·rename_i z vs;cases y <;> try (simp[okO]at ho;done)
  rename_i u;simp only[okO,Kf]at ho;have h1: ∀ν,_:=fun ν=>ZD (num:=num) (β:=β) (w:=w) (m:=m) (ν:=ν) ho;simp[val,cellsOf,AV.one,AV.strip]at hc;subst hc
  match i with
  | 0=>
   simp at hi;subst hi;obtain⟨v,g1,g2,g3⟩:=hvs 0 _ rfl;have h4: (a.eval (.const u)).cells= #[u]:=by
    have:=(h1 fun _=>none).2.1
    show u.cells= #[u];cases u <;> first | rfl | simp[Value.oneCell']at this
   refine⟨u,by rw[hu,h4];rfl,(h1 fun _=>none).2.1,(h1 fun _=>none).1,fun p ν=>(h1 ν).2.2 p⟩
  | i+1=>simp at hi
 ·obtain⟨d,hd,rfl⟩:=Zu hi;obtain⟨u,g,k1,k2⟩:=hvs i d hd;exact⟨u,g,k1,by rw[QV];exact k2,fun p ν=>Yz _ _ _⟩
def Li:=@Nat.le_of_eq
def TT:=@Array.length_toList
def Qpi [Dr] {s q off sz:Nat} {x:AO} {y:Operand} {t:TypeId} (hI:Inv num N w0 m0 T β0 σ a w m β ν) (ho:o.op= .store t (.tmp q) y) (hs:Yc P t sz=true) (hxy:okO num x y=true)
  (hp:TA a q s off\/(q=s/\off=0)) (he:Qi K (.stf s off sz x) σ=some (v,σ1)) (h: ∀w' m' β' ν',Inv num N w0 m0 T β0 σ1 a w' m' β' ν'->v= .undef->next (a.put o.dst undef) w'):
  o.wp P a w next Q:=by
 simp only[Qi]at he;split at he
 ·rename_i cs hcs;cases hc:cellsOf (val σ.env x)with
  | none=>rw[hc]at he;cases he
  | some vs=>
   rw[hc]at he;simp only[QC]at he;split at he
   ·rename_i hsz;injection he with he
    injection he with h1 h2
    subst h1 h2;obtain⟨hz1,hl⟩:=hsz;have hv:=(hI.val hxy (U7 hc)).1;obtain⟨_,hz,hvs⟩:=WS hc hv;obtain⟨b0,cur0,e0,hx0,hq,hb0,hz0,hcur0⟩:=hI.box_at hcs hp;obtain⟨b,cur,e,hxb,hb,hzc,hcur,hfin⟩:=hI.setBox (cs':=put cs off (stV x vs)) s hcs hx0;injection hxb with hxb
    injection hxb with hxb
    injection hxb with hxb
    subst hxb;have hrun:=Ub (w:=w) (off:=off) hs hb (hz.trans hz1) (by omega) (Lv hz hvs);have hex:=R6 ho hq hrun;refine Se hex (h _ m β _ (hfin id _ (fun _=>rfl) (fun _ _=>rfl) (fun _=>rfl) (fun _ _=>rfl) ?_ ?_) rfl)
    ·exact(Sv (vs:=stV x vs) (Li hzc.symm) (by rw[Ra];exact hl) (by rw[TT,hz,Ra]) (R:=fun _ _ _=>True) (S:=fun _ _ _=>True) (fun i c hi=>by obtain⟨u,g,_⟩:=hcur i c hi;exact⟨u,g,trivial⟩)
      (fun i c hi=>by obtain⟨u,g,_⟩:=Qac (ρ:=σ.env) (a:=a) hxy hc rfl hvs i c hi;exact⟨u,by simpa using g,trivial⟩)).1.trans (by rw[S3 _ _ _ (by rw[Ra];exact hl)];exact hzc)
    ·intro i c hi;obtain⟨u,g1,g2⟩:=(Sv (vs:=stV x vs) (Li hzc.symm) (by rw[Ra];exact hl) (by rw[TT,hz,Ra]) (R:=fun i c u=>u.oneCell'=true/\Qg num β w m c u/\ZJ w m ν (.c s i) c u)
      (S:=fun _ c u=>u.oneCell'=true/\Qg num β w m c u/\∀p,ZJ w m ν p c u) hcur
      (fun i c hi=>by obtain⟨u,g,k1,k2,k3⟩:=Qac (ρ:=σ.env) (a:=a) hxy hc rfl hvs i c hi;exact⟨u,by simpa using g,k1,k2,fun p=>k3 p ν⟩)).2 i c hi
     refine⟨u,g1,?_⟩;have hne:ν b0≠some (.c s i):=by
      obtain⟨_,h2⟩:=hI.at_ (n:=s) (by rw[hcs];simp);have h3:=hI.slots s _ h2;rw[hcs]at h3;obtain⟨b2,hxb2,_,_,_,_,_,hν,_⟩:=h3;rw[h2]at hx0;injection hx0 with hx0
      rw[hxb2]at hx0;injection hx0 with hx0
      injection hx0 with hx0
      injection hx0 with hx0
      subst hx0;rw[hν];simp
     rcases g2 with⟨k1,k2,k3⟩ | ⟨_,_,k1,k2,k3⟩
     ·exact⟨k1,k2,_,k3,rfl,hne⟩
     ·exact⟨k1,k2,.c s i,k3 _,rfl,hne⟩
   ·cases he
 ·cases he
def Jc {c z:AV} {u:Value} (h:Qg num β w m c u):Qg num β w m (Pc c z) u/\∀p ν,ZJ w m ν p (Pc c z) u:=by
 unfold Pc;split
 ·rename_i i o k;simp only[Qg]at h ⊢;obtain⟨a,cap,rfl,h2,h3,h4⟩:=h;have hc:cap=0:=by
   rcases h4 with h4 | ⟨_,_,_,_,h5⟩
   ·exact h4.2.1
   ·omega
  subst hc;exact⟨⟨a,0,0,rfl,rfl,h2,h3,.inl trivial⟩,fun p ν=> .inl ⟨a,0,rfl⟩⟩
 ·exact⟨by rw[QV];exact h,fun p ν=>Yz _ _ _⟩
def OO: ∀(vs zs:Qh) (i:Nat) (c:AV),(Ve vs zs)[i]? =some c->∃d,vs[i]? =some d/\(c=d.strip\/∃z,c=Pc d z)
 | [],_,i,c,h=>by simp[Ve]at h
 | v:: vs,[],0,c,h=>⟨v,rfl,.inl (by simpa[Ve]using h.symm)⟩
 | v:: vs,[],i+1,c,h=>by
  obtain⟨d,h1,h2⟩:=OO vs [] i c (by simpa[Ve]using h);exact⟨d,by simpa using h1,h2⟩
 | v:: vs,z:: zs,0,c,h=>⟨v,rfl,.inr ⟨z,by simpa[Ve]using h.symm⟩⟩
 | v:: vs,z:: zs,i+1,c,h=>by
  obtain⟨d,h1,h2⟩:=OO vs zs i c (by simpa[Ve]using h);exact⟨d,by simpa using h1,h2⟩
def Ga {us:Zg} (vs zs:Qh) (h: ∀(i:Nat) (c:AV),vs[i]? =some c->∃u,us[i]? =some u/\u.oneCell'=true/\Qg num β w m c u) (i:Nat) (c:AV) (hc: (Ve vs zs)[i]? =some c):
  ∃u,us[i]? =some u/\u.oneCell'=true/\Qg num β w m c u/\∀p ν,ZJ w m ν p c u:=by
 obtain⟨d,h1,h2⟩:=OO vs zs i c hc;obtain⟨u,g1,g2,g3⟩:=h i d h1;rcases h2 with rfl | ⟨z,rfl⟩
 ·exact⟨u,g1,g2,by rw[QV];exact g3,fun p ν=>Yz _ _ _⟩
 ·exact⟨u,g1,g2,(Jc g3).1,(Jc g3).2⟩
def Qg5 {c z:AV} {u:Value} (h:Qg num β w m c u) (p:Pl) (w':World) (m':ZP) (ν':Own):ZJ w' m' ν' p (Pc c z) u:=by
 unfold Pc;split
 ·rename_i i o k;simp only[Qg]at h;obtain⟨a,cap,rfl,h2,h3,h4⟩:=h;have hc:cap=0:=by
   rcases h4 with h4 | ⟨_,_,_,_,h5⟩
   ·exact h4.2.1
   ·omega
  subst hc;exact .inl ⟨a,0,rfl⟩
 ·exact Yz _ _ _
def QeI {us:Zg} (vs zs:Qh) (h: ∀(i:Nat) (c:AV),vs[i]? =some c->∃u,us[i]? =some u/\u.oneCell'=true/\Qg num β w m c u) (i:Nat) (c:AV) (hc: (Ve vs zs)[i]? =some c):
  ∃u,us[i]? =some u/\u.oneCell'=true/\Qg num β w m c u/\∀p w' m' ν',ZJ w' m' ν' p c u:=by
 obtain⟨d,h1,h2⟩:=OO vs zs i c hc;obtain⟨u,g1,g2,g3⟩:=h i d h1;rcases h2 with rfl | ⟨z,rfl⟩
 ·exact⟨u,g1,g2,by rw[QV];exact g3,fun _ _ _ _=>Yz _ _ _⟩
 ·exact⟨u,g1,g2,(Jc g3).1,fun p w' m' ν'=>Qg5 g3 p w' m' ν'⟩
def Qka [Dr] {x:AO} {zs:Qh} {y:Operand} {t:TypeId} (hI:Inv num N w0 m0 T β0 σ a w m β ν) (ho:o.op= .box t y) (hxy:okO num x y=true)
  (he:Qi K (.gbxn x zs) σ=some (v,σ1)) (h:Aft num N w0 m0 T β0 σ1 a v fun u w'=>next (a.put o.dst u) w'):o.wp P a w next Q:=by
 simp only[Qi]at he;cases hc:cellsOf (val σ.env x)with
 | none=>rw[hc]at he;cases he
 | some cs=>
  rw[hc]at he
  ·injection he with he
   injection he with h1 h2
   subst h1 h2;have hk: (val σ.env x).ok=true:=by
    cases hv:val σ.env x <;> rw[hv]at hc <;> simp[cellsOf,AV.one]at hc <;> rfl
   have hv:=(hI.val hxy hk).1;obtain⟨_,hz,hcs⟩:=WS hc hv;refine Qs (u:= .pointer (some ⟨w.heap.size,0,none⟩)) (w':=w.alloc (.cells (a.eval y).cells t)) (by simp[execOp,ho,Instr.box,newVar,newRow]) ?_;refine h _ _ _ _ _ (hI.addG (a.eval y).cells t (Ve cs zs) (by rw[W8];simpa using hz) fun i c hci=> ?_) ?_
   ·exact QeI cs zs (fun i d hd=>hcs i d hd) i c hci
   ·refine(QU rfl).2 ⟨?_,trivial⟩;simp only[Qg];exact⟨⟨w.heap.size,(a.eval y).cells.size,false,t⟩,⟨by rw[<- hI.blen];simp,rfl⟩,rfl⟩
def Qpk [Dr] {s q off sz:Nat} {x:AO} {zs:Qh} {y:Operand} {t:TypeId} (hI:Inv num N w0 m0 T β0 σ a w m β ν) (ho:o.op= .store t (.tmp q) y) (hs:Yc P t sz=true) (hxy:okO num x y=true)
  (hp:TA a q s off\/(q=s/\off=0)) (he:Qi K (.stn s off sz x zs) σ=some (v,σ1)) (h: ∀w' m' β' ν',Inv num N w0 m0 T β0 σ1 a w' m' β' ν'->v= .undef->next (a.put o.dst undef) w'):
  o.wp P a w next Q:=by
 simp only[Qi]at he;split at he
 ·rename_i cs hcs;cases hc:cellsOf (val σ.env x)with
  | none=>rw[hc]at he;cases he
  | some vs=>
   rw[hc]at he;simp only[QC]at he;split at he
   ·rename_i hsz;injection he with he
    injection he with h1 h2
    subst h1 h2;obtain⟨hz1,hl⟩:=hsz;have hv:=(hI.val hxy (U7 hc)).1;obtain⟨_,hz,hvs⟩:=WS hc hv;obtain⟨b0,cur0,e0,hx0,hq,hb0,hz0,hcur0⟩:=hI.box_at hcs hp;obtain⟨b,cur,e,hxb,hb,hzc,hcur,hfin⟩:=hI.setBox (cs':=put cs off (Ve vs zs)) s hcs hx0;injection hxb with hxb
    injection hxb with hxb
    injection hxb with hxb
    subst hxb;have hrun:=Ub (w:=w) (off:=off) hs hb (hz.trans hz1) (by omega) (Lv hz hvs);have hex:=R6 ho hq hrun;refine Se hex (h _ m β _ (hfin id _ (fun _=>rfl) (fun _ _=>rfl) (fun _=>rfl) (fun _ _=>rfl) ?_ ?_) rfl)
    ·exact(Sv (vs:=Ve vs zs) (Li hzc.symm) (by rw[W8];exact hl) (by rw[TT,hz,W8]) (R:=fun _ _ _=>True) (S:=fun _ _ _=>True) (fun i c hi=>by obtain⟨u,g,_⟩:=hcur i c hi;exact⟨u,g,trivial⟩)
      (fun i c hi=>by obtain⟨u,g,_⟩:=Ga vs zs (fun i c hi=>hvs i c hi) i c hi;exact⟨u,by simpa using g,trivial⟩)).1.trans (by rw[S3 _ _ _ (by rw[W8];exact hl)];exact hzc)
    ·intro i c hi;obtain⟨u,g1,g2⟩:=(Sv (vs:=Ve vs zs) (Li hzc.symm) (by rw[W8];exact hl) (by rw[TT,hz,W8]) (R:=fun i c u=>u.oneCell'=true/\Qg num β w m c u/\ZJ w m ν (.c s i) c u)
      (S:=fun _ c u=>u.oneCell'=true/\Qg num β w m c u/\∀p,ZJ w m ν p c u) hcur
      (fun i c hi=>by obtain⟨u,g,k1,k2,k3⟩:=Ga vs zs (fun i c hi=>hvs i c hi) i c hi;exact⟨u,by simpa using g,k1,k2,fun p=>k3 p ν⟩)).2 i c hi
     refine⟨u,g1,?_⟩;have hne:ν b0≠some (.c s i):=by
      obtain⟨_,h2⟩:=hI.at_ (n:=s) (by rw[hcs];simp);have h3:=hI.slots s _ h2;rw[hcs]at h3;obtain⟨b2,hxb2,_,_,_,_,_,hν,_⟩:=h3;rw[h2]at hx0;injection hx0 with hx0
      rw[hxb2]at hx0;injection hx0 with hx0
      injection hx0 with hx0
      injection hx0 with hx0
      subst hx0;rw[hν];simp
     rcases g2 with⟨k1,k2,k3⟩ | ⟨_,_,k1,k2,k3⟩
     ·exact⟨k1,k2,_,k3,rfl,hne⟩
     ·exact⟨k1,k2,.c s i,k3 _,rfl,hne⟩
   ·cases he
 ·cases he
def Qba [Dr] {p sz:Nat} {x:AO} {y:Operand} {t:TypeId} (hI:Inv num N w0 m0 T β0 σ a w m β ν) (ho:o.op= .store t (.tmp p) y) (hs:Yc P t sz=true) (hxy:okO num x y=true)
  (he:Qi K (.st p sz x) σ=some (v,σ1)) (h: ∀w' m' β' ν',Inv num N w0 m0 T β0 σ1 a w' m' β' ν'->v= .undef->next (a.put o.dst undef) w'):
  o.wp P a w next Q:=by
 simp only[Qi]at he;split at he
 ·rename_i i0 off hcs;cases hbs:σ.bs[i0]? with
  | none=>rw[hbs]at he;cases he
  | some cs=>
   rw[hbs]at he;simp only[QC]at he;cases hc:cellsOf (val σ.env x)with
   | none=>rw[hc]at he;cases he
   | some vs=>
    rw[hc]at he;simp only[QC]at he;split at he
    ·rename_i hsz;injection he with he
     injection he with h1 h2
     subst h1 h2;obtain⟨hz1,hl,h0⟩:=hsz;have hv:=(hI.val hxy (U7 hc)).1;obtain⟨_,hz,hvs⟩:=WS hc hv;obtain⟨_,h2⟩:=hI.at_ (n:=p) (by rw[hcs];simp);have h3:=hI.slots p _ h2;rw[hcs]at h3;obtain⟨h3,_⟩:=h3;simp only[Qg]at h3;obtain⟨⟨b,z,mp,ty⟩,h4,h5⟩:=h3;have hq:a.eval (.tmp p)= .pointer (some ⟨b,off,none⟩):=h5;have hne0:cs≠[]:=fun e=>by rw[e]at hl;simp only[Xd]at hl;omega
     obtain⟨cur,e,hb,⟨hzc,hzl⟩,hcur,hfin⟩:=hI.setG (cs':=put cs off (vs.map AV.strip)) i0 hbs h4 hne0;simp only at hb hzc hzl;have hrun:=Ub (w:=w) (off:=off) hs hb (hz.trans hz1) (by omega) (Lv hz hvs);have hex:=R6 ho hq hrun;refine Se hex (h _ m β _ (hfin id _ (fun _=>rfl) (fun _ _=>rfl) (fun _=>rfl) (fun _ _=>rfl) ?_ ?_ ?_) rfl)
     ·exact(Sv (cs:=cs) (vs:=vs.map AV.strip) (by omega) (by simpa using hl) (by rw[TT,hz];simp) (R:=fun _ _ _=>True) (S:=fun _ _ _=>True) (fun i c hi=>by obtain⟨u,g,_⟩:=hcur i c hi;exact⟨u,g,trivial⟩)
       (fun i c hi=>by obtain⟨d,hd,_⟩:=Zu hi;obtain⟨u,g,_⟩:=hvs i d hd;exact⟨u,by simpa using g,trivial⟩)).1.trans hzc
     ·rw[S3 _ _ _ (by simpa using hl)];exact hzl
     ·intro i c hi;obtain⟨u,g1,g2⟩:=(Sv (vs:=vs.map AV.strip) (by omega) (by simpa using hl) (by rw[TT,hz];simp) (R:=fun i c u=>u.oneCell'=true/\Qg num β w m c u/\ZJ w m ν (.gc i0 i) c u)
       (S:=fun _ c u=>u.oneCell'=true/\Qg num β w m c u/\∀p,ZJ w m ν p c u) hcur
       (fun i c hi=>by obtain⟨d,hd,rfl⟩:=Zu hi;obtain⟨u,g,k1,k2⟩:=hvs i d hd;exact⟨u,by simpa using g,k1,by rw[QV];exact k2,fun p=>Yz _ _ _⟩)).2 i c hi
      refine⟨u,g1,?_⟩;have hne:ν b≠some (.gc i0 i):=by
       obtain⟨_,_,_,_,_,hν,_⟩:=(hI.boxes i0 cs _ hbs h4.1 hne0).1 h4.2;rw[hν];simp
      rcases g2 with⟨k1,k2,k3⟩ | ⟨_,_,k1,k2,k3⟩
      ·exact⟨k1,k2,_,k3,rfl,hne⟩
      ·exact⟨k1,k2,.gc i0 i,k3 _,rfl,hne⟩
    ·cases he
 ·cases he
def RA:=@List.length_singleton
def Qkq [Dr] {s q off n:Nat} {t:TypeId} (hI:Inv num N w0 m0 T β0 σ a w m β ν) (ho:o.op= .store t (.tmp q) (.tmp n)) (hs:Yc P t 1=true)
  (hp:TA a q s off\/(q=s/\off=0)) (he:Qi K (.stfm s off n) σ=some (v,σ1)) (h: ∀w' m' β' ν',Inv num N w0 m0 T β0 σ1 a w' m' β' ν'->v= .undef->next (a.put o.dst undef) w'):
  o.wp P a w next Q:=by
 simp only[Qi]at he;split at he
 ·rename_i cs hcs;split at he
  ·rename_i hsz;injection he with he
   injection he with h1 h2
   subst h1 h2;obtain⟨hsn,h1n,hl⟩:=hsz;obtain⟨_,hn2⟩:=hI.at_ (n:=n) (fun e=>by rw[e]at h1n;cases h1n);have hn3:=hI.slots n _ hn2;rw[QU (T1 h1n)]at hn3;have hI2:=hI.takeSlot n;have hcs2: ({σ with env:=upd σ.env n .undef}:St).env s= .bx cs:=by simp only[upd];rw[Qm hsn];exact hcs
   obtain⟨b0,cur0,e0,hx0,hq,hb0,hz0,hcur0⟩:=hI.box_at hcs hp;obtain⟨b,cur,e,hxb,hb,hzc,hcur,hfin⟩:=hI2.setBox (cs':=cs.set off (σ.env n)) s hcs2 hx0;injection hxb with hxb
   injection hxb with hxb
   injection hxb with hxb
   subst hxb;have h1: (a.eval (.tmp n)).oneCell'=true:=S0 h1n hn3.1;have hce: (a.eval (.tmp n)).cells= #[a.eval (.tmp n)]:=by
    cases hu:a.eval (.tmp n) <;> first | rfl | (rw[hu]at h1;simp[Value.oneCell']at h1)
   have hrun:=Ub (w:=w) (off:=off) hs hb (u:=a.eval (.tmp n)) (by rw[hce];rfl) (by omega) (by rw[hce];simpa using h1);have hνb:Ys ν (mv (.s n) .f) b0=some (.s s):=by
    obtain⟨_,h2⟩:=hI2.at_ (n:=s) (by rw[hcs2];simp);have h3:=hI2.slots s _ h2;rw[hcs2]at h3;obtain⟨b2,hxb2,_,_,_,_,_,hν,_⟩:=h3;rw[h2]at hx0;injection hx0 with hx0
    rw[hxb2]at hx0;injection hx0 with hx0
    injection hx0 with hx0
    injection hx0 with hx0
    subst hx0;exact hν
   have hown:ZJ w m (Ys ν (mv (.s n) .f)) .f (σ.env n) (a.eval (.tmp n)):=by
    have:=Ue (θ:=mv (.s n) .f) hn3.2;rwa[show mv (.s n) .f (.s n)= .f by simp[mv]]at this
   have hex:=R6 ho hq hrun;refine Se hex (h _ m β _ (hfin (mv .f (.c s off)) _ (fun _=>by simp[mv]) (fun _ _=>by simp[mv]) (fun _=>by simp[mv]) (fun _ _=>by simp[mv]) ?_ ?_) rfl)
   ·rw[hce,WP,Vw _ _ _ (by simp;omega)];simpa using hzc
   ·intro i c hi;rw[hce,Rz,Wz _ _ _ (by simp;omega)];rw[Xq]at hi;split at hi
    ·rename_i hio;subst hio;injection hi with hi
     subst hi;refine⟨a.eval (.tmp n),by rw[Qm (by omega),Qn (by simp)];simp,h1,hn3.1,.f,hown,by simp[mv],by rw[hνb];simp⟩
    ·rename_i hio;obtain⟨u,g1,g2,g3,g4⟩:=hcur i c hi;refine⟨u,?_,g2,g3,.c s i,g4,by simp[mv],by rw[hνb];simp⟩;simp only[RA];split
     ·simpa using g1
     ·rw[Qm (by omega)];simpa using g1
  ·cases he
 ·cases he
def Qpj [Dr] {p n:Nat} {t:TypeId} (hI:Inv num N w0 m0 T β0 σ a w m β ν) (ho:o.op= .store t (.tmp p) (.tmp n)) (hs:Yc P t 1=true)
  (he:Qi K (.stm p n) σ=some (v,σ1)) (h: ∀w' m' β' ν',Inv num N w0 m0 T β0 σ1 a w' m' β' ν'->v= .undef->next (a.put o.dst undef) w'):
  o.wp P a w next Q:=by
 simp only[Qi]at he;split at he
 ·rename_i i0 off hcs;cases hbs:σ.bs[i0]? with
  | none=>rw[hbs]at he;cases he
  | some cs=>
   rw[hbs]at he;simp only[QC]at he;split at he
   ·rename_i hsz;injection he with he
    injection he with h1 h2
    subst h1 h2;obtain⟨h1n,hl⟩:=hsz;obtain⟨_,hn2⟩:=hI.at_ (n:=n) (fun e=>by rw[e]at h1n;cases h1n);have hn3:=hI.slots n _ hn2;rw[QU (T1 h1n)]at hn3;obtain⟨_,h2⟩:=hI.at_ (n:=p) (by rw[hcs];simp);have h3:=hI.slots p _ h2;rw[hcs]at h3;obtain⟨h3,_⟩:=h3;simp only[Qg]at h3;obtain⟨⟨b,z,mp,ty⟩,h4,h5⟩:=h3;have hq:a.eval (.tmp p)= .pointer (some ⟨b,off,none⟩):=h5;have hI2:=hI.takeSlot n;have hne0:cs≠[]:=fun e=>by rw[e]at hl;simp at hl
    obtain⟨cur,e,hb,⟨hzc,hzl⟩,hcur,hfin⟩:=hI2.setG (cs':=cs.set off (σ.env n)) i0 hbs h4 hne0;simp only at hb hzc hzl;have h1: (a.eval (.tmp n)).oneCell'=true:=S0 h1n hn3.1;have hce: (a.eval (.tmp n)).cells= #[a.eval (.tmp n)]:=by
     cases hu:a.eval (.tmp n) <;> first | rfl | (rw[hu]at h1;simp[Value.oneCell']at h1)
    have hrun:=Ub (w:=w) (off:=off) hs hb (u:=a.eval (.tmp n)) (by rw[hce];rfl) (by omega) (by rw[hce];simpa using h1);have hνb:Ys ν (mv (.s n) .f) b=some (.g i0):=by
     obtain⟨_,_,_,_,_,hν,_⟩:=(hI2.boxes i0 cs _ hbs h4.1 hne0).1 h4.2;exact hν
    have hown:ZJ w m (Ys ν (mv (.s n) .f)) .f (σ.env n) (a.eval (.tmp n)):=by
     have:=Ue (θ:=mv (.s n) .f) hn3.2;rwa[show mv (.s n) .f (.s n)= .f by simp[mv]]at this
    have hex:=R6 ho hq hrun;refine Se hex (h _ m β _ (hfin (mv .f (.gc i0 off)) _ (fun _=>by simp[mv]) (fun _ _=>by simp[mv]) (fun _=>by simp[mv]) (fun _ _=>by simp[mv]) ?_ ?_ ?_) rfl)
    ·rw[hce,WP,Vw _ _ _ (by simp;omega)];simpa using hzc
    ·simpa using hzl
    ·intro i c hi;rw[hce,Rz,Wz _ _ _ (by simp;omega)];rw[Xq]at hi;split at hi
     ·rename_i hio;subst hio;injection hi with hi
      subst hi;refine⟨a.eval (.tmp n),by rw[Qm (by omega),Qn (by simp)];simp,h1,hn3.1,.f,hown,by simp[mv],by rw[hνb];simp⟩
     ·rename_i hio;obtain⟨u,g1,g2,g3,g4⟩:=hcur i c hi;refine⟨u,?_,g2,g3,.gc i0 i,g4,by simp[mv],by rw[hνb];simp⟩;simp only[RA];split
      ·simpa using g1
      ·rw[Qm (by omega)];simpa using g1
   ·cases he
 ·cases he
end
end Go.Am
namespace Go.Am
def GL (P:Program) (t:TypeId):Bool:=match P.underlying t with
 | some .bool=>true
 | _=>false
def Ij (P:Program) (t:TypeId):Bool:=match P.underlying t with
 | some (.interface _)=>true
 | _=>false
def L5 (P:Program) (t:TypeId):Bool:=match P.underlying t with
 | some .string=>true
 | _=>false
def slT (P:Program) (t:TypeId):Bool:=match P.underlying t with
 | some (.slice _)=>true
 | _=>false
def XT (P:Program) (t:TypeId) (sz:Nat):Bool:=match P.underlying t with
 | some (.slice e)=>Yc P e sz
 | _=>false
def QgQ (P:Program) (src dst:TypeId) (k:IntKind):Bool:=match P.underlying src,P.underlying dst with
 | some _,some (.int k')=>decide (k=k')
 | _,_=>false
def Qf3 {P:Program} {t:TypeId} (h:GL P t=true):P.underlying t=some .bool:=by
 unfold GL at h;split at h
 ·assumption
 ·cases h
def Hq {P:Program} {t:TypeId} (h:L5 P t=true):P.underlying t=some .string:=by
 unfold L5 at h;split at h
 ·assumption
 ·cases h
def QeA {P:Program} {t:TypeId} (h:Ij P t=true): ∃ms,P.underlying t=some (.interface ms):=by
 unfold Ij at h;split at h
 ·exact⟨_,by assumption⟩
 ·cases h
def IK {P:Program} {t:TypeId} (h:slT P t=true): ∃e,P.underlying t=some (.slice e):=by
 unfold slT at h;split at h
 ·exact⟨_,by assumption⟩
 ·cases h
section
variable {P:Program} {num:Nat->Option Nat} {β:List Blk} {w w':World} {m:Nat->Nat} {ν:Own} {N:Nat} {w0:World} {m0:Nat->Nat} {T:Nat->Prop} {β0:List Blk} {σ σ1:St} {a:Act}
 {o:Oper} {next:Act->World->Prop} {Q:Exit->Act->World->Prop} {K:Yy} {v:AV}
def Qit {op:BinOp} {X Y:AV} (h:KO op X Y=some v):X.ok=true/\Y.ok=true:=by
 unfold KO at h;split at h <;> first | exact⟨rfl,rfl⟩ | cases h
def QfU {op:BinOp} {X Y:AV} {u u':Value} {t:TypeId} {xo yo:Operand} (h:KO op X Y=some v) (hx:Qg num β w m X u) (hy:Qg num β w m Y u'):
  ∃r,((do eqGuard op t xo yo u u';binOp op t u u'):Sem Value).run P w= .ok r w/\v.ok=true/\Qg num β w m v r/\∀p,ZJ w m ν p v r:=by
 unfold KO at h;split at h <;> (try simp only[Qg]at hx hy) <;> (try subst hx) <;> (try subst hy)
 all_goals try (cases h;done)
 all_goals try split at h
 all_goals try (cases h;done)
 all_goals (injection h with h;subst h)
 all_goals first
  | (rename_i hk;refine⟨_,?_,rfl,by simp only[toI,Qg];rfl,fun _=>trivial⟩;simp[go_sem,shift_shr_any _ _ _ _ hk];done)
  | (rename_i hk;refine⟨_,?_,rfl,by simp only[toI,Qg];rfl,fun _=>trivial⟩;simp[go_sem,shift_shl_any _ _ _ _ hk];done)
  | (rename_i hk;obtain⟨rfl,hb⟩:=hk;refine⟨_,?_,rfl,by simp only[toI,Qg];rfl,fun _=>trivial⟩;simp[go_sem,Op.intDiv,hb];done)
  | (rename_i hk;subst hk;refine⟨_,?_,rfl,by simp only[toI,Qg];rfl,fun _=>trivial⟩;simp[go_sem,Op.intArith];done)
  | (rename_i hk;subst hk;refine⟨_,?_,rfl,by simp only[toI,Qg];rfl,fun _=>trivial⟩;simp[go_sem,Op.intBits];done)
  | (rename_i hk;refine⟨_,?_,rfl,by simp only[Qg];rfl,fun _=>trivial⟩;simp[go_sem,binOp,Op.stringOp];rw[Qm (by omega),ByteArray.mk_append_mk];done)
  | (refine⟨_,?_,rfl,by simp only[Qg];rfl,fun _=>trivial⟩;simp[go_sem,binOp,Op.stringOp];done)
def QoW [Dr] {op:BinOp} {x y:AO} {x' y':Operand} {t t2:TypeId} (hI:Inv num N w0 m0 T β0 σ a w m β ν) (ho:o.op= .binOp op t x' y' t2) (hx:okO num x x'=true) (hy:okO num y y'=true)
  (he:Qi K (.bin op x y) σ=some (v,σ1)) (h:Aft num N w0 m0 T β0 σ1 a v fun u w'=>next (a.put o.dst u) w'):o.wp P a w next Q:=by
 simp only[Qi]at he;cases hr:KO op (val σ.env x) (val σ.env y)with
 | none=>rw[hr]at he;cases he
 | some v2=>
  rw[hr]at he;injection he with he
  injection he with h1 h2
  subst h1 h2;obtain⟨k1,k2⟩:=Qit hr;obtain⟨r,g1,g2,g3,g4⟩:=QfU (P:=P) (ν:=ν) (t:=t) (xo:=x') (yo:=y') hr (hI.val hx k1).1 (hI.val hy k2).1;refine Qs (u:=r) (w':=w) ?_ (h.same hI g2 g3 (g4 _));simp only[execOp,ho,Sem.run_bind]at g1 ⊢;rw[g1];rfl
def Qo1 [Dr] {ne:Bool} {x y:AO} {x' y':Operand} {t t2:TypeId} (hI:Inv num N w0 m0 T β0 σ a w m β ν) (ho:o.op= .binOp (if ne then .neq else .eql) t x' y' t2) (ht:GL P t=true) (hx:okO num x x'=true) (hy:okO num y y'=true)
  (he:Qi K (.eqb ne x y) σ=some (v,σ1)) (h:Aft num N w0 m0 T β0 σ1 a v fun u w'=>next (a.put o.dst u) w'):o.wp P a w next Q:=by
 simp only[Qi]at he;split at he
 ·rename_i A B hA hB;injection he with he
  injection he with h1 h2
  subst h1 h2;have g1:=(hI.val hx (by rw[hA];rfl)).1;have g2:=(hI.val hy (by rw[hB];rfl)).1;rw[hA]at g1;rw[hB]at g2;simp only[Qg]at g1 g2;have hu:=Qf3 ht;refine Qs (u:= .bool (if ne then !(A == B)else A == B)) (w':=w) ?_ (h.same hI rfl (by simp only[Qg]) trivial);have hq: ∀d,(Op.equalIn (d+1) t (.bool A) (.bool B)).run P w= .ok (A == B) w:=fun d=>by
   simp only[Op.equalIn,Sem.run_bind,run_underlying hu,Result.andThen_ok,Sem.run_pure]
  have hq2: (Op.equal t (.bool A) (.bool B)).run P w= .ok (A == B) w:=hq 9999;cases ne
  ·simp only[Yl,Zi]at ho ⊢;simp only[execOp,ho,g1,g2,eqGuard_at_bool,binOp,Sem.run_bind,Sem.run_pure,Result.andThen_ok,hq2]
  ·simp only[Zj]at ho ⊢;simp only[execOp,ho,g1,g2,eqGuard_at_bool,binOp,Sem.run_bind,Sem.run_pure,Result.andThen_ok,hq2]
 ·cases he
def Qo2 [Dr] {ne:Bool} {x:AO} {x':Operand} {t t2:TypeId} (hI:Inv num N w0 m0 T β0 σ a w m β ν) (ho:o.op= .binOp (if ne then .neq else .eql) t x' (.const .nilIface) t2) (ht:Ij P t=true) (hx:okO num x x'=true)
  (he:Qi K (.eqn ne x) σ=some (v,σ1)) (h:Aft num N w0 m0 T β0 σ1 a v fun u w'=>next (a.put o.dst u) w'):o.wp P a w next Q:=by
 simp only[Qi]at he;split at he
 ·rename_i A hA;injection he with he
  injection he with h1 h2
  subst h1 h2;have g1:=(hI.val hx (by rw[hA];rfl)).1;rw[hA]at g1;simp only[Qg]at g1;obtain⟨ms,hu⟩:=QeA ht;refine Qs (u:= .bool (if ne then !A else A)) (w':=w) ?_ (h.same hI rfl (by simp only[Qg]) trivial);have hc:a.eval (.const .nilIface)= .nilIface:=rfl;rcases g1 with⟨rfl,g1⟩ | ⟨rfl,t3,x3,g1⟩
  ·have hq: ∀d,(Op.equalIn (d+1) t .nilIface .nilIface).run P w= .ok true w:=fun d=>by
    simp only[Op.equalIn,Sem.run_bind,run_underlying hu,Result.andThen_ok,Sem.run_pure]
   have hq2: (Op.equal t .nilIface .nilIface).run P w= .ok true w:=hq 9999;cases ne
   ·simp only[Yl,Zi]at ho ⊢;simp only[execOp,ho,g1,hc,eqGuard_nil_constR,binOp,Sem.run_bind,Sem.run_pure,Result.andThen_ok,hq2]
   ·simp only[Zj]at ho ⊢;simp only[execOp,ho,g1,hc,eqGuard_nil_constR,binOp,Sem.run_bind,Sem.run_pure,Result.andThen_ok,hq2]
  ·have hq: ∀d,(Op.equalIn (d+1) t (.iface t3 x3) .nilIface).run P w= .ok false w:=fun d=>by
    simp only[Op.equalIn,Sem.run_bind,run_underlying hu,Result.andThen_ok,Sem.run_pure]
   have hq2: (Op.equal t (.iface t3 x3) .nilIface).run P w= .ok false w:=hq 9999;cases ne
   ·simp only[Yl,Zi]at ho ⊢;simp only[execOp,ho,g1,hc,eqGuard_at_iface,binOp,Sem.run_bind,Sem.run_pure,Result.andThen_ok,hq2]
   ·simp only[Zj]at ho ⊢;simp only[execOp,ho,g1,hc,eqGuard_at_iface,binOp,Sem.run_bind,Sem.run_pure,Result.andThen_ok,hq2]
 ·cases he
def Kg (P:Program):Nat->VV->List Field->Bool
 | _,[],[]=>true
 | i,k:: ks,f:: fs=>decide (f.name≠ "_") && decide (f.offset=i) && (match P.underlying f.type,k with
  | some (.int _),0=>true
  | some .bool,1=>true
  | some .string,2=>true
  | _,_=>false) && Kg P (i+1) ks fs
 | _,_,_=>false
def Qgx (P:Program) (t:TypeId) (ks:VV):Bool:=(match P.underlying t with
 | some (.struct fs)=>Kg P 0 ks fs.toList
 | _=>false) && !P.stoodInHeld t && !P.eqGuardType P.depth t
def Nt:=@Bool.not_true
def VZ:=@Bool.true_and
def L0 (d:Nat) (xs ys:Zg): ∀(fs:List Field) (i:Nat) (ks:VV) (cs ds:Qh) (b:Bool),Kg P i ks fs=true->U3 ks cs ds=some b->
  (∀(j:Nat) (c:AV),cs[j]? =some c->∃u,xs[i+j]? =some u/\Qg num β w m c u)->(∀(j:Nat) (c:AV),ds[j]? =some c->∃u,ys[i+j]? =some u/\Qg num β w m c u)->
  (Op.eqFields (d+1) xs ys fs).run P w= .ok b w
 | [],i,ks,cs,ds,b,hf,he,_,_=>by
  cases ks with
  | cons k ks=>simp[Kg]at hf
  | nil=>
   cases cs with
   | cons c cs=>simp[U3]at he
   | nil=>
    cases ds with
    | cons e ds=>simp[U3]at he
    | nil=>simp only[U3,QG]at he;subst he;rfl
 | f:: fs,i,[],cs,ds,b,hf,he,_,_=>by simp[Kg]at hf
 | f:: fs,i,k:: ks,[],ds,b,hf,he,_,_=>by simp[U3]at he
 | f:: fs,i,k:: ks,c:: cs,[],b,_,he,_,_=>by simp[U3]at he
 | f:: fs,i,k:: ks,c:: cs,e:: ds,b,hf,he,hx,hy=>by
  simp only[Kg,Qp,Qy]at hf;obtain⟨⟨⟨h1,h2⟩,h3⟩,h4⟩:=hf;subst h2;simp only[U3]at he;split at he
  ·rename_i b1 b2 e1 e2;injection he with he
   subst he;obtain⟨u,hu1,hu2⟩:=hx 0 c rfl;obtain⟨v,hv1,hv2⟩:=hy 0 e rfl;rw[TW]at hu1 hv1;have hag:WD P f.type false=true:=by
    unfold WD;split at h3
    ·rename_i hun;rw[hun];rfl
    ·rename_i hun;rw[hun];rfl
    ·rename_i hun;rw[hun];rfl
    ·cases h3
   have hp1: (part f.type xs f.offset).run P w= .ok u w:=by
    simp only[part,Sem.run_bind,Y9 hag,Result.andThen_ok,Yl,Zi,hu1,Sem.run_pure]
   have hp2: (part f.type ys f.offset).run P w= .ok v w:=by
    simp only[part,Sem.run_bind,Y9 hag,Result.andThen_ok,Yl,Zi,hv1,Sem.run_pure]
   have hq: (Op.equalIn (d+1) f.type u v).run P w= .ok b1 w:=by
    split at h3
    ·rename_i hun;unfold Ia at e1;split at e1
     ·rename_i hk;split at e1
      ·rename_i hk2;subst hk2;injection e1 with e1
       subst e1;simp only[Qg]at hu2 hv2;subst hu2 hv2;exact run_equalIn_int w d _ _ _ _ _ hun
      ·cases e1
     ·rename_i hk;cases hk
     ·rename_i hk;cases hk
     ·cases e1
    ·rename_i hun;unfold Ia at e1;split at e1
     ·rename_i hk;cases hk
     ·injection e1 with e1
      subst e1;simp only[Qg]at hu2 hv2;subst hu2 hv2;exact run_equalIn_bool' w d _ _ _ hun
     ·rename_i hk;cases hk
     ·cases e1
    ·rename_i hun;unfold Ia at e1;split at e1
     ·rename_i hk;cases hk
     ·rename_i hk;cases hk
     ·injection e1 with e1
      subst e1;simp only[Qg]at hu2 hv2;subst hu2 hv2;rw[run_equalIn_string w d _ _ _ hun,ByteArray.toList_eq,ByteArray.toList_eq]
     ·cases e1
    ·cases h3
   simp only[Op.eqFields,h1,ne_eq,not_false_eq_true,Zj,Sem.run_bind,hp1,hp2,hq,Result.andThen_ok];cases b1
   ·rfl
   ·simp only[Nt,Yl,Zi,VZ];exact L0 d xs ys fs (f.offset+1) ks cs ds b2 h4 e2 (fun j c hj=>by rw[Uo,Nat.add_comm 1];exact hx (j+1) c (by simpa using hj))
     (fun j c hj=>by rw[Uo,Nat.add_comm 1];exact hy (j+1) c (by simpa using hj))
  ·cases he
def UV:=@Bool.not_eq_true'
def Qo0 [Dr] {ne:Bool} {ks:VV} {x y:AO} {x' y':Operand} {t t2:TypeId} (hI:Inv num N w0 m0 T β0 σ a w m β ν) (ho:o.op= .binOp (if ne then .neq else .eql) t x' y' t2) (ht:Qgx P t ks=true) (hx:okO num x x'=true) (hy:okO num y y'=true)
  (he:Qi K (.eqa ne ks x y) σ=some (v,σ1)) (h:Aft num N w0 m0 T β0 σ1 a v fun u w'=>next (a.put o.dst u) w'):o.wp P a w next Q:=by
 simp only[Qi]at he;split at he
 ·rename_i cs ds hA hB;cases hr:U3 ks cs ds with
  | none=>rw[hr]at he;cases he
  | some b=>
   rw[hr]at he;injection he with he
   injection he with h1 h2
   subst h1 h2;have g1:=(hI.val hx (by rw[hA];rfl)).1;have g2:=(hI.val hy (by rw[hB];rfl)).1;rw[hA]at g1;rw[hB]at g2;simp only[Qg]at g1 g2;obtain⟨us,g1,g3,g4⟩:=g1;obtain⟨vs,g2,g5,g6⟩:=g2;rw[Z1]at g4 g6;unfold Qgx at ht;simp only[Qp,UV]at ht;obtain⟨⟨ht1,ht2⟩,ht3⟩:=ht;split at ht1
   ·rename_i fs hun;have hfs:P.fieldsOf t=fs:=by unfold Program.fieldsOf;rw[hun]
    have hq: (Op.equalIn 10000 t (.agg us) (.agg vs)).run P w= .ok b w:=by
     rw[run_equalIn_struct w 9999 t us vs (by rw[hfs];exact hun) ht2,hfs];exact L0 (num:=num) (β:=β) (m:=m) 9998 us vs _ 0 ks cs ds b ht1 hr (fun j c hj=>by obtain⟨u,k1,_,k2⟩:=g4 j c hj;exact⟨u,k1,k2⟩) (fun j c hj=>by obtain⟨u,k1,_,k2⟩:=g6 j c hj;exact⟨u,k1,k2⟩)
    refine Qs (u:= .bool (if ne then !b else b)) (w':=w) ?_ (h.same hI rfl (by simp only[Qg]) trivial);cases ne
    ·simp only[Yl,Zi]at ho ⊢;simp only[execOp,ho,g1,g2,Sem.run_bind,run_eqGuard_agg w _ t x' y' us vs ht3,Result.andThen_ok,run_eql_struct,hq,Sem.run_pure]
    ·simp only[Zj]at ho ⊢;simp only[execOp,ho,g1,g2,Sem.run_bind,run_eqGuard_agg w _ t x' y' us vs ht3,Result.andThen_ok,run_neq_struct,hq,Sem.run_pure]
   ·cases ht1
 ·cases he
abbrev Tb:=Option Addr
def MG (w:World) (t e:TypeId) (a:Tb) (l c:Nat) (h:P.underlying t=some (.slice e)): (Op.equal t (.slice a l c) (.slice none 0 0)).run P w= .ok a.isNone w:=by
 have: ∀d,(Op.equalIn (d+1) t (.slice a l c) (.slice none 0 0)).run P w= .ok a.isNone w:=fun d=>by
  cases a <;> simp[Op.equalIn,run_underlying h]
 exact this 9999
def Qo6 [Dr] {ne:Bool} {x:AO} {x':Operand} {t t2:TypeId} (hI:Inv num N w0 m0 T β0 σ a w m β ν) (ho:o.op= .binOp (if ne then .neq else .eql) t x' (.const (.slice none 0 0)) t2) (ht:slT P t=true) (hx:okO num x x'=true)
  (he:Qi K (.isn ne x) σ=some (v,σ1)) (h:Aft num N w0 m0 T β0 σ1 a v fun u w'=>next (a.put o.dst u) w'):o.wp P a w next Q:=by
 obtain⟨e,hu⟩:=IK ht;have key: ∀A len cap,a.eval x'= .slice A len cap->(execOp a.eval o).run P w= .ok (.value (.bool (if ne then !A.isNone else A.isNone))) w:=fun A len cap hA=>by
  have hc:a.eval (.const (.slice none 0 0))= .slice none 0 0:=rfl;cases ne
  ·simp only[Yl,Zi]at ho ⊢;simp only[execOp,ho,hA,hc,eqGuard_at_slice,binOp,Sem.run_bind,Sem.run_pure,Result.andThen_ok,MG w t e A len cap hu]
  ·simp only[Zj]at ho ⊢;simp only[execOp,ho,hA,hc,eqGuard_at_slice,binOp,Sem.run_bind,Sem.run_pure,Result.andThen_ok,MG w t e A len cap hu]
 simp only[Qi]at he;split at he
 ·rename_i o2 sz hA;injection he with he
  injection he with h1 h2
  subst h1 h2;have g1:=(hI.val hx (by rw[hA];rfl)).1;rw[hA]at g1;simp only[Qg]at g1;obtain⟨A,len,cap,g1,_⟩:=g1;exact Qs (key A len cap g1) (h.same hI rfl (by simp only[Qg];exact⟨_,rfl⟩) trivial)
 ·rename_i o2 sz x0 xs hA;injection he with he
  injection he with h1 h2
  subst h1 h2;have g1:=(hI.val hx (by rw[hA];rfl)).1;rw[hA]at g1;simp only[Qg]at g1;obtain⟨A,len,cap,g1,_,_,_,g2⟩:=g1;rcases g2 with g2 | ⟨b,of,rfl,_⟩
  ·cases g2
  ·refine Qs (key _ len cap g1) (h.same hI rfl (by simp only[Qg];cases ne <;> rfl) trivial)
 ·cases he
def QqR [Dr] {op:UnOp} {x:AO} {x':Operand} {t:TypeId} (hI:Inv num N w0 m0 T β0 σ a w m β ν) (ho:o.op= .unOp op t x') (hx:okO num x x'=true)
  (he:Qi K (.un op x) σ=some (v,σ1)) (h:Aft num N w0 m0 T β0 σ1 a v fun u w'=>next (a.put o.dst u) w'):o.wp P a w next Q:=by
 simp only[Qi]at he;cases hr:aun op (val σ.env x)with
 | none=>rw[hr]at he;cases he
 | some v2=>
  rw[hr]at he;injection he with he
  injection he with h1 h2
  subst h1 h2;unfold aun at hr;split at hr
  ·rename_i b hb;injection hr with hr
   subst hr;have g1:=(hI.val hx (by rw[hb];rfl)).1;rw[hb]at g1;simp only[Qg]at g1;exact Qs (u:= .bool !b) (w':=w) (by simp[execOp,ho,g1,Op.unary]) (h.same hI rfl (by simp only[Qg]) trivial)
  ·rename_i k n hb;injection hr with hr
   subst hr;have g1:=(hI.val hx (by rw[hb];rfl)).1;rw[hb]at g1;simp only[Qg]at g1;exact Qs (u:= .int k (k.wrap (0 - n))) (w':=w) (by simp[execOp,ho,g1,Op.unary,Op.intArith]) (h.same hI rfl (by simp only[toI,Qg]) trivial)
  ·cases hr
def Qj3 [Dr] {k:IntKind} {x:AO} {x':Operand} {t t2:TypeId} (hI:Inv num N w0 m0 T β0 σ a w m β ν) (ho:o.op= .convert t t2 x') (ht:QgQ P t t2 k=true) (hx:okO num x x'=true)
  (he:Qi K (.conv k x) σ=some (v,σ1)) (h:Aft num N w0 m0 T β0 σ1 a v fun u w'=>next (a.put o.dst u) w'):o.wp P a w next Q:=by
 simp only[Qi]at he;split at he
 ·rename_i k2 n hb;injection he with he
  injection he with h1 h2
  subst h1 h2;have g1:=(hI.val hx (by rw[hb];rfl)).1;rw[hb]at g1;simp only[Qg]at g1;unfold QgQ at ht;split at ht
  ·rename_i d k' hu1 hu2;simp only[Qy]at ht;subst ht;refine Qs (u:= .int k (k.wrap n)) (w':=w) ?_ (h.same hI rfl (by simp only[toI,Qg]) trivial);simp[execOp,ho,g1,convert,run_underlying hu1,run_underlying hu2,Conv.intToInt]
  ·cases ht
 ·cases he
def Qkf [Dr] {x:AO} {x':Operand} {t:TypeId} (hI:Inv num N w0 m0 T β0 σ a w m β ν) (ho:o.op= .call {callee:= .builtin .len,args:= #[x'],argTypes:= #[t]}) (ht:L5 P t=true) (hx:okO num x x'=true)
  (he:Qi K (.lens x) σ=some (v,σ1)) (h:Aft num N w0 m0 T β0 σ1 a v fun u w'=>next (a.put o.dst u) w'):o.wp P a w next Q:=by
 simp only[Qi]at he;split at he
 ·rename_i s hb;injection he with he
  injection he with h1 h2
  subst h1 h2;have g1:=(hI.val hx (by rw[hb];rfl)).1;rw[hb]at g1;simp only[Qg]at g1;have hu:=Hq ht;refine Qs (u:= .int .i64 s.length) (w':=w) ?_ (h.same hI rfl (by simp only[Qg]) trivial);simp[execOp,ho,resolve,invoke,builtin,g1,Builtin.len_,run_underlying hu,goInt,ByteArray.size_mk']
 ·cases he
def Qke [Dr] {x:AO} {x':Operand} {t:TypeId} (hI:Inv num N w0 m0 T β0 σ a w m β ν) (ho:o.op= .call {callee:= .builtin .len,args:= #[x'],argTypes:= #[t]}) (ht:slT P t=true) (hx:okO num x x'=true)
  (he:Qi K (.lenl x) σ=some (v,σ1)) (h:Aft num N w0 m0 T β0 σ1 a v fun u w'=>next (a.put o.dst u) w'):o.wp P a w next Q:=by
 simp only[Qi]at he;split at he
 ·rename_i o2 sz xs hb;injection he with he
  injection he with h1 h2
  subst h1 h2;have g1:=(hI.val hx (by rw[hb];rfl)).1;rw[hb]at g1;simp only[Qg]at g1;obtain⟨a2,len,cap,g1,g2,_⟩:=g1;obtain⟨e,hu⟩:=IK ht;refine Qs (u:= .int .i64 xs.length) (w':=w) ?_ (h.same hI rfl (by simp only[Qg]) trivial);simp[execOp,ho,resolve,invoke,builtin,g1,Builtin.len_,run_underlying hu,goInt,g2]
 ·rename_i id off sz n hb;injection he with he
  injection he with h1 h2
  subst h1 h2;have g1:=(hI.val hx (by rw[hb];rfl)).1;rw[hb]at g1;simp only[Qg]at g1;obtain⟨a2,cap,g1,g2,_⟩:=g1;obtain⟨e,hu⟩:=IK ht;refine Qs (u:= .int .i64 n) (w':=w) ?_ (h.same hI rfl (by simp only[Qg]) trivial);simp[execOp,ho,resolve,invoke,builtin,g1,Builtin.len_,run_underlying hu,goInt]
 ·rename_i ty id n hb;injection he with he
  injection he with h1 h2
  subst h1 h2;have g1:=(hI.val hx (by rw[hb];rfl)).1;rw[hb]at g1;simp only[Qg]at g1;obtain⟨_,cap,_,_,g1,_⟩:=g1;obtain⟨e,hu⟩:=IK ht;refine Qs (u:= .int .i64 n) (w':=w) ?_ (h.same hI rfl (by simp only[Qg]) trivial);simp[execOp,ho,resolve,invoke,builtin,g1,Builtin.len_,run_underlying hu,goInt]
 ·cases he
def QqQ [Dr] {x y:AO} {x' y':Operand} {ts:Array TypeId} (hI:Inv num N w0 m0 T β0 σ a w m β ν) (ho:o.op= .call {callee:= .builtin .max,args:= #[x',y'],argTypes:=ts}) (hx:okO num x x'=true) (hy:okO num y y'=true)
  (he:Qi K (.mx x y) σ=some (v,σ1)) (h:Aft num N w0 m0 T β0 σ1 a v fun u w'=>next (a.put o.dst u) w'):o.wp P a w next Q:=by
 simp only[Qi]at he;split at he
 ·rename_i k A k' B hA hB;split at he
  ·rename_i hk;subst hk;injection he with he
   injection he with h1 h2
   subst h1 h2;have g1:=(hI.val hx (by rw[hA];rfl)).1;have g2:=(hI.val hy (by rw[hB];rfl)).1;rw[hA]at g1;rw[hB]at g2;simp only[Qg]at g1 g2;refine Qs (u:= .int k (if B > A then B else A)) (w':=w) ?_ (h.same hI rfl (by simp only[Qg]) trivial);simp[execOp,ho,resolve,invoke,builtin,g1,g2,Builtin.max_,Builtin.max2]
  ·cases he
 ·cases he
def QqP [Dr] {x y:AO} {x' y':Operand} {ts:Array TypeId} (hI:Inv num N w0 m0 T β0 σ a w m β ν) (ho:o.op= .call {callee:= .builtin .min,args:= #[x',y'],argTypes:=ts}) (hx:okO num x x'=true) (hy:okO num y y'=true)
  (he:Qi K (.mn x y) σ=some (v,σ1)) (h:Aft num N w0 m0 T β0 σ1 a v fun u w'=>next (a.put o.dst u) w'):o.wp P a w next Q:=by
 simp only[Qi]at he;split at he
 ·rename_i k A k' B hA hB;split at he
  ·rename_i hk;subst hk;injection he with he
   injection he with h1 h2
   subst h1 h2;have g1:=(hI.val hx (by rw[hA];rfl)).1;have g2:=(hI.val hy (by rw[hB];rfl)).1;rw[hA]at g1;rw[hB]at g2;simp only[Qg]at g1 g2;refine Qs (u:= .int k (if B < A then B else A)) (w':=w) ?_ (h.same hI rfl (by simp only[Qg]) trivial);simp[execOp,ho,resolve,invoke,builtin,g1,g2,Builtin.min_,Builtin.min2]
  ·cases he
 ·cases he
def Qkb [Dr] {sz:Nat} {x i:AO} {x' i':Operand} {t:TypeId} (hI:Inv num N w0 m0 T β0 σ a w m β ν) (ho:o.op= .indexAddr t x' i') (ht:XT P t sz=true) (hx:okO num x x'=true) (hi:okO num i i'=true)
  (he:Qi K (.idxa sz x i) σ=some (v,σ1)) (h:Aft num N w0 m0 T β0 σ1 a v fun u w'=>next (a.put o.dst u) w'):o.wp P a w next Q:=by
 simp only[Qi]at he;split at he
 ·rename_i o2 sz1 xs k n hA hB;split at he
  ·rename_i hk;obtain⟨rfl,hn⟩:=hk;cases hxn:xs[n.toNat]? with
   | none=>rw[hxn]at he;cases he
   | some e=>
    rw[hxn]at he;injection he with he
    injection he with h1 h2
    subst h1 h2;have g1:=(hI.val hx (by rw[hA];rfl)).1;have g2:=(hI.val hi (by rw[hB];rfl)).1;rw[hA]at g1;rw[hB]at g2;simp only[Qg]at g1 g2;obtain⟨a2,len,cap,g1,g3,_,_,g4⟩:=g1;have hlt:n.toNat < xs.length:=by
     rcases QT n.toNat xs.length with h | h
     ·exact h
     ·rw[Q2 h]at hxn;cases hxn
    rcases g4 with g4 | ⟨b,of,g4,g5⟩
    ·subst g4;simp at hlt
    rw[XG]at g5;obtain⟨_,g6⟩:=g5 _ e hxn;unfold XT at ht;split at ht
    ·rename_i el hu;refine Qs (u:= .pointer (some ⟨b,of+n.toNat* sz1,none⟩)) (w':=w) ?_ (h.same hI rfl (by simp only[Qg];exact⟨b,_,rfl,g6⟩) trivial);have hc:0<=n/\n < (len:Int):=by omega
     simp[execOp,ho,g1,g2,Instr.indexAt,asIntOf,run_underlying hu,g4,hc,ZS ht,Yx]
    ·cases ht
  ·cases he
 ·rename_i id of sz1 kn k n hA hB;split at he
  ·rename_i hk;obtain⟨rfl,hn,hlt⟩:=hk;injection he with he
   injection he with h1 h2
   subst h1 h2;have g1:=(hI.val hx (by rw[hA];rfl)).1;have g2:=(hI.val hi (by rw[hB];rfl)).1;rw[hA]at g1;rw[hB]at g2;simp only[Qg]at g1 g2;obtain⟨a2,cap,g1,_,_,g4⟩:=g1;rcases g4 with g4 | ⟨kb,g4,rfl,g5⟩
   ·omega
   unfold XT at ht;split at ht
   ·rename_i el hu;refine Qs (u:= .pointer (some ⟨kb.b,of+n.toNat* sz1,none⟩)) (w':=w) ?_ (h.same hI rfl (by simp only[Qg];exact⟨kb,g4,rfl⟩) trivial);have hc:0<=n/\n < (kn:Int):=by omega
    simp[execOp,ho,g1,g2,Instr.indexAt,asIntOf,run_underlying hu,hc,ZS ht,Yx]
   ·cases ht
  ·cases he
 ·cases he
def Qo5 [Dr] {x i:AO} {x' i':Operand} {t:TypeId} (hI:Inv num N w0 m0 T β0 σ a w m β ν) (ho:o.op= .index t x' i') (ht:L5 P t=true) (hx:okO num x x'=true) (hi:okO num i i'=true)
  (he:Qi K (.idx x i) σ=some (v,σ1)) (h:Aft num N w0 m0 T β0 σ1 a v fun u w'=>next (a.put o.dst u) w'):o.wp P a w next Q:=by
 simp only[Qi]at he;split at he
 ·rename_i s k n hA hB;split at he
  ·rename_i hn;cases hxn:s[n.toNat]? with
   | none=>rw[hxn]at he;cases he
   | some e=>
    rw[hxn]at he;injection he with he
    injection he with h1 h2
    subst h1 h2;have g1:=(hI.val hx (by rw[hA];rfl)).1;have g2:=(hI.val hi (by rw[hB];rfl)).1;rw[hA]at g1;rw[hB]at g2;simp only[Qg]at g1 g2;have hu:=Hq ht;have hlt:n.toNat < s.length:=by
     rcases QT n.toNat s.length with h | h
     ·exact h
     ·rw[Q2 h]at hxn;cases hxn
    have hb: (⟨s.toArray⟩:ByteArray)[n.toNat]? =some e:=by
     rw[ByteArray.getElem?_lt' _ _ (by simpa[ByteArray.size]using hlt)];rw[Zq hlt]at hxn;injection hxn with hxn
     rw[<- hxn];rfl
    refine Qs (u:= .int .u8 e.toNat) (w':=w) ?_ (h.same hI rfl (by simp only[Qg]) trivial);simp[execOp,ho,g1,g2,Instr.index,asIntOf,run_underlying hu,hn,hb]
  ·cases he
 ·cases he
def Qkk [Dr] {c x y:AO} {c' x' y':Operand} (hI:Inv num N w0 m0 T β0 σ a w m β ν) (ho:o.op= .pick c' x' y') (hc:okO num c c'=true) (hx:okO num x x'=true) (hy:okO num y y'=true)
  (he:Qi K (.pick c x y) σ=some (v,σ1)) (h:Aft num N w0 m0 T β0 σ1 a v fun u w'=>next (a.put o.dst u) w'):o.wp P a w next Q:=by
 simp only[Qi]at he;split at he
 ·rename_i hA;have g1:=(hI.val hc (by rw[hA];rfl)).1;rw[hA]at g1;simp only[Qg]at g1;split at he
  ·rename_i hk;injection he with he
   injection he with h1 h2
   subst h1 h2;exact Qs (u:=a.eval x') (w':=w) (by simp[execOp,ho,g1,asBool]) (h.same hI hk (hI.val hx hk).1 ((hI.val hx hk).2 _))
  ·cases he
 ·rename_i hA;have g1:=(hI.val hc (by rw[hA];rfl)).1;rw[hA]at g1;simp only[Qg]at g1;split at he
  ·rename_i hk;injection he with he
   injection he with h1 h2
   subst h1 h2;exact Qs (u:=a.eval y') (w':=w) (by simp[execOp,ho,g1,asBool]) (h.same hI hk (hI.val hy hk).1 ((hI.val hy hk).2 _))
  ·cases he
 ·cases he
def Qo3 [Dr] {x:AO} {i:Nat} {x':Operand} (hI:Inv num N w0 m0 T β0 σ a w m β ν) (ho:o.op= .extract x' i) (hx:okO num x x'=true)
  (he:Qi K (.ext x i) σ=some (v,σ1)) (h:Aft num N w0 m0 T β0 σ1 a v fun u w'=>next (a.put o.dst u) w'):o.wp P a w next Q:=by
 simp only[Qi]at he;split at he
 ·rename_i vs hA;have g1:=(hI.val hx (by rw[hA];rfl)).1;rw[hA]at g1;simp only[Qg]at g1;obtain⟨us,g1,g2,g3⟩:=g1;cases hv:vs[i]? with
  | none=>rw[hv]at he;cases he
  | some c=>
   rw[hv]at he;simp only[QC]at he;split at he
   ·rename_i hk;injection he with he
    injection he with h1 h2
    subst h1 h2;rw[PH]at g3;obtain⟨u,k1,k2⟩:=g3 i c hv;rw[Zl]at k1;exact Qs (u:=u) (w':=w) (by simp[execOp,ho,g1,Instr.extract,k1]) (h.same hI (by rw[Ot];exact hk) (by rw[QV];exact k2) (Yz _ _ _))
   ·cases he
 ·cases he
def QgD [Dr] {x:AO} {x':Operand} (hI:Inv num N w0 m0 T β0 σ a w m β ν) (ho:o.op= .nilCheck x') (hx:okO num x x'=true)
  (he:Qi K (.nilck x) σ=some (v,σ1)) (h:Aft num N w0 m0 T β0 σ1 a v fun u w'=>next (a.put o.dst u) w'):o.wp P a w next Q:=by
 simp only[Qi]at he;split at he
 ·rename_i f cs hA;injection he with he
  injection he with h1 h2
  subst h1 h2;have g1:=(hI.val hx (by rw[hA];rfl)).1;rw[hA]at g1;have g2:=g1;simp only[Qg]at g1;obtain⟨g,us,_,g1,_⟩:=g1;refine Qs (u:=a.eval x') (w':=w) (by simp[execOp,ho,g1]) (h.same hI (by rw[hA];rfl) (by rw[hA];exact g2) (by rw[hA];exact trivial))
 ·rename_i f cs hA;injection he with he
  injection he with h1 h2
  subst h1 h2;have g1:=(hI.val hx (by rw[hA];rfl)).1;rw[hA]at g1;have g2:=g1;simp only[Qg]at g1;obtain⟨g,us,_,g1,_⟩:=g1;refine Qs (u:=a.eval x') (w':=w) (by simp[execOp,ho,g1]) (h.same hI (by rw[hA];rfl) (by rw[hA];exact g2) (by rw[hA];exact trivial))
 ·rename_i i of hA;injection he with he
  injection he with h1 h2
  subst h1 h2;have g1:=(hI.val hx (by rw[hA];rfl)).1;rw[hA]at g1;have g2:=g1;simp only[Qg]at g1;obtain⟨b,_,g1⟩:=g1;refine Qs (u:=a.eval x') (w':=w) (by simp[execOp,ho,g1]) (h.same hI (by rw[hA];rfl) (by rw[hA];exact g2) (by rw[hA];exact trivial))
 ·rename_i ty i hA;injection he with he
  injection he with h1 h2
  subst h1 h2;have g1:=(hI.val hx (by rw[hA];rfl)).1;rw[hA]at g1;have g2:=g1;simp only[Qg]at g1;obtain⟨b,_,_,_,g1⟩:=g1;refine Qs (u:=a.eval x') (w':=w) (by simp[execOp,ho,g1]) (h.same hI (by rw[hA];rfl) (by rw[hA];exact g2) (by rw[hA];exact trivial))
 ·rename_i cs hA;injection he with he
  injection he with h1 h2
  subst h1 h2;have g1:=(hI.val hx (by rw[hA];rfl)).1;rw[hA]at g1;have g2:=g1;simp only[Qg]at g1;obtain⟨b,of,g1,_⟩:=g1;refine Qs (u:=a.eval x') (w':=w) (by simp[execOp,ho,g1]) (h.same hI (by rw[hA];rfl) (by rw[hA];exact g2) (by rw[hA];exact trivial))
 ·cases he
end
end Go.Am
