/-
  Am7, Am8, Am9.
-/
import Derived.Test.YthlnfdbbneaelaaGreatDoorG01
set_option linter.all false
namespace Go.Am
def Ye:=@List.length_take
def ZX:=@List.append_assoc
def Yq:=@List.getElem?_append_right
def Zl:=@List.length_append
def W8 {j:Type} (d:List j) (b c) (h:b+c.length<=d.length) (i):
  (d.take b ++ c ++ d.drop (b+c.length))[i]? =if i < b then d[i]? else if i < b+c.length then c[i - b]? else d[i]? :=by
 have e: (d.take b).length=b:=by rw[Ye];omega
 by_cases f:i < b;rw[Qe f,ZX,Y3 (by omega),VV f];rw[Qb f];by_cases g:i < b+c.length;rw[Qe g,ZX,Yq (by omega),e,Y3 (by omega)];rw[Qb g,Yq (by rw[Zl,e];omega),Zl,e,Vf];congr 1;omega
def U5:=@List.length_drop
def Td {f:Type} (cs:List f) (c d) (h:c+d.length<=cs.length): (cs.take c ++ d ++ cs.drop (c+d.length)).length=cs.length:=by
 simp only[Zl,Ye,U5];omega
section
variable {P:Program} {num:Nat->Option Nat} {β:List Blk} {w w':World} {m:Nat->Nat} {ν:Own} {N:Nat} {w0:World} {m0:Nat->Nat} {T:Nat->Prop} {β0:List Blk} {σ σ1:St} {a:Act}
 {o:Oper} {next:Act->World->Prop} {Q:Exit->Act->World->Prop} {K:Vd} {v:AV}
def N9:=@not_true_eq_false
def UT {t d b off e c u} (h:YJ P t d=true) (j:w.heap[b]? =some (.cells c e (0,0))) (f:u.cells.size=d)
  (i:off+d<=c.size) (g: ∀x∈u.cells.toList,x.oneCell'=true):
  (storeVar t ⟨b,off,none⟩ u).run P w= .ok () (w.setRow b (c.toList.take off ++ u.cells.toList ++ c.toList.drop (off+u.cells.toList.length)).toArray):=by
 have:=run_storeCells_at P b off e u.cells.toList 0 c w j (by simpa[f]using i) g;simp only[storeVar,Sem.run_bind,Yp h,Result.andThen_ok,f,ne_eq,N9,ZT];exact this
def SA:=@List.getElem?_of_mem
def Gh:=@Array.getElem?_toList
def JT {d:Qx} {u:Value} (g:u.cells.size=d.length) (k: ∀(i:Nat) (c:AV),d[i]? =some c->∃x,u.cells[i]? =some x/\x.oneCell'=true/\Qh num β w m c x):
  ∀x∈u.cells.toList,x.oneCell'=true:=by
 intro x j;obtain⟨i,b⟩:=SA j;obtain⟨y,e,f,_⟩:=k i _ (Q0 (by rw[<- g];simpa using(by rcases Zt i u.cells.toList.length with h | h;exact h;rw[ZF h]at b;cases b)));rw[Gh,e]at b;cases b;exact f
def TW {x c} (b:cellsOf x=some c):x.ok=true:=by
 cases x <;> simp[cellsOf,AV.one]at b <;> rfl
def PI [Dr] (c b d) (h:b+d.length<=c.length): (put c b d).length=c.length:=by
 unfold put;rw[Td _ _ _ h]
def VW:=@List.size_toArray
def S2:=@List.getElem?_toArray
def R4 [Dr] {cs vs} {cur:Vw} {us b} (r:cs.length<=cur.size) (p:b+vs.length<=cs.length) (q:us.length=vs.length) {R S:Nat->AV->Value->Prop}
  (f: ∀(i:Nat) (c:AV),cs[i]? =some c->∃u,cur[i]? =some u/\R i c u) (l: ∀(i:Nat) (c:AV),vs[i]? =some c->∃u,us[i]? =some u/\S i c u):
  (cur.toList.take b ++ us ++ cur.toList.drop (b+us.length)).toArray.size=cur.size/\
  ∀i c,(put cs b vs)[i]? =some c->∃u,(cur.toList.take b ++ us ++ cur.toList.drop (b+us.length)).toArray[i]? =some u/\(R i c u\/(b<=i/\i < b+vs.length/\S (i - b) c u)):=by
 have g:b+us.length<=cur.toList.length:=by simp;omega
 refine⟨?_,fun i c d=> ?_⟩;rw[VW,Td _ _ _ g];simp;unfold put at d;rw[W8 _ _ _ p]at d;rw[S2,W8 _ _ _ g,q];split at d;rename_i k;obtain⟨u,h,e⟩:=f i c d;exact⟨u,by rw[Qe k];simpa using h,.inl e⟩;rename_i k;split at d;rename_i j;obtain⟨u,h,e⟩:=l _ c d;exact⟨u,by rwa[Qb k,Qe j],.inr ⟨by omega,j,e⟩⟩;rename_i j;obtain⟨u,h,e⟩:=f i c d;exact⟨u,by rw[Qb k,Qb j];simpa using h,.inl e⟩
def Nh {t x y A} (d:o.op= .store t x y) (c:a.eval x= .pointer (some A)) (b: (storeVar t A (a.eval y)).run P w= .ok () w'):
  (execOp a.eval o).run P w= .ok .skip w':=by
 simp only[execOp,d,Instr.storeAt,c,Instr.sureAddr,Sem.run_bind,Sem.run_pure,Result.andThen_ok,b]
def Qef {ρ x y f k} (j:okO num x y=true) (l:cellsOf (val ρ x)=some f) (t:k=(a.eval y).cells)
  (e: ∀(i:Nat) (c:AV),f[i]? =some c->∃u,k[i]? =some u/\u.oneCell'=true/\Qh num β w m c u):
  ∀(i:Nat) c,(stV x f)[i]? =some c->∃u,k[i]? =some u/\u.oneCell'=true/\Qh num β w m c u/\∀p ν,Yr w m ν p c u:=by
 intro i c b;unfold stV at b;split at b; · rename_i z f;(cases y <;> try simp[okO]at j;done);rename_i u;simp only[okO,IE]at j;have h: ∀ν,_:=fun ν=>YS (num:=num) (β:=β) (w:=w) (m:=m) (ν:=ν) j;simp[val,cellsOf,AV.one,AV.strip]at l;subst l;match i with | 0=>simp at b;subst b;obtain⟨v,A,C,B⟩:=e 0 _ rfl;(have s: (a.eval (.const u)).cells= #[u]:=by have:=(h fun _=>none).2.1;show u.cells= #[u];cases u <;> first | rfl | simp[Value.oneCell']at this);refine⟨u,by rw[t,s];rfl,(h fun _=>none).2.1,(h fun _=>none).1,fun p ν=>(h ν).2.2 p⟩ | i+1=>simp at b
 obtain⟨d,r,rfl⟩:=ZE b;obtain⟨u,g,q,D⟩:=e i d r;exact⟨u,g,q,by rwa[Zg],fun p ν=>Xr _ _ _⟩
def GN:=@Nat.le_of_eq
def OY:=@Array.length_toList
def Qua [Dr] {s q f sz:Nat} {x y t} (H:Inv num N w0 m0 T β0 σ a w m β ν) (ho:o.op= .store t (.tmp q) y) (hs:YJ P t sz=true) (r:okO num x y=true)
  (hp:Sx a q s f\/(q=s/\f=0)) (j:Qk K (.stf s f sz x) σ=some (v,σ1)) (h: ∀w' m' W O,Inv num N w0 m0 T β0 σ1 a w' m' W O->v= .undef->next (a.put o.dst undef) w'):
  o.wp P a w next Q:=by
 simp only[Qk]at j;split at j;rename_i cs k;rcases B:cellsOf (val σ.env x)with _ | Y;rw[B]at j;cases j;rw[B]at j;simp only[QO]at j;split at j;rename_i Z;cases j;obtain⟨U,hl⟩:=Z;obtain⟨_,M,A⟩:=V6 B ((H.val r (TW B)).1);obtain⟨b0,cur0,e0,d,hq,hb0,hz0,V⟩:=H.box_at k hp;obtain⟨b,cur,e,X,hb,C,l,L⟩:=H.setBox (cs':=put cs f (stV x Y)) s k d;cases X;refine Rz (Nh ho hq (UT (w:=w) (off:=f) hs hb (M.trans U) (by omega) (JT M A))) (h _ m β _ (L id _ (fun _=>rfl) (fun _ _=>rfl) (fun _=>rfl) (fun _ _=>rfl) ?_ ?_) rfl);exact(R4 (vs:=stV x Y) (GN C.symm) (by rwa[PQ]) (by rw[OY,M,PQ]) (R:=fun _ _ _=>True) (S:=fun _ _ _=>True) (fun i c z=>by obtain⟨u,g,_⟩:=l i c z;exact⟨u,g,trivial⟩) (fun i c z=>by obtain⟨u,g,_⟩:=Qef (ρ:=σ.env) (a:=a) r B rfl A i c z;exact⟨u,by simpa using g,trivial⟩)).1.trans (by rwa[PI _ _ _ (by rwa[PQ])]);intro i c z;obtain⟨u,g1,g2⟩:=(R4 (vs:=stV x Y) (GN C.symm) (by rwa[PQ]) (by rw[OY,M,PQ]) (R:=fun i c u=>u.oneCell'=true/\Qh num β w m c u/\Yr w m ν (.c s i) c u) (S:=fun _ c u=>u.oneCell'=true/\Qh num β w m c u/\∀p,Yr w m ν p c u) l (fun i c z=>by obtain⟨u,g,J,E,I⟩:=Qef (ρ:=σ.env) (a:=a) r B rfl A i c z;exact⟨u,by simpa using g,J,E,fun p=>I p ν⟩)).2 i c z;refine⟨u,g1,?_⟩;have D:ν b0≠some (.c s i):=by obtain⟨_,h2⟩:=H.at_ (n:=s) (by rw[k];simp);have h3:=H.slots s _ h2;rw[k]at h3;obtain⟨b2,G,_,_,_,_,_,hν,_⟩:=h3;rw[h2]at d;injection d with d;rw[G]at d;cases d;rw[hν];simp
 rcases g2 with⟨J,E,I⟩ | ⟨_,_,J,E,I⟩;exact⟨J,E,_,I,rfl,D⟩;exact⟨J,E,.c s i,I _,rfl,D⟩;cases j;cases j
def QaD {c z u} (h:Qh num β w m c u):Qh num β w m (Ll c z) u/\∀p ν,Yr w m ν p (Ll c z) u:=by
 unfold Ll;split;rename_i i o k;simp only[Qh]at h ⊢;obtain⟨a,b,rfl,f,e,d⟩:=h;have g:b=0:=by rcases d with d | ⟨_,_,_,_,j⟩;exact d.2.1;omega
 subst g;exact⟨⟨a,0,0,rfl,rfl,f,e,.inl trivial⟩,fun p ν=> .inl ⟨a,rfl⟩⟩;exact⟨by rwa[Zg],fun p ν=>Xr _ _ _⟩
def Ik: ∀b e (i:Nat) c,(UQ b e)[i]? =some c->∃d,b[i]? =some d/\(c=d.strip\/∃z,c=Ll d z)
 | [],_,i,c,h=>by simp[UQ]at h
 | v:: b,[],0,c,h=>⟨v,rfl,.inl (by simpa[UQ]using h.symm)⟩
 | v:: b,[],i+1,c,h=>by
  obtain⟨d,g,f⟩:=Ik b [] i c (by simpa[UQ]using h);exact⟨d,by simpa using g,f⟩
 | v:: b,z:: e,0,c,h=>⟨v,rfl,.inr ⟨z,by simpa[UQ]using h.symm⟩⟩
 | v:: b,z:: e,i+1,c,h=>by
  obtain⟨d,g,f⟩:=Ik b e i c (by simpa[UQ]using h);exact⟨d,by simpa using g,f⟩
def Dp {f:Vw} (b e) (h: ∀(i:Nat) (c:AV),b[i]? =some c->∃u,f[i]? =some u/\u.oneCell'=true/\Qh num β w m c u) (i:Nat) (c) (r: (UQ b e)[i]? =some c):
  ∃u,f[i]? =some u/\u.oneCell'=true/\Qh num β w m c u/\∀p ν,Yr w m ν p c u:=by
 obtain⟨d,l,q⟩:=Ik b e i c r;obtain⟨u,k,g,j⟩:=h i d l;rcases q with rfl | ⟨z,rfl⟩;exact⟨u,k,g,by rwa[Zg],fun p ν=>Xr _ _ _⟩;exact⟨u,k,g,(QaD j).1,(QaD j).2⟩
def Quc [Dr] {s q j sz:Nat} {x A y t} (J:Inv num N w0 m0 T β0 σ a w m β ν) (ho:o.op= .store t (.tmp q) y) (hs:YJ P t sz=true) (W:okO num x y=true)
  (hp:Sx a q s j\/(q=s/\j=0)) (k:Qk K (.stn s j sz x A) σ=some (v,σ1)) (h: ∀w' m' β' ν',Inv num N w0 m0 T β0 σ1 a w' m' β' ν'->v= .undef->next (a.put o.dst undef) w'):
  o.wp P a w next Q:=by
 simp only[Qk]at k;split at k;rename_i cs l;rcases M:cellsOf (val σ.env x)with _ | L;rw[M]at k;cases k;rw[M]at k;simp only[QO]at k;split at k;rename_i Y;cases k;obtain⟨U,hl⟩:=Y;obtain⟨_,O,z⟩:=V6 M ((J.val W (TW M)).1);obtain⟨b0,cur0,e0,d,hq,hb0,hz0,X⟩:=J.box_at l hp;obtain⟨b,cur,e,V,hb,C,r,E⟩:=J.setBox (cs':=put cs j (UQ L A)) s l d;cases V;refine Rz (Nh ho hq (UT (w:=w) (off:=j) hs hb (O.trans U) (by omega) (JT O z))) (h _ m β _ (E id _ (fun _=>rfl) (fun _ _=>rfl) (fun _=>rfl) (fun _ _=>rfl) ?_ ?_) rfl);exact(R4 (vs:=UQ L A) (GN C.symm) (by rwa[Ul]) (by rw[OY,O,Ul]) (R:=fun _ _ _=>True) (S:=fun _ _ _=>True) (fun i c f=>by obtain⟨u,g,_⟩:=r i c f;exact⟨u,g,trivial⟩) (fun i c f=>by obtain⟨u,g,_⟩:=Dp L A (fun i c f=>z i c f) i c f;exact⟨u,by simpa using g,trivial⟩)).1.trans (by rwa[PI _ _ _ (by rwa[Ul])]);intro i c f;obtain⟨u,g1,g2⟩:=(R4 (vs:=UQ L A) (GN C.symm) (by rwa[Ul]) (by rw[OY,O,Ul]) (R:=fun i c u=>u.oneCell'=true/\Qh num β w m c u/\Yr w m ν (.c s i) c u) (S:=fun _ c u=>u.oneCell'=true/\Qh num β w m c u/\∀p,Yr w m ν p c u) r (fun i c f=>by obtain⟨u,g,G,B,H⟩:=Dp L A (fun i c f=>z i c f) i c f;exact⟨u,by simpa using g,G,B,fun p=>H p ν⟩)).2 i c f;refine⟨u,g1,?_⟩;have D:ν b0≠some (.c s i):=by obtain⟨_,h2⟩:=J.at_ (n:=s) (by rw[l];simp);have h3:=J.slots s _ h2;rw[l]at h3;obtain⟨b2,I,_,_,_,_,_,Z,_⟩:=h3;rw[h2]at d;injection d with d;rw[I]at d;cases d;rw[Z];simp
 rcases g2 with⟨G,B,H⟩ | ⟨_,_,G,B,H⟩;exact⟨G,B,_,H,rfl,D⟩;exact⟨G,B,.c s i,H _,rfl,D⟩;cases k;cases k
def Xy:=@List.length_nil
def Qfv [Dr] {p sz:Nat} {x y t} (I:Inv num N w0 m0 T β0 σ a w m β ν) (ho:o.op= .store t (.tmp p) y) (hs:YJ P t sz=true) (Z:okO num x y=true)
  (f:Qk K (.st p sz x) σ=some (v,σ1)) (h: ∀w' m' Y V,Inv num N w0 m0 T β0 σ1 a w' m' Y V->v= .undef->next (a.put o.dst undef) w'):
  o.wp P a w next Q:=by
 simp only[Qk]at f;split at f;rename_i s D B;rcases j:σ.bs[s]? with _ | L;rw[j]at f;cases f;rw[j]at f;simp only[QO]at f;rcases U:cellsOf (val σ.env x)with _ | vs;rw[U]at f;cases f;rw[U]at f;simp only[QO]at f;split at f;rename_i W;cases f;obtain⟨hz1,H,h0⟩:=W;obtain⟨_,M,q⟩:=V6 U ((I.val Z (TW U)).1);obtain⟨_,h2⟩:=I.at_ (n:=p) (by rw[B];simp);have J:=I.slots p _ h2;rw[B]at J;obtain⟨J,_⟩:=J;simp only[Qh]at J;obtain⟨⟨b,z,mp⟩,X,h5⟩:=J;have l:L≠[]:=fun e=>by rw[e]at H;simp only[Xy]at H;omega
 obtain⟨cur,e,hb,⟨E,hzl⟩,k,C⟩:=I.setG (cs':=put L D (vs.map AV.strip)) s j X l;simp only at hb E hzl;refine Rz (Nh ho h5 (UT (w:=w) (off:=D) hs hb (M.trans hz1) (by omega) (JT M q))) (h _ m β _ (C id _ (fun _=>rfl) (fun _ _=>rfl) (fun _=>rfl) (fun _ _=>rfl) ?_ ?_ ?_) rfl);exact(R4 (cs:=L) (vs:=vs.map AV.strip) (by omega) (by simpa using H) (by rw[OY,M];simp) (R:=fun _ _ _=>True) (S:=fun _ _ _=>True) (fun i c r=>by obtain⟨u,g,_⟩:=k i c r;exact⟨u,g,trivial⟩) (fun i c r=>by obtain⟨d,hd,_⟩:=ZE r;obtain⟨u,g,_⟩:=q i d hd;exact⟨u,by simpa using g,trivial⟩)).1.trans E;rwa[PI _ _ _ (by simpa using H)];intro i c r;obtain⟨u,g1,g2⟩:=(R4 (vs:=vs.map AV.strip) (by omega) (by simpa using H) (by rw[OY,M];simp) (R:=fun i c u=>u.oneCell'=true/\Qh num β w m c u/\Yr w m ν (.gc s i) c u) (S:=fun _ c u=>u.oneCell'=true/\Qh num β w m c u/\∀p,Yr w m ν p c u) k (fun i c r=>by obtain⟨d,hd,rfl⟩:=ZE r;obtain⟨u,g,A,O⟩:=q i d hd;exact⟨u,by simpa using g,A,by rwa[Zg],fun p=>Xr _ _ _⟩)).2 i c r;refine⟨u,g1,?_⟩;have G:ν b≠some (.gc s i):=by obtain⟨_,_,_,_,_,hν,_⟩:=(I.boxes s L _ j X.1 l).1 X.2;rw[hν];simp
 rcases g2 with⟨A,O,k3⟩ | ⟨_,_,A,O,k3⟩;exact⟨A,O,_,k3,rfl,G⟩;exact⟨A,O,.gc s i,k3 _,rfl,G⟩;cases f;cases f
def Pg:=@List.length_singleton
def QpV [Dr] {s q g n:Nat} {t} (G:Inv num N w0 m0 T β0 σ a w m β ν) (ho:o.op= .store t (.tmp q) (.tmp n)) (hs:YJ P t 1=true)
  (hp:Sx a q s g\/(q=s/\g=0)) (y:Qk K (.stfm s g n) σ=some (v,σ1)) (h: ∀w' m' L H,Inv num N w0 m0 T β0 σ1 a w' m' L H->v= .undef->next (a.put o.dst undef) w'):
  o.wp P a w next Q:=by
 simp only[Qk]at y;split at y;rename_i W U;split at y;rename_i I;cases y;obtain⟨V,k,hl⟩:=I;obtain⟨_,O⟩:=G.at_ (n:=n) (fun e=>by rw[e]at k;cases k);have p:=G.slots n _ O;rw[Zr (Nc k)]at p;have x:=G.takeSlot n;have j: ({σ with env:=upd σ.env n .undef}:St).env s= .bx W:=by simp only[upd];rwa[Qb V]
 obtain⟨b0,cur0,e0,d,hq,hb0,hz0,J⟩:=G.box_at U hp;obtain⟨b,cur,e,M,hb,R,C,B⟩:=x.setBox (cs':=W.set g (σ.env n)) s j d;cases M;have D: (a.eval (.tmp n)).oneCell'=true:=NB k p.1;have l: (a.eval (.tmp n)).cells= #[a.eval (.tmp n)]:=by cases hu:a.eval (.tmp n) <;> first | rfl | rw[hu]at D;simp[Value.oneCell']at D
 have r:Xj ν (mv (.s n) .f) b0=some (.s s):=by obtain⟨_,Y⟩:=x.at_ (n:=s) (by rw[j];simp);have X:=x.slots s _ Y;rw[j]at X;obtain⟨b2,A,_,_,_,_,_,S,_⟩:=X;rw[Y]at d;injection d with d;rw[A]at d;cases d;exact S
 refine Rz (Nh ho hq (UT (w:=w) (off:=g) hs hb (u:=a.eval (.tmp n)) (by rw[l];rfl) (by omega) (by rw[l];simpa using D))) (h _ m β _ (B (mv .f (.c s g)) _ (fun _=>by simp[mv]) (fun _ _=>by simp[mv]) (fun _=>by simp[mv]) (fun _ _=>by simp[mv]) ?_ ?_) rfl);rw[l,VW,Td _ _ _ (by simp;omega)];simpa using R;intro i c E;rw[l,S2,W8 _ _ _ (by simp;omega)];rw[Qy]at E;split at E;rename_i z;subst z;cases E;refine⟨a.eval (.tmp n),by rw[Qb (by omega),Qe (by simp)];simp,D,p.1,.f,(by have:=UU (θ:=mv (.s n) .f) p.2;rwa[show mv (.s n) .f (.s n)= .f by simp[mv]]at this),by simp[mv],by rw[r];simp⟩;rename_i z;obtain⟨u,Z,g2,g3,g4⟩:=C i c E;refine⟨u,?_,g2,g3,.c s i,g4,by simp[mv],by rw[r];simp⟩;simp only[Pg];split;simpa using Z;rw[Qb (by omega)];simpa using Z;cases y;cases y
def Qub [Dr] {p n:Nat} {t} (E:Inv num N w0 m0 T β0 σ a w m β ν) (ho:o.op= .store t (.tmp p) (.tmp n)) (hs:YJ P t 1=true)
  (d:Qk K (.stm p n) σ=some (v,σ1)) (h: ∀w' m' S U,Inv num N w0 m0 T β0 σ1 a w' m' S U->v= .undef->next (a.put o.dst undef) w'):
  o.wp P a w next Q:=by
 simp only[Qk]at d;split at d;rename_i A y I;rcases q:σ.bs[A]? with _ | V;rw[q]at d;cases d;rw[q]at d;simp only[QO]at d;split at d;rename_i R;cases d;obtain⟨k,Z⟩:=R;obtain⟨_,W⟩:=E.at_ (n:=n) (fun e=>by rw[e]at k;cases k);have j:=E.slots n _ W;rw[Zr (Nc k)]at j;obtain⟨_,h2⟩:=E.at_ (n:=p) (by rw[I];simp);have D:=E.slots p _ h2;rw[I]at D;obtain⟨D,_⟩:=D;simp only[Qh]at D;obtain⟨⟨b,z,mp⟩,Y,h5⟩:=D;have L:=E.takeSlot n;have x:V≠[]:=fun e=>by rw[e]at Z;simp at Z
 obtain⟨cur,e,hb,⟨B,C⟩,J,H⟩:=L.setG (cs':=V.set y (σ.env n)) A q Y x;simp only at hb B C;have O: (a.eval (.tmp n)).oneCell'=true:=NB k j.1;have l: (a.eval (.tmp n)).cells= #[a.eval (.tmp n)]:=by cases hu:a.eval (.tmp n) <;> first | rfl | rw[hu]at O;simp[Value.oneCell']at O
 have r:Xj ν (mv (.s n) .f) b=some (.g A):=by obtain⟨_,_,_,_,_,X,_⟩:=(L.boxes A V _ q Y.1 x).1 Y.2;exact X
 refine Rz (Nh ho h5 (UT (w:=w) (off:=y) hs hb (u:=a.eval (.tmp n)) (by rw[l];rfl) (by omega) (by rw[l];simpa using O))) (h _ m β _ (H (mv .f (.gc A y)) _ (fun _=>by simp[mv]) (fun _ _=>by simp[mv]) (fun _=>by simp[mv]) (fun _ _=>by simp[mv]) ?_ ?_ ?_) rfl);rw[l,VW,Td _ _ _ (by simp;omega)];simpa using B;simpa using C;intro i c M;rw[l,S2,W8 _ _ _ (by simp;omega)];rw[Qy]at M;split at M;rename_i G;subst G;cases M;refine⟨a.eval (.tmp n),by rw[Qb (by omega),Qe (by simp)];simp,O,j.1,.f,(by have:=UU (θ:=mv (.s n) .f) j.2;rwa[show mv (.s n) .f (.s n)= .f by simp[mv]]at this),by simp[mv],by rw[r];simp⟩;rename_i G;obtain⟨u,g1,g2,g3,g4⟩:=J i c M;refine⟨u,?_,g2,g3,.gc A i,g4,by simp[mv],by rw[r];simp⟩;simp only[Pg];split;simpa using g1;rw[Qb (by omega)];simpa using g1;cases d;cases d
end
end Go.Am
namespace Go.Am
def D8 (P:Program) (t:TypeId):Bool:=match P.underlying t with
 | some .bool=>true
 | _=>false
def It (P:Program) (t:TypeId):Bool:=match P.underlying t with
 | some .string=>true
 | _=>false
def slT (P:Program) (t:TypeId):Bool:=match P.underlying t with
 | some (.slice _)=>true
 | _=>false
def Uj (P:Program) (t:TypeId) (sz:Nat):Bool:=match P.underlying t with
 | some (.slice e)=>YJ P e sz
 | _=>false
def QlW (P:Program) (src dst:TypeId) (k:IntKind):Bool:=match P.underlying src,P.underlying dst with
 | some _,some (.int k')=>decide (k=k')
 | _,_=>false
def QkT {P t} (h:D8 P t=true):P.underlying t=some .bool:=by
 unfold D8 at h;grind
def EF {P t} (h:It P t=true):P.underlying t=some .string:=by
 unfold It at h;grind
def Qbo {P t} (h:slT P t=true): ∃e,P.underlying t=some (.slice e):=by
 unfold slT at h;grind
section
variable {P:Program} {num:Nat->Option Nat} {β:List Blk} {w w':World} {m:Nat->Nat} {ν:Own} {N:Nat} {w0:World} {m0:Nat->Nat} {T:Nat->Prop} {β0:List Blk} {σ σ1:St} {a:Act}
 {o:Oper} {next:Act->World->Prop} {Q:Exit->Act->World->Prop} {K:Vd} {v:AV}
def QnS {b X Y} (h:Qn b X Y=some v):X.ok=true/\Y.ok=true:=by
 unfold Qn at h;split at h <;> first | exact⟨rfl,rfl⟩ | cases h
def QkH {d X Y u c t xo yo} (h:Qn d X Y=some v) (e:Qh num β w m X u) (f:Qh num β w m Y c):
  ∃r,((do eqGuard d t xo yo u c;binOp d t u c):Sem Value).run P w= .ok r w/\v.ok=true/\Qh num β w m v r/\∀p,Yr w m ν p v r:=by
 unfold Qn at h;split at h <;> (try simp only[Qh]at e f) <;> (try subst e) <;> (try subst f);all_goals try cases h;done
 all_goals try split at h
 all_goals try cases h;done
 all_goals cases h
 all_goals first | rename_i b;refine⟨_,?_,rfl,by simp only[toI,Qh];rfl,fun _=>trivial⟩;simp[go_sem,shift_shr_any _ _ _ _ b];done | rename_i b;refine⟨_,?_,rfl,by simp only[toI,Qh];rfl,fun _=>trivial⟩;simp[go_sem,shift_shl_any _ _ _ _ b];done | rename_i b;obtain⟨rfl,g⟩:=b;refine⟨_,?_,rfl,by simp only[toI,Qh];rfl,fun _=>trivial⟩;simp[go_sem,Op.intDiv,g];done | rename_i b;subst b;refine⟨_,?_,rfl,by simp only[toI,Qh];rfl,fun _=>trivial⟩;simp[go_sem,Op.intArith];done | rename_i b;subst b;refine⟨_,?_,rfl,by simp only[toI,Qh];rfl,fun _=>trivial⟩;simp[go_sem,Op.intBits];done | rename_i b;refine⟨_,?_,rfl,by simp only[Qh];rfl,fun _=>trivial⟩;simp[go_sem,binOp,Op.stringOp];rw[Qb (by omega),ByteArray.mk_append_mk];done | refine⟨_,?_,rfl,by simp only[Qh];rfl,fun _=>trivial⟩;simp[go_sem,binOp,Op.stringOp];done
def QtU [Dr] {b x y g e t A} (d:Inv num N w0 m0 T β0 σ a w m β ν) (z:o.op= .binOp b t g e A) (s:okO num x g=true) (q:okO num y e=true)
  (f:Qk K (.bin b x y) σ=some (v,σ1)) (h:Aft num N w0 m0 T β0 σ1 a v fun u w'=>next (a.put o.dst u) w'):o.wp P a w next Q:=by
 simp only[Qk]at f;rcases c:Qn b (val σ.env x) (val σ.env y)with _ | B;grind;rw[c]at f;cases f;obtain⟨l,n⟩:=QnS c;obtain⟨r,i,p,j,k⟩:=QkH (P:=P) (ν:=ν) (t:=t) (xo:=g) (yo:=e) c (d.val s l).1 (d.val q n).1;refine QE (u:=r) (w':=w) ?_ (h.same d p j (k _));simp only[execOp,z,Sem.run_bind]at i ⊢;simp_all
def QtX [Dr] {e:Bool} {x y p l t C} (i:Inv num N w0 m0 T β0 σ a w m β ν) (f:o.op= .binOp (if e then .neq else .eql) t p l C) (r:D8 P t=true) (s:okO num x p=true) (z:okO num y l=true)
  (j:Qk K (.eqb e x y) σ=some (v,σ1)) (h:Aft num N w0 m0 T β0 σ1 a v fun u w'=>next (a.put o.dst u) w'):o.wp P a w next Q:=by
 simp only[Qk]at j;split at j;rename_i A B k n;cases j;have c:=(i.val s (by rw[k];rfl)).1;have g:=(i.val z (by rw[n];rfl)).1;rw[k]at c;rw[n]at g;simp only[Qh]at c g;refine QE (u:= .bool (if e then !(A == B)else A == B)) (w':=w) ?_ (h.same i rfl (by simp only[Qh]) trivial);have q: ∀d,(Op.equalIn (d+1) t (.bool A) (.bool B)).run P w= .ok (A == B) w:=fun d=>by simp only[Op.equalIn,Sem.run_bind,run_underlying (QkT r),Result.andThen_ok,Sem.run_pure]
 have b: (Op.equal t (.bool A) (.bool B)).run P w= .ok (A == B) w:=q 9999;cases e;simp only[Xn,ZT]at f ⊢;simp only[execOp,f,c,g,eqGuard_at_bool,binOp,Sem.run_bind,Sem.run_pure,Result.andThen_ok,b];simp only[QT]at f ⊢;simp only[execOp,f,c,g,eqGuard_at_bool,binOp,Sem.run_bind,Sem.run_pure,Result.andThen_ok,b];grind
def K4 (w t e a l c) (h:P.underlying t=some (.slice e)): (Op.equal t (.slice a l c) (.slice none 0 0)).run P w= .ok a.isNone w:=by
 have: ∀d,(Op.equalIn (d+1) t (.slice a l c) (.slice none 0 0)).run P w= .ok a.isNone w:=fun d=>by cases a <;> simp[Op.equalIn,run_underlying h]
 exact this 9999
def Qt1 [Dr] {n:Bool} {x p t B} (j:Inv num N w0 m0 T β0 σ a w m β ν) (l:o.op= .binOp (if n then .neq else .eql) t p (.const (.slice none 0 0)) B) (D:slT P t=true) (r:okO num x p=true)
  (k:Qk K (.isn n x) σ=some (v,σ1)) (h:Aft num N w0 m0 T β0 σ1 a v fun u w'=>next (a.put o.dst u) w'):o.wp P a w next Q:=by
 obtain⟨e,y⟩:=Qbo D;have i: ∀A d c,a.eval p= .slice A d c->(execOp a.eval o).run P w= .ok (.value (.bool (if n then !A.isNone else A.isNone))) w:=fun A d c g=>by have s:a.eval (.const (.slice none 0 0))= .slice none 0 0:=rfl;cases n;simp only[Xn,ZT]at l ⊢;simp only[execOp,l,g,s,eqGuard_at_slice,binOp,Sem.run_bind,Sem.run_pure,Result.andThen_ok,K4 w t e A d c y];simp only[QT]at l ⊢;simp only[execOp,l,g,s,eqGuard_at_slice,binOp,Sem.run_bind,Sem.run_pure,Result.andThen_ok,K4 w t e A d c y]
 simp only[Qk]at k;split at k;rename_i z C g;cases k;have f:=(j.val r (by rw[g];rfl)).1;rw[g]at f;simp only[Qh]at f;obtain⟨A,d,c,f,_⟩:=f;exact QE (i A d c f) (h.same j rfl (by simp only[Qh];simp) trivial);rename_i z C G E g;cases k;have f:=(j.val r (by rw[g];rfl)).1;rw[g]at f;simp only[Qh]at f;obtain⟨A,d,c,f,_,_,_,q⟩:=f;rcases q with q | ⟨b,H,rfl,_⟩;grind;refine QE (i _ d c f) (h.same j rfl (by simp only[Qh];simp) trivial);grind
def Qv2 [Dr] {g x p t} (f:Inv num N w0 m0 T β0 σ a w m β ν) (l:o.op= .unOp g t p) (j:okO num x p=true)
  (i:Qk K (.un g x) σ=some (v,σ1)) (h:Aft num N w0 m0 T β0 σ1 a v fun u w'=>next (a.put o.dst u) w'):o.wp P a w next Q:=by
 simp only[Qk]at i;rcases e:aun g (val σ.env x)with _ | q;grind;rw[e]at i;cases i;unfold aun at e;split at e;rename_i b d;cases e;have c:=(f.val j (by rw[d];rfl)).1;rw[d]at c;simp only[Qh]at c;exact QE (u:= .bool !b) (w':=w) (by simp[execOp,l,c,Op.unary]) (h.same f rfl (by simp only[Qh]) trivial);rename_i k n d;cases e;have c:=(f.val j (by rw[d];rfl)).1;rw[d]at c;simp only[Qh]at c;exact QE (u:= .int k (k.wrap (0 - n))) (w':=w) (by simp[execOp,l,c,Op.unary,Op.intArith]) (h.same f rfl (by simp only[toI,Qh]) trivial);grind
def QpC [Dr] {k x p t i} (l:Inv num N w0 m0 T β0 σ a w m β ν) (q:o.op= .convert t i p) (b:QlW P t i k=true) (r:okO num x p=true)
  (f:Qk K (.conv k x) σ=some (v,σ1)) (h:Aft num N w0 m0 T β0 σ1 a v fun u w'=>next (a.put o.dst u) w'):o.wp P a w next Q:=by
 simp only[Qk]at f;split at f;rename_i s n j;cases f;have c:=(l.val r (by rw[j];rfl)).1;rw[j]at c;simp only[Qh]at c;unfold QlW at b;split at b;rename_i d y e g;simp only[QM]at b;subst b;refine QE (u:= .int k (k.wrap n)) (w':=w) ?_ (h.same l rfl (by simp only[toI,Qh]) trivial);simp[execOp,q,c,convert,run_underlying e,run_underlying g,Conv.intToInt];grind;grind
def QpM [Dr] {x e t} (d:Inv num N w0 m0 T β0 σ a w m β ν) (g:o.op= .call {callee:= .builtin .len,args:= #[e],argTypes:= #[t]}) (i:It P t=true) (j:okO num x e=true)
  (b:Qk K (.lens x) σ=some (v,σ1)) (h:Aft num N w0 m0 T β0 σ1 a v fun u w'=>next (a.put o.dst u) w'):o.wp P a w next Q:=by
 simp only[Qk]at b;split at b;rename_i s f;cases b;have c:=(d.val j (by rw[f];rfl)).1;rw[f]at c;simp only[Qh]at c;refine QE (u:= .int .i64 s.length) (w':=w) ?_ (h.same d rfl (by simp only[Qh]) trivial);simp[execOp,g,resolve,invoke,builtin,c,Builtin.len_,run_underlying (EF i),goInt,ByteArray.size_mk'];grind
def QpL [Dr] {x x' t} (hI:Inv num N w0 m0 T β0 σ a w m β ν) (ho:o.op= .call {callee:= .builtin .len,args:= #[x'],argTypes:= #[t]}) (ht:slT P t=true) (hx:okO num x x'=true)
  (he:Qk K (.lenl x) σ=some (v,σ1)) (h:Aft num N w0 m0 T β0 σ1 a v fun u w'=>next (a.put o.dst u) w'):o.wp P a w next Q:=by
 simp only[Qk]at he;split at he;rename_i o2 sz xs hb;cases he;have g1:=(hI.val hx (by rw[hb];rfl)).1;rw[hb]at g1;simp only[Qh]at g1;obtain⟨a2,len,cap,g1,g2,_⟩:=g1;obtain⟨e,hu⟩:=Qbo ht;refine QE (u:= .int .i64 xs.length) (w':=w) ?_ (h.same hI rfl (by simp only[Qh]) trivial);simp[execOp,ho,resolve,invoke,builtin,g1,Builtin.len_,run_underlying hu,goInt,g2];rename_i id off sz n hb;cases he;have g1:=(hI.val hx (by rw[hb];rfl)).1;rw[hb]at g1;simp only[Qh]at g1;obtain⟨a2,cap,g1,g2,_⟩:=g1;obtain⟨e,hu⟩:=Qbo ht;refine QE (u:= .int .i64 n) (w':=w) ?_ (h.same hI rfl (by simp only[Qh]) trivial);simp[execOp,ho,resolve,invoke,builtin,g1,Builtin.len_,run_underlying hu,goInt];grind
def Qv1 [Dr] {x y j g q} (e:Inv num N w0 m0 T β0 σ a w m β ν) (l:o.op= .call {callee:= .builtin .max,args:= #[j,g],argTypes:=q}) (p:okO num x j=true) (n:okO num y g=true)
  (b:Qk K (.mx x y) σ=some (v,σ1)) (h:Aft num N w0 m0 T β0 σ1 a v fun u w'=>next (a.put o.dst u) w'):o.wp P a w next Q:=by
 simp only[Qk]at b;split at b;rename_i k A s B f i;split at b;rename_i r;subst r;cases b;have c:=(e.val p (by rw[f];rfl)).1;have d:=(e.val n (by rw[i];rfl)).1;rw[f]at c;rw[i]at d;simp only[Qh]at c d;refine QE (u:= .int k (if B > A then B else A)) (w':=w) ?_ (h.same e rfl (by simp only[Qh]) trivial);simp[execOp,l,resolve,invoke,builtin,c,d,Builtin.max_,Builtin.max2];grind;grind
def Qv0 [Dr] {x y j g q} (e:Inv num N w0 m0 T β0 σ a w m β ν) (l:o.op= .call {callee:= .builtin .min,args:= #[j,g],argTypes:=q}) (p:okO num x j=true) (n:okO num y g=true)
  (b:Qk K (.mn x y) σ=some (v,σ1)) (h:Aft num N w0 m0 T β0 σ1 a v fun u w'=>next (a.put o.dst u) w'):o.wp P a w next Q:=by
 simp only[Qk]at b;split at b;rename_i k A s B f i;split at b;rename_i r;subst r;cases b;have c:=(e.val p (by rw[f];rfl)).1;have d:=(e.val n (by rw[i];rfl)).1;rw[f]at c;rw[i]at d;simp only[Qh]at c d;refine QE (u:= .int k (if B < A then B else A)) (w':=w) ?_ (h.same e rfl (by simp only[Qh]) trivial);simp[execOp,l,resolve,invoke,builtin,c,d,Builtin.min_,Builtin.min2];grind;grind
def QpI [Dr] {L x i O H t} (p:Inv num N w0 m0 T β0 σ a w m β ν) (M:o.op= .indexAddr t O H) (l:Uj P t L=true) (R:okO num x O=true) (I:okO num i H=true)
  (j:Qk K (.idxa L x i) σ=some (v,σ1)) (h:Aft num N w0 m0 T β0 σ1 a v fun u w'=>next (a.put o.dst u) w'):o.wp P a w next Q:=by
 simp only[Qk]at j;split at j;rename_i Y g J k n r q;split at j;rename_i y;obtain⟨rfl,U⟩:=y;rcases s:J[n.toNat]? with _ | e;grind;rw[s]at j;cases j;have c:=(p.val R (by rw[r];rfl)).1;have f:=(p.val I (by rw[q];rfl)).1;rw[r]at c;rw[q]at f;simp only[Qh]at c f;obtain⟨X,B,E,c,g3,_,_,d⟩:=c;have A:n.toNat < J.length:=by grind
 rcases d with d | ⟨b,z,d,D⟩;grind;rw[Vk]at D;obtain⟨_,g6⟩:=D _ e s;unfold Uj at l;split at l;rename_i V G;refine QE (u:= .pointer (some ⟨b,z+n.toNat* g,none⟩)) (w':=w) ?_ (h.same p rfl (by simp only[Qh];grind) trivial);have C:0<=n/\n < (B:Int):=by omega
 simp[execOp,M,c,f,Instr.indexAt,asIntOf,run_underlying G,d,C,Yp l,Wf];grind;grind;rename_i Z z g S k n r q;split at j;rename_i y;obtain⟨rfl,U,A⟩:=y;cases j;have c:=(p.val R (by rw[r];rfl)).1;have f:=(p.val I (by rw[q];rfl)).1;rw[r]at c;rw[q]at f;simp only[Qh]at c f;obtain⟨X,E,c,_,_,d⟩:=c;rcases d with d | ⟨W,d,rfl,D⟩;omega;unfold Uj at l;split at l;rename_i V G;refine QE (u:= .pointer (some ⟨W.b,z+n.toNat* g,none⟩)) (w':=w) ?_ (h.same p rfl (by simp only[Qh];grind) trivial);have C:0<=n/\n < (S:Int):=by omega
 simp[execOp,M,c,f,Instr.indexAt,asIntOf,run_underlying G,C,Yp l,Wf];grind;grind;grind
def Qt0 [Dr] {x i r q t} (f:Inv num N w0 m0 T β0 σ a w m β ν) (B:o.op= .index t r q) (A:It P t=true) (z:okO num x r=true) (D:okO num i q=true)
  (d:Qk K (.idx x i) σ=some (v,σ1)) (h:Aft num N w0 m0 T β0 σ1 a v fun u w'=>next (a.put o.dst u) w'):o.wp P a w next Q:=by
 simp only[Qk]at d;split at d;rename_i s k n p l;split at d;rename_i y;rcases b:s[n.toNat]? with _ | e;grind;rw[b]at d;cases d;have j:=(f.val z (by rw[p];rfl)).1;have g:=(f.val D (by rw[l];rfl)).1;rw[p]at j;rw[l]at g;simp only[Qh]at j g;have c:n.toNat < s.length:=by grind
 have C: (⟨s.toArray⟩:ByteArray)[n.toNat]? =some e:=by rw[ByteArray.getElem?_lt' _ _ (by simpa[ByteArray.size]using c)];rw[Q0 c]at b;injection b with b;rw[<- b];rfl
 refine QE (u:= .int .u8 e.toNat) (w':=w) ?_ (h.same f rfl (by simp only[Qh]) trivial);simp[execOp,B,j,g,Instr.index,asIntOf,run_underlying (EF A),y,C];grind;grind
def QpQ [Dr] {c x y n i j} (b:Inv num N w0 m0 T β0 σ a w m β ν) (p:o.op= .pick n i j) (l:okO num c n=true) (k:okO num x i=true) (q:okO num y j=true)
  (f:Qk K (.pick c x y) σ=some (v,σ1)) (h:Aft num N w0 m0 T β0 σ1 a v fun u w'=>next (a.put o.dst u) w'):o.wp P a w next Q:=by
 simp only[Qk]at f;split at f;rename_i g;have d:=(b.val l (by rw[g];rfl)).1;rw[g]at d;simp only[Qh]at d;split at f;rename_i e;cases f;exact QE (u:=a.eval i) (w':=w) (by simp[execOp,p,d,asBool]) (h.same b e (b.val k e).1 ((b.val k e).2 _));grind;rename_i g;have d:=(b.val l (by rw[g];rfl)).1;rw[g]at d;simp only[Qh]at d;split at f;rename_i e;cases f;exact QE (u:=a.eval j) (w':=w) (by simp[execOp,p,d,asBool]) (h.same b e (b.val q e).1 ((b.val q e).2 _));grind;grind
def QtY [Dr] {x i l} (f:Inv num N w0 m0 T β0 σ a w m β ν) (p:o.op= .extract l i) (n:okO num x l=true)
  (b:Qk K (.ext x i) σ=some (v,σ1)) (h:Aft num N w0 m0 T β0 σ1 a v fun u w'=>next (a.put o.dst u) w'):o.wp P a w next Q:=by
 simp only[Qk]at b;split at b;rename_i q k;have d:=(f.val n (by rw[k];rfl)).1;rw[k]at d;simp only[Qh]at d;obtain⟨t,d,y,g⟩:=d;rcases e:q[i]? with _ | c;grind;rw[e]at b;simp only[QO]at b;split at b;rename_i r;cases b;rw[N5]at g;obtain⟨u,j,s⟩:=g i c e;rw[Z1]at j;exact QE (u:=u) (w':=w) (by simp[execOp,p,d,Instr.extract,j]) (h.same f (by rwa[MD]) (by simp_all) (Xr _ _ _));grind;grind
def QlC [Dr] {x j} (e:Inv num N w0 m0 T β0 σ a w m β ν) (n:o.op= .nilCheck j) (l:okO num x j=true)
  (k:Qk K (.nilck x) σ=some (v,σ1)) (h:Aft num N w0 m0 T β0 σ1 a v fun u w'=>next (a.put o.dst u) w'):o.wp P a w next Q:=by
 simp only[Qk]at k;split at k;rename_i f r d;cases k;have c:=(e.val l (by rw[d];rfl)).1;rw[d]at c;have p:=c;simp only[Qh]at c;obtain⟨g,s,_,c,_⟩:=c;refine QE (u:=a.eval j) (w':=w) (by simp[execOp,n,c]) (h.same e (by rw[d];rfl) (by grind) (by rw[d];exact trivial));rename_i i q d;cases k;have c:=(e.val l (by rw[d];rfl)).1;rw[d]at c;have p:=c;simp only[Qh]at c;obtain⟨b,_,c⟩:=c;refine QE (u:=a.eval j) (w':=w) (by simp[execOp,n,c]) (h.same e (by rw[d];rfl) (by grind) (by rw[d];exact trivial));rename_i r d;cases k;have c:=(e.val l (by rw[d];rfl)).1;rw[d]at c;have p:=c;simp only[Qh]at c;obtain⟨b,q,c,_⟩:=c;refine QE (u:=a.eval j) (w':=w) (by simp[execOp,n,c]) (h.same e (by rw[d];rfl) (by grind) (by rw[d];exact trivial));grind
end
end Go.Am
namespace Go.Am
def Us (num:WL):Option AO->Option Operand->Bool
 | none,none=>true
 | some x,some y=>okO num x y
 | _,_=>false
section
variable {P:Program} {num:Nat->Option Nat} {β:List Blk} {w w':World} {m:Nat->Nat} {ν:Own} {N:Nat} {w0:World} {m0:Nat->Nat} {T:Nat->Prop} {β0:List Blk} {σ σ1:St} {a:Act}
 {o:Oper} {next:Act->World->Prop} {Q:Exit->Act->World->Prop} {K:Vd} {v:AV}
def O3:=@List.foldl_cons
def AX (b): ∀(d:WM) k (c:Vw),b+k+d.length<=c.size->
  ((d.zipIdx k).foldl (fun c (p:Value×Nat)=>c.setIfInBounds (b+p.2) p.1) c).size=c.size/\
  ∀i,((d.zipIdx k).foldl (fun c (p:Value×Nat)=>c.setIfInBounds (b+p.2) p.1) c)[i]? =if b+k<=i/\i < b+k+d.length then d[i - (b+k)]? else c[i]?
 | [],k,c,_=>⟨rfl,fun i=>by rw[Qb (by simp)];rfl⟩
 | v:: d,k,c,h=>by
  simp only[ZH]at h;have g:=AX b d (k+1) (c.setIfInBounds (b+k) v) (by grind);simp only[List.zipIdx_cons,O3];refine⟨by grind,fun i=> ?_⟩;rw[g.2 i];by_cases e:b+ (k+1)<=i/\i < b+ (k+1)+d.length;rw[Qe e,Qe (by grind)];rw[show i - (b+k)=(i - (b+ (k+1)))+1 by omega];rfl;rw[Qb e];by_cases f:i=b+k;subst f;grind;grind
def J6 [Dr] (b) (u:Vw) (c:Vw) (h:b+u.size<=c.size):
  (u.zipIdx.foldl (fun c (p:Value×Nat)=>c.setIfInBounds (b+p.2) p.1) c).size=c.size/\
  ∀i,(u.zipIdx.foldl (fun c (p:Value×Nat)=>c.setIfInBounds (b+p.2) p.1) c)[i]? =if b<=i/\i < b+u.size then u[i - b]? else c[i]? :=by
 have:=AX b u.toList 0 c (by omega);rw[<- Array.foldl_toList,Array.toList_zipIdx];grind
def Vv:=@List.map_nil
def Jp:=@Nat.add_sub_cancel_left
def Kj [Dr] (hI:Inv num N w0 m0 T β0 σ a w m β ν) (sz n): ∀xs ys k cells vs,
  Wh num xs ys=true->Wl sz (xs.map (Am.val σ.env))=some vs->cells.size=n*sz->k+xs.length=n->
  ∃cells',Instr.fill (fun i=>some (i*sz,sz)) cells ((ys.zipIdx k).map fun p=>(p.2,a.eval p.1))=some cells'/\cells'.size=n*sz/\(∀i,i < k*sz->cells'[i]? =cells[i]?)/\
   ∀i x,vs[i]? =some x->x.length=sz/\∀j c,x[j]? =some c->∃u,cells'[(k+i)*sz+j]? =some u/\u.oneCell'=true/\Qh num β w m c u
 | [],[],k,cells,vs,_,hv,hc,_=>by
  simp only[Vv,Wl]at hv;cases hv;exact⟨cells,rfl,hc,fun _ _=>rfl,fun i x h=>by grind⟩
 | x:: xs,y:: ys,k,cells,vs,ho,hv,hc,hk=>by
  simp only[Wh,Qr]at ho;simp only[ZI,Wl]at hv;split at hv;rename_i e es he hes;split at hv;rename_i hl;cases hv;obtain⟨_,hz,hcs⟩:=V6 he ((hI.val ho.1 (TW he)).1);simp only[ZH]at hk;have hle: (k+1)*sz<=n*sz:=Yy _ (by omega);rw[U6]at hle;have hp:=J6 (k*sz) (a.eval y).cells cells (by omega);obtain⟨cells',f1,f2,f3,f4⟩:=Kj hI sz n xs ys (k+1) _ es ho.2 hes (hp.1.trans hc) (by omega);refine⟨cells',?_,f2,fun i hi=> ?_,fun i z hz2=> ?_⟩;simp only[List.zipIdx_cons,ZI,Instr.fill];grind;grind;cases i with | zero=>simp at hz2;subst hz2;refine⟨by grind,fun j c hj=> ?_⟩;obtain⟨d,hd,rfl⟩:=ZE hj;obtain⟨u,g1,g2,g3⟩:=hcs j d hd;(have hjl:j < sz:=by grind);refine⟨u,?_,g2,by rwa[Zg]⟩;rwa[Pn,f3 _ (by grind),hp.2,Qe (by omega),Jp] | succ i=>simp at hz2;have:=f4 i z hz2;rwa[show k+1+i=k+ (i+1) by omega]at this
  grind;grind
 | [],_:: _,_,_,_,h,_,_,_=>by simp[Wh]at h
 | _:: _,[],_,_,_,h,_,_,_=>by simp[Wh]at h
def NE (P:Program) (t:TypeId) (sz n:Nat):Bool:=match P.underlying t with
 | some (.slice e)=>YJ P e sz && (match P.info? e with
  | some i=>i.zero.isSome
  | none=>false) && decide (n*sz<=2 ^ 24) && decide (0 < sz)
 | _=>false
def Gg:=@Option.isSome_iff_exists
def Jq:=@Nat.le_mul_of_pos_right
def QpP [Dr] {g b ps t} (R:Inv num N w0 m0 T β0 σ a w m β ν) (ho:o.op= .buildSlice t ps.length (ps.zipIdx.map fun p=>(p.2,p.1)).toArray)
  (G:NE P t g ps.length=true) (n:Wh num b ps=true)
  (J:Qk K (.mksl g b) σ=some (v,σ1)) (h:Aft num N w0 m0 T β0 σ1 a v fun u w'=>next (a.put o.dst u) w'):o.wp P a w next Q:=by
 simp only[Qk]at J;rcases S:Wl g (b.map (val σ.env))with _ | l;grind;rw[S]at J;cases J;have s: ∀(b:List AO) (ps:List Operand),Wh num b ps=true->b.length=ps.length:=by intro b;induction b with | nil=>intro ps n;cases ps <;> simp[Wh]at n ⊢ | cons x l X=>intro ps n;rcases ps with _ | ⟨y,ys⟩;simp[Wh]at n;simp only[Wh,Qr]at n;grind
 have L: ∀(C:Qx) (l:Qp),Wl g C=some l->l.length=C.length:=by intro C;induction C with | nil=>intro l h;simp[Wl]at h;grind | cons v C X=>intro l h;simp only[Wl]at h;grind
 have hL:=s b ps n;have H:l.length=ps.length:=by grind
 unfold NE at G;split at G;rename_i e Y;simp only[Qr,QM]at G;obtain⟨⟨⟨B,r⟩,M⟩,I⟩:=G;split at r;rename_i i hi;obtain⟨z,hz⟩:=Gg.1 r;have Z:i.size=g:=by unfold YJ at B;grind
 obtain⟨E,k⟩: ∃E:Vw,E=(if ps.length*g=0 then #[]else z.cells):=⟨_,rfl⟩;obtain⟨d,D,f2,_,f4⟩:=Kj R g ps.length b ps 0 ((Array.range (ps.length*g)).map (E[· % E.size]!)) l n S (by simp) (by omega);refine QE (u:= .slice (some ⟨w.heap.size,0,none⟩) ps.length ps.length) (w':=w.alloc (.cells d e)) ?_ ?_;have q: (Array.map (fun x:Nat×Operand=>(x.fst,a.eval x.snd)) (ps.zipIdx.map fun p=>(p.2,p.1)).toArray).toList=(ps.zipIdx 0).map fun p=>(p.2,a.eval p.1):=by simp
 simp only[execOp,ho,Instr.buildSlice,Sem.run_bind,run_underlying Y,Result.andThen_ok,Yp B];rw[Qb (by omega)];by_cases A:ps.length*g=0;rw[Qe A]at k;simp only[A,QT,Sem.run_bind,Sem.run_pure,Result.andThen_ok,q];rw[k,A]at D;rw[D];simp[newRow];rw[Qb A]at k;simp only[A,ZT,Sem.run_pure,Sem.run_bind,Result.andThen_ok,zeroValue,typeInfo,run_program,hi,hz,q];rw[k]at D;rw[D];simp[newRow];refine h _ _ _ β _ (R.fresh d e (ps.length*g) .f) ((Zr rfl).2 ⟨?_,.inr ⟨w.heap.size,ps.length,d,e,by rw[H],heap_alloc_new w _,by rw[f2],by simp[m1,H],by simp[Y0]⟩⟩);simp only[Qh];refine⟨_,_,_,rfl,H,QX _,?_,.inr ⟨w.heap.size,0,rfl,?_⟩⟩;have:ps.length<=2 ^ 24:=Y8 (Jq _ I) M;unfold maxLen;omega;rw[Vk];intro O x V;obtain⟨g1,U⟩:=f4 O x V;refine⟨g1,?_⟩;rw[Y1];intro j c W;obtain⟨u,k1,k2,k3⟩:=U j c W;have hlt:O*g+j < ps.length*g:=by grind
 refine⟨u,?_,k2,ZU (Ge.refl β) (Y2.alloc (fun _=>False) w m d e _).le c u k3⟩;unfold hg;rw[Qe (by simp[m1];omega),cell_of_row _ _ _ d e (0,0) (heap_alloc_new w _)];grind;grind;grind
def GF:=@List.mapM_cons
def K3 {b c:Type} (f:b->Sem c) (g): ∀(l:List b),(∀x∈l,(f x).run P w= .ok (g x) w)->(l.mapM f).run P w= .ok (l.map g) w
 | [],_=>by simp
 | x:: l,h=>by
  rw[GF];simp only[Sem.run_bind,h x (by simp),Result.andThen_ok,K3 f g l (fun y d=>h y (by grind)),Sem.run_pure,ZI]
def QlF (P:Program) (fs:Array Field):Bool:=fs.all fun f=>(P.info? f.type).isSome
def Qjh (P:Program) (fs:Array Field) (i off sz:Nat):Bool:=match fs[i]? with
 | some f=>decide (f.offset=off) && YJ P f.type sz
 | none=>false
def NX (P:Program) (num:WL) (fs:Array Field):List (Nat×Nat×AO)->List (Nat×Operand)->Bool
 | [],[]=>true
 | (off,sz,x):: r,(i,y):: r'=>Qjh P fs i off sz && okO num x y && NX P num fs r r'
 | _,_=>false
def NJ (P:Program) (num:WL) (e:TypeId):List (Nat×Nat×AO)->List (Nat×Operand)->Bool
 | [],[]=>true
 | (off,sz,x):: r,(i,y):: r'=>YJ P e sz && decide (off=i*sz) && okO num x y && NJ P num e r r'
 | _,_=>false
def Qbt (P:Program) (num:WL) (t:TypeId) (zs:Qx) (parts:List (Nat×Nat×AO)) (ps:List (Nat×Operand)):Bool:=match P.underlying t with
 | some (.struct fs)=>Nk P t zs && QlF P fs && NX P num fs parts ps
 | some (.array _ e)=>Nk P t zs && (P.info? e).isSome && NJ P num e parts ps
 | _=>false
def KE (P:Program) (fs:Array Field):Array (Nat×Nat):=(fs.toList.map fun f=>(f.offset,((P.info? f.type).map (·.size)).getD 0)).toArray
def UD:=@List.length_map
def I3 [Dr] (hI:Inv num N w0 m0 T β0 σ a w m β ν) (fs): ∀parts ps zs cs cells,
  NX P num fs parts ps=true->UM zs (parts.map fun p=>(p.1,p.2.1,Am.val σ.env p.2.2))=some cs->cells.size=zs.length->
  (∀(i:Nat) c,zs[i]? =some c->∃u,cells[i]? =some u/\u.oneCell'=true/\Qh num β w m c u)->
  ∃cells',Instr.fill (fun i=>(KE P fs)[i]?) cells (ps.map fun p=>(p.1,a.eval p.2))=some cells'/\cells'.size=cs.length/\
   ∀(i:Nat) c,cs[i]? =some c->∃u,cells'[i]? =some u/\u.oneCell'=true/\Qh num β w m c u
 | [],[],zs,cs,cells,_,hv,hz,hc=>by
  simp only[Vv,UM]at hv;cases hv;exact⟨cells,rfl,hz,hc⟩
 | (off,sz,x):: r,(i,y):: r',zs,cs,cells,ho,hv,hz,hc=>by
  simp only[NX,Qr]at ho;obtain⟨⟨ho1,ho2⟩,ho3⟩:=ho;simp only[ZI,UM]at hv;split at hv;rename_i vs hvs;split at hv;rename_i hl;obtain⟨hl1,hl2⟩:=hl;obtain⟨_,hz2,hcs⟩:=V6 hvs ((hI.val ho2 (TW hvs)).1);have hpl: (KE P fs)[i]? =some (off,sz):=by unfold Qjh at ho1;split at ho1;rename_i f hf;simp only[Qr,QM]at ho1;obtain⟨rfl,ho1⟩:=ho1;unfold YJ at ho1;split at ho1;rename_i inf hinf;simp only[QM]at ho1;simp[KE,hf,hinf,ho1];grind;grind
  have hp:=J6 off (a.eval y).cells cells (by omega);have hlen: (put zs off (vs.map AV.strip)).length=zs.length:=by unfold put;grind
  obtain⟨cells',f1,f2,f3⟩:=I3 hI fs r r' _ cs _ ho3 hv (by rw[hp.1,hz,hlen]) (fun j c hj=>by unfold put at hj;rw[W8 _ _ _ (by grind)]at hj;rw[hp.2 j];simp only[UD]at hj;split at hj;grind;rename_i h1;split at hj;rename_i h2;obtain⟨d,hd,rfl⟩:=ZE hj;obtain⟨u,g1,g2,g3⟩:=hcs _ d hd;exact⟨u,by grind,g2,by rwa[Zg]⟩;rename_i h2;obtain⟨u,g1,g2⟩:=hc j c hj;grind);refine⟨cells',?_,f2,f3⟩;simp only[ZI,Instr.fill,hpl];grind;grind;grind
 | [],_:: _,_,_,_,h,_,_,_=>by simp[NX]at h
 | _:: _,[],_,_,_,h,_,_,_=>by simp[NX]at h
def AR [Dr] (hI:Inv num N w0 m0 T β0 σ a w m β ν) (e): ∀parts ps zs cs cells,
  NJ P num e parts ps=true->UM zs (parts.map fun p=>(p.1,p.2.1,Am.val σ.env p.2.2))=some cs->cells.size=zs.length->
  (∀(i:Nat) c,zs[i]? =some c->∃u,cells[i]? =some u/\u.oneCell'=true/\Qh num β w m c u)->
  ∃cells',Instr.fill (fun i=>some (i* ((P.info? e).map (·.size)).getD 0,((P.info? e).map (·.size)).getD 0)) cells (ps.map fun p=>(p.1,a.eval p.2))=some cells'/\cells'.size=cs.length/\
   ∀(i:Nat) c,cs[i]? =some c->∃u,cells'[i]? =some u/\u.oneCell'=true/\Qh num β w m c u
 | [],[],zs,cs,cells,_,hv,hz,hc=>by
  simp only[Vv,UM]at hv;cases hv;exact⟨cells,rfl,hz,hc⟩
 | (off,sz,x):: r,(i,y):: r',zs,cs,cells,ho,hv,hz,hc=>by
  simp only[NJ,Qr,QM]at ho;obtain⟨⟨⟨ho0,ho1⟩,ho2⟩,ho3⟩:=ho;simp only[ZI,UM]at hv;split at hv;rename_i vs hvs;split at hv;rename_i hl;obtain⟨hl1,hl2⟩:=hl;obtain⟨_,hz2,hcs⟩:=V6 hvs ((hI.val ho2 (TW hvs)).1);have hsz: ((P.info? e).map (·.size)).getD 0=sz:=by unfold YJ at ho0;grind
  have hp:=J6 off (a.eval y).cells cells (by omega);have hlen: (put zs off (vs.map AV.strip)).length=zs.length:=by unfold put;grind
  obtain⟨cells',f1,f2,f3⟩:=AR hI e r r' _ cs _ ho3 hv (by rw[hp.1,hz,hlen]) (fun j c hj=>by unfold put at hj;rw[W8 _ _ _ (by grind)]at hj;rw[hp.2 j];simp only[UD]at hj;split at hj;grind;rename_i h1;split at hj;rename_i h2;obtain⟨d,hd,rfl⟩:=ZE hj;obtain⟨u,g1,g2,g3⟩:=hcs _ d hd;exact⟨u,by grind,g2,by rwa[Zg]⟩;rename_i h2;obtain⟨u,g1,g2⟩:=hc j c hj;grind);refine⟨cells',?_,f2,f3⟩;simp only[ZI,Instr.fill,hsz];rw[<- ho1];grind;grind;grind
 | [],_:: _,_,_,_,h,_,_,_=>by simp[NJ]at h
 | _:: _,[],_,_,_,h,_,_,_=>by simp[NJ]at h
def QhU:=@Array.mapM_eq_mapM_toList
def QhR:=@Array.all_eq_true_iff_forall_mem
def Zy:=@Option.map_some
def Pj:=@Option.getD_some
def Qdr [Dr] {A d j t} (C:Inv num N w0 m0 T β0 σ a w m β ν) (U:o.op= .build t j.toArray)
  (y:Qbt P num t A d j=true)
  (O:Qk K (.mkst A d) σ=some (v,σ1)) (h:Aft num N w0 m0 T β0 σ1 a v fun u w'=>next (a.put o.dst u) w'):o.wp P a w next Q:=by
 simp only[Qk]at O;rcases I:UM A (d.map fun p=>(p.1,p.2.1,val σ.env p.2.2))with _ | S;grind;rw[I]at O;cases O;unfold Qbt at y;split at y;rename_i D R;simp only[Qr]at y;obtain⟨⟨q,r⟩,s⟩:=y;obtain⟨z,G,k⟩:=NI (w:=w) q;obtain⟨Z,l⟩:=WE _ _ k;obtain⟨b,E,L,W⟩:=I3 C D d j A S z.cells s I (by omega) (fun i c M=>by obtain⟨u,V,J⟩:=l i c M;have:=YS (num:=num) (β:=β) (w:=w) (m:=m) (ν:=ν) J;grind);have H: (D.mapM fun f=>do pure (f.offset,<- sizeOf f.type):Sem _).run P w= .ok (KE P D) w:=by rw[QhU];simp only[Sem.run_map];rw[K3 (fun f=>do pure (f.offset,<- sizeOf f.type)) (fun f:Field=>(f.offset,((P.info? f.type).map (·.size)).getD 0)) D.toList (fun f hf=>by have:=QhR.1 r f (by grind);obtain⟨i,X⟩:=Gg.1 this;simp[sizeOf,typeInfo,X])];rfl
 refine QE (u:= .agg b) (w':=w) ?_ (h.same C rfl ?_ trivial);have B: (Array.map (fun x:Nat×Operand=>(x.fst,a.eval x.snd)) j.toArray).toList=j.map fun p=>(p.1,a.eval p.2):=by simp
 simp only[execOp,U,Instr.build,Sem.run_bind,G,Result.andThen_ok,run_underlying R];simp only[H,Result.andThen_ok,B];simp_all;simp only[Qh];exact⟨b,rfl,L,by rw[Y1];grind⟩;rename_i n e R;simp only[Qr]at y;obtain⟨⟨q,r⟩,s⟩:=y;obtain⟨Y,g⟩:=Gg.1 r;obtain⟨z,G,k⟩:=NI (w:=w) q;obtain⟨Z,l⟩:=WE _ _ k;obtain⟨b,E,L,W⟩:=AR C e d j A S z.cells s I (by omega) (fun i c M=>by obtain⟨u,V,J⟩:=l i c M;have:=YS (num:=num) (β:=β) (w:=w) (m:=m) (ν:=ν) J;grind);refine QE (u:= .agg b) (w':=w) ?_ (h.same C rfl ?_ trivial);have B: (Array.map (fun x:Nat×Operand=>(x.fst,a.eval x.snd)) j.toArray).toList=j.map fun p=>(p.1,a.eval p.2):=by simp
 rw[g]at E;simp only[Zy,Pj]at E;simp only[execOp,U,Instr.build,Sem.run_bind,G,Result.andThen_ok,run_underlying R];simp[sizeOf,typeInfo,g,E,Result.andThen];simp only[Qh];exact⟨b,rfl,L,by rw[Y1];grind⟩;grind
def O1:=@Option.map_none
def YA [Dr] {k n d x y} (j:Inv num N w0 m0 T β0 σ a w m β ν) (c:Us num x y=true) (h:Yh n d (x.map (Am.val σ.env))=some k):
  (y=none/\k=d)\/∃g,y=some g/\k<=n/\∃f,a.eval g= .int f (k:Int):=by
 rcases x with _ | x;rcases y with _ | y;simp only[O1,Yh]at h;grind;simp[Us]at c;rcases y with _ | y;simp[Us]at c;simp only[Us]at c;simp only[Zy]at h;unfold Yh at h;split at h;grind;rename_i f i b;injection b with b;split at h;rename_i l;injection h with h;have e:=(j.val c (by rw[b];rfl)).1;rw[b]at e;simp only[Qh]at e;grind;cases h;cases h
def Gt:=@Option.isSome_none
def US {l h len b e g f} (j: (f=none/\h=len)\/∃d,f=some (.int d (h:Int))) (k: (g=none/\l=0)\/∃d,g=some (.int d (l:Int)))
  (r:h<=b) (q:l<=h): (Instr.sliceBounds e len b g f none).run P w= .ok (l,h,b) w:=by
 have i: ∀(d:IntKind) (n y:Nat) (c:BoundsCode),n<=y->(Instr.sliceBound (.int d (n:Int)) y c).run P w= .ok n w:=fun d n y c s=>by simp only[Instr.sliceBound,asIntOf,Sem.run_bind,Sem.run_pure,Result.andThen_ok];simp_all
 rcases j with⟨rfl,rfl⟩ | ⟨d,rfl⟩ <;> rcases k with⟨rfl,rfl⟩ | ⟨p,rfl⟩ <;> simp only[Instr.sliceBounds,Sem.run_bind,Sem.run_pure,Result.andThen_ok,i _ _ _ _ r,i _ _ _ _ q,Gt,Xn,ZT]
def QpT [Dr] {x p l r b c t} (g:Inv num N w0 m0 T β0 σ a w m β ν) (C:o.op= .slice t r b c none) (A:It P t=true) (E:okO num x r=true)
  (k:Us num p b=true) (i:Us num l c=true)
  (f:Qk K (.slcs x p l) σ=some (v,σ1)) (h:Aft num N w0 m0 T β0 σ1 a v fun u w'=>next (a.put o.dst u) w'):o.wp P a w next Q:=by
 simp only[Qk]at f;split at f;rename_i s q;rcases e:Yh s.length s.length (l.map (val σ.env))with _ | H;grind;rw[e]at f;simp only[QO]at f;rcases d:Yh H 0 (p.map (val σ.env))with _ | L;grind;rw[d]at f;cases f;have n:=(g.val E (by rw[q];rfl)).1;rw[q]at n;simp only[Qh]at n;have D: (c.map a.eval=none/\H=s.length)\/∃j,c.map a.eval=some (.int j (H:Int)):=by rcases YA g i e with⟨rfl,rfl⟩ | ⟨z,rfl,_,j,B⟩;simp;grind
 have y: (b.map a.eval=none/\L=0)\/∃j,b.map a.eval=some (.int j (L:Int)):=by rcases YA g k d with⟨rfl,rfl⟩ | ⟨z,rfl,_,j,B⟩;simp;grind
 refine QE (u:= .string ((⟨s.toArray⟩:ByteArray).extract L H)) (w':=w) ?_ (h.same g rfl ?_ trivial);simp only[execOp,C,n,Instr.sliceAt,Instr.slice,Sem.run_bind,run_underlying (EF A),Result.andThen_ok,O1,Gt,Xn,ZT];rw[US (len:=(⟨s.toArray⟩:ByteArray).size) D y (by simpa[ByteArray.size_mk']using(by rcases YA g i e with⟨_,rfl⟩ | ⟨_,_,h,_⟩ <;> omega)) (by rcases YA g k d with⟨_,rfl⟩ | ⟨_,_,h,_⟩ <;> omega)];rfl;simp only[Qh];rw[ByteArray.extract_mk,List.drop_take];grind
def Yk:=@Nat.add_mul
def QpS [Dr] {Z x C G x' n l t} (g:Inv num N w0 m0 T β0 σ a w m β ν) (X:o.op= .slice t x' n l none) (y:Uj P t Z=true) (Y:okO num x x'=true)
  (q:Us num C n=true) (s:Us num G l=true)
  (j:Qk K (.slcl Z x C G) σ=some (v,σ1)) (h:Aft num N w0 m0 T β0 σ1 a v fun u w'=>next (a.put o.dst u) w'):o.wp P a w next Q:=by
 simp only[Qk]at j;split at j;rename_i o2 p xs B;split at j;rename_i z;subst z;rcases c:Yh xs.length xs.length (G.map (val σ.env))with _ | H;grind;rw[c]at j;simp only[QO]at j;rcases d:Yh H 0 (C.map (val σ.env))with _ | L;grind;rw[d]at j;cases j;have i:=(g.val Y (by rw[B];rfl)).1;rw[B]at i;simp only[Qh]at i;obtain⟨A,W,f,i,g2,g3,g4,r⟩:=i;have hH:H<=xs.length:=by rcases YA g s c with⟨_,rfl⟩ | ⟨_,_,h,_⟩ <;> omega
 have M:L<=H:=by rcases YA g q d with⟨_,rfl⟩ | ⟨_,_,h,_⟩ <;> omega
 have J: (l.map a.eval=none/\H=W)\/∃k,l.map a.eval=some (.int k (H:Int)):=by rcases YA g s c with⟨rfl,rfl⟩ | ⟨O,rfl,_,k,R⟩;grind;grind
 have D: (n.map a.eval=none/\L=0)\/∃k,n.map a.eval=some (.int k (L:Int)):=by rcases YA g q d with⟨rfl,rfl⟩ | ⟨O,rfl,_,k,R⟩;simp;grind
 unfold Uj at y;split at y;rename_i e E;refine QE (u:= .slice (if f=L then A else A.map (·.add (L*p))) (H - L) (f - L)) (w':=w) ?_ (h.same g rfl ?_ trivial);simp only[execOp,X,i,Instr.sliceAt,Instr.slice,Sem.run_bind,run_underlying E,Result.andThen_ok,O1];rw[US J D (by omega) M];simp only[Result.andThen_ok,Yp y];rfl;simp only[Qh];refine⟨_,_,_,rfl,by grind,by omega,by omega,?_⟩;by_cases V:L=H;grind;right;rcases r with r | ⟨b,of,rfl,r⟩;grind;refine⟨b,of+L*p,by rw[Qb (by omega)];simp[Wf],?_⟩;rw[Vk]at r ⊢;grind;grind;grind;rename_i id of p U B;split at j;rename_i z;obtain⟨rfl,I⟩:=z;rcases c:Yh U U (G.map (val σ.env))with _ | H;grind;rw[c]at j;simp only[QO]at j;rcases d:Yh H 0 (C.map (val σ.env))with _ | L;grind;rw[d]at j;cases j;have i:=(g.val Y (by rw[B];rfl)).1;rw[B]at i;simp only[Qh]at i;obtain⟨A,f,i,g3,g4,r⟩:=i;have hH:H<=U:=by rcases YA g s c with⟨_,rfl⟩ | ⟨_,_,h,_⟩ <;> omega
 have M:L<=H:=by rcases YA g q d with⟨_,rfl⟩ | ⟨_,_,h,_⟩ <;> omega
 have J: (l.map a.eval=none/\H=U)\/∃k,l.map a.eval=some (.int k (H:Int)):=by rcases YA g s c with⟨rfl,rfl⟩ | ⟨O,rfl,_,k,R⟩;simp;grind
 have D: (n.map a.eval=none/\L=0)\/∃k,n.map a.eval=some (.int k (L:Int)):=by rcases YA g q d with⟨rfl,rfl⟩ | ⟨O,rfl,_,k,R⟩;simp;grind
 unfold Uj at y;split at y;rename_i e E;refine QE (u:= .slice (if f=L then A else A.map (·.add (L*p))) (H - L) (f - L)) (w':=w) ?_ (h.same g rfl ?_ trivial);simp only[execOp,X,i,Instr.sliceAt,Instr.slice,Sem.run_bind,run_underlying E,Result.andThen_ok,O1];rw[US J D (by omega) M];simp only[Result.andThen_ok,Yp y];rfl;simp only[Qh];refine⟨_,_,rfl,by omega,by omega,?_⟩;by_cases V:f=L;left;refine⟨by omega,by omega,?_⟩;rcases r with r | ⟨kb,r,_,g6,_⟩;grind;grind;rcases r with r | ⟨kb,r,rfl,g6,_⟩;omega;right;have hmul:L*p+ (f - L)*p=f*p:=by rw[<- Yk];grind
 exact⟨kb,r,by rw[Qb (by omega)];simp[Wf],by omega,I⟩;grind;split at j;rename_i hz;obtain⟨rfl,rfl⟩:=hz;rcases c:Yh 0 0 (G.map (val σ.env))with _ | H;grind;rw[c]at j;simp only[QO]at j;rcases d:Yh H 0 (C.map (val σ.env))with _ | L;grind;rw[d]at j;cases j;have i:=(g.val Y (by rw[B];rfl)).1;rw[B]at i;simp only[Qh]at i;obtain⟨A,f,i,g3,g4,r⟩:=i;have S:f=0:=by omega
 subst S;have hH:H=0:=by rcases YA g s c with⟨_,rfl⟩ | ⟨_,_,h,_⟩ <;> omega
 subst hH;have M:L=0:=by rcases YA g q d with⟨_,rfl⟩ | ⟨_,_,h,_⟩ <;> omega
 subst M;have J: (l.map a.eval=none/\(0:Nat)=0)\/∃k,l.map a.eval=some (.int k ((0:Nat):Int)):=by rcases YA g s c with⟨rfl,_⟩ | ⟨O,rfl,_,k,R⟩;simp;grind
 have D: (n.map a.eval=none/\(0:Nat)=0)\/∃k,n.map a.eval=some (.int k ((0:Nat):Int)):=by rcases YA g q d with⟨rfl,_⟩ | ⟨O,rfl,_,k,R⟩;simp;grind
 unfold Uj at y;split at y;rename_i e E;refine QE (u:= .slice (if 0=0 then A else A.map (·.add (0*Z))) (0 - 0) (0 - 0)) (w':=w) ?_ (h.same g rfl ?_ trivial);simp only[execOp,X,i,Instr.sliceAt,Instr.slice,Sem.run_bind,run_underlying E,Result.andThen_ok,O1];rw[US J D (by omega) (by omega)];simp only[Result.andThen_ok,Yp y];rfl;simp only[Qh];simp;grind;grind;grind
def X0:=@List.all_eq_true
def QpN [Dr] {f g:Nat} {b k} (n:Inv num N w0 m0 T β0 σ a w m β ν) (p:o.op= .makeFunc (.func g) #[] k.toArray) (t:num f=some g) (q:Wh num b k=true)
  (e:Qk K (.mkfn f b) σ=some (v,σ1)) (h:Aft num N w0 m0 T β0 σ1 a v fun u w'=>next (a.put o.dst u) w'):o.wp P a w next Q:=by
 simp only[Qk]at e;split at e;rename_i d;cases e;obtain⟨A,r⟩:=n.vals q (by unfold VD;rw[X0]at d ⊢;intro x s;exact Nc (d x s));refine QE (u:= .func (.func g) #[] (k.toArray.map a.eval)) (w':=w) (by simp[execOp,p,Instr.makeFunc]) (h.same n rfl ?_ trivial);simp only[Qh];refine⟨g,_,t,rfl,by grind,?_⟩;rw[Y1];intro i c j;obtain⟨y,B,z,l⟩:=r i c j;exact⟨a.eval y,by grind,NB (by grind) l,l⟩;grind
end
end Go.Am
