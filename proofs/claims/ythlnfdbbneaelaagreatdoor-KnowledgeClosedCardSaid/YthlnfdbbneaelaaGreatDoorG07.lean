/-
  Am17, Am18, Am19, Am24, Am25, Am26, Am20, Am27.
-/
import Derived.Test.YthlnfdbbneaelaaGreatDoorG06
import Derived.Lib.AtoiAll
import Derived.Below
import Derived.Lib.Bytealg
import Derived.Lib.IndexAny
import Derived.Lib.ItoaNum
import Derived.Lib.LaidTab
import Derived.Lib.ConvBytes
import Derived.Sort.Grow
import Derived.Deep.Draws
import Derived.Lib.AtoiErrMem
import Derived.SizedLaws
import Derived.Deep.Slices
import Derived.ChangeArms
import Derived.DataReads
import Derived.Carry
import Derived.ReadAgain
import Derived.ChangeSame
import Derived.OpenShut
set_option linter.all false
namespace Go.Am
def W3 (P:Program):List Hd->List ResultVar->Bool
 | [],[]=>true
 | .tmp t:: rs,.tmp t2:: vs=>decide (t=t2) && W3 P rs vs
 | .cell t sz ag:: rs,.cell t2 ty:: vs=>decide (t=t2) && YJ P ty sz && Up P ty ag && W3 P rs vs
 | .own t:: rs,.tmp t2:: vs=>decide (t=t2) && W3 P rs vs
 | _,_=>false
def QfU (P:Program) (num:WL) (f:ZQ) (fn:Func):Bool:=
 decide (f.ntmps=fn.ntmps) && decide (f.nparams<=f.ntmps) && W3 P f.res fn.results.toList && (match fn.body with
  | some c=>X8 P num f.ntmps f.body c
  | none=>false)
def Pa [Dr] (P:Program) (num:WL) (Γ:PX) (h:Qx->Qp->Option (AV×Qp)) (g:Nat):Prop:=
 ∀(args:Qx) (bs:Qp) (r:AV) (bs':Qp),h args bs=some (r,bs')->VD args=true->
  ∀(w:World) (m:Xs) (β:UH) (ν:Own) (vs:Vw),Γ.G w->Γ.Gb<=w.heap.size->vs.size=args.length->
   (∀(i:Nat) (c:AV),args[i]? =some c->∃u,vs[i]? =some u/\Qh num β w m c u)->Nq num β w m ν bs->
   (∀b p,ν b=some p->b < w.heap.size/\Γ.Gb<=b/\p.isG=true)->
   Calls P g vs w (Rl num β bs' r w m ν)
def QhI [Dr] (P:Program) (num:WL) (Γ:PX) (h:Qx->Option AV) (g:Nat):Prop:=
 ∀(args:Qx) (r:AV),h args=some r->VD args=true->∀(w:World) (m:Xs) (β:UH) (vs:Vw),Γ.G w->Γ.Gb<=w.heap.size->vs.size=args.length->
  (∀(i:Nat) (c:AV),args[i]? =some c->∃u,vs[i]? =some u/\Qh num β w m c u)->
  Calls P g vs w fun e w'=>∃v m' ν',e= .returned v/\Y2 (fun _=>False) w m w' m'/\r.ok=true/\Qh num β w' m' r v/\Yr w' m' ν' .f r v/\∀b p,ν' b=some p->b < w'.heap.size/\w.heap.size<=b/\p= .f
def UA (h:Qx->Option AV):Qx->Qp->Option (AV×Qp):=fun args bs=>(h args).map fun r=>(r,bs)
structure FX [Dr] (P:Program) (num:Nat->Option Nat) (Γ:PX) (tb:Nat->Option AFn):Prop where
 mix:P.follows .mixedOrders=true
 enters:Ue P num
 code: ∀(f g:Nat) (fn:ZQ),num f=some g->tb f=some (.code fn)->∃F,P.funcs[g]? =some F/\QfU P num fn F=true
 orc: ∀(f g:Nat) (h:List AV->List (List AV)->Option (AV×List (List AV))),num f=some g->tb f=some (.orc h)->Pa P num Γ h g
section
variable {P:Program} {num:Nat->Option Nat} {β:List Blk} {w w':World} {m:Nat->Nat} {ν:Own} {N:Nat} {w0:World} {m0:Nat->Nat} {T:Nat->Prop} {β0:List Blk} {σ:St} {a:Act} {tb:Nat->Option AFn}
def Qf5:List Hd->Nat->Bool
 | [.tmp t],n=>decide (t=n)
 | .own t:: _,n=>decide (t=n)
 | _,_=>false
def WF (rs:List Hd) (ν:Own):Own:=fun b=>match ν b with
 | some (.s n)=>if Qf5 rs n then some .f else none
 | some p=>if p.isG then some p else none
 | none=>none
def Sb:=@Bool.and_true
def Ln [Dr] (p:Inv num N w0 m0 T β0 σ a w m β ν) {r l v} (g:W3 P [r] [l]=true) (d:Te σ.env r=some v):
  ∃u,(match l with
   | .tmp t=>(pure (a.tmps.getD t undef):Sem Value)
   | .cell t x=>do loadVar x (<- asAddr (a.tmps.getD t undef))).run P w= .ok u w/\v.ok=true/\Qh num β w m v u/\Yr w m (WF [r] ν) .f v u:=by
 cases r with | tmp t=>(cases l with | cell k x=>simp[W3]at g | tmp k=>simp only[W3,Sb,QM]at g;subst g;simp only[Te]at d;split at d;rename_i y;cases d;obtain⟨_,s⟩:=p.at_ (n:=t) (fun e=>by rw[e]at y;cases y);have h:=p.slots t _ s;rw[Zr y]at h;refine⟨a.tmps.getD t undef,rfl,y,h.1,?_⟩;exact V4 (θ:=fun _=> .f) (fun b j=>⟨rfl,rfl,by unfold WF;rw[j];simp[Qf5]⟩) h.2;grind) | own t=>(cases l with | cell k x=>simp[W3]at g | tmp k=>simp only[W3,Sb,QM]at g;subst g;simp only[Te]at d;split at d;rename_i C V G;cases d;obtain⟨_,s⟩:=p.at_ (n:=t) (fun e=>by grind);have h:=p.slots t _ s;rw[G,Zr rfl]at h;refine⟨a.tmps.getD t undef,rfl,rfl,h.1,?_⟩;exact V4 (θ:=fun _=> .f) (fun b j=>⟨rfl,rfl,by unfold WF;rw[j];simp[Qf5]⟩) h.2;grind) | cell t C O=>cases l with | tmp k=>simp[W3]at g | cell k x=>simp only[W3,Sb,Qr,QM]at g;obtain⟨⟨rfl,J⟩,s⟩:=g;simp only[Te]at d;split at d;rename_i U A;obtain⟨b,z,e,_,E,j,S,D⟩:=p.box_at (q:=t) (off:=0) A (.inr ⟨rfl,rfl⟩);obtain⟨u,W,I,K,Q⟩:=Ud (w:=w) (num:=num) (β:=β) (m:=m) (ν:=WF [.cell t C O] ν) (o:=0) (b:=b) J s d (fun i c L=>by obtain⟨u,R,M,H,_⟩:=D i c L;exact⟨u,by rwa[Z1,cell_of_row w b i z e (0,0) j],M,H⟩);have B:a.tmps.getD t undef= .pointer (some ⟨b,0,none⟩):=E;refine⟨u,?_,I,K,Q _⟩;simp only[B,asAddr,Sem.run_bind,Sem.run_pure,Result.andThen_ok];omega;grind
def PL [Dr] (n:Inv num N w0 m0 T β0 σ a w m β ν): ∀{j b g},W3 P j b=true->WG σ.env j=some g->
  ∃d:WM,(b.mapM fun(k:ResultVar)=>(match k with
   | .tmp t=>(pure (a.tmps.getD t undef):Sem Value)
   | .cell t o=>do loadVar o (<- asAddr (a.tmps.getD t undef)))).run P w= .ok d w/\d.length=g.length/\∀(i:Nat) c,g[i]? =some c->∃u,d[i]? =some u/\c.ok=true/\Qh num β w m c u
 | [],[],g,_,e=>by
  simp only[WG,QV]at e;simp_all
 | r:: j,k:: b,g,l,e=>by
  simp only[WG]at e;split at e;rename_i v q p x;cases e;have f:W3 P [r] [k]=true/\W3 P j b=true:=by cases r <;> cases k <;> simp only[W3,Qr,Sb,Xn]at l ⊢ <;> first | exact l | exact l.elim
  obtain⟨u,y,B,D,_⟩:=Ln (P:=P) n f.1 p;obtain⟨d,s,C,z⟩:=PL n f.2 x;refine⟨u:: d,?_,by grind,fun i c A=> ?_⟩;rw[GF];simp only[Sem.run_bind,y,Result.andThen_ok,s,Sem.run_pure];cases i with | zero=>grind | succ i=>grind
  grind
 | [],_:: _,_,h,_=>by simp[W3]at h
 | r:: _,[],_,h,_=>by cases r <;> simp[W3]at h
def QaU [Dr] {H h g} (M:QhI P num H h g):Pa P num H (UA h) g:=by
 intro k Y r U u A w m β ν R K z C o l f;unfold UA at u;rcases I:h k with _ | J;grind;rw[I]at u;simp only[Zy,QV,Zm]at u;obtain⟨rfl,rfl⟩:=u;refine(M k J I A w m β R K z C o).mono fun e w' O=> ?_;obtain⟨v,V,s,rfl,c,Q,W,S,X⟩:=O;have d: ∀b p,ν b=some p->(fun b=>match ν b with | some p=>some p | none=>s b:Own) b=some p:=fun b p E=>by grind
 refine⟨v,V,β,(fun b=>match ν b with | some p=>some p | none=>s b),rfl,Ge.refl β,⟨c.os,c.tape,c.output,c.size,fun b E _=>c.same b E id,c.le,c.drawn⟩,⟨l.1,fun i L b B y D=> ?_⟩,Q,W,?_,fun b p t=> ?_⟩;exact V3 (Ge.refl β) c.le (fun x n=>⟨(c.same x (f x _ n).1 id).1,(c.same x (f x _ n).1 id).2,d x _ n⟩) (fun j x n=>⟨(c.same x (f x _ n).1 id).1,(c.same x (f x _ n).1 id).2,d x _ n⟩) (l.2 i L b B y D);refine V4 (θ:=id) (fun b E=>⟨rfl,rfl,?_⟩) S;grind;simp only at t;split at t;rename_i q G;injection t with t;subst t;have:=f b q G;exact⟨Lz this.1 c.size,.inr ⟨q,G⟩,.inl this.2.2⟩;grind
def Zh:=@List.getD_eq_getElem?_getD
def Dz [Dr] {Γ:PX} {f:ZQ} {F:Func} {args bs vs} (hnp:args.length=f.nparams) (hnt:f.ntmps=F.ntmps) (hpt:f.nparams<=f.ntmps) (hok:VD args=true)
  (hvs:vs.size=args.length) (hrep: ∀(i:Nat) (c:AV),args[i]? =some c->∃u,vs[i]? =some u/\Qh num β w m c u) (hbox:Nq num β w m ν bs)
  (hlt: ∀b p,ν b=some p->b < w.heap.size/\Γ.Gb<=b/\p.isG=true):
  Inv num f.ntmps w m (fun b=>∃p,ν b=some p) β {env:=Wm args,bs} {tmps:=vs ++ Array.replicate (F.ntmps - vs.size) undef,defers:=[]} w m β ν:=by
 refine⟨rfl,by grind,fun t ht=> ?_,fun t v hv=> ?_,hbox.1,hbox.2,fun b p hb=>⟨(hlt b p hb).1,.inr ⟨p,hb⟩⟩,Y2.refl _ w m,Ge.refl β⟩;simp only[Wm];rw[Zh,ZF (by omega)];rfl;simp only[Wm];rw[Zh];rcases hat:args[t]? with _ | c;exact trivial;obtain⟨u,g1,g2⟩:=hrep t c hat;have hck:c.ok=true:=by unfold VD at hok;grind
 rw[Oy (by grind),g1]at hv;cases hv;simp only[Pj];exact(Zr (by rwa[MD])).2 ⟨by simp_all,Xr _ _ _⟩
def Ar [Dr]: ∀d j,X4 d j=true->∀(i:Nat) x y,d[i]? =some x->j[i]? =some y->x=y\/Q3 y=true
 | [],_,_,i,x,y,h,_=>by grind
 | a:: e,[],h,_,_,_,_,_=>by grind
 | a:: e,b:: k,h,i,x,y,c,g=>by
  simp only[X4,Qr,WI]at h;cases i with | zero=>simp at c g;subst c g;rcases h.1 with f | f;exact .inl (Ta _ _ f);grind | succ i=>exact Ar e k h.2 i x y (by grind) (by grind)
def J5 [Dr] {f F bs bs' r} (l:W3 P f.res F.results.toList=true) (Y:Nq num β w m ν bs) (L) (g:We f bs L=some (r,bs'))
  (a' w' V D A) (B:Inv num f.ntmps w m (fun b=>∃p,ν b=some p) β L a' w' V D A):
  a'.defers=[]/\∃v,(results F a'.tmps).run P w'= .ok v w'/\Rl num β bs' r w m ν (.returned v) w':=by
 refine⟨B.defers,?_⟩;have G: ∀K,X4 bs (L.bs.take bs.length)=true->Nq num β w' V (WF K A) (L.bs.take bs.length):=fun K hck=>by have W:=B.ge;(have hle:bs.length<=L.bs.length:=by rw[<- B.blen];rcases Zt D.length bs.length with h | h;exfalso;(have h0:D.length < β.length:=by rwa[Y.1]);have:=W D.length _ (Q0 h0);grind;exact h);refine⟨by rw[Ye,Y.1];omega,fun i cs b h1 h2 Q=> ?_⟩;have h10:=h1;rw[Tn]at h1;split at h1;have hb2:=B.boxes i cs b h1 (W i b h2) Q;obtain⟨x,hx⟩: ∃x,bs[i]? =some x:=⟨_,Q0 (by omega)⟩;have O:=(Ar _ _ hck i) x cs hx h10;rw[OG]at O;(have hent:x=cs->La num β w m ν i b cs:=fun e=>by subst e;exact Y.2 i x b hx h2 Q);refine⟨fun hmp=> ?_,fun hmp=> ?_⟩;obtain⟨cur,e,q1,q2,q3,q4,q5⟩:=hb2.1 hmp;refine⟨cur,e,q1,q2,q3,by unfold WF;rw[q4];rfl,fun j c hc=> ?_⟩;obtain⟨u,p1,p2,p3,p4⟩:=q5 j c hc;refine⟨u,p1,p2,?_,V4 (θ:=id) (fun x hx=>⟨rfl,rfl,by unfold WF;rw[hx];rfl⟩) p4⟩;rcases O with e | O;obtain⟨_,_,_,_,_,_,r5⟩:=(hent e).1 hmp;obtain⟨u0,_,_,r3,_⟩:=r5 j c hc;exact OX W c u0 u r3 p3;exact Tj c u (O j c hc) p3;obtain⟨es,clock,xs,q1,q2,q3,q4,q5,q6⟩:=hb2.2 hmp;refine⟨es,clock,xs,q1,q2,by unfold WF;rw[q3];rfl,q4,q5,fun j c hc=> ?_⟩;obtain⟨e2,k,v,p1,p2,p3,p4⟩:=q6 j c hc;rcases O with e | O;obtain⟨_,_,xs0,_,_,_,r4,_,r6⟩:=(hent e).2 hmp;(have hxs:xs0=xs:=by grind);obtain⟨e3,k3,v3,_,g2,g3,g4⟩:=r6 j c (by grind);rw[p2]at g2;cases g2;exact⟨e2,k,v,p1,p2,OX W k _ _ g3 p3,OX W v _ _ g4 p4⟩;have hf:=O (j+1) c (by rw[q4];simpa using hc);rw[p2]at hf;simp only[AV.gpfree,Q3,Sb,Qr]at hf;exact⟨e2,k,v,p1,p2,Tj k _ hf.1 p3,Tj v _ hf.2 p4⟩;grind
 have s: ∀K,Nq num D w' V (WF K A) L.bs:=fun K=>by refine⟨B.blen,fun i cs b h1 h2 Q=> ?_⟩;exact V3 (Ge.refl D) (Le.refl w' V) (fun x hx=>⟨rfl,rfl,by unfold WF;rw[hx];rfl⟩) (fun _ x hx=>⟨rfl,rfl,by unfold WF;rw[hx];rfl⟩) (B.boxes i cs b h1 h2 Q)
 have E: ∀K b p,WF K A b=some p->b < w'.heap.size/\(w.heap.size<=b\/∃q,ν b=some q)/\(p.isG=true\/p= .f):=fun K b p hp=>by unfold WF at hp;split at hp;rename_i n hn;split at hp;cases hp;have:=B.lt b _ hn;grind;grind;rename_i q hq;split at hp;rename_i hg;cases hp;have:=B.lt b _ hq;grind;grind;grind
 have hrun: ∀y:WM,(F.results.toList.mapM fun(rv:ResultVar)=>(match rv with | .tmp t=>(pure (a'.tmps.getD t undef):Sem Value) | .cell t ty=>do loadVar ty (<- asAddr (a'.tmps.getD t undef)))).run P w'= .ok y w'->(results F a'.tmps).run P w'= .ok (if h:y.toArray.size=1 then y.toArray[0]else .tuple y.toArray) w':=fun y R=>by unfold results;rw[QhU];simp only[Sem.run_bind,Sem.run_map,Sem.run_pure];exact TM (fun z:Result WM=>(z.andThen fun a w'=> .ok a.toArray w').andThen (fun(a:Vw) w'=> .ok (if h:a.size=1 then a[0]else .tuple a) w')) R
 unfold We at g;split at g; · rename_i hown1;(obtain⟨t0,rs0,hf0⟩: ∃t0 rs0,f.res= .own t0:: rs0:=by rcases M:f.res with _ | ⟨S,K⟩;simp_all;cases S with | own t0=>simp | tmp t=>simp_all | cell t sz ag=>simp_all);cases o:WG L.env f.res with | none=>grind | some vs0=>rw[o]at g;obtain⟨y,U,k2,k3⟩:=PL B l o;rw[hf0]at o l;simp only[WG]at o;split at o;(case h_2=>grind);rename_i x1 x2 e1 e2;cases o;(obtain⟨C,X,J⟩: ∃C X,F.results.toList=C:: X:=by rcases M:F.results.toList with _ | ⟨C,K⟩;rw[M]at l;simp[W3]at l;simp);(have hres1:W3 P [.own t0] [C]=true:=by rw[J]at l;cases C <;> simp only[W3,Qr,Sb,Xn]at l ⊢ <;> first | grind | exact l.elim);obtain⟨u,g1,g2,g3,g4⟩:=Ln (P:=P) B hres1 e1;split at g;(case h_2=>grind);rename_i sz xs v2 vs hx;cases hx;(obtain⟨us0,R⟩: ∃us0,y=u:: us0:=by rw[J]at U;simp only[GF,Sem.run_bind,g1,Result.andThen_ok]at U;cases hm: (X.mapM fun(rv:ResultVar)=>(match rv with | .tmp t=>(pure (a'.tmps.getD t undef):Sem Value) | .cell t ty=>do loadVar ty (<- asAddr (a'.tmps.getD t undef)))).run P w' with | ok us0 w2=>rw[hm]at U;simp only[Result.andThen_ok,Sem.run_pure]at U;grind | _=>rw[hm]at U;simp[Result.andThen]at U);(have hsz: ¬y.toArray.size=1:=by grind);(have H: (results F a'.tmps).run P w'= .ok (.tuple y.toArray) w':=by grind);(have hrep:Qh num D w' V (.otup sz xs ((v2:: vs).map AV.strip)) (.tuple y.toArray):=by simp only[Qh]at g3 ⊢;refine⟨y.toArray,rfl,by grind,⟨u,by simp[R],g3⟩,?_⟩;rw[N5];intro i c hci;obtain⟨d,hd,rfl⟩:=ZE hci;obtain⟨x,q1,_,q3⟩:=k3 (i+1) d (by simpa using hd);exact⟨x,by rw[show 0+1+i=i+1 by omega];simpa using q1,by rwa[Zg]⟩);have Z:Yr w' V (WF (.own t0:: rs0) A) .f (.otup sz xs ((v2:: vs).map AV.strip)) (.tuple y.toArray):=⟨y.toArray,u,rfl,by simp[R],g4⟩;split at g;simp only[QV,Zm]at g;obtain⟨rfl,rfl⟩:=g;exact⟨.tuple y.toArray,H,.tuple y.toArray,V,D,WF (.own t0:: rs0) A,rfl,B.ge,B.step,s _,rfl,hrep,Z,E _⟩;split at g;rename_i I;simp only[QV,Zm]at g;obtain⟨rfl,rfl⟩:=g;(have hg2: (AV.otup sz xs ((v2:: vs).map AV.strip)).gpfree=true:=by have:=I.1;simp only[AV.gpfree,Qr]at this ⊢;exact⟨this.1,DU this.2⟩);exact⟨.tuple y.toArray,H,.tuple y.toArray,V,β,WF (.own t0:: rs0) A,rfl,Ge.refl β,B.step,G _ I.2,rfl,Tj _ _ hg2 hrep,Z,E _⟩;grind
 split at g;rename_i v0 o;obtain⟨y,U,k2,k3⟩:=PL B l o;obtain⟨S,hr0⟩: ∃S,f.res=[S]:=by rcases M:f.res with _ | ⟨S,K⟩;rw[M]at o;simp[WG]at o;rcases K with _ | ⟨r1,K⟩;simp;rw[M]at o;simp only[WG]at o;split at o;grind;grind
 obtain⟨C,J⟩: ∃C,F.results.toList=[C]:=by rcases M:F.results.toList with _ | ⟨C,K⟩;simp_all;rcases K with _ | ⟨rv1,K⟩;simp;rw[M,hr0]at l;cases S <;> cases C <;> simp[W3]at l
 rw[hr0,J]at l;rw[hr0]at o;simp only[WG]at o;split at o;rename_i x1 x2 e1 e2;cases e2;cases o;obtain⟨u,g1,g2,g3,g4⟩:=Ln (P:=P) B l e1;have R:y=[u]:=by rw[J]at U;simp only[GF,List.mapM_nil,Sem.run_bind,g1,Result.andThen_ok,Sem.run_pure]at U;grind
 subst R;split at g;simp only[QV,Zm]at g;obtain⟨rfl,rfl⟩:=g;exact⟨u,hrun [u] U,u,V,D,WF [S] A,rfl,B.ge,B.step,s [S],g2,g3,g4,E [S]⟩;split at g;rename_i I;simp only[QV,Zm]at g;obtain⟨rfl,rfl⟩:=g;exact⟨u,hrun [u] U,u,V,β,WF [S] A,rfl,Ge.refl β,B.step,G [S] I.2,g2,Tj _ _ I.1 g3,g4,E [S]⟩;grind;grind;rename_i vs0 o Q;obtain⟨y,U,k2,k3⟩:=PL B l Q;have hsz: ¬y.toArray.size=1:=by simp only[VW,k2];intro h1;match vs0,h1 with | [v1],_=>grind
 have H: (results F a'.tmps).run P w'= .ok (.tuple y.toArray) w':=by grind
 split at g;simp only[QV,Zm]at g;obtain⟨rfl,rfl⟩:=g;refine⟨.tuple y.toArray,H,.tuple y.toArray,V,D,WF [] A,rfl,B.ge,B.step,s [],rfl,?_,trivial,E []⟩;simp only[Qh];refine⟨y.toArray,rfl,by grind,?_⟩;rw[N5];intro i c hci;obtain⟨d,hd,rfl⟩:=ZE hci;obtain⟨u,g1,_,g3⟩:=k3 i d hd;exact⟨u,by simpa using g1,by rwa[Zg]⟩;split at g;rename_i I;simp only[QV,Zm]at g;obtain⟨rfl,rfl⟩:=g;refine⟨.tuple y.toArray,H,.tuple y.toArray,V,β,WF [] A,rfl,Ge.refl β,B.step,G [] I.2,rfl,?_,trivial,E []⟩;simp only[Qh];refine⟨y.toArray,rfl,by grind,?_⟩;rw[N5];intro i c hci;obtain⟨d,hd,rfl⟩:=ZE hci;obtain⟨u,g1,_,g3⟩:=k3 i d hd;have hgp1:=I.1;rw[OG]at hgp1;exact⟨u,by simpa using g1,by rw[Zg];exact Tj d u (hgp1 i d hd) g3⟩;grind;grind
def Lg [Dr] {Q} (x:FX P num Q tb): ∀n,KOk P num Q (Xu tb n):=by
 intro n;induction n with | zero=>intro f g l R r z _ h;simp[Xu]at h | succ n S=>intro f g l R r z C s A w m β ν V K t B o d y;simp only[Xu]at s;split at s;grind;rename_i h v;exact x.orc f g h C v l R r z s A w m β ν V K t B o d y;rename_i E v;split at s;rename_i G;obtain⟨F,M,i⟩:=x.code f g E C v;unfold QfU at i;simp only[Qr,QM]at i;obtain⟨⟨⟨D,O⟩,j⟩,c⟩:=i;split at c;rename_i U H;have k:=Dz (ν:=ν) G D O A B o d y;refine calls_of_wp M H ?_;split at s;rename_i e q;refine UJ x.mix x.enters S K t (fun b W=>by grind) E.body U c _ _ w m β ν .normal e _ q k fun I w' J u p L=> ?_;exact J5 j d e s I w' J u p L;rename_i e q;refine UJ x.mix x.enters S K t (fun b W=>by grind) E.body U c _ _ w m β ν .ret e _ q k fun I w' J u p L=> ?_;exact J5 j d e s I w' J u p L;grind;grind;grind
end
#print axioms Lg
end Go.Am
namespace Go.Am
def cl0 (sz:Nat):AC:= .reg false [⟨some 2,.mov (.c (.sl true sz [])),none⟩]
def cl1:AC:= .reg false [⟨some 3,.mov (.t 0),none⟩,⟨some 4,.isn false (.t 3),none⟩]
def cl2 (g:Bool) (sz:Nat):AC:= .reg false [⟨some 2,.mov (.c (if g then .gs 0 0 0 0 else .sl true sz [])),none⟩]
def cl3 (g:Bool) (bytes sz:Nat):AC:= .reg false [⟨some 5,.mksl sz [],none⟩,⟨some 6,.mov (.t 0),none⟩,
 ⟨some 7,if g then .appg bytes sz (.t 5) (.t 6)else .app bytes sz (.t 5) (.t 6),none⟩,⟨some 2,if g then .mov (.t 7)else .mvs 7,none⟩]
def Qtw:AC:= .reg false [⟨some 5,.zlit,none⟩,⟨some 6,.mov (.t 0),none⟩,⟨some 7,.appzz (.t 5) (.t 6),none⟩,⟨some 2,.mov (.t 7),none⟩]
def JV (g e:Bool) (bytes sz:Nat):AC:=if g && e then Qtw else cl3 g bytes sz
def NR (P:Program) (num:WL) (g:Bool) (bytes sz:Nat) (F:Func):Bool:=
 decide (F.ntmps=8) && W3 P [.tmp 2] F.results.toList && (match F.body with
  | some (.seq r0 (.seq (.seq r1 (.cond (.tmp 4) (.seq r2 .ret) .skip)) (.seq r3 .ret)))=>
   X8 P num 8 (cl0 sz) r0 && X8 P num 8 cl1 r1 && X8 P num 8 (cl2 g sz) r2 && (X8 P num 8 (JV g true bytes sz) r3 && X8 P num 8 (JV g false bytes sz) r3)
  | _=>false)
def Ui (g:Bool) (bytes sz:Nat) (ys:Qp) (bs:Qp):Option (AV×Qp):=
 if ys.length*bytes<=140737488355328 then
  (if g then(if ys.length=0 then some (.gs 0 0 0 0,bs)else if ZL ys then some (.gs bs.length 0 sz ys.length,bs ++ [ys.flatten.map AV.strip])else none)
   else some (.sl true sz ys,bs))
  else none
def WD (g:Bool) (bytes sz:Nat):Qx->Qp->Option (AV×Qp)
 | [.sl _ s ys],bs=>if s=sz then Ui g bytes sz ys bs else none
 | _,_=>none
def Ra:ZQ:={nparams:=1,ntmps:=8,res:=[.tmp 2],body:= .skip,keep:=true}
def Qd8 {K g a j o b r c} (σ) (k:σ.env 0= .sl o j b) (h:Ui g a j b σ.bs=some (r,c)):
  ∃d,Z5 K 0 (.seq (JV g b.isEmpty a j) .ret) σ=some (.ret,d)/\We Ra [] d=some (r,c):=by
 unfold Ui at h;split at h;rename_i p;cases g;simp only[Xn,ZT,QV,Zm]at h;obtain⟨rfl,rfl⟩:=h;refine⟨_,by simp[Z5,JV,cl3,YP,YL,Qk,Wl,Xl,upd,k,val,AV.strip,AV.ok,p];rfl,?_⟩;simp[We,WG,Te,Ra,upd,AV.ok];simp only[QT]at h;split at h;rename_i i;simp only[QV,Zm]at h;obtain⟨rfl,rfl⟩:=h;have f:=Yu i;subst f;refine⟨_,by simp[Z5,JV,Qtw,YP,YL,Qk,Xl,upd,k,val,AV.strip];rfl,?_⟩;simp[We,WG,Te,Ra,upd,AV.ok];rename_i i;split at h;rename_i q;simp only[QV,Zm]at h;obtain⟨rfl,rfl⟩:=h;have l:b≠[]:=fun e=>i (by rw[e];rfl);have m:b.isEmpty=false:=by cases b <;> simp_all
 refine⟨_,by simp[Z5,JV,m,cl3,YP,YL,Qk,Wl,Xl,upd,k,val,AV.strip,AV.ok,p,l];rfl,?_⟩;simp[We,WG,Te,Ra,upd,AV.ok];cases h;cases h
section
variable {P:Program} {num:Nat->Option Nat}
def MP [Dr] {Γ} (a:P.follows .mixedOrders=true) (I:Ue P num) {g c sz id F} (hFf:P.funcs[id]? =some F) (H:NR P num g c sz F=true):
  Pa P num Γ (WD g c sz) id:=by
 intro args bs r bs' v W w m β ν vs L j hvs O C T;have M:KOk P num Γ (fun _ _ _=>none):=fun _ _ _ _ _ _ _ h=>by cases h
 have J: ∀b,(∃p,ν b=some p)->Γ.Gb<=b:=fun b D=>by obtain⟨p,hp⟩:=D;exact(T b p hp).2.1
 unfold WD at v;split at v;rename_i _ o s Z;split at v;rename_i G;subst G;unfold NR at H;simp only[Qr,QM]at H;obtain⟨⟨hnt,X⟩,d⟩:=H;split at d;rename_i r0 r1 r2 r3 hcc;simp only[Qr]at d;obtain⟨⟨⟨k0,k1⟩,k2⟩,k3⟩:=d;have t:=J5 (f:=Ra) (F:=F) (r:=r) (bs':=bs') X C;have i: ∀E k,We Ra k E=We Ra [] E:=fun E k=>by unfold We;split <;> rfl
 refine calls_of_wp hFf hcc ?_;refine wp_seq ?_;refine UJ a I M L j J (n:=0) _ _ k0 _ _ w m β ν .normal _ _ (by simp[Z5,cl0,YP,YL,Qk,Xl,val,AV.ok];rfl) (Dz (num:=num) (f:=Ra) (F:=F) (ν:=ν) (Γ:=Γ) rfl hnt.symm (show 1<=8 by omega) W hvs O C T) fun a1 w1 m1 R V S=> ?_;refine wp_seq (wp_seq ?_);rcases Z with _ | ⟨y,Z⟩;refine UJ a I M L j J (n:=0) _ _ k1 _ _ w1 m1 R V .normal _ _ (by simp[Z5,cl1,YP,YL,Qk,Xl,val,AV.ok,upd,Wm,AV.strip];rfl) S fun a2 Y m2 A B e=> ?_;have D: ∃b,a2.eval (.tmp 4)= .bool b:=by obtain⟨_,h2⟩:=e.at_ (n:=4) (by simp[upd]);have z:=e.slots 4 _ h2;simp only[upd]at z;obtain⟨⟨b,z⟩,_⟩:=z;exact⟨b,z⟩
 obtain⟨b,D⟩:=D;cases b;refine wp_cond_false D (wp_skip ?_);obtain⟨x,e1,e2⟩:=Qd8 (K:=fun _ _ _=>none) (o:=false) (σ:={env:=upd (upd (upd (Wm [.sl o s []]) 2 (.sl true s [])) 3 (.sl false s [])) 4 .anyb,bs:=bs}) (by simp[upd,Wm,AV.strip]) v;exact UJ a I M L j J (n:=0) (.seq (JV g _ c s) .ret) (.seq r3 .ret) (by simp[X8,k3]) _ _ Y m2 A B .ret x _ e1 e fun Q U N u q l=>t x (by rwa[i]) Q U N u q l;refine wp_cond_true D (wp_seq ?_);refine UJ a I M L j J (n:=0) _ _ k2 _ _ Y m2 A B .normal {env:=upd (upd (upd (upd (Wm [.sl o s []]) 2 (.sl true s [])) 3 (.sl false s [])) 4 .anyb) 2 (if g then .gs 0 0 0 0 else .sl true s []),bs:=bs} _ (by cases g <;> simp[Z5,cl2,YP,YL,Qk,Xl,val,AV.ok]) e fun Q U N u q l=> ?_;refine wp_ret ?_;refine t _ ?_ Q U N u q l;rw[i];cases g;simp[Ui]at v;obtain⟨rfl,rfl⟩:=v;simp[We,WG,Te,Ra,upd,AV.ok];simp[Ui]at v;obtain⟨rfl,rfl⟩:=v;simp[We,WG,Te,Ra,upd,AV.ok];refine UJ a I M L j J (n:=0) _ _ k1 _ _ w1 m1 R V .normal _ _ (by simp[Z5,cl1,YP,YL,Qk,Xl,val,AV.ok,upd,Wm,AV.strip];rfl) S fun a2 Y m2 A B e=> ?_;have D:a2.eval (.tmp 4)= .bool false:=by obtain⟨_,h2⟩:=e.at_ (n:=4) (by simp[upd]);have z:=e.slots 4 _ h2;simp only[upd]at z;obtain⟨z,_⟩:=z;exact z
 refine wp_cond_false D (wp_skip ?_);obtain⟨x,e1,e2⟩:=Qd8 (K:=fun _ _ _=>none) (o:=false) (σ:={env:=upd (upd (upd (Wm [.sl o s (y:: Z)]) 2 (.sl true s [])) 3 (.sl false s (y:: Z))) 4 (.bool false),bs:=bs}) (by simp[upd,Wm,AV.strip]) v;exact UJ a I M L j J (n:=0) (.seq (JV g _ c s) .ret) (.seq r3 .ret) (by simp[X8,k3]) _ _ Y m2 A B .ret x _ e1 e fun Q U N u q l=>t x (by rwa[i]) Q U N u q l;cases d;cases v;cases v
end
end Go.Am
namespace Go.Am
def Hq:Qx->Option AV
 | [.str a,.str b]=>some (.int .i64 (if Op.bytesLess a b then -1 else if a == b then 0 else 1))
 | _=>none
def QtK:Nat->Nat->Zq->Zq
 | 0,_,acc=>acc
 | k+1,n,acc=>if n < 10 then(48+n).toUInt8:: acc else QtK k (n / 10) ((48+n % 10).toUInt8:: acc)
def Qxc (n:Nat):Zq:=QtK (n+1) n []
end Go.Am
namespace Go.Am
open Go.RowKit
def QfC (P:Program):Nat:=max (max ((P.globalNamed "internal/strconv.uint64pow10").getD 0) ((P.globalNamed "strconv.ErrSyntax").getD 0)) ((P.globalNamed "strconv.ErrRange").getD 0)+1
def HY [Dr] {P X w a m f B} (d:Y2 X w m a f) (i: ∀b,X b->B<=b) (j:B<=w.heap.size) {n} (c: (P.globalNamed n).getD 0 < B):a.var? P n=w.var? P n:=by
 unfold World.var?;rcases h:P.globalNamed n with _ | g;rfl;rw[h]at c;simp only[Pj]at c;simp only[QO];rw[(d.same g (by omega) (fun e=>by have:=i g e;omega)).1]
def Qnv (P:Program) (w:World):Prop:=Lib.TabIs P w "internal/strconv.uint64pow10" .u64 Lib.pow10Tab/\
 (P.globalNamed "strconv.ErrSyntax" ≠none->∃tp p,w.var? P "strconv.ErrSyntax" =some #[.iface tp p])/\(P.globalNamed "strconv.ErrRange" ≠none->∃tp p,w.var? P "strconv.ErrRange" =some #[.iface tp p])
def glob [Dr] (P:Program):PX where
 G:=Qnv P
 Gb:=QfC P
 step:=fun X w m w' m' hS hX hb hG=>by
  unfold Qnv Lib.TabIs at *;rw[HY hS hX hb (by unfold QfC;omega),HY hS hX hb (by unfold QfC;omega),HY hS hX hb (by unfold QfC;omega)];exact hG
def Qgr [Dr] {w e m} (h:Below w.heap.size w e) (c:Dr.d->w.drawn<=e.drawn):Y2 (fun _=>False) w m e m:=by
 refine⟨h.os,h.tape,h.output,h.size,fun b f _=>⟨h.block b f,rfl⟩,fun b i u a=> ?_,c⟩;unfold hg at a ⊢;split at a;rename_i g;rw[Qe g];have f:b < w.heap.size:=by rcases Zt b w.heap.size with d | d;exact d;exfalso;unfold World.cell? at a;rw[Pd d]at a;cases a
 unfold World.cell? at a ⊢;rwa[h.block b f];cases a
section
variable {P:Program} {num:Nat->Option Nat}
def FH [Dr] {x h} {g:Nat}
  (D: ∀(a:Qx) (r:AV),h a=some r->∀(w:World) (m:Xs) (l:UH) (j:Vw),x.G w->j.size=a.length->
   (∀(i:Nat) (c:AV),a[i]? =some c->∃u,j[i]? =some u/\Qh num l w m c u)->
   Calls P g j w fun e d=>∃v,e= .returned v/\Below w.heap.size w d/\(Dr.d->w.drawn<=d.drawn)/\r.ok=true/\(∀d o,Qh num l d o r v)/\(∀d o s,Yr d o s .f r v)):
  QhI P num x h g:=by
 intro a r C G w m l j A y n k;refine(D a r C w m l j A n k).mono fun e d q=> ?_;obtain⟨v,q,B,t,z,H,E⟩:=q;exact⟨v,m,fun _=>none,q,Qgr B t,z,H d m,E d m _,fun b p I=>by cases I⟩
def Qe3 {a} {u v:Value} (h:a.size=2) (c:a[0]? =some u) (b:a[1]? =some v):a= #[u,v]:=by
 apply Gs;intro i;match i with | 0=>rw[c];rfl | 1=>rw[b];rfl | i+2=>rw[Pd (by omega),Pd (by simp)]
def Pt (s): (⟨s.toArray⟩:ByteArray).data.toList=s:=by simp
def GV (s:Zq): (⟨s.toArray⟩:ByteArray).size=s.length:=by simp[ByteArray.size]
def Lw:=@beq_eq_false_iff_ne
def MQ: ∀a b:Zq,Lib.compareBytes a b=if Op.bytesLess a b then -1 else if a == b then 0 else 1
 | [],[]=>rfl
 | [],_:: _=>by simp[Lib.compareBytes,Op.bytesLess]
 | _:: _,[]=>by simp[Lib.compareBytes,Op.bytesLess]
 | a:: i,b:: h=>by
  simp only[Lib.compareBytes,Op.bytesLess,MQ i h];by_cases c:a < b;simp[c];by_cases f:b < a;have d: (a == b)=false:=by rw[Lw];intro e;subst e;exact c f
  simp[c,f,d];have g:a=b:=by apply UInt8.toNat_inj.1;rw[UInt8.lt_iff_toNat_lt]at c f;omega
  subst g;simp[c]
def Qda [Dr] {o} {g:Nat} (n: ∀(a b:ByteArray) (w:World),Calls P g #[.string a,.string b] w fun e i=>e= .returned (.int .i64 (Lib.compareBytes a.data.toList b.data.toList))/\i=w):Pa P num o (UA Hq) g:=by
 refine QaU (FH fun h r d w m x t s f c=> ?_);unfold Hq at d;split at d;rename_i a b;cases d;obtain⟨u,p,j⟩:=c 0 _ rfl;obtain⟨v,l,k⟩:=c 1 _ rfl;simp only[Qh]at j k;subst j k;rw[Qe3 f p l];refine(n _ _ w).mono fun e i q=> ?_;obtain⟨rfl,rfl⟩:=q;rw[Pt,Pt,MQ];exact⟨_,rfl,Below.refl _ _,fun _=>QX _,rfl,fun _ _=>by simp only[Qh],fun _ _ _=>trivial⟩;cases d
end
end Go.Am
namespace Go.Am
section
variable {P:Program} {num:Nat->Option Nat} {tb:Nat->Option AFn}
def Ent (P:Program) (g:Nat):Prop:=∃fn,P.funcs[g]? =some fn/\(fn.name == "runtime.NumGoroutine")=false/\fn.body.isNone=false
abbrev Me:=List (Nat×Nat)
def QfO {L:Me} {f g} (h:L.lookup f=some g): (f,g)∈L:=by
 induction L with | nil=>cases h | cons p L d=>obtain⟨a,b⟩:=p;rw[List.lookup_cons]at h;by_cases c:f=a;subst c;simp at h;subst h;simp;(have: (f == a)=false:=by simpa using c);rw[this]at h;exact Tl _ (d h)
def Qiu [Dr] {L:Me} (h: ∀p∈L,Ent P p.2):Ue P (fun f=>L.lookup f):=fun f g a=>h (f,g) (QfO a)
def Py {c:Type} {p:c->Prop} {a l} (h:p a) (d: ∀x∈l,p x): ∀x∈a:: l,p x:=fun x b=>by
 rcases Zf.1 b with rfl | b;exact h;exact d x b
def Qug {a:Type} {p:a->Prop}: ∀x∈([]:List a),p x:=fun x b=>by cases b
def Qfs (P:Program) (g:Nat):Bool:=match P.funcs[g]? with
 | some fn=> !(fn.name == "runtime.NumGoroutine") && !fn.body.isNone
 | none=>false
def NM [Dr] {L:Me} (h: (L.all fun p=>Qfs P p.2)=true):Ue P (fun f=>L.lookup f):=Qiu fun p b=>by
 have a:=X0.1 h p b;unfold Qfs at a;split at a;rename_i d c;simp only[Qr,Tp]at a;exact⟨d,c,a.1,a.2⟩;cases a
def Vn (P:Program) (L:Me) (T:List (Nat×AFn)):Bool:=T.all fun p=>match p.2 with
 | .code fn=>(match L.lookup p.1 with
  | some g=>(match P.funcs[g]? with
   | some F=>QfU P (fun f=>L.lookup f) fn F
   | none=>false)
  | none=>true)
 | .orc _=>true
def N8:=@List.take_append_drop
def V7 {L T} (n) (a:Vn P L (T.take n)=true) (b:Vn P L (T.drop n)=true):Vn P L T=true:=by
 unfold Vn at *;rw[<- N8 n T,GA,a,b];rfl
def I8 {L:List (Nat×AFn)} {f g} (h:L.lookup f=some g): (f,g)∈L:=by
 induction L with | nil=>cases h | cons p L d=>obtain⟨a,b⟩:=p;rw[List.lookup_cons]at h;by_cases c:f=a;subst c;simp at h;subst h;simp;(have: (f == a)=false:=by simpa using c);rw[this]at h;exact Tl _ (d h)
def Oat [Dr] (P:Program) (L:Me) (Γ:PX) (tb:Sc) (f:Nat):Prop:=∀g h,L.lookup f=some g->tb f=some (.orc h)->Pa P (fun f=>L.lookup f) Γ h g
def Sj [Dr] {L c f g h} (i:tb f=some (.orc h)) (e:L.lookup f=some g) (d:Pa P (fun f=>L.lookup f) c h g):Oat P L c tb f:=
 fun k j b a=>by
  rw[e]at b;rw[i]at a;injection b with b;injection a with a;injection a with a;subst b;subst a;exact d
def AU [Dr] {k L T} (j:XZ) (i: ∀f,tb f=T.lookup f) (e:P.follows .mixedOrders=true) (l: (L.all fun p=>Qfs P p.2)=true) (m:Vn P L T=true)
  (n: (T.all fun p=>match p.2 with | .orc _=>j.contains p.1 | .code _=>true)=true) (o: ∀f∈j,Oat P L k tb f):FX P (fun f=>L.lookup f) k tb where
 mix:=e
 enters:=NM l
 code:=fun f g r a d=>by
  rw[i]at d;have b:=X0.1 m _ (I8 d);simp only[a]at b;split at b;rename_i F q;exact⟨F,q,b⟩;cases b
 orc:=fun f g h a d=>by
  have c:=d;rw[i]at c;have b:=X0.1 n _ (I8 c);simp only at b;exact o f (by simpa using b) g h a d
end
end Go.Am
namespace Go.Am
def mW (w:World):Xs:=fun b=>match w.heap[b]? with
 | some (.cells c _ _)=>c.size
 | _=>0
def Qv7 (w b i):hg w (mW w) b i=w.cell? ⟨b,i,none⟩:=by
 unfold hg mW World.cell?;rcases h:w.heap[b]? with _ | o;simp;cases o <;> simp
def QkD (R:TypeId->Qx->Prop):List Field->Qx->Prop
 | [],avs=>avs=[]
 | f:: fs,avs=>∃p q,avs=p ++ q/\R f.type p/\QkD R fs q
def Shp (B:Nat) (P:Program):Nat->TypeId->Qx->Prop
 | 0,_,_=>False
 | n+1,t,avs=>match P.underlying t with
  | some (.int k)=>∃i,avs=[.int k i]/\(Lit.int k i).wf=true
  | some .bool=>∃b,avs=[.bool b]
  | some .string=>∃s:Zq,avs=[.str s]/\s.length<=B
  | some (.slice e)=>∃xs:Qp,avs=[.sl false (P.cellsOf e) xs]/\xs.length*P.bytesOf e<=B/\∀x∈xs,Shp B P n e x
  | some (.struct fs)=>QkD (Shp B P n) fs.toList avs
  | _=>False
def Qam (P:Program) (tot:Nat):List Field->Nat->Bool
 | [],o=>decide (o=tot)
 | f:: fs,o=>decide (f.offset=o) && Qam P tot fs (o+P.cellsOf f.type)
def QfV (P:Program) (S:List TypeId):Bool:=S.all fun t=>match P.underlying t with
 | some (.int _)=>decide (P.cellsOf t=1)
 | some .bool=>decide (P.cellsOf t=1)
 | some .string=>decide (P.cellsOf t=1)
 | some (.slice e)=>S.contains e && decide (0 < P.cellsOf e) && decide (P.cellsOf t=1)
 | some (.struct fs)=>fs.toList.all (fun f=>S.contains f.type) && Qam P (P.cellsOf t) fs.toList 0
 | _=>false
def LA:=@Nat.lt_trichotomy
def U7:=@Nat.sub_self
def QdO {d:Type} {Q:Nat->d->Prop}: ∀{n},(∀i,i < n->∃x,Q i x)->∃b:List d,b.length=n/\∀i x,b[i]? =some x->Q i x
 | 0,_=>⟨[],rfl,fun i x h=>by simp at h⟩
 | n+1,h=>by
  obtain⟨b,e,g⟩:=QdO (n:=n) fun i c=>h i (by omega);obtain⟨x,f⟩:=h n (by omega);refine⟨b ++ [x],by simp[e],fun i y a=> ?_⟩;rcases LA i n with c | c | c;rw[Y3 (by omega)]at a;exact g i y a;subst c;rw[Yq (by omega),e,U7]at a;simp at a;subst a;exact f;rw[ZF (by simp;omega)]at a;cases a
def Qcs {H P e b}: ∀{d:DataW H},d∈b->∀n∈d.weights P e,n∈DataW.weightsAll P e b:=by
 induction b with | nil=>intro d h;cases h | cons a b f=>intro d h n c;simp only[DataW.weightsAll,Ze];rcases Zf.1 h with rfl | h;exact .inl c;exact .inr (f h n c)
section
variable {B:Nat} {H:Type} {enc:TypeId×Value->H} {P:Program} {w:World} {base:Nat} {spare:Nat->Bool} {held:Bool} {num:Nat->Option Nat} {β:List Blk} {S:List TypeId}
def Pp:=@Nat.zero_le
def GE:=@List.drop_drop
def Qgu [Dr] (hS:QfV P S=true): ∀g t J x,t∈S->DataW.trod enc P w base spare held g t J=some x->
  (∀n∈x.1.weights P t,n<=B)->∃m,Shp B P g t m/\m.length=J.length/\J.length=P.cellsOf t/\XM num β w (mW w) m (fun i=>J[i]?) 0:=by
 intro g;induction g with | zero=>intro t J x _ h;simp[DataW.trod]at h | succ g ih=>intro t J x ht h E;have z:=X0.1 hS t ht;simp only[Shp];split at z;rename_i k v;simp only[QM]at z;obtain⟨n,rfl,rfl,hwf⟩:=DataW.trod_int v h;exact⟨_,⟨n,rfl,hwf⟩,rfl,by rw[z];rfl,by simp[XM,Qh];rfl⟩;rename_i v;simp only[QM]at z;(have: ∃b,J=[.bool b]:=by unfold DataW.trod at h;rw[v]at h;split at h <;> simp_all);obtain⟨b,rfl⟩:=this;exact⟨_,⟨b,rfl⟩,rfl,by rw[z];rfl,by simp[XM,Qh];rfl⟩;rename_i v;simp only[QM]at z;obtain⟨s,rfl,rfl,hmx⟩:=DataW.trod_string v h;refine⟨_,⟨s.data.toList,rfl,E _ (by simp[DataW.weights])⟩,rfl,by rw[z];rfl,?_⟩;simp only[XM,Qh];exact⟨⟨_,rfl,rfl,by simp⟩,trivial⟩;rename_i e v;simp only[Qr,QM]at z;obtain⟨⟨hse,hc0⟩,T⟩:=z;(have he:e∈S:=by simpa using hse);rcases DataW.trod_slice v h with⟨rfl,rfl⟩ | ⟨a,M,cap,A,Q,n,L,rfl,rfl,hb,K,hm,hlen,hel,_,_⟩;refine⟨_,⟨[],rfl,by simp,by simp⟩,rfl,by rw[T];rfl,?_⟩;simp only[XM,Qh];exact⟨⟨_,rfl,rfl,none,0,0,rfl,rfl,QX _,Pp _,.inl trivial⟩,trivial⟩;cases L;(have G: ∀i,i < M->∃N,Shp B P g e N/\N.length=P.cellsOf e/\∃r:WM,(∀j,j < P.cellsOf e->w.cell? ((a.add (i*P.cellsOf e)).add j)=r[j]?)/\r.length=P.cellsOf e/\XM num β w (mW w) N (fun j=>r[j]?) 0:=by intro i I;have y:=hel i I;rw[(Q0 (by omega))]at y;obtain⟨r,g1,g2⟩:=Option.bind_eq_some_iff.1 y;obtain⟨_,g3,W⟩:=World.cells?_some g1;obtain⟨N,k1,k2,k3,k4⟩:=ih e r _ he g2 (fun n L=>E n (by simp only[DataW.weights,v,Zf,Ze];right;left;refine Qcs (d:=(A[i]'(by omega)).1) ?_ n L;exact Yg.2 ⟨_,VH _,rfl⟩));exact⟨N,k1,by rw[k2,k3],r,W,g3,k4⟩);obtain⟨V,x1,x2⟩:=QdO G;refine⟨_,⟨V,rfl,?_,fun x hx=> ?_⟩,rfl,by rw[T];rfl,?_⟩;have:=E ((A.length+Q.length)*P.bytesOf e) (by simp[DataW.weights,v]);refine Y8 (Yy _ ?_) this;omega;obtain⟨i,I⟩:=SA hx;exact(x2 i x I).1;simp only[XM,Qh];refine⟨⟨_,rfl,rfl,some a,M,cap,rfl,x1,K,hm,?_⟩,trivial⟩;by_cases h0:V=[];exact .inl h0;right;(have hl0:0 < M:=by rw[<- x1];exact Jt.2 h0);(have Y:a.spot=none:=by obtain⟨N,_,_,r,W,g3,_⟩:=G 0 hl0;have y:=W 0 hc0;rw[Q0 (by omega)]at y;unfold World.cell? at y;split at y;split at y;cases y;rename_i hq;simpa[Addr.add]using hq;cases y);obtain⟨ab,ao,asp⟩:=a;simp only at Y;subst Y;refine⟨ab,ao,rfl,?_⟩;rw[Vk];intro i x hx;obtain⟨k1,k2,r,W,g3,k4⟩:=x2 i x hx;refine⟨k2,?_⟩;rw[Y1]at k4 ⊢;intro j c hj;obtain⟨u,D,Z,R⟩:=k4 j c hj;(have hjl:j < P.cellsOf e:=by rcases Zt j x.length with hh | hh;omega;rw[ZF hh]at hj;cases hj);refine⟨u,?_,Z,R⟩;rw[Qv7];have:=W j hjl;simp only[Z1]at D;rwa[D,Wf,Wf]at this;rename_i O v;simp only[Qr]at z;obtain⟨hs1,hs2⟩:=z;obtain⟨V,n,L,rfl,hcl,hxl,hf⟩:=DataW.trod_struct v h;cases L;(have key: ∀(l:List Field) (k o:Nat),O.toList.drop k=l->Qam P (P.cellsOf t) l o=true->∃m,QkD (Shp B P g) l m/\m.length+o=P.cellsOf t/\XM num β w (mW w) m (fun i=>J[i]?) o:=by intro l;induction l with | nil=>intro k o _ K;simp only[Qam,QM]at K;exact⟨[],rfl,by simpa using K,by simp[XM]⟩ | cons f l ihl=>intro k o hk K;simp only[Qam,Qr,QM]at K;obtain⟨rfl,hl2⟩:=K;(have X:O.toList[k]? =some f:=by(have: (O.toList.drop k)[0]? =some f:=by rw[hk];rfl);simpa using this);(have hk2:O.toList.drop (k+1)=l:=by rw[<- GE,hk];rfl);obtain⟨q,q1,q2,q3⟩:=ihl (k+1) _ hk2 hl2;(have C:O[k]? =some f:=by simpa using X);(have hfm:f.type∈S:=by have:=X0.1 hs1 f (X9 X);simpa using this);have y:=hf k f C;(have U:k < V.length:=by rw[hxl];exact(N6.1 C).1);rw[Q0 U]at y;obtain⟨p,p1,p2,p3,p4⟩:=ih f.type _ _ hfm y (fun n L=>E n (by simp only[DataW.weights,v];exact DataW.weights_mem_each (j:=k) (t:=f.type) (d:=V[k].1) (by simp[C]) (by simp[Q0 U]) n L));rw[p3]at p2;refine⟨p ++ q,⟨p,q,rfl,p1,q1⟩,by simp;omega,?_⟩;rw[Y1]at p4 q3 ⊢;intro i c I;by_cases hil:i < p.length;rw[Y3 hil]at I;obtain⟨u,D,Z,R⟩:=p4 i c I;refine⟨u,?_,Z,R⟩;simp only[Z1]at D;rw[Tn]at D;split at D;rwa[Vf]at D;cases D;rw[Yq (by omega)]at I;obtain⟨u,D,Z,R⟩:=q3 (i - p.length) c I;refine⟨u,?_,Z,R⟩;rwa[show f.offset+P.cellsOf f.type+ (i - p.length)=f.offset+i by omega]at D);obtain⟨m,a1,a2,a3⟩:=key O.toList 0 0 (by simp) hs2;exact⟨m,a1,by omega,hcl,a3⟩;cases z
end
end Go.Am
namespace Go.Am
def KLe (K K':Vd):Prop:=∀f args bs r,K f args bs=some r->K' f args bs=some r
def QiE {K k} (h:KLe K k) {j e p} (a:Qk K j e=some p):Qk k j e=some p:=by
 cases j <;> try exact a
 case call f b=>simp only[Qk]at a ⊢;split at a;rename_i c;rw[Qe c];rcases d:K f (b.map (val e.env)) e.bs with _ | r;rw[d]at a;cases a;rw[d]at a;rwa[h _ _ _ _ d];cases a
 case callq f b=>simp only[Qk]at a ⊢;split at a;rename_i c;rw[Qe c];rcases d:K f (b.map (val e.env)) e.bs with _ | r;rw[d]at a;cases a;rw[d]at a;rwa[h _ _ _ _ d];cases a
 case callv g b=>simp only[Qk]at a ⊢;split at a;rename_i f i l;split at a;rename_i c;rw[Qe c];rcases d:K f (b.map (val e.env)++ i) e.bs with _ | r;rw[d]at a;cases a;rw[d]at a;rwa[h _ _ _ _ d];cases a;cases a
def FM {K d} (h:KLe K d) {o b s} (a:YL K o b=some s):YL d o b=some s:=by
 have c: ((Qk K o.op b).map fun p=>({p.2 with env:=Xl p.2.env o.dst p.1}:St))=some s->((Qk d o.op b).map fun p=>({p.2 with env:=Xl p.2.env o.dst p.1}:St))=some s:=fun a=>by rcases e:Qk K o.op b with _ | p;rw[e]at a;cases a;rw[e]at a;rwa[QiE h e]
 unfold YL at a ⊢;split at a;exact c a;split at a;split at a;rename_i f;rw[Qe f];exact c a;rename_i f;rwa[Qb f];exact a;cases a
def Rb {K e} (h:KLe K e): ∀{d b s},YP K d b=some s->YP e d b=some s
 | [],_,_,a=>a
 | o:: d,b,s,a=>by
  simp only[YP]at a ⊢;rcases c:YL K o b with _ | f;rw[c]at a;cases a;rw[c]at a;rw[FM h c];exact Rb h a
def MZ {f g} (h: ∀s x,f s=some x->g s=some x): ∀{n m d x},n<=m->SZ f n d=some x->SZ g m d=some x
 | 0,_,_,_,_,a=>by simp[SZ]at a
 | n+1,0,_,_,b,_=>by omega
 | n+1,m+1,d,x,b,a=>by
  simp only[SZ]at a ⊢;split at a;rename_i s i;rw[h _ _ i];exact MZ h (by omega) a;rename_i c;have:=h _ _ a;rw[this];obtain⟨e,s⟩:=x;cases e;exact absurd a (c s);rfl;rfl
def M5 {K t} (h:KLe K t) {n m} (p:n<=m): ∀{c g x},Z5 K n c g=some x->Z5 t m c g=some x:=by
 intro c;induction c with | bad=>intro g x f;simp[Z5]at f | skip=>intro g x f;exact f | reg d q=>intro g x f;simp only[Z5]at f ⊢;rcases r:YP K q g with _ | s;rw[r]at f;cases f;rw[r]at f;rwa[Rb h r] | seq a b j k=>intro g x f;simp only[Z5]at f ⊢;split at f;rename_i s v;rw[j v];exact k f;rename_i l;rw[j f];obtain⟨e,s⟩:=x;cases e;exact absurd f (l s);rfl;rfl | cond c a b j k=>intro g x f;simp only[Z5]at f ⊢;split at f;exact j f;exact k f;cases f | block y c o=>intro g x f;simp only[Z5]at f ⊢;split at f;rename_i i s w;rwa[o w];rename_i l;rw[o f];obtain⟨e,s⟩:=x;cases e;rfl;exact absurd f (l _ s);rfl | loop c o=>intro g x f;simp only[Z5]at f ⊢;exact MZ (fun s x u=>o u) p f | exit y=>intro g x f;exact f | ret=>intro g x f;exact f
def UI {T}: ∀{n m},n<=m->KLe (Xu T n) (Xu T m)
 | 0,_,_=>fun _ _ _ _ h=>by simp[Xu]at h
 | n+1,0,h=>by omega
 | n+1,m+1,h=>fun f args bs r he=>by
  simp only[Xu]at he ⊢;split at he;cases he;rename_i g hg;exact he;rename_i fn hf;split at he;rename_i hl;rw[Qe hl];have hr: ∀x,Z5 (Xu T n) n fn.body {env:=Wm args,bs}=some x->Z5 (Xu T m) m fn.body {env:=Wm args,bs}=some x:=fun x hx=>M5 (UI (by omega)) (by omega) hx;split at he;rename_i s hs;rwa[hr _ hs];rename_i s hs;rwa[hr _ hs];cases he;cases he
open Classical in
noncomputable def call (T:Sc):Vd:=fun f args bs=>if h: ∃r n,Xu T n f args bs=some r then some h.choose else none
open Classical in
noncomputable def run (T:Sc) (c:AC) (σ:St):Option (Ex×St):=if h: ∃x n,Z5 (Xu T n) n c σ=some x then some h.choose else none
section
variable {T:Nat->Option AFn}
def JE:=@Nat.le_max_left
def JA:=@Nat.le_max_right
def Rn {f a c r}:call T f a c=some r↔∃n,Xu T n f a c=some r:=by
 have b: ∀{g i:AV×Qp} {n m:Nat},Xu T n f a c=some g->Xu T m f a c=some i->g=i:=fun {g i n m} l o=>by have p:=UI (T:=T) (JE n m) _ _ _ _ l;have j:=UI (T:=T) (JA n m) _ _ _ _ o;rw[p]at j;injection j
 unfold call;constructor;intro h;split at h;rename_i e;injection h with h;obtain⟨n,d⟩:=e.choose_spec;exact⟨n,h▸d⟩;cases h;rintro⟨n,d⟩;have e: ∃r n,Xu T n f a c=some r:=⟨r,n,d⟩;rw[dif_pos e];obtain⟨m,k⟩:=e.choose_spec;rw[b k d]
def YF {c b x}:run T c b=some x↔∃n,Z5 (Xu T n) n c b=some x:=by
 have a: ∀{f g:Ex×St} {n m:Nat},Z5 (Xu T n) n c b=some f->Z5 (Xu T m) m c b=some g->f=g:=fun {f g n m} k l=>by have o:=M5 (UI (T:=T) (JE n m)) (JE n m) k;have i:=M5 (UI (T:=T) (JA n m)) (JA n m) l;rw[o]at i;injection i
 unfold run;constructor;intro h;split at h;rename_i d;injection h with h;obtain⟨n,e⟩:=d.choose_spec;exact⟨n,h▸e⟩;cases h;rintro⟨n,e⟩;have d: ∃x n,Z5 (Xu T n) n c b=some x:=⟨x,n,e⟩;rw[dif_pos d];obtain⟨m,j⟩:=d.choose_spec;rw[a j e]
def DM (n):KLe (Xu T n) (call T):=fun _ _ _ _ h=>Rn.2 ⟨n,h⟩
def QlD {j d p} (h:Qk (call T) j d=some p): ∃n,Qk (Xu T n) j d=some p:=by
 cases j <;> try exact⟨0,h⟩
 case call f a=>simp only[Qk]at h ⊢;split at h;rename_i b;simp only[b,QT];rcases c:call T f (a.map (val d.env)) d.bs with _ | r;rw[c]at h;cases h;obtain⟨n,i⟩:=Rn.1 c;rw[c]at h;exact⟨n,by rwa[i]⟩;cases h
 case callq f a=>simp only[Qk]at h ⊢;split at h;rename_i b;simp only[b,QT];rcases c:call T f (a.map (val d.env)) d.bs with _ | r;rw[c]at h;cases h;obtain⟨n,i⟩:=Rn.1 c;rw[c]at h;exact⟨n,by rwa[i]⟩;cases h
 case callv g a=>simp only[Qk]at h ⊢;split at h;rename_i f e k;split at h;rename_i b;simp only[b,QT];rcases c:call T f (a.map (val d.env)++ e) d.bs with _ | r;rw[c]at h;cases h;obtain⟨n,i⟩:=Rn.1 c;rw[c]at h;exact⟨n,by rwa[i]⟩;cases h;cases h
def QjE {o a s} (h:YL (call T) o a=some s): ∃n,YL (Xu T n) o a=some s:=by
 have b: ((Qk (call T) o.op a).map fun p=>({p.2 with env:=Xl p.2.env o.dst p.1}:St))=some s->∃n,((Qk (Xu T n) o.op a).map fun p=>({p.2 with env:=Xl p.2.env o.dst p.1}:St))=some s:=fun c=>by rcases d:Qk (call T) o.op a with _ | p;rw[d]at c;cases c;obtain⟨n,f⟩:=QlD d;rw[d]at c;exact⟨n,by rwa[f]⟩
 unfold YL at h ⊢;split at h;exact b h;split at h;split at h;rename_i e;obtain⟨n,f⟩:=b h;exact⟨n,by rwa[Qe e]⟩;rename_i e;exact⟨0,by rwa[Qb e]⟩;exact⟨0,h⟩;cases h
def FN: ∀{os a s},YP (call T) os a=some s->∃n,YP (Xu T n) os a=some s
 | [],_,_,h=>⟨0,h⟩
 | o:: os,a,s,h=>by
  simp only[YP]at h;rcases b:YL (call T) o a with _ | e;rw[b]at h;cases h;rw[b]at h;obtain⟨n,d⟩:=QjE b;obtain⟨m,c⟩:=FN (os:=os) h;refine⟨max n m,?_⟩;simp only[YP];rw[FM (UI (JE n m)) d];exact Rb (UI (JA n m)) c
def Ng {n m} (h:n<=m) {c a x} (b:Z5 (Xu T n) n c a=some x):Z5 (Xu T m) m c a=some x:=M5 (UI h) h b
def NT {c:Type} {a b:Option c} (h: ∀x,a=some x↔b=some x):a=b:=by
 rcases a with _ | x;rcases b with _ | y;rfl;exact absurd ((h y).2 rfl) (by simp);exact((h x).1 rfl).symm
def Qbh (a):run T .skip a=some (.normal,a):=YF.2 ⟨0,rfl⟩
def Qea (a):run T .ret a=some (.ret,a):=YF.2 ⟨0,rfl⟩
def Qbe (a b):run T (.exit a) b=some (.exit a,b):=YF.2 ⟨0,rfl⟩
def Qd9 (d a c):run T (.reg d a) c=(YP (call T) a c).map fun s=>(.normal,s):=by
 apply NT;intro x;rw[YF];simp only[Z5];constructor;rintro⟨n,h⟩;rcases b:YP (Xu T n) a c with _ | s;rw[b]at h;cases h;rw[b]at h;rwa[Rb (DM n) b];intro h;rcases b:YP (call T) a c with _ | s;rw[b]at h;cases h;obtain⟨n,e⟩:=FN b;rw[b]at h;exact⟨n,by rwa[e]⟩
def Qeb (a b g):run T (.seq a b) g=match run T a g with
  | some (.normal,s)=>run T b s
  | r=>r:=by
 apply NT;intro x;rw[YF];constructor;rintro⟨n,h⟩;simp only[Z5]at h;split at h;rename_i s d;rw[YF.2 ⟨n,d⟩];exact YF.2 ⟨n,h⟩;rename_i c;rw[YF.2 ⟨n,h⟩];obtain⟨e,s⟩:=x;cases e;exact absurd h (c s);rfl;rfl;intro h;split at h;rename_i s d;obtain⟨n,f⟩:=YF.1 d;obtain⟨m,i⟩:=YF.1 h;refine⟨max n m,?_⟩;simp only[Z5];rw[Ng (JE n m) f];exact Ng (JA n m) i;rename_i c;obtain⟨n,f⟩:=YF.1 h;refine⟨n,?_⟩;simp only[Z5];rw[f];obtain⟨e,s⟩:=x;cases e;exact absurd h (c s);rfl;rfl
def Qbd (c a b d):run T (.cond c a b) d=match val d.env c with
  | .bool true=>run T a d
  | .bool false=>run T b d
  | _=>none:=by
 apply NT;intro x;rw[YF];simp only[Z5];cases e:val d.env c <;> try simp
 rename_i b;cases b;exact YF.symm;exact YF.symm
def Dw (f c g):run T (.block f c) g=match run T c g with
  | some (.exit i,s)=>some (if i=f then .normal else .exit i,s)
  | r=>r:=by
 apply NT;intro x;rw[YF];simp only[Z5];constructor;rintro⟨n,h⟩;split at h;rename_i i s b;rwa[YF.2 ⟨n,b⟩];rename_i a;rw[YF.2 ⟨n,h⟩];obtain⟨e,s⟩:=x;cases e;rfl;exact absurd h (a _ s);rfl;intro h;split at h;rename_i i s b;obtain⟨n,d⟩:=YF.1 b;exact⟨n,by rwa[d]⟩;rename_i a;obtain⟨n,d⟩:=YF.1 h;refine⟨n,?_⟩;rw[d];obtain⟨e,s⟩:=x;cases e;rfl;exact absurd h (a _ s);rfl
def Qbg (c g):run T (.loop c) g=match run T c g with
  | some (.normal,s)=>run T (.loop c) s
  | r=>r:=by
 apply NT;intro x;rw[YF];constructor;rintro⟨n,h⟩;simp only[Z5]at h;cases n with | zero=>simp[SZ]at h | succ n=>simp only[SZ]at h;split at h;rename_i s d;rw[YF.2 ⟨n+1,d⟩];refine YF.2 ⟨n+1,?_⟩;simp only[Z5];exact MZ (fun _ _ h=>h) (by omega) h;rename_i a;rw[YF.2 ⟨n+1,h⟩];obtain⟨e,s⟩:=x;cases e;exact absurd h (a s);rfl;rfl
 intro h;split at h;rename_i s d;obtain⟨n,b⟩:=YF.1 d;obtain⟨m,f⟩:=YF.1 h;refine⟨max n m+1,?_⟩;simp only[Z5]at f ⊢;simp only[SZ];rw[Ng (m:=max n m+1) (by omega) b];exact MZ (fun s x i=>Ng (by omega) i) (by omega) f;rename_i a;obtain⟨n,b⟩:=YF.1 h;refine⟨n+1,?_⟩;simp only[Z5,SZ];rw[Ng (m:=n+1) (by omega) b];obtain⟨e,s⟩:=x;cases e;exact absurd h (a s);rfl;rfl
def F7 (f args bs):call T f args bs=match T f with
  | none=>none
  | some (.orc g)=>g args bs
  | some (.code fn)=>
   if args.length=fn.nparams then
    match run T fn.body {env:=Wm args,bs}with
    | some (.normal,σ)=>We fn bs σ
    | some (.ret,σ)=>We fn bs σ
    | _=>none
   else none:=by
 apply NT;intro x;rw[Rn];constructor;rintro⟨n,h⟩;cases n with | zero=>simp[Xu]at h | succ n=>simp only[Xu]at h;split at h;cases h;rename_i g hg;simp only[hg];exact h;rename_i fn hf;simp only[hf];split at h;rename_i hl;rw[Qe hl];split at h;rename_i s hs;rwa[YF.2 ⟨n,hs⟩];rename_i s hs;rwa[YF.2 ⟨n,hs⟩];cases h;cases h
 intro h;split at h;cases h;rename_i g hg;exact⟨1,by simp only[Xu,hg];exact h⟩;rename_i fn hf;split at h;rename_i hl;split at h;rename_i s hs;obtain⟨n,hn⟩:=YF.1 hs;exact⟨n+1,by simp only[Xu,hf,hl,QT,hn];exact h⟩;rename_i s hs;obtain⟨n,hn⟩:=YF.1 hs;exact⟨n+1,by simp only[Xu,hf,hl,QT,hn];exact h⟩;cases h;cases h
end
end Go.Am
namespace Go.Am
open Go.RowKit Go.ChangeShapes Go.WideShapes
section
variable {P:Program} {num:Nat->Option Nat} {tb:Nat->Option AFn} {W:World}
def Rh [Dr]:PX:=⟨fun _=>True,0,fun _ _ _ _ _ _ _ _ _=>trivial⟩
def QfM [Dr] (hF:FX P num Rh tb) {f g:Nat} (hnum:num f=some g) {args:Qx} {vs:Vw} (hok:VD args=true) (hvs:vs.size=args.length)
  (hrep: ∀(i:Nat) (c:AV),args[i]? =some c->∃u,vs[i]? =some u/\Qh num [] W (mW W) c u) (hc:call tb f args []=some (.bool true,[])):
  Calls P g vs W fun e W'=>e= .returned (.bool true)/\Below W.heap.size W W':=by
 obtain⟨n,hn⟩:=Rn.1 hc;refine(Lg hF n f g args [] _ _ hnum hn hok W (mW W) [] (fun _=>none) vs trivial (Pp _) hvs hrep ⟨rfl,fun i cs k h=>by simp at h⟩ (fun b p h=>by cases h)).mono fun e W' he=> ?_;obtain⟨v,m',β',ν',he,_,hS,_,_,hr,_,_⟩:=he;simp only[Qh]at hr;subst hr;exact⟨he,hS.os,hS.tape,hS.output,hS.size,fun k hk=>(hS.same k hk (fun⟨p,hp⟩=>by cases hp)).1⟩
section
variable {H:Type} {enc:TypeId×Value->H} {S:List TypeId} {base b0:Nat} {spare:Nat->Bool} {held:Bool} {r:Reach}
def K7 (K:Kids P (· < P.types.size)) (i: ∀t e,t < P.types.size->P.underlying t=some (.slice e)->0 < P.cellsOf e) {o} (f:Below W.heap.size W o) {l}:
  ∀{d:List TypeId} {j k c},(∀t∈d,t < P.types.size)->DataW.TrodAll enc P W 0 (fun _=>true) true d j k c->(∀p∈c,p.block < W.heap.size)->(∀p∈c,l p.block=true)->
   DataW.TrodAll enc P o 0 l true d j k c
 | [],[],[],_,_,h,_,_=>h
 | _:: _,_:: _,_:: _,_,g,⟨p,q,⟨n,u⟩,v,e⟩,b,m=>by
  subst e;refine⟨p,q,⟨n,?_⟩,K7 K i f (fun t s=>g t (Tl _ s)) v (fun x a=>b x (Br _ a)) (fun x a=>m x (Br _ a)),rfl⟩;exact DataW.trod_carry n _ _ _ (DataW.trod_respare K i n _ _ _ (g _ (List.mem_cons_self ..)) u (fun x a=>m x (U2 _ a))) (fun x a=>f.same (b x (U2 _ a)))
def post_of_below {f} {s:ChangeSpec} {apart fresh handsOn again W W' args v ds gs before pa pv}
  (hW:DataW.Whole enc P f.params.toList s.vars apart W args.toList ds gs before)
  (hres: ∀(b:Nat) (sp:Nat->Bool) (hd:Bool),DataW.TrodAll enc P W' b sp hd f.resultTypes.toList (v.resultList f.resultTypes.size) (s.fn H (ds ++ gs)).results [])
  (hargs: ∀sp:Nat->Bool,(∀p∈before,sp p.block=true)->DataW.TrodAll enc P W' 0 sp true f.params.toList args.toList (s.fn H (ds ++ gs)).args pa)
  (hvars: ∀sp:Nat->Bool,(∀p∈before,sp p.block=true)->DataW.TrodVars enc P W' sp s.vars (s.fn H (ds ++ gs)).vars pv)
  (hps:before=pa ++ pv) (hb:Below W.heap.size W W')
  (hok: ∀(j:Nat) (t:TypeId) (r:Value),f.resultTypes[j]? =some t->(v.resultList f.resultTypes.size)[j]? =some r->Value.okWide P W' .any 0 t r):
  s.post enc P f apart fresh handsOn again W args v W':=by
 have hlt: ∀p∈before,p.block < W.heap.size:=fun p hp=>hW.lt p hp;have hold: ∀p∈before,(fun b=>decide (b < W.heap.size)) p.block=true:=fun p hp=>by simpa using hlt p hp
 refine⟨ds,gs,before,[],pa,pv,hW,hres _ _ _,hargs _ hold,hvars _ hold,World.keptBut_mono (fun p hp=>⟨hp,?_⟩) (hb.frame (·∈before)),fun _=> ?_⟩;rw[hps,Ze]at hp;exact Or.inr hp;obtain⟨_,_,_,_,_,hz,hn⟩:=hW;refine⟨hok,_,_,([]++ pa)++ pv,⟨[]++ pa,pv,trodAll_append (hargs _ (fun _ _=>rfl)) (hres _ _ _),hvars _ (fun _ _=>rfl),rfl,?_,?_⟩,?_⟩;intro b off hp;have hin:MemPlace.cell b off∈before:=by rw[hps];simpa using hp
 rw[hb.frozen (hlt _ hin)];exact hz b off hin;intro ha;have:=hn ha;rw[hps]at this;simpa using this;intro p hp _;rw[hps];simpa using hp
end
end
end Go.Am
