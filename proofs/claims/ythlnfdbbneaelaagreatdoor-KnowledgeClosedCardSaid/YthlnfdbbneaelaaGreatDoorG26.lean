/-
  Kc9, Kc14, Kc10, Kn71, Kn72, Kn73, Kn74, Kn75, Kn76, Kn77, Kn78, Kn79, Kn80, Kn81, Kc11, Kn82, Kn83, Kn84, Kn85, Kn86, Kn87, Kn90, Kn91, Kn92, Kc12.
-/
import Derived.Test.YthlnfdbbneaelaaGreatDoorG22
import Derived.Test.YthlnfdbbneaelaaGreatDoorG25
import Derived.Test.YthlnfdbbneaelaaGreatDoorG15
set_option linter.all false
open Go.Am.F
namespace Go.Am
def Ru {g:Qw} {T:Tm} (h:T ∉ QW g):pwT g T=0:=by
 induction g with
 | nil=>rfl
 | cons q g ih=>
  simp only[QW,ZI,Zf,not_or]at h ih;rw[pwT,Qb (fun e=>h.1 (Z4 _ _ e).symm)];exact ih h.2
def Qjt (g:Qw) (T:Tm): (pwT g T).natAbs<=nL1 g:=by
 induction g with
 | nil=>simp[pwT]
 | cons q g ih=>
  have e:nL1 (q:: g)=q.2.natAbs+nL1 g:=by simp[nL1]
  rw[pwT];split <;> omega
def LS (s:Qj) (T:Tm): ∀g:Qw,pwT (Z9 s g) T=if QA s T=true then 0 else pwT g T
 | []=>by simp[Z9,pwT]
 | q:: g=>by
  have ih:=LS s T g;by_cases h:QA s q.1=true
  ·have e:Z9 s (q:: g)=Z9 s g:=by simp[Z9,h]
   rw[e,ih];by_cases hT:QA s T=true
   ·rw[Qe hT,Qe hT]
   ·rw[Qb hT,Qb hT,pwT,Qb (fun e2=>hT (by rw[<- Z4 _ _ e2];exact h))]
  ·have e:Z9 s (q:: g)=q:: Z9 s g:=by simp[Z9,h]
   rw[e,pwT,pwT,ih];by_cases e2:Qm q.1 T=0
   ·rw[Qe e2,Qe e2,Qb (by rw[<- Z4 _ _ e2];exact h)]
   ·rw[Qb e2,Qb e2]
def OE (cols:Qj) (g:Qw) (X:Q4) {j:Nat} (hj:j < cols.length): (cols.map (pwT g)++ X).getD j 0=pwT g (cols.getD j (.mk 0 [] 0 [])):=by
 rw[Zh,Y3 (by simpa using hj),Pi,Zh,Q0 hj];rfl
def Qus {l:List Qw} {m:Qw} (h4:l.length<=4) (hv: ∀g∈l,Q5 g=0) (hn: ∀g∈l,nL1 g<=8) (hm:Q5 m=0) (h16: ∀T,(pwT m T).natAbs<=16) (hc: (Y9 (l ++ [m])).length<=12):
  meE l m=0↔∃y:Nat->Int,∀T,pwT m T=YN (fun i=>y i*pwT (l.getD i []) T) l.length:=by
 have hA:Asc (Y9 (l ++ [m])):=XW _;have hmem: ∀g,g∈l ++ [m]->∀T,T ∉ Y9 (l ++ [m])->pwT g T=0:=fun g hg T hT=>Ru fun hk=>hT (ZO.2 (by
  obtain⟨q,hq,e⟩:=Yg.1 hk;rw[<- e];exact Qas hg hq))
 obtain⟨CC,hCC⟩: ∃CC,Y9 (l ++ [m])=CC:=⟨_,rfl⟩;unfold meE;rw[hCC]at hc hA hmem ⊢;rw[Qb (by omega),Qb (by simp[Ki hv]),Qb (by simp[hm]),Qb (by omega)];have hrl:=W9 CC l;have hget: ∀i,i < l.length->l.getD i []∈l:=fun i hi=>by rw[Zh,Q0 hi];exact VH _
 have hM: (Yf CC l).length<=4:=by omega
 have hL: ∀i,i < (Yf CC l).length->(rwE (Yf CC l) i).length=CC.length+l.length:=fun i hi=>by rw[V9 (by omega)];exact Ot _ _ _ _
 have hnr: ∀i,i < (Yf CC l).length->nrE (rwE (Yf CC l) i)<=9:=fun i hi=>by
  rw[V9 (by omega),VQ,QdW];have h1:=Ev (l.getD i []) CC (O9 hA);have h2:=hn _ (hget i (by omega));have h3:=HL l.length i;omega
 obtain⟨s,he,_⟩:=AJ hM hL hnr (by omega) CC.length (by omega);have htl: (WR CC l.length m).length=CC.length+l.length:=by simp[WR]
 have ht16: ∀j,((WR CC l.length m).getD j 0).natAbs<=16:=fun j=>by
  unfold WR;rcases Zt j CC.length with hj | hj
  ·rw[OE _ _ _ hj];exact h16 _
  ·rw[Zh,Yq (by simpa using hj),Lu];split <;> simp
 rw[he];simp only[meF];rw[Qwh hM hL hnr (by omega) (by omega) he htl ht16];have hcm: ∀(y:Nat->Int) (j:Nat),j < CC.length->cmb y (Yf CC l) j=YN (fun i=>y i*pwT (l.getD i []) (CC.getD j (.mk 0 [] 0 []))) l.length:=fun y j hj=>by
  unfold cmb;rw[hrl];refine V1 _ fun i hi=> ?_;unfold ceE;rw[V9 hi,VQ,OE _ _ _ hj]
 constructor
 ·rintro⟨y,hy⟩
  refine⟨y,fun T=> ?_⟩;by_cases hT:T∈CC
  ·obtain⟨j,hj⟩:=SA hT;have hjl:j < CC.length:=by
    rcases Zt j CC.length with e | e
    ·exact e
    ·rw[ZF e]at hj;cases hj
   have h1:=hy j hjl;rw[hcm y j hjl,WR,OE _ _ _ hjl]at h1;have:CC.getD j (.mk 0 [] 0 [])=T:=by rw[Zh,hj];rfl
   rw[this]at h1;exact h1
  ·rw[hmem m (by simp) T hT];exact(Ni _ fun i hi=>by rw[hmem _ (U2 _ (hget i hi)) T hT,Int.mul_zero]).symm
 ·rintro⟨y,hy⟩
  exact⟨y,fun j hj=>by rw[hcm y j hj,WR,OE _ _ _ hj];exact hy _⟩
def gsm (z f:Tm->Int):Qj->Int
 | []=>0
 | t:: l=>z t*f t+gsm z f l
def MY {z z' f f':Tm->Int}: ∀l:Qj,(∀t∈l,z t*f t=z' t*f' t)->gsm z f l=gsm z' f' l
 | [],_=>rfl
 | t:: l,h=>by rw[gsm,gsm,h t (by simp),MY l fun x hx=>h x (by simp[hx])]
def Ko (q:Tm->Bool) (z f:Tm->Int): ∀l:Qj,gsm z f (l.filter q)=gsm (fun r=>if q r then z r else 0) f l
 | []=>rfl
 | t:: l=>by
  rw[Jy,gsm];cases h:q t
  ·simp only[Xn,ZT];rw[Ko q z f l];omega
  ·simp only[QT];rw[gsm,Ko q z f l]
def KV (f:Nat->Int): ∀k,YN f (k+1)=f 0+YN (fun i=>f (i+1)) k
 | 0=>by simp[YN]
 | k+1=>by rw[YN,KV f k,YN];omega
def Fc (g:Tm->Qw): ∀(L:Qj) (y:Nat->Int),L.Nodup->∃z:Tm->Int,∀T,YN (fun i=>y i*pwT ((L.map g).getD i []) T) L.length=gsm z (fun t=>pwT (g t) T) L
 | [],y,_=>⟨fun _=>0,fun T=>rfl⟩
 | t:: L,y,h=>by
  obtain⟨h1,h2⟩:=JB.1 h;obtain⟨z,hz⟩:=Fc g L (fun i=>y (i+1)) h2;refine⟨fun r=>if Qm r t=0 then y 0 else z r,fun T=> ?_⟩;rw[ZH,KV,gsm];have e1:gsm (fun r=>if Qm r t=0 then y 0 else z r) (fun t=>pwT (g t) T) L=gsm z (fun t=>pwT (g t) T) L:=MY L fun r hr=>by
   have:Qm r t≠0:=fun e=>h1 (by rw[<- Z4 _ _ e];exact hr);rw[Qb this]
  rw[e1,<- hz T,Qe (Xc t)];rfl
def Fm (g:Tm->Qw) (z:Tm->Int) (T:Tm): ∀L:Qj,YN (fun i=>z (L.getD i (.mk 0 [] 0 []))*pwT ((L.map g).getD i []) T) L.length=gsm z (fun t=>pwT (g t) T) L
 | []=>rfl
 | t:: L=>by
  rw[ZH,KV,gsm,<- Fm g z T L];rfl
def QiM {u s:Qj} (hu:UC u) (hau:Asc u) (has:Asc s) (hs: ∀x∈s,x∈u): (Xq s s).length<=4/\(∀g∈Xq s s,Q5 g=0)/\(∀g∈Xq s s,nL1 g<=8)/\∀g∈Xq s s,∀q∈g,q.1∈Wz u:=by
 have hex: ∀g∈Xq s s,∃t∈u,YY t=true/\g=Z9 s (ofP t):=fun g hg=>by
  obtain⟨t,ht,rfl⟩:=Yg.1 hg;obtain⟨h1,h2⟩:=X1.1 ht;exact⟨t,hs t h1,h2,rfl⟩
 refine⟨?_,fun g hg=> ?_,fun g hg=> ?_,fun g hg q hq=> ?_⟩
 ·have h1:=WT (u.filter YY) (s.filter YY) (Vr _ has) (Vr _ hau) fun x hx=>by
   obtain⟨h1,h2⟩:=X1.1 hx;exact X1.2 ⟨hs x h1,h2⟩
  have h2:=hu.ex;simp only[Xq,UD];omega
 ·obtain⟨t,ht,he,rfl⟩:=hex g hg;exact DG (hu.v t ht) (((hu.hn t ht) t (X3 t)).2 he)
 ·obtain⟨t,ht,he,rfl⟩:=hex g hg;exact Y8 (Kx _ _) (((hu.hn t ht) t (X3 t)).2 he)
 ·obtain⟨t,ht,he,rfl⟩:=hex g hg;exact Ed ht he (X1.1 hq).1
def Qdw {u s:Qj} (hu:UC u) (hau:Asc u) (has:Asc s) (hs: ∀x∈s,x∈u) {m:Qw} (hv:Q5 (Z9 s m)=0) (h16: ∀T,(pwT m T).natAbs<=16) (hc: (Y9 (Xq s s ++ [Z9 s m])).length<=12):
  UY s m=true↔∃z:Tm->Int,∀T,T ∉ s->pwT m T=gsm z (fun t=>pwT (ofP t) T) (s.filter YY):=by
 obtain⟨g1,g2,g3,_⟩:=QiM hu hau has hs;have hno: ∀T,T ∉ s->QA s T=false:=fun T hT=>by
  cases h:QA s T
  ·rfl
  ·exact absurd (Yj.1 h) hT
 have hL: (Xq s s).length=(s.filter YY).length:=by simp[Xq]
 have hun: ∀(z:Tm->Int) T,T ∉ s->gsm z (fun t=>pwT (Z9 s (ofP t)) T) (s.filter YY)=gsm z (fun t=>pwT (ofP t) T) (s.filter YY):=fun z T hT=>MY _ fun t _=>by
  rw[LS,hno T hT];rfl
 unfold UY;rw[QM,Qus g1 g2 g3 hv (fun T=>by rw[LS];split;exact Pp _;exact h16 T) hc];constructor
 ·rintro⟨y,hy⟩
  obtain⟨z,hz⟩:=Fc (fun t=>Z9 s (ofP t)) (s.filter YY) y (O9 (Vr _ has));refine⟨z,fun T hT=> ?_⟩;have h1:=hy T;rw[LS,hno T hT]at h1;simp only[Xn,ZT]at h1;rw[h1,hL];rw[<- hun z T hT,<- hz T];rfl
 ·rintro⟨z,hz⟩
  refine⟨fun i=>z ((s.filter YY).getD i (.mk 0 [] 0 [])),fun T=> ?_⟩;rw[hL];have h1:=Fm (fun t=>Z9 s (ofP t)) z T (s.filter YY);have e:YN (fun i=>z ((s.filter YY).getD i (.mk 0 [] 0 []))*pwT ((Xq s s).getD i []) T) (s.filter YY).length=gsm z (fun t=>pwT (Z9 s (ofP t)) T) (s.filter YY):=h1;rw[e,LS];cases hT:QA s T
  ·have hT':T ∉ s:=fun e2=>by rw[Yj.2 e2]at hT;cases hT
   simp only[Xn,ZT];rw[hun z T hT',hz T hT']
  ·simp only[QT];have:gsm z (fun t=>pwT (Z9 s (ofP t)) T) (s.filter YY)=gsm z (fun _=>0) (s.filter YY):=MY _ fun t _=>by rw[LS,hT];rfl
   rw[this];have z0: ∀l:Qj,gsm z (fun _=>0) l=0:=fun l=>by
    induction l with
    | nil=>rfl
    | cons t l ih=>rw[gsm,ih];simp
   rw[z0]
open Classical
def Wc {q:Pw} {l:Qw}:pwT (q:: l) q.1=q.2:=by simp[pwT,Xc]
def V0 {q:Pw} {l:Qw} {T:Tm} (h:q.1≠T):pwT (q:: l) T=pwT l T:=by
 have:Qm q.1 T≠0:=fun e=>h (Z4 _ _ e);simp[pwT,this]
def MJ {q:Pw} {l:Qw} (h:Asc (QW (q:: l))):q.1 ∉ QW l:=fun hm=>by
 have h2:=(YQ.1 h).1 q.1 hm;rw[Xc]at h2;omega
def HF {T:Tm} {l:Qw} (h: ∀y∈QW l,Qm T y < 0):T ∉ QW l:=fun hm=>by
 have h2:=h T hm;rw[Xc]at h2;omega
structure Iv (l:List Pw):Prop where
 asc:Asc (QW l)
 nz: ∀q∈l,q.2≠0
def Qul:Iv []:=⟨Asc.nil,fun q h=>by cases h⟩
def QdE {q:Pw} {l:Qw} (h:Iv (q:: l)):Iv l:=⟨(YQ.1 h.asc).2,fun x hx=>h.nz x (by simp[hx])⟩
def Qjs: ∀(a b:Qw),Iv a->Iv b->(∀T,pwT a T=pwT b T)->a=b
 | [],[],_,_,_=>rfl
 | [],q:: b,_,hb,h=>by
  have h1:=h q.1;rw[Wc]at h1;exact absurd h1.symm (hb.nz q (by simp))
 | p:: a,[],ha,_,h=>by
  have h1:=h p.1;rw[Wc]at h1;exact absurd h1 (ha.nz p (by simp))
 | p:: a,q:: b,ha,hb,h=>by
  have ha1: ∀y∈QW a,Qm p.1 y < 0:=(YQ.1 ha.asc).1;have hb1: ∀y∈QW b,Qm q.1 y < 0:=(YQ.1 hb.asc).1;rcases Kb p.1 q.1 with c | c | c
  ·exfalso;have h1:=h p.1;rw[Wc,Ru]at h1
   ·exact ha.nz p (by simp) h1
   ·refine HF fun y hy=> ?_;rcases Zf.1 hy with rfl | hy
    ·exact c
    ·have h2:=hb1 y hy;have h3:=SF p.1 q.1 y (by omega) (by omega);have h4:Qm p.1 y≠0:=fun e=>by
      have e:=Z4 _ _ e;rw[<- e,Xh p.1 q.1]at h2;omega
     omega
  ·obtain⟨p1,p2⟩:=p;obtain⟨q1,q2⟩:=q;simp only at c;subst c;have h1:=h p1;rw[show p1=(p1,p2).1 from rfl,Wc]at h1;rw[show pwT ((p1,q2):: b) (p1,p2).1=q2 from Wc (q:=(p1,q2))]at h1;simp only at h1;subst h1;rw[Qjs a b (QdE ha) (QdE hb) fun T=> ?_];by_cases e:p1=T
   ·subst e;rw[Ru (MJ (q:=(p1,p2)) ha.asc),Ru (MJ (q:=(p1,p2)) hb.asc)]
   ·have h2:=h T;rwa[V0 (q:=(p1,p2)) e,V0 (q:=(p1,p2)) e]at h2
  ·exfalso;have h1:=h q.1;rw[Wc,Ru]at h1
   ·exact hb.nz q (by simp) h1.symm
   ·refine HF fun y hy=> ?_;rcases Zf.1 hy with rfl | hy
    ·exact c
    ·have h2:=ha1 y hy;have h3:=SF q.1 p.1 y (by omega) (by omega);have h4:Qm q.1 y≠0:=fun e=>by
      have e:=Z4 _ _ e;rw[<- e,Xh q.1 p.1]at h2;omega
     omega
def QdD {l:Qw} (h:Iv l) (t:Tm) {n:Int} (hn:n≠0):Iv (YX l t n):=⟨Hh h.asc,fun q hq=>by
 rcases VL hq with hq | rfl | ⟨m,_,rfl,hz⟩
 ·exact h.nz q hq
 ·exact hn
 ·exact hz⟩
def Ew: ∀(l:Qw) (t:Tm) (n:Int) (T:Tm),Asc (QW l)->pwT (YX l t n) T=pwT l T+ (if t=T then n else 0)
 | [],t,n,T,_=>by
  simp only[YX,pwT,Vm];by_cases e:t=T <;> simp[e]
 | p:: l,t,n,T,h=>by
  have h2:=(YQ.1 h).2;have ih:=Ew l t n T h2;simp only[YX];split
  ·rename_i c;by_cases e:p.1=T
   ·subst e;have e2:t≠p.1:=fun e=>by rw[e,Xc]at c;omega
    rw[Wc,Wc,Qb e2];omega
   ·rw[V0 e,V0 e,ih]
  ·split
   ·rename_i c;have c:=Z4 _ _ c;split
    ·rename_i c2;by_cases e:p.1=T
     ·subst e;rw[Wc,Ru (MJ h),Qe c.symm];omega
     ·rw[V0 e,Qb (by rw[<- c];exact e)];omega
    ·by_cases e:p.1=T
     ·subst e;rw[show pwT ((p.1,p.2+n):: l) p.1=p.2+n from Wc (q:=(p.1,p.2+n)),Wc,Qe c.symm]
     ·rw[V0 e,V0 (q:=(p.1,p.2+n)) e,Qb (by rw[<- c];exact e)];omega
   ·rename_i c1 c2;by_cases e:t=T
    ·subst e;rw[show pwT ((t,n):: p:: l) t=n from Wc (q:=(t,n)),Qe rfl,Ru]
     ·omega
     ·have c3:=Xh p.1 t;have hl1: ∀y∈QW l,Qm p.1 y < 0:=(YQ.1 h).1;have c4:Qm t p.1 < 0:=by omega
      refine HF fun y hy=> ?_;rcases Zf.1 hy with rfl | hy
      ·exact c4
      ·have h3:=hl1 y hy;have h4:=SF t p.1 y (by omega) (by omega);have h5:Qm t y≠0:=fun e=>by
        have e:=Z4 _ _ e;rw[<- e]at h3;omega
       omega
    ·rw[V0 (q:=(t,n)) e,Qb e];omega
noncomputable def sP (f:Int->Int):Qw->Tm->Int
 | [],_=>0
 | q:: l,T=>(if q.1=T then f q.2 else 0)+sP f l T
def Qec {f:Int->Int} {l:Qw} {T:Tm} (h:T ∉ QW l):sP f l T=0:=by
 induction l with
 | nil=>rfl
 | cons q l ih=>
  have h1:q.1≠T:=fun e=>h (by simp[QW,e]);rw[sP,Qb h1,ih fun hm=>h (Tl _ hm)];rfl
def Qnz: ∀(l:Qw) (T:Tm),Asc (QW l)->sP (fun n=>n.toNat) l T+sP (fun n=> -((-n).toNat:Int)) l T=pwT l T
 | [],T,_=>rfl
 | q:: l,T,h=>by
  have ih:=Qnz l T (YQ.1 h).2;simp only[sP];by_cases e:q.1=T
  ·subst e;have h1:=MJ h;rw[Qec h1,Qec h1,Qe rfl,Qe rfl,Wc];omega
  ·rw[Qb e,Qb e,V0 e];omega
def Kc: ∀(a b:Qj) (l:Qw) (m:Int),ZZ l (a ++ b) m=ZZ (ZZ l a m) b m
 | [],b,l,m=>by simp[ZZ]
 | x:: a,b,l,m=>by simp only[XQ,ZZ];exact Kc a b _ m
def CO (x y:Tm) (σ:Int):Prop:=∀l,Iv l->Iv (X6 l x 1)/\∀T,pwT (X6 l x 1) T=pwT l T+ (if y=T then σ else 0)
def QtB {x:Tm} (h:Yx x=false):CO x x 1:=fun l hl=>by
 have e:X6 l x 1=YX l x 1:=by rw[XT,h];rfl
 rw[e];exact⟨QdD hl x (by omega),fun T=>Ew l x 1 T hl.asc⟩
def QtA {x:Tm} (h:Yx x=false):CO (Wp x) x (-1):=fun l hl=>by
 have hs:Yx (Wp x)=true:=by simp[Yx,Wp]
 have e:X6 l (Wp x) 1=YX l x (-1):=by
  rw[XT,hs];simp only[QT,Wp,Tm.kids,Tm.name,QhV,ZZ];rw[XT,h];rfl
 rw[e];exact⟨QdD hl x (by omega),fun T=>Ew l x (-1) T hl.asc⟩
def AA {x y:Tm} {σ:Int} (H:CO x y σ): ∀(k:Nat) (l:Qw),Iv l->Iv (ZZ l (List.replicate k x) 1)/\∀T,pwT (ZZ l (List.replicate k x) 1) T=pwT l T+ (if y=T then k*σ else 0)
 | 0,l,hl=>⟨by simpa[ZZ]using hl,fun T=>by simp[ZZ]⟩
 | k+1,l,hl=>by
  rw[SC];simp only[ZZ];obtain⟨h1,h2⟩:=H l hl;obtain⟨h3,h4⟩:=AA H k _ h1;refine⟨h3,fun T=> ?_⟩;rw[h4,h2];have e: ((k+1:Nat):Int)*σ=k*σ+σ:=by rw[GB,Int.add_mul];simp
  split
  ·rw[e];omega
  ·omega
def Qdg: ∀(l acc:Qw),(∀q∈l,Yx q.1=false)->Iv acc->Iv (ZZ acc (XJ l) 1)/\∀T,pwT (ZZ acc (XJ l) 1) T=pwT acc T+sP (fun n=>n.toNat) l T
 | [],acc,_,h=>⟨by simpa[XJ,ZZ]using h,fun T=>by simp[XJ,ZZ,sP]⟩
 | q:: l,acc,hs,h=>by
  have e:XJ (q:: l)=List.replicate q.2.toNat q.1 ++ XJ l:=by simp[XJ]
  rw[e,Kc];obtain⟨h1,h2⟩:=AA (QtB (hs q (by simp))) q.2.toNat acc h;obtain⟨h3,h4⟩:=Qdg l _ (fun x hx=>hs x (by simp[hx])) h1;refine⟨h3,fun T=> ?_⟩;rw[h4,h2,sP];split <;> omega
def Qdf: ∀(l acc:Qw),(∀q∈l,Yx q.1=false)->Iv acc->Iv (ZZ acc (XX l) 1)/\∀T,pwT (ZZ acc (XX l) 1) T=pwT acc T+sP (fun n=> -((-n).toNat:Int)) l T
 | [],acc,_,h=>⟨by simpa[XX,ZZ]using h,fun T=>by simp[XX,ZZ,sP]⟩
 | q:: l,acc,hs,h=>by
  have e:XX (q:: l)=List.replicate (-q.2).toNat (Wp q.1)++ XX l:=by simp[XX]
  rw[e,Kc];obtain⟨h1,h2⟩:=AA (QtA (hs q (by simp))) (-q.2).toNat acc h;obtain⟨h3,h4⟩:=Qdf l _ (fun x hx=>hs x (by simp[hx])) h1;refine⟨h3,fun T=> ?_⟩;rw[h4,h2,sP];split <;> omega
def Qpk {l:Qw} (hs: ∀q∈l,Yx q.1=false) (hI:Iv l):ZZ [] (Zo l) 1=l:=by
 unfold Zo;rw[Kc];obtain⟨h1,h2⟩:=Qdg l [] hs Qul;obtain⟨h3,h4⟩:=Qdf l _ hs h1;refine Qjs _ _ h3 hI fun T=> ?_;rw[h4,h2,<- Qnz l T hI.asc];simp[pwT]
def Qd0: ∀l:Qw,(∀q∈l,q.2≠0)->l.length<=(Zo l).length
 | [],_=>by simp
 | q:: l,h=>by
  have ih:=Qd0 l fun x hx=>h x (by simp[hx]);have h1:=h q (by simp);simp only[Zo,XJ,XX,ZI,To,Zl,S5,ZH]at ih ⊢;omega
def QvB {l:Qw} (hs: ∀q∈l,Yx q.1=false): ∀x∈Zo l,arB x=true:=fun x hx=>by
 simp only[Zo,XJ,XX,Ze,Sa,Yg]at hx;rcases hx with⟨_,⟨q,hq,rfl⟩,hx⟩ | ⟨_,⟨q,hq,rfl⟩,hx⟩
 ·rw[Re hx,O8,hs q hq];rfl
 ·rw[Re hx,O8];have:arB q.1=true:=by rw[O8,hs q hq];rfl
  simp[Wp,Wx,arL,this,INV,MUL,ONE]
def QhZ: ∀{l:Qj},(∀x∈l,arB x=true)->arL l=true
 | [],_=>by simp[arL]
 | x:: l,h=>by simp only[arL,Qr];exact⟨h x (by simp),QhZ fun y hy=>h y (by simp[hy])⟩
def QqB {l:Qw} (hs: ∀q∈l,Yx q.1=false) (hI:Iv l) (h8: (Zo l).length<=8) (hr:QR (Zv (Zo l))=0):ofE (Zv (Zo l))=0/\ofP (Zv (Zo l))=l:=by
 have hc:=Qpk hs hI;have hlen:=Qd0 l hI.nz;have har:=QvB hs;have key:X6 [] (Zv (Zo l)) 1=l/\arB (Zv (Zo l))=true:=by
  match hh:Zo l with
  | []=>
   rw[hh]at hc;simp only[Zv];rw[XT];simp only[ZZ]at hc;subst hc;exact⟨by simp[Yx,ZZ],by rw[O8];simp[Wx,arL,MUL,INV,ONE]⟩
  | [p]=>
   rw[hh]at hc har;simp only[Zv];simp only[ZZ]at hc;exact⟨hc,har p (by simp)⟩
  | p:: q:: r=>
   rw[hh]at hc har;simp only[Zv];rw[XT];have hsy:Yx (.mk 3 MUL 0 (p:: q:: r))=true:=by simp[Yx]
   rw[hsy];simp only[QT];have e: (if(Tm.mk 3 MUL 0 (p:: q:: r)).name == INV then(-1:Int)else 1)=1:=rfl;rw[e];refine⟨hc,?_⟩;have h1:=QhZ har;rw[O8];simp only[ZP,h1];have e2:Wx (.mk 3 MUL 0 (p:: q:: r))=true:=by
    have: ¬(r.length+1+1 < 2):=by omega
    simp[Wx,MUL,INV,ONE,this]
   rw[e2];simp
 have he:ofE (Zv (Zo l))=0:=by
  unfold ofE;rw[Qb (by simpa using hr),key.2,key.1];rw[Qe rfl,Qb (by omega)]
 refine⟨he,?_⟩;unfold ofP;rw[Qe he];exact key.1
def Qem: ∀(ts acc:Qj) (y:Tm),y∈Z0 acc ts->y∈acc\/∃t∈ts,y∈QD t
 | [],acc,y,h=> .inl h
 | t:: ts,acc,y,h=>by
  rcases Qem ts _ y h with h | ⟨x,hx,h⟩
  ·rcases W0 (WV t) h with h | h
   ·exact .inl h
   ·exact .inr ⟨t,by simp,h⟩
  ·exact .inr ⟨x,by simp[hx],h⟩
def QmT {L:Qj} (ha:Asc L) (hs: ∀y∈L,QD y=[y]):Z0 [] L=L:=by
 refine PY (Mk L [] Asc.nil) ha fun y=>⟨fun h=> ?_,fun h=>Iu L [] hs (O9 ha) (fun z _ hz=>by cases hz) y (.inr h)⟩;rcases Qem L [] y h with h | ⟨t,ht,h⟩
 ·cases h
 ·rw[hs t ht,XH]at h;rw[h];exact ht
end Go.Am
namespace Go.Am
def QbA (f:Pw->Bool) {l:Qw} (h:Q5 l=0):Q5 (l.filter f)=0:=by
 have hle:=Sz f l;unfold Q5 at h ⊢;split at h
 ·cases h
 ·obtain⟨h1,h2,_⟩:=MH l none h;rw[Qb (by omega)];refine FV _ _ (fun q hq=>h1 q (X1.1 hq).1) ?_ (fun a e=>by cases e);exact List.Pairwise.sublist (List.Sublist.map _ (List.filter_sublist)) h2
def Ql2 {l:List Qw} {m:Qw} (h:meE l m=0):Q5 m=0/\(Y9 (l ++ [m])).length<=12:=by
 unfold meE at h;split at h
 ·omega
 ·split at h
  ·rename_i h1;exact absurd h h1
  ·split at h
   ·rename_i h1;exact absurd h h1
   ·rename_i h1;split at h
    ·omega
    ·rename_i h2;exact⟨by simpa using h1,by omega⟩
def Qm8 {s s':Qj} (hss: ∀x∈s,x∈s') (m:Qw):Z9 s' (Z9 s m)=Z9 s' m:=by
 unfold Z9;rw[List.filter_filter];refine List.filter_congr fun q _=> ?_;cases h1:QA s q.1
 ·simp
 ·have:QA s' q.1=true:=Yj.2 (hss _ (Yj.1 h1));simp[this]
def Qfx {s s':Qj} (has:Asc s) (has':Asc s') (hss: ∀x∈s,x∈s') (f:Tm->Bool):s.filter f=(s'.filter f).filter (QA s):=by
 refine PY (Vr _ has) (Vr _ (Vr _ has')) fun x=> ?_;rw[X1,X1,X1,Yj];exact⟨fun⟨h1,h2⟩=>⟨⟨hss x h1,h2⟩,h1⟩,fun⟨⟨_,h2⟩,h3⟩=>⟨h3,h2⟩⟩
def AY {u s s':Qj} (hu:UC u) (hau:Asc u) (has:Asc s) (has':Asc s') (hs': ∀x∈s',x∈u) (hss: ∀x∈s,x∈s') {m:Qw} {t0:Tm} (hk: ∀q∈m,q.1∈Wz u\/q.1=t0) (h16: ∀T,(pwT m T).natAbs<=16) (h:UY s m=true):UY s' m=true:=by
 have hs: ∀x∈s,x∈u:=fun x hx=>hs' x (hss x hx);have h0:meE (Xq s s) (Z9 s m)=0:=by simpa[UY]using h
 obtain⟨v1,c1⟩:=Ql2 h0;obtain⟨z,hz⟩:=(Qdw hu hau has hs v1 h16 c1).1 h;have v2:Q5 (Z9 s' m)=0:=by rw[<- Qm8 hss];exact QbA _ v1
 have c2: (Y9 (Xq s' s' ++ [Z9 s' m])).length<=12:=by
  have h1:=WT (ZA t0 (QL (Wz u))) (Y9 (Xq s' s' ++ [Z9 s' m])) (XW _) (Mj (XW _)) fun x hx=>by
   have hx:=ZO.1 hx;obtain⟨g,hg,q,hq,rfl⟩:=BT hx;rcases Ze.1 hg with hg | hg
   ·exact Uk.2 (.inr (ZO.2 ((QiM hu hau has' hs').2.2.2 g hg q hq)))
   ·rw[XH.1 hg]at hq;rcases hk q (X1.1 hq).1 with h2 | h2
    ·exact Uk.2 (.inr (ZO.2 h2))
    ·exact Uk.2 (.inl h2)
  have h2:=Mg t0 (QL (Wz u));have:=hu.fac;omega
 refine(Qdw hu hau has' hs' v2 h16 c2).2 ⟨fun r=>if QA s r then z r else 0,fun T hT=> ?_⟩;rw[hz T fun e=>hT (hss T e),Qfx has has' hss YY,Ko]
def Ds {t:Tm} (h:YY t=false):ofP t=[]\/ofP t=[(t,1)]:=by
 unfold ofP;by_cases he:ofE t=0
 ·rw[Qe he,XT];cases hsy:Yx t
  ·simp[YX]
  ·left;obtain⟨k1,k2⟩:=HU hsy;have hone:t.name=ONE:=by
    rcases k2 with e | e | e
    ·exfalso;simp[YY,isB,k1,e]at h
    ·exfalso;simp[YY,isB,k1,e]at h
    ·exact e
   have har:arB t=true:=by
    unfold ofE at he;split at he
    ·rename_i h1;exact absurd he h1
    ·split at he
     ·rename_i h1;exact h1
     ·omega
   rw[O8,hsy]at har;simp only[GK,Pm,Qr]at har;have hc:=har.1;have hkid:t.kids=[]:=by
    simp only[Wx,hone,Tp,Gl]at hc;have:=hc.2;simp at this;exact this
   simp[hkid,ZZ]
 ·rw[Qb he];exact .inl rfl
def nl8 {t:Tm} (h:nnN t):nL1 (ofP t)<=8:=by
 cases he:YY t
 ·rcases Ds he with e | e <;> rw[e] <;> simp[nL1]
 ·exact h.2 he
def FD: ∀(b a:Qw),nL1 (Xo a b)<=nL1 a+nL1 b
 | [],a=>by simp[Xo,nL1]
 | q:: b,a=>by
  have h1:=FD b (YX a q.1 q.2);have h2:=Kw a q.1 q.2;have e1:nL1 (q:: b)=q.2.natAbs+nL1 b:=by simp[nL1]
  rw[Xo];omega
def I1: ∀{b a:Qw} {q:Pw},q∈Xo a b->(∃p∈a,p.1=q.1)\/∃p∈b,p.1=q.1
 | [],a,q,h=> .inl ⟨q,h,rfl⟩
 | r:: b,a,q,h=>by
  rw[Xo]at h;rcases I1 h with⟨p,hp,e⟩ | ⟨p,hp,e⟩
  ·rcases VL hp with h1 | h1 | ⟨k,h1,h2,_⟩
   ·exact .inl ⟨p,h1,e⟩
   ·exact .inr ⟨r,by simp,by rw[h1]at e;exact e⟩
   ·exact .inl ⟨(r.1,k),h1,by rw[h2]at e;exact e⟩
  ·exact .inr ⟨p,by simp[hp],e⟩
def Qql (l:Qw):nL1 (Yt l)=nL1 l:=by
 induction l with
 | nil=>rfl
 | cons q l ih=>
  simp only[nL1,Yt,ZI,UF,Int.natAbs_neg]at ih ⊢;omega
def Qh0 {u:Qj} (hu:UC u) {t:Tm} (ht:t∈u):nL1 (YO t)<=8/\∀q∈YO t,q.1∈Wz u:=by
 unfold YO;by_cases hb:Rf t=true
 ·rw[Qe hb];simp only[Rf,Qr,QM]at hb;have hk:kid t 1∈Zu t:=by
   have h1:=ML hb.2;rw[Ix];exact Tl _ (LG (t:=kid t 1) (by rw[h1];simp) _ (X3 _))
  refine⟨nl8 ((hu.hn t ht) _ hk),fun q hq=> ?_⟩;have he:YY t=false:=by
   have hn:=hb.1;simp only[isB,Qr,UG,QM]at hn;simp[YY,isB,hn.2,EXP,MUL,INV]
  simp only[Wz,Sa,Yg];refine⟨_,⟨t,ht,rfl⟩,?_⟩;rw[Qb (by simp[he]),Qe hb.1];exact Yg.2 ⟨q,hq,rfl⟩
 ·rw[Qb hb];exact⟨by simp[nL1],fun q hq=>by cases hq⟩
def Qwg {u:Qj} (hu:UC u) {t r:Tm} (ht:t∈u) (hr:r∈u): (∀T,(pwT (PJ t r) T).natAbs<=16)/\∀q∈PJ t r,q.1∈Wz u:=by
 obtain⟨a1,a2⟩:=Qh0 hu ht;obtain⟨b1,b2⟩:=Qh0 hu hr;unfold PJ X2;split
 ·refine⟨fun T=> ?_,fun q hq=> ?_⟩
  ·have h1:=Qjt (Xo (YO t) (Yt (YO r))) T;have h2:=FD (Yt (YO r)) (YO t);rw[Qql]at h2;omega
  ·rcases I1 hq with⟨p,hp,e⟩ | ⟨p,hp,e⟩
   ·rw[<- e];exact a2 p hp
   ·obtain⟨p0,hp0,e0⟩:=Yg.1 hp;rw[<- e,<- e0];exact b2 p0 hp0
 ·exact⟨fun T=>by simp[pwT],fun q hq=>by cases hq⟩
def Qxk {u:Qj} (hu:UC u) {t:Tm} (ht:t∈u): (∀T,(pwT (ofP t) T).natAbs<=16)/\∀q∈ofP t,q.1∈Wz u\/q.1=t:=by
 refine⟨fun T=> ?_,fun q hq=> ?_⟩
 ·have h1:=Qjt (ofP t) T;have h2:=nl8 ((hu.hn t ht) t (X3 t));omega
 ·cases he:YY t
  ·rcases Ds he with e | e
   ·rw[e]at hq;cases hq
   ·rw[e]at hq;simp only[XH]at hq;right;rw[hq]
  ·exact .inl (Ed ht he hq)
def Qq4 {α:Type} {L L':List (α->Bool)} (h: ∀v∈L,v∈L') {v:α->Bool} (hv:Sp L v):Sp L' v:=by
 induction hv with
 | zero=>exact .zero
 | add h1 _ ih=>exact .add (h _ h1) ih
def Kp {s s':Qj} (hss: ∀x∈s,x∈s') {t:Tm} (h:QA s t=true):QA s' t=true:=Yj.2 (hss t (Yj.1 h))
open Classical in
def QmV {s s':Qj} (hss: ∀x∈s,x∈s') {t:Tm} (h:Sr s t=true):Sr s' t=true:=by
 unfold Sr at h ⊢;rw[QM]at h ⊢;unfold Ga at h ⊢;refine Qq4 (fun v hv=> ?_) h;obtain⟨x,hx,rfl⟩:=Yg.1 hv;refine Yg.2 ⟨x,?_,rfl⟩;obtain⟨h1,h2⟩:=X1.1 hx;refine X1.2 ⟨hss x h1,?_⟩;simp only[XP,WI]at h2 ⊢;rcases h2 with h2 | h2
 ·exact .inl h2
 ·refine .inr (Kp (fun y hy=> ?_) h2);rcases Ze.1 hy with hy | hy
  ·exact Ze.2 (.inl hy)
  ·refine Ze.2 (.inr ?_);obtain⟨r,hr,hy⟩:=VO.1 hy;obtain⟨r1,r2⟩:=X1.1 hr;exact VO.2 ⟨r,X1.2 ⟨hss r r1,r2⟩,hy⟩
def Qmc {s s':Qj} (hss: ∀x∈s,x∈s') {t:Tm} (h:Lm s t=true):Lm s' t=true:=by
 unfold Lm at h ⊢;rw[T9]at h ⊢;obtain⟨x,hx,h⟩:=h;refine⟨x,hss x hx,?_⟩;unfold KD at h ⊢;split
 ·rename_i c;rw[Qe c]at h;exact h
 ·rename_i c;rw[Qb c]at h;split
  ·rename_i c2;rw[Qe c2]at h;exact h
  ·rename_i c2;rw[Qb c2]at h;split
   ·rename_i c3;rw[Qe c3]at h;simp only[Qr]at h ⊢;exact⟨h.1,Kp hss h.2⟩
   ·rename_i c3;rw[Qb c3]at h;cases h
def Qlj {s s':Qj} (hss: ∀x∈s,x∈s') {t:Tm} (h:Mn s t=true):Mn s' t=true:=by
 unfold Mn at h ⊢;simp only[Qr,X0]at h ⊢;exact⟨h.1,fun x hx=>Kp hss (h.2 x hx)⟩
def Qkc {u s s':Qj} (hu:UC u) (hau:Asc u) (has:Asc s) (has':Asc s') (hs': ∀x∈s',x∈u) (hss: ∀x∈s,x∈s') {t:Tm} (ht:t∈u) (h:XS s t=true):XS s' t=true:=by
 unfold XS at h ⊢;simp only[WI]at h ⊢;rcases h with(((((h | h) | h) | h) | h) | h) | h
 ·exact .inl (.inl (.inl (.inl (.inl (.inl (Kp hss h))))))
 ·exact .inl (.inl (.inl (.inl (.inl (.inr h)))))
 ·exact .inl (.inl (.inl (.inl (.inr (Qlj hss h)))))
 ·exact .inl (.inl (.inl (.inr (Qmc hss h))))
 ·exact .inl (.inl (.inr (QmV hss h)))
 ·refine .inl (.inr ?_);unfold Ey at h ⊢;rw[T9]at h ⊢;obtain⟨r,hr,h⟩:=h;simp only[Qr]at h;obtain⟨q1,q2⟩:=Qwg hu ht (hs' r (hss r hr));refine⟨r,hss r hr,?_⟩;simp only[Qr];exact⟨h.1,AY hu hau has has' hs' hss (t0:=t) (fun q hq=> .inl (q2 q hq)) q1 h.2⟩
 ·refine .inr ?_;unfold Er at h ⊢;simp only[Qr]at h ⊢;obtain⟨q1,q2⟩:=Qxk hu ht;exact⟨h.1,AY hu hau has has' hs' hss q2 q1 h.2⟩
end Go.Am
namespace Go.Am
set_option maxRecDepth 20000
noncomputable def Vc (p:Qj->Tm->Bool):Qj×Bool->Qj->Qj×Bool
 | x,[]=>x
 | x,t:: ts=>Vc p (if !QA x.1 t && p x.1 t then(ZA t x.1,true)else x) ts
noncomputable def Uh (p:Qj->Tm->Bool) (u:Qj):Nat->Qj->Qj
 | 0,s=>s
 | f+1,s=>if(Vc p (s,false) u).2 then Uh p u f (Vc p (s,false) u).1 else(Vc p (s,false) u).1
structure PsI (u s:List Tm):Prop where
 asc:Asc s
 sub: ∀x∈s,x∈u
def IP {u s t} (h:PsI u s) (b:t∈u):PsI u (ZA t s):=⟨Mj h.asc,fun x a=>by
 rcases Uk.1 a with rfl | a;exact b;exact h.sub x a⟩
def NU (p) {u}: ∀a x,(∀t∈a,t∈u)->PsI u x.1->PsI u (Vc p x a).1
 | [],x,_,h=>h
 | t:: a,x,b,h=>by
  simp only[Vc];apply NU p a _ (fun y c=>b y (by simp[c]));split;exact IP h (b t (by simp));exact h
def Qji {p q u} (b: ∀s,PsI u s->∀t∈u,p s t=q s t): ∀a x,(∀t∈a,t∈u)->PsI u x.1->Vc p x a=Vc q x a
 | [],x,_,_=>rfl
 | t:: a,x,c,h=>by
  simp only[Vc];rw[b x.1 h t (c t (by simp))];apply Qji b a _ (fun y d=>c y (by simp[d]));split;exact IP h (c t (by simp));exact h
def Qic {p q u} (a: ∀s,PsI u s->∀t∈u,p s t=q s t): ∀f s,PsI u s->Uh p u f s=Uh q u f s
 | 0,s,_=>rfl
 | f+1,s,h=>by
  simp only[Uh];rw[Qji a u (s,false) (fun t b=>b) h];split;exact Qic a f _ (NU q u (s,false) (fun t b=>b) h);rfl
def EO {t}: ∀{s},t ∉ s->(ZA t s).length=s.length+1
 | [],_=>rfl
 | x:: b,h=>by
  have a:Qm t x≠0:=fun e=>h (by rw[Z4 _ _ e];simp);simp only[ZA,Qb a];split;simp;simp[(EO (t:=t) (s:=b) fun e=>h (Tl _ e))]
def Eu (p): ∀a x,x.1.length<=(Vc p x a).1.length/\((Vc p x a).2=true->x.2=true\/x.1.length < (Vc p x a).1.length)
 | [],x=>⟨QX _,fun h=> .inl h⟩
 | t:: a,x=>by
  simp only[Vc];have b:=Eu p a (if !QA x.1 t && p x.1 t then(ZA t x.1,true)else x);cases c: (!QA x.1 t && p x.1 t);rw[c]at b;simpa using b;rw[c]at b;have d:QA x.1 t=false:=by simp only[Qr,Tp]at c;exact c.1
  have f:=EO (t:=t) (s:=x.1) fun e=>by rw[Yj.2 e]at d;cases d
  simp only[QT]at b ⊢;exact⟨by omega,fun _=> .inr (by omega)⟩
def Qtx {u} (J:UC u) (H:Asc u) (B K) (Q:Out->Prop):
  ∀a c s m o r w d,u=c ++ a->PsI u s->d 0= .sl o 4 (Qa s)->d 1= .sl r 4 (Qa u)->d 5= .bool m->d 9= .sl w 4 (Qa u)->d 10= .int .i64 u.length->d 11= .int .i64 c.length->
  (∀j N,j 0= .sl N 4 (Qa (Vc TC (s,m) a).1)->j 1= .sl r 4 (Qa u)->j 5= .bool (Vc TC (s,m) a).2->Q (R tb (.loop f529l1) j B K))->
  Q (R tb (.loop f529l0) d B (Qi 2 (Qi 1 (Qu tb (.loop f529l1) K)))):=by
 have M:=J.len;intro a;induction a with | nil=>intro c s m o r w d h i n A D k b e f;simp only[QH]at h;rw[<- h]at e;rw[Qc f529l0.eq_1];simp[k,b,e];apply f _ o <;> simp[n,A,D,Vc] | cons t a G=>intro c s m o r w d h i n A D k b e f;have I:=QB h;have O:=QJ h;have p:=wr1 c.length (by omega);have q:=QN h;(have L:t∈u:=by rw[h];simp);have y:=Qka J H i.asc i.sub L;(have z:t.mass < big:=by have:=y.um;unfold big;omega);have S:=y.gs.1;have g:=fun o=>PZ s t o B (by omega) y.gs.bg z i.asc;have l:=fun o=>QoN s t o B y i.asc;obtain⟨P,C⟩:=QcT s t false B (by omega) y.gs.bg z i.asc;simp only[Vc]at f;rw[Qc f529l0.eq_1];cases v:QA s t;cases E:TC s t;rw[v,E]at f;simp only[BO,QhP,Xn,ZT]at f;have x:=fun o d=>G (c ++ [t]) s m o r w d (by rw[h];simp) i;simp[n,k,b,e,I,q,p,g,l,v,E,Qf];(apply x o <;> first | exact f | simp[n,A,D,k,b]);rw[v,E]at f;simp only[BO,Sb,QT]at f;have x:=fun o d=>G (c ++ [t]) (ZA t s) true o r w d (by rw[h];simp) (IP i L);simp[n,k,b,e,I,q,p,g,l,v,E,C,Qf];(apply x P <;> first | exact f | simp[A,k,b]);rw[v]at f;simp only[GK,GC,Xn,ZT]at f;have x:=fun o d=>G (c ++ [t]) s m o r w d (by rw[h];simp) i;simp[n,k,b,e,I,q,p,g,v,Qf];apply x o <;> first | exact f | simp[n,A,D,k,b]
def ClR (l:Qj) (B:Qp) (r:Out):Prop:=∃o,r=some (.sl o 4 (Qa l),B)
def Qty {u} (w:UC u) (b:Asc u) (B):
  ∀f s o c a,u.length < f+s.length->PsI u s->a 0= .sl o 4 (Qa s)->a 1= .sl c 4 (Qa u)->a 5= .bool true->
  ClR (Uh TC u f s) B (R tb (.loop f529l1) a B (Qi 0 (Qu tb f529r0 (Qz f529 B)))):=by
 intro f;induction f with | zero=>intro s o c a v d;have:=WT u s d.asc b d.sub;omega | succ f m=>intro s o c a v d n k x;have h:=fun(q:Bool) a=>Qtx w b B (Qi 0 (Qu tb f529r0 (Qz f529 B))) (ClR (Uh TC u (f+1) s) B) u [] s false o c q a rfl d;simp only[Uh]at h ⊢;rw[Qc f529l1.eq_1];simp[k,x];apply h false;simp[n];simp[k];simp;simp;simp;simp;intro i r j l e;cases g: (Vc TC (s,false) u).2;rw[g]at e;refine⟨false,?_⟩;rw[Qc f529l1.eq_1];simp[j,l,e,f529r0];rw[g]at e;rw[Qe rfl];(have:s.length < (Vc TC (s,false) u).1.length:=by rcases(Eu TC u (s,false)).2 g with h | h;cases h;exact h);exact m _ r c i (by omega) (NU TC u (s,false) (fun t p=>p) d) j l e
def QoM {u} (d:UC u) (a:Asc u) {s} (c:PsI u s) (o b B):
  ClR (Uh TC u (u.length+1) s) B (call tb 529 [.sl o 4 (Qa s),.sl b 4 (Qa u)] B):=by
 rw[zcc 529 rfl rfl];simp[f529C];apply(fun o e=>Qty d a B (u.length+1) s o false e (by omega) c) false <;> simp
end Go.Am
namespace Go.Am
set_option maxRecDepth 20000
def QwN (t:Tm):Bool:=YY t || isB t XOR || isB t EXP
end Go.Am
namespace Go.Am
set_option maxRecDepth 20000
def Oe (t:Tm):Qj:=if YY t then QW (ofP t)else if isB t EXP then QW (ofP (kid t 1))else []
def Ec (u):Wz u=(u.map Oe).flatten:=rfl
def QiG (u t):Wz (u ++ [t])=Wz u ++ Oe t:=by simp[Ec]
def Qj5 (a x):QL (a ++ [x])=ZA x (QL a):=by simp[QL,Xd,List.foldl_append]
def QlE (t): (Oe t).length<=200:=by
 unfold Oe;split;simp only[QW,UD];exact Uz t;split;simp only[QW,UD];exact Uz _;simp
def AQ: ∀u:Qj,(Wz u).length<=200*u.length
 | []=>by simp[Wz]
 | t:: u=>by
  have a:=AQ u;have b:=QlE t;have:Wz (t:: u)=Oe t ++ Wz u:=by simp[Ec]
  grind
def QiH {t} (h:t.mass < 1000000): ∀x∈Oe t,x.mass < 1000000:=by
 intro x a;unfold Oe at a;split at a;obtain⟨q,b,rfl⟩:=Yg.1 a;exact(TY h).2 q b;split at a;obtain⟨q,b,rfl⟩:=Yg.1 a;exact(TY (Nat.lt_of_le_of_lt (VN t 1) h)).2 q b;grind
def QiF {u} (h: ∀t∈u,t.mass < 1000000): ∀x∈Wz u,x.mass < 1000000:=by
 intro x a;rw[Ec]at a;obtain⟨l,b,a⟩:=Sa.1 a;obtain⟨t,c,rfl⟩:=Yg.1 b;exact QiH (h t c) x a
def szT (u:Qj):Int:=if 200 < u.length\/4 < (u.filter YY).length\/8 < (QL (Wz u)).length then 3 else 0
def QnA (l) (y:SmP l) (G) (T:G.length+l.length < 900000) (I: ∀x∈G,x.mass < 1000000) (H E t u s B K) (Q:Out->Prop):
  ∀d a o e c,l=a ++ d->c 0=H->c 3=E->c 4= .sl o 4 (Qa (QL (G ++ QW a)))->c 11=t->c 12=u->c 13=s->c 35= .sl e 5 (Qt l)->c 36= .int .i64 l.length->c 37= .int .i64 a.length->
  (∀b L,b 0=H->b 3=E->b 4= .sl L 4 (Qa (QL (G ++ QW l)))->b 11=t->b 12=u->b 13=s->Q (K .normal ⟨b,B⟩))->
  Q (R tb (.loop f521l0) c B (Qi 3 K)):=by
 intro d;induction d with | nil=>intro a o e c r C D z n j k f g i v;simp only[QH]at r;subst r;rw[Qc f521l0.eq_1];simp[f,g,i];apply v _ o <;> simp[C,D,z,n,j,k] | cons p d N=>intro a o e c r C D z n j k f g i v;have S:=QJ r;have O:=y.1;have P:=y.2 p (by grind);(have w: (QL (G ++ QW a)).length < 1000000:=by have:=U1 (G ++ QW a);simp only[Zl,QW,UD]at this ⊢;omega);(have A: ∀x∈QL (G ++ QW a),x.mass < big:=fun x m=>by have m:=ZO.1 m;rcases Ze.1 m with m | m;have:=I x m;unfold big;omega;obtain⟨q,v,rfl⟩:=Yg.1 m;have:=y.2 q (by grind);unfold big;omega);obtain⟨J,h⟩:=QcT (QL (G ++ QW a)) p.1 false B w A (by unfold big;omega) (XW _);(have M:ZA p.1 (QL (G ++ QW a))=QL (G ++ QW (a ++ [p])):=by rw[<- Qj5];simp[QW]);rw[M]at h;rw[Qc f521l0.eq_1];simp[z,f,g,i,(QB r),(QN r),(wr1 a.length (by omega)),h];apply(fun o e c=>N (a ++ [p]) o e c (by grind)) J e <;> first | exact v | simp[C,D,n,j,k,f,g]
def Qwq (u) (hul:u.length < 4000) (J: ∀t∈u,t.mass < 1000000) (S: ∀t∈u,isB t EXP=true->t.kids.length=2) (B):
  ∀g a o m d f,u=a ++ g->f 0= .sl o 4 (Qa u)->f 3= .int .i64 (a.filter YY).length->f 4= .sl m 4 (Qa (QL (Wz a)))->f 11= .sl d 4 (Qa u)->f 12= .int .i64 u.length->f 13= .int .i64 a.length->
  R tb (.loop f521l1) f B (Qi 0 (Qu tb f521r1 (Qz f521 B)))=some (.int .i64 (szT u),B):=by
 intro g;induction g with | nil=>intro a o m d f G l j C b c e;simp only[QH]at G;subst G;rw[Qc f521l1.eq_1];unfold szT;have s: (Qa (QL (Wz u))).length=(QL (Wz u)).length:=Wn _;generalize (QL (Wz u)).length=T at *;generalize (u.filter YY).length=n2 at *;generalize hE:Qa (QL (Wz u))=E at *;(have i1: (200 < u.length)↔(200:Int) < (u.length:Int):=by omega);(have i2: (4 < n2)↔(4:Int) < (n2:Int):=by omega);(have i3: (8 < T)↔(8:Int) < (T:Int):=by omega);simp only[i1,i2,i3];by_cases i: (200:Int) < (u.length:Int);simp[l,b,c,e,f521r1,i];by_cases L: (4:Int) < (n2:Int);simp[l,j,b,c,e,f521r1,i,L];by_cases k: (8:Int) < (T:Int);simp[l,j,C,b,c,e,f521r1,s,i,L,k];simp[l,j,C,b,c,e,f521r1,s,i,L,k] | cons t g IH=>intro a o m d f G l j C b c e;have N:=QB G;have hll:=QJ G;have w:=QN G;have z:=wr1 a.length (by omega);(have ht:t∈u:=by grind);have htm:=J t ht;have D:=fun o=>Rm t EXP o B;have H:=QcS t B;unfold EXP at D;have M: ∀x∈Wz a,x.mass < 1000000:=QiF fun x hx=>J x (by grind);have hpl:=AQ a;have s:=Sz YY a;have p:=fun o m d f=>IH (a ++ [t]) o m d f (by grind);rw[QiG]at p;simp only[SD,Zl]at p;generalize (a.filter YY).length=n at *;have O:IntKind.i64.wrap ((n:Int)+1)=(n:Int)+1:=QC (by omega) (by omega);cases k:YY t;rw[k]at H;by_cases i:isB t EXP=true;have L:=S t ht i;have V:=Ya t;(have e2:Qa t.kids=[Qd (kid t 0),Qd (kid t 1)]:=by rw[(ML L)];simp[Qa]);rw[e2]at V;have km:=VN t 1;have h:=RE (kid t 1) B (by omega);(have I:Oe t=QW (ofP (kid t 1)):=by unfold Oe;grind);have v:=TY (t:=kid t 1) (by omega);have Y:=Uz (kid t 1);have X:=fun K f=>QnA (ofP (kid t 1)) v (Wz a) (by omega) M (.sl o 4 (Qa u)) (.int .i64 n) (.sl d 4 (Qa u)) (.int .i64 u.length) (.int .i64 a.length) B K (fun r=>r=some (.int .i64 (szT u),B)) (ofP (kid t 1)) [] m false f rfl;unfold EXP at i;rw[i]at D;rw[I]at p;rw[Qc f521l1.eq_1];simp only[V]at D H N ⊢;simp[j,b,c,e,N,w,D,H,h,V,Qf];apply X;simp[l];simp[j];simp[C,QW];simp[b];simp[c];simp[e];simp;simp;simp;intro Z Q U P W y A q;simp[f521r0,q,z];apply p o Q d <;> simp[U,P,W,y,A,k];(have i:isB t EXP=false:=by grind);(have I:Oe t=[]:=by unfold Oe;grind);unfold EXP at i;rw[i]at D;rw[I,QH]at p;rw[Qc f521l1.eq_1];simp[j,b,c,e,N,w,z,D,H,Qf,f521r0,F1];apply p o m d <;> simp[l,j,C,b,c,k];(have I:Oe t=QW (ofP t):=by unfold Oe;grind);have h:=RE t B (by omega);have v:=TY (t:=t) (by omega);have Y:=Uz t;have X:=fun K f=>QnA (ofP t) v (Wz a) (by omega) M (.sl o 4 (Qa u)) (.int .i64 (n+1)) (.sl d 4 (Qa u)) (.int .i64 u.length) (.int .i64 a.length) B K (fun r=>r=some (.int .i64 (szT u),B)) (ofP t) [] m false f rfl;rw[I]at p;rw[k]at H;rw[Qc f521l1.eq_1];simp[j,b,c,e,N,w,O,H,h,Qf];apply X;simp[l];simp;simp[C,QW];simp[b];simp[c];simp[e];simp;simp;simp;intro Z Q U P W y A q;simp[f521r0,q,z];apply p o Q d <;> simp[U,P,W,y,A,k]
def QcR (u) (b:u.length < 4000) (c: ∀t∈u,t.mass < 1000000) (a: ∀t∈u,isB t EXP=true->t.kids.length=2) (o B):
  call tb 521 [.sl o 4 (Qa u)] B=some (.int .i64 (szT u),B):=by
 rw[zcc 521 rfl rfl];simp[f521C];apply(fun d=>Qwq u b c a B u [] false true false d rfl) <;> simp[Wz,QL,Xd,Qa]
end Go.Am
namespace Go.Am
set_option maxRecDepth 20000
def QoK (t b) (l:t.mass < 1000000):call tb 520 [.agg (Qd t)] b=some (.int .i64 (Xp t),b):=by
 have i:t.mass < big:=by unfold big;omega
 have d:=Mm t b i;have a:=Qh7 t b (by omega);have e:=QnZ t b i;have f: (Qa (U3 t)).length=(U3 t).length:=by simp[ZM]
 rw[zcc 520 rfl rfl];unfold Xp;by_cases c:thV t=0;rw[c]at d;by_cases g:U3 t=[];rw[g]at a;simp only[Qa]at a;cases h:Vi t;rw[h]at e;simp[f520C,d,a,e,c,g,Qf];rw[h]at e;simp[f520C,d,a,e,c,g,Qf];have j: (0:Int) < ((U3 t).length:Int):=by have:=Jt.2 g;omega
 generalize Qa (U3 t)=k at *;simp[f520C,d,a,e,c,g,f,Qf];simp[f520C,d,c,Qf]
def QuR (l) (s:l.length < 1000000) (p: ∀y∈l,y.mass < 1000000) (B):
  ∀a b o d,l=b ++ a->d 6= .sl o 4 (Qa l)->d 7= .int .i64 l.length->d 8= .int .i64 b.length->
  R tb (.loop f519l0) d B (Qi 0 (Qu tb f519r0 (Qz f519 B)))=some (.int .i64 (VF a),B):=by
 intro a;induction a with | nil=>intro b o d c g i h;simp only[QH]at c;rw[<- c]at h;rw[Qc f519l0.eq_1];simp[g,i,h,f519r0,VF] | cons x a q=>intro b o d c g i h;have j:=QB c;have r:=QJ c;have f:=wr1 b.length (by omega);have k:=QN c;have n:=QoK x B (p x (by rw[c];simp));rw[Qc f519l0.eq_1];by_cases m:Xp x=0;(have e:VF (x:: a)=VF a:=by simp[VF,m]);rw[e];rw[m]at n;simp[g,i,h,j,k,f,n,Qf];rw[(fun d=>q (b ++ [x]) o d (by rw[c];simp))] <;> simp[g,i];(have e:VF (x:: a)=Xp x:=by simp[VF,m]);rw[e];simp[g,i,h,j,k,f,n,m,Qf]
def QcQ (l o B) (c:l.length < 1000000) (a: ∀y∈l,y.mass < 1000000):call tb 519 [.sl o 4 (Qa l)] B=some (.int .i64 (VF l),B):=by
 rw[zcc 519 rfl rfl];simp[f519C];rw[(fun b=>QuR l c a B l [] false b rfl)] <;> simp
def Ry: ∀{l},VF l=0->∀x∈l,Xp x=0
 | [],_,x,a=>by cases a
 | y:: l,h,x,a=>by
  simp only[VF]at h;by_cases c:Xp y=0;rw[Qb (by simpa using c)]at h;rcases Zf.1 a with rfl | a;exact c;exact Ry h x a;rw[Qe (by simpa using c)]at h;exact absurd h c
structure RT (t:Tm):Prop where
 v:QR t=0
 g:Zn t=true
 hn:HN t
 gr: ∀x∈Zu t,x.kind≠1
def IY {t} (h:Xp t=0):RT t:=by
 have p:=fun x e=>Qb3 (x:=x) e;unfold Xp at h;by_cases c:thV t=0;rw[Qb (by simpa using c)]at h;by_cases j:U3 t=[];rw[Qb (by simpa using j)]at h;have b:Vi t=true:=by by_cases b:Vi t=true;exact b;rw[Qb b]at h;cases h
 obtain⟨k,o,m,n,q⟩:=LW c;simp only[Vi,Qr,QM]at b;have d:=Z4 _ _ b.1.2;have l: (ZJ t).1=t:=by have a:=b.1.1;unfold Yw at a d;rw[Qb (by simpa using c)]at a d;by_cases g: (ZJ t).2=0;rw[Qb (by simpa using g)]at a d;by_cases f:QR (ZJ t).1=0;rwa[Qb (by simpa using f)]at d;rw[Qe (by simpa using f)]at a;exact absurd a f;rw[Qe (by simpa using g)]at a;exact absurd a g
 refine⟨k,m,?_,?_⟩;have:=Qac t ((Xm k).1);rwa[l]at this;intro x e i;have:x∈U3 t:=by unfold U3;exact ZO.2 (X1.2 ⟨e,by simp[UO,i]⟩)
 rw[j]at this;cases this;rw[Qe (by simpa using j)]at h;cases h;rw[Qe (by simpa using c)]at h;exact absurd h c
def IX {t x} (h:RT t) (a:x∈Zu t):RT x:=⟨PT h.v a,J9 t x h.g a,Qad h.hn a,fun y b=>h.gr y (SE t x y a b)⟩
noncomputable def ZR (l:Qj):Qj:=QL (Zk l)
noncomputable def Np (k m:Qj):Int:=if 60 < k.length then 3 else if VF (k ++ m)≠0 then VF (k ++ m)else szT (ZR (k ++ m))
structure KI (l:List Tm):Prop where
 len:l.length < 1000
 nodes:Qs l < 4000\/l.length<=9
 mass:Qv l < 50000000
 ms: ∀x∈l,x.mass < 1000000
def Qes {l} (a:KI l) (c: ∀x∈l,RT x): (QL (Zk l)).length < 4000:=by
 have d:=U1 (Zk l);rw[Mh]at d;rcases a.nodes with h | h;omega;have:=PE (s:=l) fun x b=>(c x b).v;omega
def Qrb {u} (h:szT u=0):u.length<=200/\(u.filter YY).length<=4/\(QL (Wz u)).length<=8:=by
 unfold szT at h;split at h;cases h;omega
def QnD {l} (d: ∀x∈l,RT x) (h:szT (ZR l)=0):UC (ZR l):=by
 obtain⟨b,f,c⟩:=Qrb h;have a: ∀x∈ZR l,RT x:=fun x a=>by obtain⟨t,e,a⟩:=UV.1 (ZO.1 a);exact IX (d t e) a
 exact⟨b,fun x h=>(a x h).v,fun x h=>(a x h).g,fun x h=>(a x h).hn,f,c⟩
def Hi (l):Asc (ZR l):=XW _
def UZ {l x}:x∈ZR l↔∃t∈l,x∈Zu t:=by unfold ZR;rw[ZO,UV]
def EH {l} (i:KI l) (e:VF l=0): (ZR l).length < 4000/\(∀t∈ZR l,t.mass < 1000000)/\(∀t∈ZR l,isB t EXP=true->t.kids.length=2):=by
 have c: ∀x∈ZR l,RT x:=fun x c=>by obtain⟨t,d,c⟩:=UZ.1 c;exact IX (IY (Ry e t d)) c
 refine⟨Qes i fun x c=>IY (Ry e x c),fun t d=> ?_,fun t d f=> ?_⟩;have:=(Xm (c t d).v).2.2;omega;obtain⟨a,b,h⟩:=XD (c t d).g f (by simp[Tg]);rw[h];rfl
def QkF (k m:Qj) (B:Qp) (r:Out):Prop:=∃o,r=some (.tup [.sl o 4 (Qa (if Np k m=0 then ZR (k ++ m)else [])),.int .i64 (Np k m)],B)
def QoJ (k m) (h:KI (k ++ m)) (o j B):QkF k m B (call tb 518 [.sl o 4 (Qa k),.sl j 4 (Qa m)] B):=by
 have l:k.length+m.length < 1000:=by have:=h.len;simpa using this
 have c:=fun o=>S9 [k,m] o B (by simp) (by simp;omega);have a:=fun o=>QcQ (k ++ m) o B (by have:=h.len;omega) h.ms;have d:=fun o=>QcP (k ++ m) o B (by have:=h.len;omega) h.ms (by have:=h.mass;have:=Y6 (k ++ m);omega);have b:=fun g:VF (k ++ m)=0=>QcR (ZR (k ++ m)) (EH h g).1 (EH h g).2.1 (EH h g).2.2;simp only[SJ,ZI,Vv,To,Gv,QH]at c;rw[zcc 518 rfl rfl];unfold QkF Np;have n: (60 < k.length)↔(60:Int) < (k.length:Int):=by omega
 simp only[n];by_cases f: (60:Int) < (k.length:Int);refine⟨false,?_⟩;simp[f518C,f,Qa];by_cases e:VF (k ++ m)=0;have b:=b e;change ∀o,call tb 511 _ B=some (.sl true 4 (Qa (ZR (k ++ m))),B)at d;rw[e]at a;generalize p:ZR (k ++ m)=u at *;by_cases i:szT u=0;refine⟨false,?_⟩;simp[f518C,f,c,a,d,b,e,i];refine⟨false,?_⟩;simp[f518C,f,c,a,d,b,e,i,Qa];refine⟨false,?_⟩;simp[f518C,f,c,a,e,Qa]
def Qo7 (k t) (h:KI (k ++ [t])) (o B):QkF k [t] B (call tb 608 [.sl o 4 (Qa k),.agg (Qd t)] B):=by
 obtain⟨c,a⟩:=QoJ k [t] h false false B;have b:Qa [t]=[Qd t]:=by simp[Qa]
 rw[b]at a;refine⟨false,?_⟩;rw[zcc 608 rfl rfl];simp[f608C,a,Qf]
end Go.Am
namespace Go.Am
set_option maxRecDepth 20000
def Qiv {t} (h:XO t=0):OK t=0/\∀x∈t.kids,XO x=0:=by
 have c: ∀{l:Qj},Vo l=0->∀x∈l,XO x=0:=by intro l;induction l with | nil=>intro _ x b;cases b | cons y l d=>intro h x b;simp only[Vo]at h;split at h;rename_i a;exact absurd h a;rename_i a;rcases Zf.1 b with rfl | b;simpa using a;exact d h x b
 obtain⟨k,n,s,e⟩:=t;simp only[XO]at h;split at h;rename_i a;exact absurd h a;rename_i a;exact⟨by simpa using a,c h⟩
end Go.Am
namespace Go.Am
set_option maxRecDepth 20000
end Go.Am
namespace Go.Am
set_option maxRecDepth 20000
structure UK (u:List Tm):Prop where
 len:u.length < 4000
 err: ∀x∈u,XO x=0
 ms: ∀x∈u,x.mass < 1000000
 gd: ∀x∈u,Zn x=true
 kids: ∀x∈u,∀y∈x.kids,y∈u
 key: ∀x∈u,PF x=0->PG x∈u
end Go.Am
namespace Go.Am
set_option maxRecDepth 20000
end Go.Am
namespace Go.Am
set_option maxRecDepth 20000
end Go.Am
namespace Go.Am
set_option maxRecDepth 20000
def Qmb {t} (h:PF t=0):isB t ENC=true\/isB t Zz=true:=by
 unfold PF at h;grind
def QaL (p): ∀a x,x.2=true->(Vc p x a).2=true
 | [],x,h=>h
 | t:: a,x,h=>by
  simp only[Vc];apply QaL;grind
def Qjj (p): ∀a x,(Vc p x a).2=false->Vc p x a=x/\∀t∈a,p x.1 t=true->t∈x.1
 | [],x,_=>⟨rfl,fun y f=>by grind⟩
 | t:: a,x,h=>by
  simp only[Vc]at h ⊢;by_cases c: (!QA x.1 t && p x.1 t)=true;rw[Qe c]at h;rw[QaL p a _ rfl]at h;cases h;rw[Qb c]at h ⊢;obtain⟨e,g⟩:=Qjj p a x h;refine⟨e,fun z d b=> ?_⟩;rcases Zf.1 d with rfl | d;rw[b,Sb]at c;have:QA x.1 z=true:=by grind
  exact Yj.1 this;grind
def QaK (p): ∀a x,∀y∈x.1,y∈(Vc p x a).1
 | [],x,y,h=>h
 | t:: a,x,y,h=>by
  simp only[Vc];apply QaK;split;exact Uk.2 (.inr h);exact h
def Qid (p) {u}: ∀f s,∀y∈s,y∈Uh p u f s
 | 0,s,y,h=>h
 | f+1,s,y,h=>by
  simp only[Uh];split;exact Qid p f _ y (QaK p u (s,false) y h);exact QaK p u (s,false) y h
def Qc9 (p) {u}: ∀f s,PsI u s->PsI u (Uh p u f s)
 | 0,s,h=>h
 | f+1,s,h=>by
  have a:=NU p u (s,false) (fun t b=>b) h;simp only[Uh];split;exact Qc9 p f _ a;omega
def Qc8 (p) {u} (b:Asc u): ∀f s,u.length < f+s.length->PsI u s->∀t∈u,p (Uh p u f s) t=true->t∈Uh p u f s
 | 0,s,c,a=>by have:=WT u s a.asc b a.sub;omega
 | f+1,s,c,a=>by
  have i:=Eu p u (s,false);simp only[Uh];split;rename_i d;apply Qc8 p b f _ _ (NU p u (s,false) (fun t g=>g) a);grind;rename_i d;obtain⟨e,h⟩:=Qjj p u (s,false) (by grind);rwa[e]
def Qtz {u} (c:UC u) (b:Asc u) {s} (d:PsI u s) (f):Uh TC u f s=Uh XS u f s:=
 Qic (fun e a t _=>Qq8 c b a.asc a.sub t) f s d
end Go.Am
namespace Go.Am
set_option maxRecDepth 20000
def Eo {t i} (h:i < t.kids.length):kid t i∈t.kids:=by
 unfold kid;rw[Zh,Q0 h];exact VH _
def SN {t x} (h:x∈t.kids):x∈Zu t:=by
 rw[Ix];exact Tl _ (LG h x (X3 x))
def QqD {t} (i:Zn t=true) (h:PF t=0):PG t∈Zu t:=by
 have k:=h;unfold PG;rw[Qb (by simpa using h)];by_cases c:isB t ENC=true;rw[Qe c];obtain⟨a,b,g⟩:=XD i c (by simp[Tg]);exact SN (Eo (by rw[g];simp));rw[Qb c];have l:isB t Zz=true:=by rcases(Qmb h)with h | h;exact absurd h c;exact h
 obtain⟨a,b,g⟩:=XD i l (by simp[Tg]);have o:kid t 1∈t.kids:=Eo (by rw[g];simp);have m:=SN o;have f:isB (kid t 1) PK=true:=by by_cases f:isB (kid t 1) PK=true;exact f;exfalso;(have r:isB t ENC=false:=by simpa using c);(have j:isB (kid t 1) PK=false:=by simpa using f);simp only[PF,r,l,j,Xn,ZT,QT]at k;by_cases d:thV t=0 <;> simp[d]at k
 obtain⟨p,q⟩:=RN.1 f;have e:=(UN (J9 t _ i m) p).2;have n: (kid t 1).kids.length=1:=by rw[q]at e;simpa[Xb,PK,Z3,ENC,Zz,Yc,EXP,DEC,YM,Xa]using e
 exact SE t _ _ m (SN (Eo (by omega)))
def QnE {l} (i: ∀x∈l,RT x) (e: (ZR l).length < 4000):UK (ZR l):=by
 have a: ∀x∈ZR l,RT x:=fun x a=>by obtain⟨t,c,a⟩:=UZ.1 a;exact IX (i t c) a
 have b: ∀x∈ZR l,∀y∈Zu x,y∈ZR l:=fun x a y d=>by obtain⟨t,c,a⟩:=UZ.1 a;exact UZ.2 ⟨t,c,SE t x y a d⟩
 exact⟨e,fun x h=>(Xm (a x h).v).1,fun x h=>by have:=(Xm (a x h).v).2.2;omega,fun x h=>(a x h).g,fun x h y d=>b x h y (SN d),fun x h f=>b x h _ (QqD (a x h).g f)⟩
def IQ {l k} (h: ∀x∈k,x∈l):PsI (ZR l) (QL k):=⟨XW k,fun x a=>UZ.2 ⟨x,h x (ZO.1 a),X3 x⟩⟩
structure UOk (k m:List Tm):Prop where
 uc:UC (ZR (k ++ m))
 uk:UK (ZR (k ++ m))
 asc:Asc (ZR (k ++ m))
 ps:PsI (ZR (k ++ m)) (QL k)
 rt: ∀x∈k ++ m,RT x
def Qby {k m} (h:KI (k ++ m)) (a:Np k m=0):UOk k m:=by
 unfold Np at a;split at a;cases a;split at a;rename_i c;exact absurd a c;rename_i c;have b: ∀x∈k ++ m,RT x:=fun x d=>IY (Ry (by simpa using c) x d);exact⟨QnD b a,QnE b (Qes h b),Hi _,IQ fun x d=>Ze.2 (.inl d),b⟩
noncomputable def kcl (u s:Qj):Qj:=Uh XS u (u.length+1) s
def Em {u s} (h:PsI u s):PsI u (kcl u s):=Qc9 XS _ s h
def Qd2 {u s} (b:UC u) (a:Asc u) (h:PsI u s):s.length<=200:=by
 have:=WT u s h.asc a h.sub;have:=b.len;omega
def QaT {u s} (a:UK u) (h:PsI u s): ∀x∈s,x.mass < 1000000:=fun x b=>a.ms x (h.sub x b)
def LH {s:Qj} (h: ∀x∈s,x.mass < 1000000): ∀x∈s,x.mass < big:=fun x a=>by have:=h x a;unfold big;omega
def QwR {u} (b:UC u) (c:Asc u) {s} (d:PsI u s) (o a B):ClR (kcl u s) B (call tb 529 [.sl o 4 (Qa s),.sl a 4 (Qa u)] B):=by
 have:=QoM b c d o a B;rwa[Qtz b c d]at this
def LsR (l:Qj) (e:Int) (B:Qp) (r:Out):Prop:=∃o,r=some (.tup [.sl o 4 (Qa l),.int .i64 e],B)
end Go.Am
namespace Go.Am
def Qlb {u s:Qj} (hau:Asc u) (hI:PsI u s): ∀t∈u,QA (Uh XS u (u.length+1) s) t=true\/XS (Uh XS u (u.length+1) s) t=false:=fun t ht=>by
 cases h:XS (Uh XS u (u.length+1) s) t
 ·exact .inr rfl
 ·exact .inl (Yj.2 (Qc8 XS hau (u.length+1) s (by omega) hI t ht h))
def Io {u C:Qj} (hu:UC u) (hau:Asc u) (hC:PsI u C) (hcl: ∀t∈u,QA C t=true\/XS C t=false): ∀(ts:Qj) (x:Qj×Bool),(∀t∈ts,t∈u)->PsI u x.1->(∀y∈x.1,y∈C)->∀y∈(Vc XS x ts).1,y∈C
 | [],x,_,_,h=>h
 | t:: ts,x,hs,hI,h=>by
  simp only[Vc];cases hc: (!QA x.1 t && XS x.1 t)
  ·simp only[Xn,ZT];exact Io hu hau hC hcl ts x (fun y hy=>hs y (by simp[hy])) hI h
  ·simp only[QT];have ht:=hs t (by simp);refine Io hu hau hC hcl ts (ZA t x.1,true) (fun y hy=>hs y (by simp[hy])) (IP hI ht) (fun y hy=> ?_);rcases Uk.1 hy with rfl | hy
   ·simp only[Qr]at hc;have h2:=Qkc hu hau hI.asc hC.asc hC.sub h ht hc.2;rcases hcl y ht with h3 | h3
    ·exact Yj.1 h3
    ·rw[h2]at h3;cases h3
   ·exact h y hy
def EX {u C:Qj} (hu:UC u) (hau:Asc u) (hC:PsI u C) (hcl: ∀t∈u,QA C t=true\/XS C t=false): ∀(f:Nat) (s:Qj),PsI u s->(∀y∈s,y∈C)->∀y∈Uh XS u f s,y∈C
 | 0,s,_,h=>h
 | f+1,s,hI,h=>by
  simp only[Uh];have hp:=NU XS u (s,false) (fun t ht=>ht) hI;have hl:=Io hu hau hC hcl u (s,false) (fun t ht=>ht) hI h;split
  ·exact EX hu hau hC hcl f _ hp hl
  ·exact hl
end Go.Am
namespace Go.Am
set_option maxRecDepth 20000
def HI (k u:Qj):Bool:=(QL (Zk (k ++ u))).any fun x=> !QA (QL u) x
noncomputable def knE (k u:Qj):Int:=if 60 < k.length\/200 < u.length then 3 else if VF (k ++ u)≠0 then VF (k ++ u)else if HI k u then 4 else szT (QL u)
noncomputable def knT (k u:Qj):Qj:=if knE k u=0 then kcl (QL u) (QL k)else []
structure KN (k u:List Tm):Prop where
 lk:k.length < 100000
 lu:u.length < 100000
 ms: ∀x∈k ++ u,x.mass < 1000000
def Quu {k u} (h:HI k u=false):QL u=ZR (k ++ u):=by
 apply PY (XW _) (Hi _);intro x;constructor;intro a;exact UZ.2 ⟨x,Ze.2 (.inr (ZO.1 a)),X3 x⟩;intro a;have:=BE.1 h x a;simp only[Tp,BF]at this;exact Yj.1 this
def Qo8 (s x g o a) (b:a[g]? =some [.sl o 4 (Qa s)]) (e:s.length < 100000000) (c: ∀p∈s,p.mass < big) (h:x.mass < big) (f:Asc s):
  call tb 610 [.agg (Qd x),.gp g 0] a=some (.bool (!QA s x),a):=by
 have d:=QF b;rw[zcc 610 rfl rfl];simp[-getElem?_pos,Qo,f610C,(fun o=>PZ s x o a e c h f),b,Qf]
def Qwa {k u} (h:VF (k ++ u)=0) (e:HI k u=false) (d:szT (QL u)=0) (c: (QL u).length < 4000):UC (QL u)/\UK (QL u)/\Asc (QL u)/\PsI (QL u) (QL k):=by
 have b: ∀x∈k ++ u,RT x:=fun x a=>IY (Ry h x a);rw[(Quu e)]at d c ⊢;exact⟨QnD b d,QnE b c,Hi _,IQ fun x a=>Ze.2 (.inl a)⟩
def Qur {k u} (h:VF (k ++ u)=0): (∀t∈QL u,t.mass < 1000000)/\(∀t∈QL u,isB t EXP=true->t.kids.length=2)/\Qs (k ++ u)<=400* (k ++ u).length/\Qv (k ++ u)<=(k ++ u).length*13200:=by
 have e: ∀x∈k ++ u,RT x:=fun x c=>IY (Ry h x c);have d: ∀x∈QL u,RT x:=fun x c=>e x (Ze.2 (.inr (ZO.1 c)));refine⟨fun t f=>by have:=(Xm (d t f).v).2.2;omega,fun t f j=> ?_,PE fun x c=>(e x c).v,Qaq fun x c=>(Xm (e x c).v).2.2⟩;obtain⟨a,b,i⟩:=XD (d t f).g j (by simp[Tg]);rw[i];rfl
def Qc5 (k u) (h:KN k u) (o w) (B):LsR (knT k u) (knE k u) B (call tb 609 [.sl o 4 (Qa k),.sl w 4 (Qa u)] B):=by
 obtain⟨J,O,r⟩:=h;have b:=fun o B=>S9 [k,u] o B (by simp) (by simp;omega);simp only[SJ,ZI,Vv,To,Gv,QH]at b;have c:=fun o=>QcQ (k ++ u) o B (by simp;omega) r;have d:=fun o=>F4 u o B (by omega) (LH (fun x i=>r x (Ze.2 (.inr i))));have E: (60 < k.length)↔(60:Int) < (k.length:Int):=by omega
 have I: (200 < u.length)↔(200:Int) < (u.length:Int):=by omega
 unfold knT;rw[zcc 609 rfl rfl];unfold knE;simp only[E,I];by_cases l: (60:Int) < (k.length:Int);refine⟨false,?_⟩;simp[f609C,l,Qa];by_cases n: (200:Int) < (u.length:Int);refine⟨false,?_⟩;simp[f609C,l,n,Qa];by_cases j:VF (k ++ u)=0;obtain⟨v,y,L,P⟩:=Qur j;have N: (k ++ u).length<=260:=by simp;omega
 have H: (QL u).length<=200:=by have:=U1 u;omega
 have e:=fun o B=>QcP (k ++ u) o B (by omega) r (by omega);have t:=U1 (Zk (k ++ u));rw[Mh]at t;have a:=fun o=>B7 (QL (Zk (k ++ u))) 610 [.gp B.length 0] (fun x=> !QA (QL u) x) o (B ++ [[AV.sl true 4 (Qa (QL u))]]) (by omega) (by simp) (fun x (i:x∈QL (Zk (k ++ u)))=>Qo8 (QL u) x B.length true (B ++ [[AV.sl true 4 (Qa (QL u))]]) (Yv) (by omega) (LH v) (by have i:=ZO.1 i;have:=GR i;unfold big;omega) (XW _));change ∀o,_=some (AV.bool (HI k u),_)at a;have f:=fun o=>QcR (QL u) (by omega) v y o (B ++ [[AV.sl true 4 (Qa (QL u))]]);have g:=fun o=>F4 k o (B ++ [[AV.sl true 4 (Qa (QL u))]]) (by omega) (LH (fun x i=>r x (Ze.2 (.inl i))));rw[j]at c;cases s:HI k u;by_cases q:szT (QL u)=0;obtain⟨z,K,G,D⟩:=Qwa j s q (by omega);obtain⟨M,p⟩:=QwR z G D false false (B ++ [[AV.sl true 4 (Qa (QL u))]]);rw[s]at a;rw[q]at f;refine⟨false,?_⟩;generalize QL (Zk (k ++ u))=A at *;generalize m:QL u=U at *;generalize kcl U (QL k)=C at *;simp[f609C,l,n,j,q,b,c,d,e,a,f,g,p];rw[s]at a;refine⟨false,?_⟩;generalize QL (Zk (k ++ u))=A at *;generalize m:QL u=U at *;simp[f609C,l,n,j,q,b,c,d,e,a,f,g,Qa];rw[s]at a;refine⟨false,?_⟩;generalize QL (Zk (k ++ u))=A at *;generalize m:QL u=U at *;simp[f609C,l,n,j,b,c,d,e,a,Qa];refine⟨false,?_⟩;simp[f609C,l,n,j,b,c,Qa]
end Go.Am
namespace Go.Am
set_option maxRecDepth 20000
end Go.Am
namespace Go.Am
set_option maxRecDepth 20000
end Go.Am
namespace Go.Am
set_option maxRecDepth 20000
end Go.Am
namespace Go.Am
set_option maxRecDepth 20000
end Go.Am
namespace Go.Am
set_option maxRecDepth 20000
end Go.Am
namespace Go.Am
set_option maxRecDepth 20000
end Go.Am
namespace Go.Am
set_option maxRecDepth 20000
inductive Syn (A:List Tm):Tm->Prop
 | ax {t:Tm}:t∈A->Syn A t
 | pub {t:Tm}:Uv t=true->Syn A t
 | con {t:Tm}:t.kind=3->Oc t.name=true->(∀x∈t.kids,Syn A x)->Syn A t
noncomputable def anT (k:Qj):Qj:=kcl (ZR k) (QL k)
def Dv (k:Qj) (t:Tm):Prop:=Syn (anT k) t
end Go.Am
namespace Go.Am
set_option maxRecDepth 20000
def QlI: ∀t∈Vh,ZJ t=(t,0)/\∀y∈Zu t,y.kind≠1/\QwN y=false:=by
 intro t ht;simp only[Vh,Zf,LB,S8]at ht;rcases ht with rfl | rfl | rfl | rfl | rfl | rfl | rfl | rfl | rfl | rfl <;> refine⟨by rfl,?_⟩ <;> intro y hy <;> simp only[atA,atB,Zu,Zk,QH,XQ,Xg,Zf,LB,S8]at hy
 ·subst hy;exact⟨by decide,by decide⟩
 ·subst hy;exact⟨by decide,by decide⟩
 ·subst hy;exact⟨by decide,by decide⟩
 ·subst hy;exact⟨by decide,by decide⟩
 ·subst hy;exact⟨by decide,by decide⟩
 ·subst hy;exact⟨by decide,by decide⟩
 ·subst hy;exact⟨by decide,by decide⟩
 ·subst hy;exact⟨by decide,by decide⟩
 ·rcases hy with rfl | rfl <;> exact⟨by decide,by decide⟩
 ·rcases hy with rfl | rfl | rfl <;> exact⟨by decide,by decide⟩
def HW: ∀{l:Qj},(∀x∈l,Xp x=0)->VF l=0
 | [],_=>rfl
 | x:: l,h=>by
  simp only[VF];rw[Qb (by simpa using h x (by simp))];exact HW fun y hy=>h y (by simp[hy])
end Go.Am
namespace Go.Am
def gvT (t:Tm):Prop:=∀x∈Zu t,x.kind≠1
def QiS {t x:Tm} (h:gvT t) (hx:x∈Zu t):gvT x:=fun y hy=>h y (SE t x y hx hy)
def TN {n:Zq} {us:Qj} (h: ∀x∈us,gvT x):gvT (.mk 3 n 0 us):=fun y hy=>by
 simp only[Zu,Zf]at hy;rcases hy with rfl | hy
 ·simp
 ·obtain⟨t,ht,hy⟩:=UV.1 hy;exact h t ht y hy
def Eg {t:Tm} (h:gvT t): ∀x∈t.kids,gvT x:=fun x hx=>QiS h (SN hx)
def W7:gvT QU:=fun y hy=>by
 simp only[QU,Zu,Zk,XH]at hy;subst hy;simp
def A5 {t:Tm} (h:gvT t) (i:Nat):gvT (kid t i):=by
 unfold kid;rw[Zh];cases hg:t.kids[i]? with
 | none=>exact W7
 | some x=>exact Eg h x (X9 hg)
def Qp6 {us:Qj} (h: ∀x∈us,gvT x):gvT (W5 us).1:=by
 unfold W5;split
 ·exact W7
 ·split
  ·exact W7
  ·have hL: ∀y∈Z0 [] us,gvT y:=fun y hy=>by
    rcases Ox us [] y hy with h1 | h1
    ·cases h1
    ·obtain⟨t,ht,h1⟩:=UV.1 h1;exact QiS (h t ht) h1
   show gvT (tmX (Z0 [] us))
   match hh:Z0 [] us with
   | []=>exact TN fun x hx=>by cases hx
   | [p]=>simp only[tmX];exact hL p (by rw[hh];simp)
   | p:: q:: r=>simp only[tmX];exact TN fun x hx=>hL x (by rw[hh];exact hx)
def GvP (l:Qw):Prop:=∀q∈l,gvT q.1
def Qdy {l:Qw} {t:Tm} {m:Int} (h:GvP l) (ht:gvT t):GvP (YX l t m):=by
 intro q hq;rcases VL hq with hq | rfl | ⟨_,_,rfl,_⟩
 ·exact h q hq
 ·exact ht
 ·exact ht
def Qp1: ∀(t:Tm) (l:Qw) (m:Int),GvP l->gvT t->GvP (X6 l t m):=by
 refine YC ?_;intro k n s ks ih l m h hm;have hk:=Eg hm;have hL: ∀(xs:Qj) (l:Qw) (m:Int),(∀x∈xs,x∈ks)->GvP l->GvP (ZZ l xs m):=by
  intro xs
  induction xs with
  | nil=>intro l m _ h;simpa[ZZ]using h
  | cons x xs IH=>
   intro l m hx h;simp only[ZZ];exact IH _ m (fun y hy=>hx y (by simp[hy])) (ih x (hx x (by simp)) l m h (hk x (hx x (by simp))))
 rw[XT];split
 ·exact hL ks l _ (fun x hx=>hx) h
 ·exact Qdy h hm
def Fh: ∀(b a:Qw),GvP a->GvP b->GvP (Xo a b)
 | [],a,h,_=>h
 | q:: b,a,h,hb=>Fh b _ (Qdy h (hb q (by simp))) fun x hx=>hb x (by simp[hx])
def Fi {t:Tm} (h:gvT t):GvP (ofP t):=by
 unfold ofP;split
 ·exact Qp1 t [] 1 (fun q hq=>by cases hq) h
 ·intro q hq;cases hq
def Qp3 {a b:Qw} (ha:GvP a) (hb:GvP b):GvP (X2 a b):=by
 unfold X2;split
 ·exact Fh b a ha hb
 ·intro q hq;cases hq
def Qp4 {l:Qw} (h:GvP l): ∀x∈Zo l,gvT x:=by
 intro x hx;simp only[Zo,XJ,XX,Ze,Sa,Yg]at hx;rcases hx with⟨_,⟨q,hq,rfl⟩,hx⟩ | ⟨_,⟨q,hq,rfl⟩,hx⟩
 ·rw[Re hx];exact h q hq
 ·rw[Re hx];exact TN fun y hy=>by rw[XH.1 hy];exact h q hq
def A8 {l:Qw} (h:GvP l):gvT (Z2 l).1:=by
 unfold Z2;split
 ·exact W7
 ·split
  ·exact W7
  ·split
   ·exact W7
   ·have hL:=Qp4 h
    show gvT (Zv (Zo l))
    match hh:Zo l with
    | []=>exact TN fun x hx=>by cases hx
    | [p]=>simp only[Zv];exact hL p (by rw[hh];simp)
    | p:: q:: r=>simp only[Zv];rw[hh]at hL;exact TN hL
def Qb7 {t:Tm} (h:gvT t):gvT (YV t).1:=by
 unfold YV;split
 ·exact W7
 ·exact A8 (Fi h)
def Qdz {b:Tm} {p:Qw} (hb:gvT b) (hp:GvP p):gvT (Vb b p).1:=by
 unfold Vb;split
 ·exact hb
 ·split
  ·exact W7
  ·refine TN fun x hx=> ?_;simp only[Zf,LB,S8]at hx;rcases hx with rfl | rfl
   ·exact hb
   ·exact A8 hp
def Qp5 {b e:Tm} (hb:gvT b) (he:gvT e):gvT (XY b e).1:=by
 unfold XY;split
 ·exact W7
 ·split
  ·split
   ·exact W7
   ·split
    ·exact W7
    ·exact Qdz (A5 hb 0) (Qp3 (Fi (A5 hb 1)) (Fi he))
  ·exact Qdz hb (Fi he)
def QfF {us:Qj} (h: ∀x∈us,gvT x) (i:Nat):gvT (us.getD i QU):=by
 rw[Zh];cases hg:us[i]? with
 | none=>exact W7
 | some x=>exact h x (X9 hg)
def QlL {n:Zq} {us:Qj} (h: ∀x∈us,gvT x):gvT (Q8 n us):=by
 have hout:=TN (n:=n) h;have hkid: ∀i,gvT (kid (us.getD 0 QU) i):=fun i=>A5 (QfF h 0) i;simp only[Q8]
 repeat' split
 all_goals first | exact hout | exact hkid _
def QlM {n:Zq} {us:Qj} (h: ∀x∈us,gvT x):gvT (Yo n us).1:=by
 unfold Yo;split
 ·exact QlL h
 ·split
  ·exact Qp6 h
  ·split
   ·exact Qb7 (TN h)
   ·split
    ·exact Qp5 (QfF h 0) (QfF h 1)
    ·exact TN h
mutual
theorem A7: ∀t:Tm,gvT t->gvT (ZJ t).1
 | .mk k n s ks,h=>by
  have hk:=A6 ks (Eg h);simp only[ZJ];split
  ·split
   ·exact QlM hk
   ·exact W7
  ·exact h
theorem A6: ∀ts:List Tm,(∀x∈ts,gvT x)->∀x∈(YE ts).1,gvT x
 | [],_=>by simp[YE]
 | t:: ts,h=>by
  have a1:=A7 t (h t (by simp));have b1:=A6 ts fun x hx=>h x (by simp[hx]);simp only[YE];split
  ·split
   ·intro x hx;rcases Zf.1 hx with rfl | hx
    ·exact a1
    ·exact b1 x hx
   ·intro x hx;cases hx
  ·intro x hx;cases hx
end
def QlN {t:Tm} (h:gvT t):gvT (Yw t).1:=by
 unfold Yw;split
 ·exact W7
 ·split
  ·exact W7
  ·split
   ·exact W7
   ·exact A7 t h
def QdA {t:Tm} (h:gvT t):U3 t=[]:=by
 unfold U3;have: (Zu t).filter (UO 1)=[]:=List.filter_eq_nil_iff.2 fun y hy=>by
  have:=h y hy;simp[UO,this]
 rw[this];rfl
def Qp2 {t:Tm} (h:t∈Vh):gvT t:=fun y hy=>((QlI t h).2 y hy).1
def QlO {t:Tm} (h:gvT t) (hp:Vi t=true):Xp t=0:=by
 have hth:thV t=0:=by
  have h2: (Yw t).2=0:=by
   simp only[Vi,Qr,QM]at hp;exact hp.1.1
  by_cases d:thV t=0
  ·exact d
  ·unfold Yw at h2;rw[Qe d]at h2;exact h2
 unfold Xp;rw[Qb (by simpa using hth),Qb (by simp[QdA h]),Qe hp]
end Go.Am
