/-
  En38, En39, En40, En41, En42, En43, En44.
-/
import Derived.Test.YthagbooipdejlaaGreatDoorG21
set_option linter.all false
open Go.Am.F
namespace Go.Am
set_option maxRecDepth 20000
def J4 {cols:Qc} {f g:Tm->Int} (h: ∀t,f t=g t):Zr (cols.map f)=Zr (cols.map g):=by rw[OM fun t _=>h t]
def Qpq (l:List Qk) (m:Qk) (cs:Zf) (cols:Qc) (B0:Qa) (hl:l.length<=200) (hlc:cs.length=l.length) (hcs: ∀c∈cs,Yr c=false) (hg: ∀g∈l,okG g) (hm:okG m)
  (hcl:cols.length < 1000000) (hcm: ∀t∈cols,t.mass < 1000000) (ha:Asc cols) (hin: ∀g∈l,∀q∈g,q.1∈cols):
  ∀(post pre:List Qk) (cpost cpre:Zf) (o o2:Bool) (ρ:Ql),l=pre ++ post->cs=cpre ++ cpost->cpre.length=pre.length->
   ρ 2= .sl o 1 (Xu cs)->ρ 7= .sl true 4 (Qb cols)->ρ 8= .gs B0.length 0 1 cols.length->ρ 45= .sl o2 1 (ZD l)->ρ 46= .int .i64 l.length->ρ 47= .int .i64 pre.length->
  R tb (.loop f367l1) ρ (B0 ++ [Zr (cols.map fun t=>pwT m t - Yh cpre pre t)]) (Qq 0 (QI tb f367r1 (QK f367 B0)))=some (.bool (!(cols.map fun t=>pwT m t - Yh cs l t).any nz),B0):=by
 intro post
 induction post with
 | nil=>
  intro pre cpost cpre o o2 ρ hk hc hcl2 h2 h7 h8 h45 h46 h47;simp only[QF]at hk;subst hk;have:cpost=[]:=by
   have:=Wu List.length hc;simp at this;exact Y2 (by omega)
  subst this;simp only[QF]at hc;subst hc;have hB: ∀x:Qh,(B0 ++ [x])[B0.length]? =some x:=fun x=>Yu;have h599:=QiI (cols.map fun t=>pwT m t - Yh cs l t) B0.length (B0 ++ [Zr (cols.map fun t=>pwT m t - Yh cs l t)]) (hB _) (by simp;omega);rw[WH]at h599;generalize (cols.map fun t=>pwT m t - Yh cs l t).any nz=X at *;generalize Zr (cols.map fun t=>pwT m t - Yh cs l t)=RR at *;rw[Qe f367l1.eq_1];simp[h2,h7,h8,h45,h46,h47,f367r1,h599]
 | cons g post IH=>
  intro pre cpost cpre o o2 ρ hk hc hcl2 h2 h7 h8 h45 h46 h47;have hgt:=Qx hk;have hll:=QE hk;have hw1:=wr1 pre.length (by omega);have hlt:=QG hk;cases cpost with
  | nil=>have:=Wu List.length hc;simp at this;omega
  | cons ci cpost=>
   have hci:cs[pre.length]? =some ci:=by rw[hc,<- hcl2];simp
   have okg:=hg g (by rw[hk];simp);have hco:Yr ci=false:=hcs ci (by rw[hc];simp);have b1: ∀t,(ci*pwT g t).natAbs<=35184372088832000:=fun t=>DD (II hco) (J1 okg.bd);have b2: ∀t,(Yh cpre pre t).natAbs<=pre.length*35184372088832000:=fun t=>E6 (fun c h=>hcs c (by rw[hc];simp[h])) (fun x h=>hg x (by rw[hk];simp[h]));have b3: ∀t,(pwT m t).natAbs<=1000:=fun t=>J1 hm.bd;have hm1: ∀t,IntKind.i64.wrap (ci*pwT g t)=ci*pwT g t:=fun t=>Zg (by have:=b1 t;omega) (by have:=b1 t;omega);have hs1: ∀t,IntKind.i64.wrap (pwT m t - Yh cpre pre t - ci*pwT g t)=pwT m t - Yh cpre pre t - ci*pwT g t:=fun t=>by
    have h1:=b1 t;have h2:=b2 t;have h3:=b3 t;have h4:pre.length<=199:=by omega
    have h5:pre.length*35184372088832000<=199*35184372088832000:=Z9 _ h4;exact Zg (by omega) (by omega)
   have h:=fun o o2 ρ c K X=>Qpp cols g ci cs pre.length B0 (fun t=>pwT m t - Yh cpre pre t) hcl hci hm1 hs1 c K X cols [] o o2 ρ rfl;have hrow:Zr (cols.map fun t=>pwT m t - Yh cpre pre t - ci*pwT g t)=Zr (cols.map fun t=>pwT m t - Yh (cpre ++ [ci]) (pre ++ [g]) t):=J4 fun t=>by rw[M6 ci g t hcl2];omega
   have ih:=fun ρ=>IH (pre ++ [g]) cpost (cpre ++ [ci]) o o2 ρ (by rw[hk];simp) (by rw[hc];simp) (by simp[hcl2]);obtain⟨o3,hpo⟩:=Qir cols g false false (B0 ++ [Zr (cols.map fun t=>pwT m t - Yh cpre pre t)]) hcl hcm ha okg.2 okg.asc (hin g (by rw[hk];simp));rw[hrow]at h;simp only[X4,XD]at h;generalize Zr (cols.map fun t=>pwT m t - Yh cpre pre t)=R1 at *;generalize Zr (cols.map fun t=>pwT m t - Yh (cpre ++ [ci]) (pre ++ [g]) t)=R2 at *;generalize (cols.map fun t=>pwT m t - Yh cs l t).any nz=X at *;have hpl: (cols.map (pwT g)).length=cols.length:=by simp
   generalize cols.map (pwT g)=PP at *;rw[Qe f367l1.eq_1];simp[h2,h7,h8,h45,h46,h47,hlt,hgt,hpo,hpl];refine h o o3 _ _ _ _ ?_ ?_ ?_ ?_ ?_ ?_ ?_
   ·simp[h2]
   ·simp[h8]
   ·simp
   ·simp
   ·simp
   ·simp
   ·intro ρ' gj g45 g46 g47;simp[f367r0,g47,h47,hw1];have e2:=gj 2 (by omega);have e7:=gj 7 (by omega);have e8:=gj 8 (by omega);refine ih _ ?_ ?_ ?_ ?_ ?_ ?_
    ·simp[e2,h2]
    ·simp[e7,h7]
    ·simp[e8,h8]
    ·simp[g45,h45]
    ·simp[g46,h46]
    ·simp
def RH (l:List Qk) (m:Qk) (cs:Zf):Bool:=
 !(decide (200 < l.length) || !decide (cs.length=l.length) || cs.any Yr || decide (Z0 m≠0) || l.any Vu) && (Xt (l ++ [m])).all (fun t=>decide (Yh cs l t=pwT m t))
def Qnw {cols:Qc} {m:Qk} {cs:Zf} {l:List Qk}: (!(cols.map fun t=>pwT m t - Yh cs l t).any nz)=cols.all (fun t=>decide (Yh cs l t=pwT m t)):=by
 rw[List.any_map,List.not_any_eq_all_not];congr 1;funext t;simp only[nz,Function.comp_apply,Bool.not_not];exact decide_eq_decide.2 (by omega)
def Jw {l:List Qk} (hl:l.length<=1000) (hg: ∀g∈l,okG g): (Xt l).length < 1000000/\(∀t∈Xt l,t.mass < 1000000)/\Asc (Xt l)/\∀g∈l,∀q∈g,q.1∈Xt l:=by
 refine⟨?_,?_,Kd _,fun g hg2 q hq=>V7.2 (Qf8 hg2 hq)⟩
 ·have h1: ∀(l:List Qk),(∀g∈l,okG g)->(VF l).length<=200*l.length:=by
   intro l
   induction l with
   | nil=>intro _;simp[VF]
   | cons g l ih=>
    intro h;have a:=(h g (by simp)).len;have b:=ih fun x hx=>h x (by simp[hx]);rw[MO,Zc,ZM];have: (QZ g).length=g.length:=by simp[QZ]
    omega
  have h2:=h1 l hg;have h3:=PR (VF l);unfold Xt;omega
 ·intro t ht;obtain⟨g,hg2,q,hq,rfl⟩:=Qe7 (V7.1 ht);exact(hg g hg2).2.2 q hq
def ON:=@List.any_eq_false
def Bi {l:List Qk} (h:l.any Vu=false) (hs: ∀g∈l,SmP g): ∀g∈l,okG g:=fun g hg=>by
 have:=ON.1 h g hg;exact⟨by simpa[Vu]using this,hs g hg⟩
def Qil (l:List Qk) (m:Qk) (cs:Zf) (o o2 o3:Bool) (B0:Qa) (hl:l.length < 1000000) (hs: ∀g∈l,SmP g) (hm:SmP m) (hc:cs.length < 1000000):
  call tb 367 [.sl o 1 (ZD l),.sl o2 5 (QC m),.sl o3 1 (Xu cs)] B0=some (.bool (RH l m cs),B0):=by
 have c356:=fun o=>Iu 368 [] Yr cs o B0 (fun c _=>Qim c _) hc (by simp);have c197:=fun o=>OV m o B0 (by have:=hm.1;omega) hm.big;have c370:=fun o=>Qio l o B0 hs hl;rw[zcc 367 rfl rfl];unfold RH;by_cases k1:200 < l.length
 ·have k1': (200:Int) < (l.length:Int):=by omega
  simp[f367C,k1,k1']
 ·have k1': ¬(200:Int) < (l.length:Int):=by omega
  by_cases k2:cs.length=l.length
  ·have k2': (cs.length:Int)=(l.length:Int):=by omega
   cases k3:cs.any Yr
   ·rw[k3]at c356;by_cases k4:Z0 m=0
    ·cases k5:l.any Vu
     ·rw[k5]at c370;have okm:okG m:=⟨k4,hm⟩;have okl:=Bi k5 hs;have oka: ∀g∈l ++ [m],okG g:=fun g hg=>by
       rcases YU.1 hg with h | h
       ·exact okl g h
       ·simp at h;subst h;exact okm
      obtain⟨f1,f2,f3,f4⟩:=Jw (l:=l ++ [m]) (by simp;omega) oka;have c372: ∀o,call tb 372 [.sl o 1 (ZD l)] B0=some (.sl true 1 (ZD l),B0):=fun o=>by
       have e24:l.length*24<=140737488355328:=by omega
       rw[Wy tb_372];simp[Vc,Sw,e24]
      have e24: (l.length+1)*24<=140737488355328:=by omega
      have c373:=fun o=>Qip (l ++ [m]) o B0 (by simp;omega) fun g hg=>⟨(oka g hg).2,(oka g hg).len⟩;have c563:=fun o o2=>QiG (Xt (l ++ [m])) m o o2 B0 f1 f2 f3 okm.2 okm.asc (f4 m (by simp));have h:=fun o o2 ρ=>Qpq l m cs (Xt (l ++ [m])) B0 (by omega) k2 (fun c hc=>by simpa using ON.1 k3 c hc) okl okm f1 f2 f3 (fun g hg=>f4 g (by simp[hg])) l [] cs [] o o2 ρ rfl rfl rfl;have hrow:Zr ((Xt (l ++ [m])).map fun t=>pwT m t - Yh [] [] t)=Zr ((Xt (l ++ [m])).map (pwT m)):=J4 fun t=>by simp[Yh]
      rw[hrow,Qnw]at h;generalize (Xt (l ++ [m])).all (fun t=>decide (Yh cs l t=pwT m t))=X at *;generalize Zr ((Xt (l ++ [m])).map (pwT m))=R1 at *;generalize Xt (l ++ [m])=CC at *;have happ:=JA l [m];have hone:=RO m;simp[f367C,k1,k1',k2,k2',k4,c356,c197,c370,c372,e24,hone,happ,c373,c563];refine h false false _ ?_ ?_ ?_ ?_ ?_ ?_ <;> simp
     ·rw[k5]at c370;simp[f367C,k1,k1',k2,k2',k4,c356,c197,c370]
    ·simp[f367C,k1,k1',k2,k2',k4,c356,c197]
   ·rw[k3]at c356;simp[f367C,k1,k1',k2,k2',c356]
  ·have k2': ¬(cs.length:Int)=(l.length:Int):=by omega
   simp[f367C,k1,k1',k2,k2']
def Qgp (g:Qk) (t:Tm) (bs:Qa) (hg:SmP g) (ht:t.mass < 1000000):
  ∀(post pre:Qk) (o:Bool) (ρ:Ql),g=pre ++ post->ρ 0= .sl o 5 (QC g)->ρ 3= .bx (Qf t)->ρ 5= .int .i64 pre.length->
  R tb (.loop f326l0) ρ bs (Qq 0 (QI tb f326r0 (QK f326 bs)))=some (.int .i64 (pwT post t),bs):=by
 intro post
 induction post with
 | nil=>
  intro pre o ρ hk h0 h3 h5;simp only[QF]at hk;rw[<- hk]at h5;rw[Qe f326l0.eq_1];simp[h0,h3,h5,pwT,f326r0]
 | cons q post IH=>
  intro pre o ρ hk h0 h3 h5;have hgt:=Qx hk;have hll:=QE hk;have hgl:=hg.1;have hw1:=wr1 pre.length (by omega);have hlt:=QG hk;have hc:=Xs q.1 t bs (hg.big q (by rw[hk];simp)) (by unfold big;omega);have ih:=fun ρ=>IH (pre ++ [q]) o ρ (by rw[hk];simp);rw[Qe f326l0.eq_1];by_cases c:Qp q.1 t=0
  ·simp only[pwT,Qn c];simp[-getElem?_pos,Q8,Yf,YT,h0,h3,h5,hlt,hgt,hc,c]
  ·simp only[pwT,Qm c];generalize pwT post t=X at *;simp[-getElem?_pos,Q8,Yf,YT,h0,h3,h5,hlt,hgt,hc,c,hw1];apply ih <;> simp[h0,h3]
def Bt (g:Qk) (t:Tm) (o:Bool) (bs:Qa) (hg:SmP g) (ht:t.mass < 1000000):call tb 326 [.sl o 5 (QC g),.agg (Qf t)] bs=some (.int .i64 (pwT g t),bs):=by
 have h:=fun ρ=>Qgp g t bs hg ht g [] false ρ rfl;rw[zcc 326 rfl rfl];generalize pwT g t=X at *;simp[f326C];apply h <;> simp
def QpQ (l:List Qk) (g:Qk) (i:Nat) (bs:Qa) (hi:l[i]? =some g) (hg:SmP g) (c:AC) (K:Kn) (X:Out):
  ∀(post pre:Qk) (acc:Qc) (o o2:Bool) (ρ:Ql),g=pre ++ post->acc.length+post.length < 500000->(∀x∈acc,x.mass < 1000000)->
   ρ 0= .sl o 1 (ZD l)->ρ 3= .sl o2 4 (Qb acc)->ρ 4= .int .i64 i->ρ 5= .int .i64 pre.length->
   (∀(ρ':Ql) (o2:Bool),ρ' 0=ρ 0->ρ' 3= .sl o2 4 (Qb (Yp acc (QZ post)))->ρ' 4=ρ 4->R tb c ρ' bs K=X)->
  R tb (.loop f324l0) ρ bs (Qq 2 (Qq 1 (QI tb c K)))=X:=by
 intro post
 induction post with
 | nil=>
  intro pre acc o o2 ρ hk hal ham h0 h3 h4 h5 H;simp only[QF]at hk;rw[<- hk]at h5;rw[Qe f324l0.eq_1];simp[-getElem?_pos,Q8,Yf,YT,h0,h3,h4,h5,hi];refine H _ o2 ?_ ?_ ?_ <;> simp[h0,h3,Yp,QZ]
 | cons q post IH=>
  intro pre acc o o2 ρ hk hal ham h0 h3 h4 h5 H;have hgt:=Qx hk;have hll:=QE hk;have hgl:=hg.1;have hw1:=wr1 pre.length (by omega);have hlt:=QG hk;simp only[ZM]at hal;have hqm:=hg.2 q (by rw[hk];simp);have hc:=fun o=>Nh acc q.1 o bs (by omega) (fun x hx=>by have:=ham x hx;unfold big;omega) (by unfold big;omega);have hlen:=Px q.1 acc;have ih:=fun ρ=>IH (pre ++ [q]) (ZO q.1 acc) o false ρ (by rw[hk];simp) (by omega) (fun x hx=>by
   rcases S5.1 hx with rfl | hx
   ·exact hqm
   ·exact ham x hx)
  rw[Qe f324l0.eq_1];simp[-getElem?_pos,Q8,Yf,YT,h0,h3,h4,h5,hi,hlt,hgt,hw1,hc];refine ih _ ?_ ?_ ?_ ?_ ?_
  ·simp[h0]
  ·simp
  ·simp[h4]
  ·simp
  ·intro ρ' o3 g0 g3 g4;refine H ρ' o3 ?_ (by simpa[QZ,Yp]using g3) ?_
   ·rw[g0];simp
   ·rw[g4];simp
def Cr (acc l:Qc): (Yp acc l).length<=acc.length+l.length:=Nc l acc
def QpR (l:List Qk) (bs:Qa) (hl:l.length < 1000) (hs: ∀g∈l,SmP g/\g.length<=200):
  ∀(post pre:List Qk) (acc:Qc) (o o2:Bool) (ρ:Ql),l=pre ++ post->acc.length+200*post.length<=200*l.length->(∀x∈acc,x.mass < 1000000)->
   ρ 0= .sl o 1 (ZD l)->ρ 3= .sl o2 4 (Qb acc)->ρ 4= .int .i64 pre.length->
  R tb (.loop f324l1) ρ bs (Qq 0 (QI tb f324r1 (QK f324 bs)))=some (.sl false 4 (Qb (Yp acc (VF post))),bs):=by
 intro post
 induction post with
 | nil=>
  intro pre acc o o2 ρ hk hal ham h0 h3 h4;simp only[QF]at hk;rw[<- hk]at h4;rw[Qe f324l1.eq_1];simp[h0,h3,h4,f324r1,VF,Yp]
 | cons g post IH=>
  intro pre acc o o2 ρ hk hal ham h0 h3 h4;have hgt:=Qx hk;have hll:=QE hk;have hw1:=wr1 pre.length (by omega);have hlt:=QG hk;obtain⟨hsg,hg2⟩:=hs g (by rw[hk];simp);simp only[ZM]at hal;have hpl: (QZ g).length=g.length:=by simp[QZ]
  have hal2:=Cr acc (QZ g);have ih:=fun o2 ρ=>IH (pre ++ [g]) (Yp acc (QZ g)) o o2 ρ (by rw[hk];simp) (by omega) (fun x hx=>by
   rcases NL.1 hx with hx | hx
   ·exact ham x hx
   ·obtain⟨q,hq,rfl⟩:=XN.1 hx;exact hsg.2 q hq)
  have e:Yp acc (VF (g:: post))=Yp (Yp acc (QZ g)) (VF post):=by rw[MO,AZ]
  have h:=fun o o2 ρ c K X=>QpQ l g pre.length bs hgt hsg c K X g [] acc o o2 ρ rfl (by omega) ham;rw[e,Qe f324l1.eq_1];simp[h0,h3,h4,hlt];refine h o o2 _ _ _ _ ?_ ?_ ?_ ?_ ?_
  ·simp[h0]
  ·simp[h3]
  ·simp[h4]
  ·simp
  ·intro ρ' o3 g0 g3 g4;simp[f324r0,g4,h4,hw1];refine ih o3 _ ?_ ?_ ?_
   ·simp[g0,h0]
   ·simp[g3]
   ·simp
def Qib (l:List Qk) (o:Bool) (bs:Qa) (hl:l.length < 1000) (hs: ∀g∈l,SmP g/\g.length<=200):
  call tb 324 [.sl o 1 (ZD l)] bs=some (.sl false 4 (Qb (Xt l)),bs):=by
 have h:=fun o ρ=>QpR l bs hl hs l [] [] o true ρ rfl (by simp) (by simp);rw[zcc 324 rfl rfl];have e:Qb (Yp [] (VF l))=Qb (Xt l):=rfl;rw[e]at h;generalize Qb (Xt l)=E1 at *;simp[f324C];refine h false _ ?_ ?_ ?_ <;> simp[Qb]
def Qp3 (l:List Qk) (cs:Zf) (cols:Qc) (k:Nat) (t:Tm) (bs:Qa) (hl:l.length<=200) (hlc:cs.length=l.length) (hcs: ∀c∈cs,Yr c=false) (hg: ∀g∈l,okG g) (hk:cols[k]? =some t) (ht:t.mass < 1000000) (c:AC) (K:Kn) (X:Out):
  ∀(post pre:List Qk) (cpost cpre:Zf) (o o2 o3:Bool) (ρ:Ql),l=pre ++ post->cs=cpre ++ cpost->cpre.length=pre.length->
   ρ 0= .sl o 1 (ZD l)->ρ 2= .sl o2 1 (Xu cs)->ρ 8= .sl o3 4 (Qb cols)->ρ 9= .int .i64 k->ρ 10= .int .i64 (Yh cpre pre t)->ρ 11= .int .i64 pre.length->
   (∀ρ':Ql,(∀j,j < 10->ρ' j=ρ j)->ρ' 10= .int .i64 (Yh cs l t)->R tb c ρ' bs K=X)->
  R tb (.loop f392l1) ρ bs (Qq 4 (QI tb c K))=X:=by
 intro post
 induction post with
 | nil=>
  intro pre cpost cpre o o2 o3 ρ hkk hc hcl2 h0 h2 h8 h9 h10 h11 H;simp only[QF]at hkk;subst hkk;have:cpost=[]:=by
   have:=Wu List.length hc;simp at this;exact Y2 (by omega)
  subst this;simp only[QF]at hc;subst hc;generalize Yh cs l t=D at *;rw[Qe f392l1.eq_1];simp[h0,h2,h8,h9,h10,h11];refine H _ (fun j hj=> ?_) ?_
  ·simp[show j≠66 by omega,show j≠67 by omega,show j≠68 by omega,show j≠69 by omega]
  ·simp[h10]
 | cons g post IH=>
  intro pre cpost cpre o o2 o3 ρ hkk hc hcl2 h0 h2 h8 h9 h10 h11 H;have hgt:=Qx hkk;have hll:l.length=pre.length+ (post.length+1):=by rw[hkk];simp
  have hw1:=wr1 pre.length (by omega);have hlt: (pre.length:Int) < (l.length:Int):=by omega
  cases cpost with
  | nil=>have:=Wu List.length hc;simp at this;omega
  | cons ci cpost=>
   have hci:cs[pre.length]? =some ci:=by rw[hc,<- hcl2];simp
   have okg:=hg g (by rw[hkk];simp);have hco:Yr ci=false:=hcs ci (by rw[hc];simp);have b1: (ci*pwT g t).natAbs<=35184372088832000:=DD (II hco) (J1 okg.bd);have b2: (Yh cpre pre t).natAbs<=pre.length*35184372088832000:=E6 (fun c h=>hcs c (by rw[hc];simp[h])) (fun x h=>hg x (by rw[hkk];simp[h]));have hm1:IntKind.i64.wrap (ci*pwT g t)=ci*pwT g t:=Zg (by omega) (by omega);have hd:=M6 (cs:=cpre) (gs:=pre) ci g t hcl2;have hs1:IntKind.i64.wrap (Yh cpre pre t+ci*pwT g t)=Yh (cpre ++ [ci]) (pre ++ [g]) t:=by
    rw[hd];have h5:pre.length*35184372088832000<=199*35184372088832000:=Z9 _ (by omega);exact Zg (by omega) (by omega)
   have ih:=fun ρ=>IH (pre ++ [g]) cpost (cpre ++ [ci]) o o2 o3 ρ (by rw[hkk];simp) (by rw[hc];simp) (by simp[hcl2]);have h326:=Bt g t false bs okg.2 ht;generalize Yh cpre pre t=D1 at *;generalize Yh (cpre ++ [ci]) (pre ++ [g]) t=D2 at *;generalize Yh cs l t=D3 at *;generalize pwT g t=pt at *;rw[Qe f392l1.eq_1];simp[-getElem?_pos,Q8,Yf,YT,h0,h2,h8,h9,h10,h11,hlt,hgt,hci,hk,h326,hm1,hs1,hw1];refine ih _ ?_ ?_ ?_ ?_ ?_ ?_ ?_
   ·simp[h0]
   ·simp[h2]
   ·simp[h8]
   ·simp[h9]
   ·simp
   ·simp
   ·intro ρ' gj g10;refine H ρ' (fun j hj=> ?_) g10;rw[gj j hj];simp[show j≠10 by omega,show j≠11 by omega,show j≠66 by omega,show j≠67 by omega,show j≠68 by omega,show j≠69 by omega,show j≠70 by omega,show j≠71 by omega,show j≠72 by omega,show j≠73 by omega,show j≠74 by omega,show j≠75 by omega,show j≠76 by omega,show j≠77 by omega,show j≠78 by omega,show j≠79 by omega,show j≠80 by omega,show j≠81 by omega,show j≠82 by omega,show j≠83 by omega,show j≠84 by omega,show j≠85 by omega,show j≠86 by omega,show j≠87 by omega]
def Qp4 (l:List Qk) (m:Qk) (cs:Zf) (cols:Qc) (bs:Qa) (hl:l.length<=200) (hlc:cs.length=l.length) (hcs: ∀c∈cs,Yr c=false) (hg: ∀g∈l,okG g) (hm:okG m) (hcl:cols.length < 1000000) (hcm: ∀t∈cols,t.mass < 1000000):
  ∀(post pre:Qc) (o o1 o2 o3:Bool) (ρ:Ql),cols=pre ++ post->
   ρ 0= .sl o 1 (ZD l)->ρ 1= .sl o1 5 (QC m)->ρ 2= .sl o2 1 (Xu cs)->ρ 8= .sl o3 4 (Qb cols)->ρ 9= .int .i64 pre.length->
  R tb (.loop f392l2) ρ bs (Qq 2 (QI tb f392r2 (QK f392 bs)))=some (.bool (post.all fun t=>decide (Yh cs l t=pwT m t)),bs):=by
 intro post
 induction post with
 | nil=>
  intro pre o o1 o2 o3 ρ hk h0 h1 h2 h8 h9;simp only[QF]at hk;rw[<- hk]at h9;rw[Qe f392l2.eq_1];simp[h0,h1,h2,h8,h9,f392r2]
 | cons t post IH=>
  intro pre o o1 o2 o3 ρ hk h0 h1 h2 h8 h9;have hgt:=Qx hk;have hll:=QE hk;have hw1:=wr1 pre.length (by omega);have hlt:=QG hk;have htm:=hcm t (by rw[hk];simp);have h:=fun o o2 o3 ρ c K X=>Qp3 l cs cols pre.length t bs hl hlc hcs hg hgt htm c K X l [] cs [] o o2 o3 ρ rfl rfl rfl;have h326:=fun o=>Bt m t o bs hm.2 htm;have ih:=fun ρ=>IH (pre ++ [t]) o o1 o2 o3 ρ (by rw[hk];simp);simp only[Sn];rw[Qe f392l2.eq_1];simp only[Yh]at h;generalize post.all (fun t=>decide (Yh cs l t=pwT m t))=X at *;generalize Yh cs l t=D at *;generalize pwT m t=pt at *;simp[h0,h1,h2,h8,h9,hlt];refine h o o2 o3 _ _ _ _ ?_ ?_ ?_ ?_ ?_ ?_ ?_
  ·simp[h0]
  ·simp[h2]
  ·simp[h8]
  ·simp[h9]
  ·simp
  ·simp
  ·intro ρ' gj g10;have e0:=gj 0 (by omega);have e1:=gj 1 (by omega);have e2:=gj 2 (by omega);have e8:=gj 8 (by omega);have e9:=gj 9 (by omega);simp[h0]at e0;simp[h1]at e1;simp[h2]at e2;simp[h8]at e8;simp[h9]at e9;by_cases c:D=pt
   ·simp[-getElem?_pos,Q8,f392r0,f392r1,g10,e0,e1,e2,e8,e9,hgt,h326,c,hw1];apply ih <;> simp[e0,e1,e2,e8]
   ·simp[-getElem?_pos,Q8,f392r0,f392r1,g10,e0,e1,e2,e8,e9,hgt,h326,c]
def Qp5 (l:List Qk) (m:Qk) (cs:Zf) (bs:Qa) (hl:l.length<=200) (hlc:cs.length=l.length) (hcs: ∀c∈cs,Yr c=false) (hg: ∀g∈l,okG g) (hm:okG m) (o o1 o2:Bool) (ρ:Ql)
  (h0:ρ 0= .sl o 1 (ZD l)) (h1:ρ 1= .sl o1 5 (QC m)) (h2:ρ 2= .sl o2 1 (Xu cs)):
  R tb f392r3 ρ bs (QK f392 bs)=some (.bool ((Xt (l ++ [m])).all fun t=>decide (Yh cs l t=pwT m t)),bs):=by
 have oka: ∀g∈l ++ [m],okG g:=fun g hg2=>by
  rcases YU.1 hg2 with h | h
  ·exact hg g h
  ·simp at h;subst h;exact hm
 obtain⟨f1,f2,f3,f4⟩:=Jw (l:=l ++ [m]) (by simp;omega) oka;have c324:=fun o=>Qib (l ++ [m]) o bs (by simp;omega) fun g hg=>⟨(oka g hg).2,(oka g hg).len⟩;have h:=fun o o1 o2 o3 ρ=>Qp4 l m cs (Xt (l ++ [m])) bs hl hlc hcs hg hm f1 f2 (Xt (l ++ [m])) [] o o1 o2 o3 ρ rfl;generalize (Xt (l ++ [m])).all (fun t=>decide (Yh cs l t=pwT m t))=X at *;generalize Xt (l ++ [m])=CC at *;have happ:=JA l [m];have hone:=RO m;have e24:l.length*24<=140737488355328:=by omega
 have e25: (l.length+1)*24<=140737488355328:=by omega
 simp[f392r3,h0,h1,h2,e24,e25,hone,happ,c324];refine h o o1 o2 false _ ?_ ?_ ?_ ?_ ?_ <;> simp[h0,h1,h2]
def Qp2 (l:List Qk) (m:Qk) (cs:Zf) (bs:Qa) (hl:l.length<=200) (hlc:cs.length=l.length) (hs: ∀g∈l,SmP g) (hm:okG m):
  ∀(post pre:List Qk) (cpost cpre:Zf) (o o1 o2:Bool) (ρ:Ql),l=pre ++ post->cs=cpre ++ cpost->cpre.length=pre.length->pre.any Vu=false->cpre.any Yr=false->
   ρ 0= .sl o 1 (ZD l)->ρ 1= .sl o1 5 (QC m)->ρ 2= .sl o2 1 (Xu cs)->ρ 7= .int .i64 pre.length->
  R tb (.loop f392l0) ρ bs (Qq 0 (QI tb f392r3 (QK f392 bs)))=some (.bool (!(post.any Vu || cpost.any Yr) && (Xt (l ++ [m])).all fun t=>decide (Yh cs l t=pwT m t)),bs):=by
 intro post
 induction post with
 | nil=>
  intro pre cpost cpre o o1 o2 ρ hk hc hcl2 hb1 hb2 h0 h1 h2 h7;simp only[QF]at hk;subst hk;have:cpost=[]:=by
   have:=Wu List.length hc;simp at this;exact Y2 (by omega)
  subst this;simp only[QF]at hc;subst hc;have h:=fun ρ=>Qp5 l m cs bs hl hlc (fun c hc=>by simpa using ON.1 hb2 c hc) (Bi hb1 hs) hm o o1 o2 ρ;generalize (Xt (l ++ [m])).all (fun t=>decide (Yh cs l t=pwT m t))=X at *;rw[Qe f392l0.eq_1];simp[h0,h1,h2,h7];apply h <;> simp[h0,h1,h2]
 | cons g post IH=>
  intro pre cpost cpre o o1 o2 ρ hk hc hcl2 hb1 hb2 h0 h1 h2 h7;have hgt:=Qx hk;have hll:=QE hk;have hw1:=wr1 pre.length (by omega);have hlt:=QG hk;cases cpost with
  | nil=>have:=Wu List.length hc;simp at this;omega
  | cons ci cpost=>
   have hci:cs[pre.length]? =some ci:=by rw[hc,<- hcl2];simp
   have hsg:=hs g (by rw[hk];simp);have c259:=fun o=>OW g o bs (by have:=hsg.1;omega) hsg.big;have ih:=fun ρ b1 b2=>IH (pre ++ [g]) cpost (cpre ++ [ci]) o o1 o2 ρ (by rw[hk];simp) (by rw[hc];simp) (by simp[hcl2]) (by rw[Sl,hb1];simpa using b1) (by rw[Sl,hb2];simpa using b2);simp only[List.any_cons];rw[Qe f392l0.eq_1];generalize (Xt (l ++ [m])).all (fun t=>decide (Yh cs l t=pwT m t))=X at *;generalize post.any Vu=P1 at *;generalize cpost.any Yr=P2 at *;by_cases c1:Z0 g=0
   ·have eb:Vu g=false:=by simp[Vu,c1]
    by_cases c2:ci < -35184372088832
    ·have eo:Yr ci=true:=by simp[Yr,c2]
     simp[-getElem?_pos,Q8,h0,h1,h2,h7,hlt,hgt,hci,c259,c1,c2,eb,eo]
    ·by_cases c3:35184372088832 < ci
     ·have eo:Yr ci=true:=by simp[Yr,c3]
      simp[-getElem?_pos,Q8,h0,h1,h2,h7,hlt,hgt,hci,c259,c1,c2,c3,eb,eo]
     ·have eo:Yr ci=false:=by simp[Yr,c2,c3]
      have ih2:=fun ρ=>ih ρ eb eo;simp[-getElem?_pos,Q8,h0,h1,h2,h7,hlt,hgt,hci,c259,c1,c2,c3,eb,eo,hw1];simp only[Bool.not_or]at ih2;apply ih2 <;> simp[h0,h1,h2]
   ·have eb:Vu g=true:=by simp[Vu,c1]
    simp[-getElem?_pos,Q8,h0,h1,h2,h7,hlt,hgt,hci,c259,c1,eb]
def Jm:=@Bool.or_false
def BD (l:List Qk) (m:Qk) (cs:Zf) (o o2 o3:Bool) (bs:Qa) (hl:l.length < 1000000) (hs: ∀g∈l,SmP g) (hm:SmP m) (hc:cs.length < 1000000):
  call tb 392 [.sl o 1 (ZD l),.sl o2 5 (QC m),.sl o3 1 (Xu cs)] bs=some (.bool (RH l m cs),bs):=by
 have c259:=fun o=>OW m o bs (by have:=hm.1;omega) hm.big;rw[zcc 392 rfl rfl];unfold RH;by_cases k4:Z0 m=0
 ·by_cases k2:cs.length=l.length
  ·have k2': (cs.length:Int)=(l.length:Int):=by omega
   by_cases k1:200 < l.length
   ·have k1': (200:Int) < (l.length:Int):=by omega
    simp[f392C,k1,k1',k2,k2',k4,c259]
   ·have k1': ¬(200:Int) < (l.length:Int):=by omega
    have h:=fun o o1 o2 ρ=>Qp2 l m cs bs (by omega) k2 hs ⟨k4,hm⟩ l [] cs [] o o1 o2 ρ rfl rfl rfl rfl rfl;have e: (!(decide (200 < l.length) || !decide (cs.length=l.length) || cs.any Yr || decide (Z0 m≠0) || l.any Vu))= !(l.any Vu || cs.any Yr):=by
     simp only[k1,k2,k4,MJ,OT,OR,Jm,MH,ne_eq,Jc];rw[Bool.or_comm]
    rw[e];generalize (!(l.any Vu || cs.any Yr) && (Xt (l ++ [m])).all fun t=>decide (Yh cs l t=pwT m t))=X at *;simp[f392C,k1,k1',k2,k2',k4,c259];refine h false false false _ ?_ ?_ ?_ ?_ <;> simp
  ·have k2': ¬(cs.length:Int)=(l.length:Int):=by omega
   simp[f392C,k2,k2',k4,c259]
 ·simp[f392C,k4,c259]
def ZZ (l:Qk):Qk:=l.map fun q=>(q.1,-q.2)
def PJ (l:Qk): (ZZ l).length=l.length:=by simp[ZZ]
def QfX (B0:Qa) (l:Qk) (id:Nat) (t:Qh) (hl:l.length < 1000000) (hn: ∀q∈l,-100000000 < q.2/\q.2 < 100000000) (hid:B0.length<=id):
  ∀(post pre:Qk) (M:Qa) (ρ:Ql),l=pre ++ post->(B0 ++ M)[id]? =some (QR (ZZ pre ++ post)++ t)->
   ρ 3= .gs id 0 5 l.length->ρ 8= .int .i64 l.length->ρ 9= .int .i64 pre.length->
  FZ (ZZ l) B0 (R tb (.loop f363l0) ρ (B0 ++ M) (Qq 0 (QI tb f363r0 (QK f363 B0)))):=by
 intro post
 induction post with
 | nil=>
  intro pre M ρ hk hb h3 h8 h9;simp only[QF]at hk hb;subst hk;by_cases c:l.length=0
  ·have:l=[]:=Y2 c;subst this;refine⟨false,?_⟩;rw[Qe f363l0.eq_1];simp at h3;simp[h3,h8,h9,f363r0,Yk,QC,ZZ]
  ·refine⟨true,?_⟩;have hle:l.length*5<=(QR (ZZ l)++ t).length:=by rw[Zc,XB,PJ];omega
   have hch:Yb (QR (ZZ l)++ t) 0 5 (ZZ l).length=QC (ZZ l):=XP (f:=Zq) (k:=5) W7 VT (ZZ l) t;rw[PJ]at hch;have hgp:=Nv (ZZ l);generalize QR (ZZ l)++ t=RR at *;generalize QC (ZZ l)=EE at *;rw[Qe f363l0.eq_1];simp[-getElem?_pos,h3,h8,h9,f363r0,Yk,c,hb,hle,hch,hgp,XX hid]
 | cons q post IH=>
  intro pre M ρ hk hb h3 h8 h9;have hll:=QE hk;have hw1:=wr1 pre.length (by omega);have hlt:=QG hk;have hlt':pre.length < l.length:=by omega
  have hqb:=hn q (by rw[hk];simp);have hwn:IntKind.i64.wrap (-q.2)= -q.2:=Zg (by omega) (by omega);have hnl:=PJ pre;have hq: (ZZ pre ++ q:: post)[pre.length]? =some q:=by rw[Xc (by omega),hnl];simp
  have hrd:=O6 hq t;have hlen: (QR (ZZ pre ++ q:: post)++ t).length=l.length*5+t.length:=by rw[Zc,XB,Zc,hnl,hll,ZM]
  have hcell: (QR (ZZ pre ++ q:: post)++ t)[pre.length*5+4]? =some (.int .i64 q.2):=by
   have h1: (((QR (ZZ pre ++ q:: post)++ t).drop (pre.length*5)).take 5)[4]? =some (.int .i64 q.2):=by rw[hrd];simp
   rw[WE (by omega),XL]at h1;exact h1
  have hle:pre.length*5+4+1<=(QR (ZZ pre ++ q:: post)++ t).length:=by omega
  have hnew: (QR (ZZ pre ++ q:: post)++ t).take (pre.length*5+4)++ (AV.int .i64 (-q.2):: (QR (ZZ pre ++ q:: post)++ t).drop (pre.length*5+4+1))=QR (ZZ (pre ++ [q])++ post)++ t:=by
   have e:ZZ (pre ++ [q])++ post=ZZ pre ++ (q.1,-q.2):: post:=by simp[ZZ]
   rw[e];have h1:=Pa (f:=Zq) (k:=5) W7 (pre:=ZZ pre) (q.1,-q.2) (rfl:ZZ pre ++ q:: post=ZZ pre ++ q:: post) t;rw[hnl]at h1;rw[show QR (ZZ pre ++ (q.1,-q.2):: post)++ t=_ from h1.symm];have h2: (QR (ZZ pre ++ q:: post)++ t).take (pre.length*5+4)=(QR (ZZ pre ++ q:: post)++ t).take (pre.length*5)++ Qf q.1:=by
    rw[List.take_add];congr 1;have: ((QR (ZZ pre ++ q:: post)++ t).drop (pre.length*5)).take 4=(((QR (ZZ pre ++ q:: post)++ t).drop (pre.length*5)).take 5).take 4:=by rw[Jh];rfl
    rw[this];rw[hrd];simp
   rw[h2];simp[Zq]
  have hB:=Wv hb;have hgs: ∀x:Qh,(B0 ++ M.set (id - B0.length) x)[id]? =some x:=fun x=>by
   rw[<- XX hid,Xh,Qn rfl,Qn hB]
  have ih:=fun M ρ hb=>IH (pre ++ [q]) M ρ (by rw[hk];simp) hb;generalize QR (ZZ (pre ++ [q])++ post)++ t=R2 at *;generalize QR (ZZ pre ++ q:: post)++ t=R1 at *;rw[Qe f363l0.eq_1];simp[-getElem?_pos,Q8,Yf,YT,h3,h8,h9,hlt,hb,hcell,hle,hwn,hw1,hnew,XX hid];refine ih _ _ (hgs R2) ?_ ?_ ?_ <;> simp[h3,h8]
def Qij (l:Qk) (o:Bool) (B0:Qa) (hl:l.length < 1000000) (hm: ∀q∈l,q.1.mass < big) (hn: ∀q∈l,-100000000 < q.2/\q.2 < 100000000):FZ (ZZ l) B0 (call tb 363 [.sl o 5 (QC l)] B0):=by
 obtain⟨v,B,h1,M,id,sz,rfl,rfl,hc⟩:=Bo l false B0 (by omega) hm;rw[zcc 363 rfl rfl];rcases hc with⟨rfl,rfl,rfl⟩ | ⟨rfl,hid,t,hb,hne⟩
 ·have e:QC []=[]:=rfl;rw[e]at h1;refine⟨true,?_⟩;have hN:ZZ []=[]:=rfl;simp[f363C,h1,e,hN];rw[Qe f363l0.eq_1];simp[f363r0,Yk]
 ·have h:=fun ρ=>QfX B0 l id t hl hn hid l [] M ρ rfl (by simpa[ZZ]using hb);simp[f363C,h1];apply h <;> simp
def Qea (l:Qk) (bs:Qa) (hl:l.length < 1000000) (hn: ∀q∈l,-100000000 < q.2/\q.2 < 100000000):
  ∀(post pre:Qk) (o:Bool) (ρ:Ql),l=pre ++ post->ρ 0= .sl o 5 (QC l)->ρ 3= .sl true 5 (QC (ZZ pre))->ρ 4= .int .i64 pre.length->
  R tb (.loop f319l0) ρ bs (Qq 0 (QI tb f319r0 (QK f319 bs)))=some (.sl false 5 (QC (ZZ l)),bs):=by
 intro post
 induction post with
 | nil=>
  intro pre o ρ hk h0 h3 h4;simp only[QF]at hk;subst hk;rw[Qe f319l0.eq_1];simp[h0,h3,h4,f319r0]
 | cons q post IH=>
  intro pre o ρ hk h0 h3 h4;have hgt:=Qx hk;have hll:=QE hk;have hw1:=wr1 pre.length (by omega);have hlt:=QG hk;have hqb:=hn q (by rw[hk];simp);have hwn:IntKind.i64.wrap (-q.2)= -q.2:=Zg (by omega) (by omega);have hb: (pre.length+1)*64<=140737488355328:=NI (by omega);have hnl:=PJ pre;have e1:Qf q.1 ++ [AV.int .i64 (-q.2)]=Zq (q.1,-q.2):=rfl;have e0: (Qf q.1 ++ [AV.int .i64 0]).drop 5=[]:=by simp[Zj]
  have e2:QC (ZZ pre)++ [Zq (q.1,-q.2)]=QC (ZZ (pre ++ [q])):=by simp[QC,ZZ]
  have ih:=fun ρ=>IH (pre ++ [q]) o ρ (by rw[hk];simp);rw[Qe f319l0.eq_1];simp[-getElem?_pos,Q8,Yf,YT,h0,h3,h4,hlt,hgt,hwn,hw1,hnl,hb,e0,e1,e2,Qi];apply ih <;> simp[h0]
def Qia (l:Qk) (o:Bool) (bs:Qa) (hl:l.length < 1000000) (hn: ∀q∈l,-100000000 < q.2/\q.2 < 100000000):call tb 319 [.sl o 5 (QC l)] bs=some (.sl false 5 (QC (ZZ l)),bs):=by
 have h:=fun ρ=>Qea l bs hl hn l [] false ρ rfl;rw[zcc 319 rfl rfl];simp[f319C];apply h <;> simp[QC,ZZ]
def UP {t:Tm} (h:t.mass < 1000000):SmP (ofP t):=⟨by have:=Vl t;omega,fun q hq=>by have:=PI t t.mass (Zx _) q hq;omega⟩
def Cd {a b:Qk} (ha:SmP a) (hb:SmP b):SmP (XA a b):=⟨by have:=Kx a b;omega,fun q hq=>by
 have:=IG (a:=a) (b:=b) (M:=999999) (fun q hq=>by have:=ha.2 q hq;omega) (fun q hq=>by have:=hb.2 q hq;omega) q hq;omega⟩
def QoB {t:Tm} (h:t.mass < 1000000): ∀q∈ofP t,-100000000 < q.2/\q.2 < 100000000:=fun q hq=>by
 unfold ofP at hq;split at hq
 ·have:=(Ls t [] 1 0 (by unfold big;omega) (.inl rfl) KC).bd q hq;have hn:=YC t;omega
 ·cases hq
def KJ {a:Qk} (ha:SmP a):SmP (ZZ a):=⟨by rw[PJ];exact ha.1,fun q hq=>by
 obtain⟨p,hp,rfl⟩:=XN.1 hq;exact ha.2 p hp⟩
def Xv (l:Qc):Bool:=l.all fun t=>decide (ofE t=0)
def Xk (l:Qc):List Qk:=if Xv l then l.map ofP else []
def Lw {l:Qc} (h: ∀t∈l,t.mass < 1000000): ∀g∈Xk l,SmP g:=fun g hg=>by
 unfold Xk at hg;split at hg
 ·obtain⟨t,ht,rfl⟩:=XN.1 hg;exact UP (h t ht)
 ·cases hg
def NQ (l:Qc): (Xk l).length<=l.length:=by
 unfold Xk;split <;> simp
def AQ (l:Qc) (bs:Qa) (r:Out):Prop:=∃o,r=some (.tup [.sl o 1 (ZD (Xk l)),.bool (Xv l)],bs)
def Qj2 (l:Qc) (bs:Qa) (hl:l.length < 1000000) (hm: ∀t∈l,t.mass < 1000000):
  ∀(post pre:Qc) (o:Bool) (ρ:Ql),l=pre ++ post->Xv pre=true->ρ 4= .sl true 1 (ZD (pre.map ofP))->ρ 9= .sl o 4 (Qb l)->ρ 10= .int .i64 l.length->ρ 11= .int .i64 pre.length->
  AQ l bs (R tb (.loop f366l0) ρ bs (Qq 0 (QI tb f366r0 (QK f366 bs)))):=by
 intro post
 induction post with
 | nil=>
  intro pre o ρ hk hp h4 h9 h10 h11;simp only[QF]at hk;subst hk;have e:Xk l=l.map ofP:=by simp[Xk,hp]
  refine⟨false,?_⟩;rw[e,hp,Qe f366l0.eq_1];simp[h4,h9,h10,h11,f366r0]
 | cons t post IH=>
  intro pre o ρ hk hp h4 h9 h10 h11;have hgt:=Qx hk;have hll:=QE hk;have hw1:=wr1 pre.length (by omega);have hlt:=QG hk;have htm:=hm t (by rw[hk];simp);have hc:=TU t bs (by omega);have hb: (pre.length+1)*24<=140737488355328:=by omega
  rw[Qe f366l0.eq_1];by_cases c:ofE t=0
  ·have ih:=fun ρ=>IH (pre ++ [t]) o ρ (by rw[hk];simp) (by unfold Xv at hp ⊢;rw[ME,hp];simp[c]);have e1:=RO (ofP t);have e2:ZD (pre.map ofP)++ ZD [ofP t]=ZD ((pre ++ [t]).map ofP):=by simp[ZD]
   simp[h4,h9,h10,h11,hlt,hgt,hc,c,hw1,hb,e1,e2];apply ih <;> simp[h9,h10]
  ·have ef:Xv l=false:=by
    unfold Xv;rw[List.all_eq_false];exact⟨t,by rw[hk];simp,by simpa using c⟩
   have e:Xk l=[]:=by simp[Xk,ef]
   refine⟨false,?_⟩;rw[e,ef];simp[h4,h9,h10,h11,hlt,hgt,hc,c,ZD]
def Qik (l:Qc) (o:Bool) (bs:Qa) (hl:l.length < 1000000) (hm: ∀t∈l,t.mass < 1000000):AQ l bs (call tb 366 [.sl o 4 (Qb l)] bs):=by
 have h:=fun ρ=>Qj2 l bs hl hm l [] false ρ rfl rfl;rw[zcc 366 rfl rfl];simp[f366C];apply h <;> simp[ZD]
def Qgo (l:Qc) (bs:Qa) (hl:l.length < 1000000) (hm: ∀t∈l,t.mass < 1000000):
  ∀(post pre:Qc) (o:Bool) (ρ:Ql),l=pre ++ post->Xv pre=true->ρ 4= .sl true 1 (ZD (pre.map ofP))->ρ 0= .sl o 4 (Qb l)->ρ 5= .int .i64 pre.length->
  AQ l bs (R tb (.loop f391l0) ρ bs (Qq 0 (QI tb f391r0 (QK f391 bs)))):=by
 intro post
 induction post with
 | nil=>
  intro pre o ρ hk hp h4 h0 h5;simp only[QF]at hk;subst hk;have e:Xk l=l.map ofP:=by simp[Xk,hp]
  refine⟨false,?_⟩;rw[e,hp,Qe f391l0.eq_1];simp[h4,h0,h5,f391r0]
 | cons t post IH=>
  intro pre o ρ hk hp h4 h0 h5;have hgt:=Qx hk;have hll:=QE hk;have hw1:=wr1 pre.length (by omega);have hlt:=QG hk;have htm:=hm t (by rw[hk];simp);have hc:=TV t bs (by omega);have hb: (pre.length+1)*24<=140737488355328:=by omega
  rw[Qe f391l0.eq_1];by_cases c:ofE t=0
  ·have ih:=fun ρ=>IH (pre ++ [t]) o ρ (by rw[hk];simp) (by unfold Xv at hp ⊢;rw[ME,hp];simp[c]);have e1:=RO (ofP t);have e2:ZD (pre.map ofP)++ ZD [ofP t]=ZD ((pre ++ [t]).map ofP):=by simp[ZD]
   simp[h4,h0,h5,hlt,hgt,hc,c,hw1,hb,e1,e2];apply ih <;> simp[h0]
  ·have ef:Xv l=false:=by
    unfold Xv;rw[List.all_eq_false];exact⟨t,by rw[hk];simp,by simpa using c⟩
   have e:Xk l=[]:=by simp[Xk,ef]
   refine⟨false,?_⟩;rw[e,ef];simp[h4,h0,h5,hlt,hgt,hc,c,ZD]
def BC (l:Qc) (o:Bool) (bs:Qa) (hl:l.length < 1000000) (hm: ∀t∈l,t.mass < 1000000):AQ l bs (call tb 391 [.sl o 4 (Qb l)] bs):=by
 have h:=fun ρ=>Qgo l bs hl hm l [] false ρ rfl rfl;rw[zcc 391 rfl rfl];simp[f391C];apply h <;> simp[ZD]
def TI (t:Tm):Bool:=isB t EXP && decide (t.kids.length=2)
def VB (t:Tm):Tm:=if TI t then kid t 0 else t
def Y6 (t:Tm):Qk:=if TI t then ofP (kid t 1)else []
def U1 {t:Tm} (h:t.kids.length=2):t.kids=[kid t 0,kid t 1]:=by
 cases hk:t.kids with
 | nil=>rw[hk]at h;simp at h
 | cons a r=>cases r with
  | nil=>rw[hk]at h;simp at h
  | cons b r2=>cases r2 with
   | nil=>simp[kid,hk]
   | cons c r3=>rw[hk]at h;simp at h
def RL (t:Tm): (VB t).mass<=t.mass:=by
 unfold VB;split
 ·exact Vy t 0
 ·exact Zx _
def T8 {t:Tm} (h:t.mass < 1000000):SmP (Y6 t)/\∀q∈Y6 t,-100000000 < q.2/\q.2 < 100000000:=by
 unfold Y6;split
 ·have:=Vy t 1;exact⟨UP (by omega),QoB (by omega)⟩
 ·exact⟨⟨by simp,fun q h=>by cases h⟩,fun q h=>by cases h⟩
def QkC (t:Tm) (bs:Qa) (r:Out):Prop:=∃o,r=some (.tup [.agg (Qf (VB t)),.sl o 5 (QC (Y6 t))],bs)
def Bx (t:Tm) (bs:Qa) (hm:t.mass < 1000000):QkC t bs (call tb 362 [.agg (Qf t)] bs):=by
 have h1:=Bw t EXP bs;have e1:=Zj t;rw[zcc 362 rfl rfl];unfold EXP at h1;simp only[isN]at h1;cases c:isB t [101,120,112]
 ·have eb:TI t=false:=by simp[TI,EXP,c]
  rw[c]at h1;refine⟨false,?_⟩;simp[f362C,h1,VB,Y6,eb,QC,Qi]
 ·rw[c]at h1;by_cases c2:t.kids.length=2
  ·have eb:TI t=true:=by simp[TI,EXP,c,c2]
   have hk:=U1 c2;have km:=Vy t 1;have h2:=TU (kid t 1) bs (by omega);refine⟨false,?_⟩;have e2:Qb t.kids=[Qf (kid t 0),Qf (kid t 1)]:=by rw[hk];simp[Qb]
   rw[e2]at e1;simp only[e1]at h1 ⊢;simp[f362C,h1,h2,VB,Y6,eb,Qi]
  ·have eb:TI t=false:=by simp[TI,c2]
   have c2': ¬(t.kids.length:Int)=2:=by omega
   refine⟨false,?_⟩;simp only[VB,Y6,eb];simp only[e1]at h1 ⊢;simp[f362C,h1,c2',QC];exact e1.symm
def Bs (t:Tm) (bs:Qa) (hm:t.mass < 1000000) (ha:isB t EXP=true->t.kids.length=2):QkC t bs (call tb 318 [.agg (Qf t)] bs):=by
 have h1:=U2 t EXP bs;have e1:=Zj t;rw[zcc 318 rfl rfl];cases c:isB t EXP
 ·have eb:TI t=false:=by simp[TI,c]
  rw[c]at h1;unfold EXP at h1;refine⟨false,?_⟩;simp[f318C,h1,VB,Y6,eb,QC,Qi]
 ·have c2:=ha c;have eb:TI t=true:=by simp[TI,c,c2]
  rw[c]at h1;unfold EXP at h1;have hk:=U1 c2;have km:=Vy t 1;have h2:=TV (kid t 1) bs (by omega);refine⟨false,?_⟩;have e2:Qb t.kids=[Qf (kid t 0),Qf (kid t 1)]:=by rw[hk];simp[Qb]
  rw[e2]at e1;simp only[e1]at h1 ⊢;simp[f318C,h1,h2,VB,Y6,eb,Qi]
def LO (u a:Tm):Bool:=decide (Qp (VB u) (VB a)=0) && decide (W9 (Y6 u) (ZZ (Y6 a))=0)
def IJ (u a:Tm):Qk:=XA (Y6 u) (ZZ (Y6 a))
def Qnp (u a:Tm) (bs:Qa) (r:Out):Prop:=∃o x,r=some (.tup [.sl o 5 x,.bool (LO u a)],bs)/\(LO u a=true->x=QC (IJ u a))
def Qic (u a:Tm) (bs:Qa) (hu:u.mass < 1000000) (ha:a.mass < 1000000) (h1:isB u EXP=true->u.kids.length=2) (h2:isB a EXP=true->a.kids.length=2):
  Qnp u a bs (call tb 340 [.agg (Qf u),.agg (Qf a)] bs):=by
 obtain⟨o1,b1⟩:=Bs u bs hu h1;obtain⟨o2,b2⟩:=Bs a bs ha h2;obtain⟨su,_⟩:=T8 hu;obtain⟨sa,na⟩:=T8 ha;have sn:=KJ sa;have h3:=fun o=>Qia (Y6 a) o bs sa.1 na;have h4:=fun o o2=>Bq (Y6 u) (ZZ (Y6 a)) o o2 bs (by have:=su.1;omega) (by have:=sn.1;omega) su.big sn.big;have mu:=RL u;have ma:=RL a;have h5:=Xs (VB u) (VB a) bs (by unfold big;omega) (by unfold big;omega);rw[zcc 340 rfl rfl];unfold Qnp LO IJ;by_cases c:Qp (VB u) (VB a)=0
 ·by_cases c2:W9 (Y6 u) (ZZ (Y6 a))=0
  ·refine⟨false,QC (XA (Y6 u) (ZZ (Y6 a))),?_,fun _=>rfl⟩;simp[f340C,b1,b2,h3,h4,h5,c,c2,Qi]
  ·refine⟨false,QC (XA (Y6 u) (ZZ (Y6 a))),?_,fun _=>rfl⟩;simp[f340C,b1,b2,h3,h4,h5,c,c2,Qi]
 ·refine⟨false,[],?_,fun h=>by simp[c]at h⟩;simp[f340C,b1,b2,h3,h4,h5,c,Qi]
def Bz (l:Qc) (m:Qk) (c:Zf) (o o2 o3:Bool) (bs:Qa) (hl:l.length < 1000000) (hm: ∀t∈l,t.mass < 1000000) (hs:SmP m) (hc:c.length < 1000000):
  call tb 365 [.sl o 4 (Qb l),.sl o2 5 (QC m),.sl o3 1 (Xu c)] bs=some (.bool (Xv l && RH (Xk l) m c),bs):=by
 obtain⟨o4,h1⟩:=Qik l false bs hl hm;have h2:=fun o o2 o3=>Qil (Xk l) m c o o2 o3 bs (by have:=NQ l;omega) (Lw hm) hs hc;rw[zcc 365 rfl rfl];cases k:Xv l
 ·rw[k]at h1;simp[f365C,h1]
 ·rw[k]at h1;generalize RH (Xk l) m c=X at *;simp[f365C,h1,h2]
def Et (d:Ded) (a:Qc):Bool:=
 if d.r=14 then decide ((Wk a).2=0) && decide (Qp (Wk a).1 d.t=0)
 else if d.r=15 then LO d.t (a.headD QJ) && (Xv a.tail && RH (Xk a.tail) (IJ d.t (a.headD QJ)) d.c)
 else decide (ofE d.t=0) && (Xv a && RH (Xk a) (ofP d.t) d.c)
def E7 (x:Tm×Int):Zk x= .tup [.agg (Qf x.1),.int .i64 x.2]:=rfl
def Jg:=@List.headD_cons
def Qii (d:Ded) (a:Qc) (o:Bool) (bs:Qa) (hd:d.t.mass < 1000000) (ha: ∀x∈a,x.mass < 1000000) (hal:a.length < 10000) (hml:Qu a < 20000000) (hc:d.c.length < 1000000) (h15:d.r=15->a≠[]):
  call tb 361 [.agg (ZL d),.sl o 4 (Qb a)] bs=some (.bool (Et d a),bs):=by
 have hdb:d.t.mass < big:=by unfold big;omega
 rw[zcc 361 rfl rfl];unfold Et;by_cases r14:d.r=14
 ·have h1:=fun o=>EK a o bs (by omega) (by omega);simp only[E7]at h1;have h2:=TW (Wk a).1 d.t bs (by have:=Lo a;unfold big;omega) hdb;generalize Wk a=S at *;obtain⟨s1,s2⟩:=S;simp only at h1 h2 ⊢;by_cases c:s2=0
  ·simp[f361C,r14,h1,h2,c,Qi]
  ·simp[f361C,r14,h1,c,Qi]
 ·by_cases r15:d.r=15
  ·cases a with
   | nil=>exact absurd rfl (h15 r15)
   | cons a0 r=>
    have ham:=ha a0 (by simp);obtain⟨o1,b1⟩:=Bx d.t bs hd;obtain⟨o2,b2⟩:=Bx a0 bs ham;obtain⟨su,_⟩:=T8 hd;obtain⟨sa,na⟩:=T8 ham;have sn:=KJ sa;obtain⟨o3,b3⟩:=Qij (Y6 a0) false bs sa.1 sa.big na;have h4:=fun o o2=>Bn (Y6 d.t) (ZZ (Y6 a0)) o o2 bs (by have:=su.1;omega) (by have:=sn.1;omega) su.big sn.big;have mu:=RL d.t;have ma:=RL a0;have h5:=TW (VB d.t) (VB a0) bs (by unfold big;omega) (by unfold big;omega);have h6:=fun o o2 o3=>Bz r (XA (Y6 d.t) (ZZ (Y6 a0))) d.c o o2 o3 bs (by simp at hal;omega) (fun x hx=>ha x (by simp[hx])) (Cd su sn) hc;have e1:Qb (a0:: r)=Qf a0:: Qb r:=rfl;have htk: (Qb r).take r.length=Qb r:=YD (by simp[YF]);have h1r: (1:Int)<=(r.length:Int)+1:=by omega
    simp only[Jg,List.tail_cons,LO,IJ,r14,r15,Zp,Zd];generalize (Xv r && RH (Xk r) (XA (Y6 d.t) (ZZ (Y6 a0))) d.c)=X at *;by_cases c:Qp (VB d.t) (VB a0)=0
    ·by_cases c2:W9 (Y6 d.t) (ZZ (Y6 a0))=0
     ·simp[f361C,r15,b1,b2,b3,h4,h5,h6,c,c2,e1,htk,h1r,Qi]
     ·simp[f361C,r15,b1,b2,b3,h4,h5,c,c2,e1,htk,h1r,Qi]
    ·simp[f361C,r15,b1,b2,b3,h4,h5,c,e1,Qi]
  ·have h1:=TU d.t bs (by omega);have h6:=fun o o2 o3=>Bz a (ofP d.t) d.c o o2 o3 bs (by omega) ha (UP hd) hc;simp only[r14,r15,Zp];generalize (Xv a && RH (Xk a) (ofP d.t) d.c)=X at *;by_cases c:ofE d.t=0
   ·simp[f361C,r14,r15,h1,h6,c,Qi]
   ·simp[f361C,r14,r15,h1,c,Qi]
def Qiw (d:Ded) (a:Qc) (o:Bool) (bs:Qa) (hr:d.r=14\/d.r=15\/d.r=16) (hd:d.t.mass < 1000000) (ha: ∀x∈a,x.mass < 1000000) (hal:a.length < 10000) (hml:Qu a < 20000000) (hc:d.c.length < 1000000) (h15:d.r=15->a≠[])
  (hdk:isB d.t EXP=true->d.t.kids.length=2) (hak: ∀x∈a,isB x EXP=true->x.kids.length=2):
  call tb 390 [.agg (ZL d),.sl o 4 (Qb a)] bs=some (.bool (Et d a),bs):=by
 have hdb:d.t.mass < big:=by unfold big;omega
 rw[zcc 390 rfl rfl];unfold Et;by_cases r14:d.r=14
 ·have h1:=fun o=>Jr a o bs (by omega) (by omega);simp only[E7]at h1;have h2:=Xs (Wk a).1 d.t bs (by have:=Lo a;unfold big;omega) hdb;generalize Wk a=S at *;obtain⟨s1,s2⟩:=S;simp only at h1 h2 ⊢;by_cases c:s2=0
  ·simp[f390C,r14,h1,h2,c,Qi]
  ·simp[f390C,r14,h1,c,Qi]
 ·by_cases r15:d.r=15
  ·cases a with
   | nil=>exact absurd rfl (h15 r15)
   | cons a0 r=>
    have ham:=ha a0 (by simp);obtain⟨o1,x,b1,hx⟩:=Qic d.t a0 bs hd ham hdk (hak a0 (by simp));obtain⟨su,_⟩:=T8 hd;obtain⟨sa,na⟩:=T8 ham;have sn:=KJ sa;obtain⟨o4,b4⟩:=BC r false bs (by simp at hal;omega) (fun x hx=>ha x (by simp[hx]));have hpl:=NQ r;have h6:=fun o o2 o3=>BD (Xk r) (IJ d.t a0) d.c o o2 o3 bs (by simp at hal;omega) (Lw fun x hx=>ha x (by simp[hx])) (Cd su sn) hc;have e1:Qb (a0:: r)=Qf a0:: Qb r:=rfl;have htk: (Qb r).take r.length=Qb r:=YD (by simp[YF]);have h1r: (1:Int)<=(r.length:Int)+1:=by omega
    simp only[Jg,List.tail_cons,r14,r15,Zp,Zd];cases q:LO d.t a0
    ·rw[q]at b1;cases p:Xv r
     ·rw[p]at b4;simp[f390C,r15,b1,b4,e1,htk,h1r,Qi]
     ·rw[p]at b4;simp[f390C,r15,b1,b4,e1,htk,h1r,Qi]
    ·rw[q]at b1;rw[hx q]at b1;cases p:Xv r
     ·rw[p]at b4;simp[f390C,r15,b1,b4,e1,htk,h1r,Qi]
     ·rw[p]at b4;generalize RH (Xk r) (IJ d.t a0) d.c=X at *;simp[f390C,r15,b1,b4,h6,e1,htk,h1r,Qi]
  ·have r16:d.r=16:=by omega
   have h1:=TV d.t bs (by omega);obtain⟨o4,b4⟩:=BC a false bs (by omega) ha;have hpl:=NQ a;have h6:=fun o o2 o3=>BD (Xk a) (ofP d.t) d.c o o2 o3 bs (by omega) (Lw ha) (UP hd) hc;simp only[r14,r15,Zp];cases p:Xv a
   ·rw[p]at b4;simp[f390C,r16,h1,b4,Qi]
   ·rw[p]at b4;generalize RH (Xk a) (ofP d.t) d.c=X at *;by_cases c:ofE d.t=0
    ·simp[f390C,r16,h1,b4,h6,c,Qi]
    ·simp[f390C,r16,h1,b4,c,Qi]
def RX {t:Tm} (h:Q4 t=0):Zb t=true/\t.mass<=13200:=by
 unfold Q4 at h;by_cases c:thV t=0
 ·obtain⟨_,_,h3,h4,_⟩:=LR c;exact⟨h3,h4⟩
 ·simp[c]at h
def B7 {t:Tm} (hg:Zb t=true) (hk:t.kind=3):t.sort=0/\YA t.name t.kids.length=true:=by
 rw[Kt]at hg;simp[hk]at hg;exact hg.1
def Cl (n:Qv):Prop:=n=Yz\/n=ENC\/n=Xm\/n=YQ\/n=EXP
def gd2 {t:Tm} {n:Qv} (hg:Zb t=true) (h:isB t n=true) (hn:Cl n):t.kids.length=2/\t.sort=0:=by
 obtain⟨h1,rfl⟩:=Tn.1 h;obtain⟨h2,h3⟩:=B7 hg h1;refine⟨?_,h2⟩;unfold YA at h3;rw[Qn (by unfold Cl at hn;rcases hn with h | h | h | h | h <;> simp[h])]at h3;simpa using h3
def gdp {t:Tm} (hg:Zb t=true) (h:isB t PK=true):t.kids.length=1/\t.sort=0:=by
 obtain⟨h1,h4⟩:=Tn.1 h;obtain⟨h2,h3⟩:=B7 hg h1;refine⟨?_,h2⟩;rw[h4]at h3;simpa[YA,PK,Yz,ENC,Xm,YQ,EXP,DEC,Yd,Yy]using h3
def QeJ (t:Tm):t= .mk t.kind t.name t.sort t.kids:=by cases t;rfl
def BN {t u v:Tm} {n:Qv} (hg:Zb t=true) (hn:Cl n):decide (Qp t (.mk 3 n 0 [u,v])=0)=(WN t n 0 u && decide (Qp (kid t 1) v=0)):=by
 rw[Jf];unfold WN;cases c:isB t n
 ·simp only[isN,c,Ji,Qy,Wg,YO,iff_false];intro e;subst e;simp[isB]at c
 ·obtain⟨h1,h2⟩:=gd2 hg c hn;obtain⟨h3,h4⟩:=Tn.1 c;have hk:=U1 h1;have e:t= .mk 3 n 0 [kid t 0,kid t 1]:=by
   have:=QeJ t;rw[h3,h4,h2,hk]at this;exact this
  have e0:t.kids[0]? =some (kid t 0):=by rw[hk];rfl
  simp only[isN,c,e0,VQ,Qo,Qy,Wg];constructor
  ·intro h;rw[e]at h;injection h with _ _ _ h
   injection h with ha h
   injection h with hb h
   exact⟨ha,hb⟩
  ·rintro⟨ha,hb⟩
   rw[ha,hb]at e;exact e
def QnP {t v:Tm} (hg:Zb t=true):decide (Qp t (.mk 3 PK 0 [v])=0)=WN t PK 0 v:=by
 rw[Jf];unfold WN;cases c:isB t PK
 ·simp only[isN,c,Ji,Qy,Wg,YO,iff_false];intro e;subst e;simp[isB]at c
 ·obtain⟨h1,h2⟩:=gdp hg c;obtain⟨h3,h4⟩:=Tn.1 c;cases hk:t.kids with
  | nil=>rw[hk]at h1;simp at h1
  | cons a r=>
   cases r with
   | cons b r2=>rw[hk]at h1;simp at h1
   | nil=>
    have e:t= .mk 3 PK 0 [a]:=by
     have:=QeJ t;rw[h3,h4,h2,hk]at this;exact this
    simp only[isN,c,Yf,VQ,Qy,Wg];constructor
    ·intro h;rw[e]at h;injection h with _ _ _ h
     injection h
    ·intro h;rw[h]at e;exact e
def rtB (ks:Qc) (d:Ded) (a:Qc):Bool:=
 if d.r=1 then(match ks[d.n.toNat]? with | some k=>decide (Qp k d.t=0) | none=>false)
 else if d.r=2 then Ty d.t
 else if d.r=3\/d.r=6\/d.r=8\/d.r=10\/d.r=11\/d.r=13 then decide (Qp d.t (.mk 3 (XQ d.r) 0 a)=0)
 else if d.r=4 then WN (a.headD QJ) Yz 0 d.t
 else if d.r=5 then WN (a.headD QJ) Yz 1 d.t
 else if d.r=12 then WN (a.headD QJ) YQ 0 d.t
 else if d.r=7 then WN (a.headD QJ) ENC 0 d.t && decide (Qp (kid (a.headD QJ) 1) (a.getD 1 QJ)=0)
 else if d.r=9 then WN (a.headD QJ) Xm 0 d.t && WN (kid (a.headD QJ) 1) PK 0 (a.getD 1 QJ)
 else Et d a
structure AOk (d:Ded) (a:List Tm):Prop where
 ok:rOk d.r=true
 n0:0<=d.n
 n1:d.n<=1000000
 len:0<=Xl d.r->(a.length:Int)=Xl d.r
 p15:d.r=15->a≠[]
 al:a.length < 10000
 ml:Qu a < 20000000
 good: ∀x∈a,Q4 x=0
 td:Q4 d.t=0
 cl:d.c.length < 1000000
def AOk.gd {d:Ded} {a:Qc} (h:AOk d a): ∀x∈a,Zb x=true/\x.mass < 1000000:=fun x hx=>by
 obtain⟨h1,h2⟩:=RX (h.good x hx);exact⟨h1,by omega⟩
def AOk.tm {d:Ded} {a:Qc} (h:AOk d a):d.t.mass < 1000000:=by have:=(RX h.td).2;omega
def AOk.one {d:Ded} {a:Qc} (h:AOk d a) (hr:Xl d.r=1): ∃x,a=[x]:=by
 have:=h.len (by omega);rw[hr]at this;cases a with
 | nil=>simp at this
 | cons x r=>cases r with
  | nil=>exact⟨x,rfl⟩
  | cons y r2=>simp at this;omega
def AOk.two {d:Ded} {a:Qc} (h:AOk d a) (hr:Xl d.r=2): ∃x y,a=[x,y]:=by
 have:=h.len (by omega);rw[hr]at this;cases a with
 | nil=>simp at this
 | cons x r=>cases r with
  | nil=>simp at this
  | cons y r2=>cases r2 with
   | nil=>exact⟨x,y,rfl⟩
   | cons z r3=>simp at this;omega
def QfB (w:Qv) (a:Qc):Qf (.mk 3 w 0 a)=[.int .i64 3,.str w,.int .i64 0,.sl false 4 (Qb a)]:=by simp[Qf]
def Qqc (ks:Qc) (d:Ded) (a:Qc) (bs:Qa) (h:AOk d a) (hks: ∀x∈ks,x.mass < 1000000) (hkl:ks.length < 1000000) (o:Bool) (ρ:Ql)
  (h0:ρ 0= .sl o 4 (Qb ks)) (h7:ρ 7= .bx (ZL d)) (h8:ρ 8= .sl true 4 (Qb a)):
  R tb f351r0 ρ bs (QK f351 bs)=some (.bool (rtB ks d a),bs):=by
 have htm:=h.tm;have htb:d.t.mass < big:=by unfold big;omega
 have gd:=h.gd;have hml:=h.ml;have hal:=h.al;unfold rtB;by_cases r1:d.r=1
 ·simp only[r1,Zd];have hn:=h.n0;cases hk:ks[d.n.toNat]? with
  | none=>
   have hle:ks.length<=d.n.toNat:=by
    rcases QT d.n.toNat ks.length with h | h
    ·rw[Zw h]at hk;cases hk
    ·exact h
   have hlt: ¬d.n < (ks.length:Int):=by omega
   simp[-getElem?_pos,Q8,f351r0,h0,h7,h8,r1,hlt,Qi]
  | some k=>
   have hlt2:=(WD.1 hk).1;have hlt:d.n < (ks.length:Int):=by omega
   have h2:=TW k d.t bs (by have:=hks k (WF hk);unfold big;omega) htb;simp[-getElem?_pos,Q8,f351r0,h0,h7,h8,r1,hlt,hn,hk,h2,Qi]
 ·by_cases r2:d.r=2
  ·have h2:=QhD d.t bs htm;simp[f351r0,h0,h7,h8,r2,h2,Qi]
  ·have c353:=Bv d.r bs;have hwl: (XQ d.r).length<=7:=by
    rcases RC h.ok with e | e | e | e | e | e | e | e | e | e | e | e | e | e | e | e <;> rw[e] <;> decide
   have hc:=TW d.t (.mk 3 (XQ d.r) 0 a) bs htb (by rw[QH];simp only[Zs,Z3];unfold big;omega);rw[QfB]at hc;by_cases r3:d.r=3\/d.r=6\/d.r=8\/d.r=10\/d.r=11\/d.r=13
   ·simp only[r1,r2,r3,Zd,Zp];generalize XQ d.r=w at *;generalize Xl d.r=n at *;rcases r3 with e | e | e | e | e | e <;> (rw[e]at c353;simp[f351r0,h0,h7,h8,e,c353,hc,Qi])
   ·simp only[r1,r2,r3,Zp];clear hc c353;by_cases r4:d.r=4
    ·obtain⟨x,rfl⟩:=h.one (by rw[r4];rfl);obtain⟨g1,g2⟩:=gd x (by simp);have h2:=R0 x Yz 0 d.t bs (fun hb=>by have:=(gd2 g1 hb (.inl rfl)).1;omega) (by unfold big;omega) htb (by omega);rw[show((0:Nat):Int)=0 from rfl]at h2;unfold Yz at h2 ⊢;simp[f351r0,h0,h7,h8,r4,h2,Qb,Qi]
    ·by_cases r5:d.r=5
     ·obtain⟨x,rfl⟩:=h.one (by rw[r5];rfl);obtain⟨g1,g2⟩:=gd x (by simp);have h2:=R0 x Yz 1 d.t bs (fun hb=>by have:=(gd2 g1 hb (.inl rfl)).1;omega) (by unfold big;omega) htb (by omega);rw[show((1:Nat):Int)=1 from rfl]at h2;unfold Yz at h2 ⊢;simp[f351r0,h0,h7,h8,r5,h2,Qb,Qi]
     ·by_cases r12:d.r=12
      ·obtain⟨x,rfl⟩:=h.one (by rw[r12];rfl);obtain⟨g1,g2⟩:=gd x (by simp);have h2:=R0 x YQ 0 d.t bs (fun hb=>by have:=(gd2 g1 hb (.inr (.inr (.inr (.inl rfl))))).1;omega) (by unfold big;omega) htb (by omega);rw[show((0:Nat):Int)=0 from rfl]at h2;unfold YQ at h2 ⊢;simp[f351r0,h0,h7,h8,r12,h2,Qb,Qi]
      ·by_cases r7:d.r=7
       ·obtain⟨x,y,rfl⟩:=h.two (by rw[r7];rfl);obtain⟨g1,g2⟩:=gd x (by simp);obtain⟨g3,g4⟩:=gd y (by simp);have h2:=R0 x ENC 0 d.t bs (fun hb=>by have:=(gd2 g1 hb (.inr (.inl rfl))).1;omega) (by unfold big;omega) htb (by omega);have h3:=TW (kid x 1) y bs (by have:=Vy x 1;unfold big;omega) (by unfold big;omega);simp only[r4,r5,r12,r7,Zp,Zd,Jg];rw[show((0:Nat):Int)=0 from rfl]at h2;cases c:WN x ENC 0 d.t
        ·rw[c]at h2;unfold ENC at h2;simp[f351r0,h0,h7,h8,r7,h2,Qb,Qi]
        ·rw[c]at h2;have hb:isB x ENC=true:=by
          unfold WN at c;simp only[Qo]at c;exact c.1
         have hk:=U1 (gd2 g1 hb (.inr (.inl rfl))).1;have e1:=Zj x;have e2:Qb x.kids=[Qf (kid x 0),Qf (kid x 1)]:=by rw[hk];simp[Qb]
         rw[e2]at e1;unfold ENC at h2;simp only[e1]at h2;simp[f351r0,h0,h7,h8,r7,h2,h3,Qb,e1,Qi]
       ·by_cases r9:d.r=9
        ·obtain⟨x,y,rfl⟩:=h.two (by rw[r9];rfl);obtain⟨g1,g2⟩:=gd x (by simp);obtain⟨g3,g4⟩:=gd y (by simp);have h2:=R0 x Xm 0 d.t bs (fun hb=>by have:=(gd2 g1 hb (.inr (.inr (.inl rfl)))).1;omega) (by unfold big;omega) htb (by omega);have h3:=R0 (kid x 1) PK 0 y bs (fun hb=>by have:=(gdp (PF g1 1) hb).1;omega) (by have:=Vy x 1;unfold big;omega) (by unfold big;omega) (by omega);simp only[r4,r5,r12,r7,r9,Zp,Zd,Jg];rw[show((0:Nat):Int)=0 from rfl]at h2 h3;cases c:WN x Xm 0 d.t
         ·rw[c]at h2;unfold Xm at h2;simp[f351r0,h0,h7,h8,r9,h2,Qb,Qi]
         ·rw[c]at h2;have hb:isB x Xm=true:=by
           unfold WN at c;simp only[Qo]at c;exact c.1
          have hk:=U1 (gd2 g1 hb (.inr (.inr (.inl rfl)))).1;have e1:=Zj x;have e2:Qb x.kids=[Qf (kid x 0),Qf (kid x 1)]:=by rw[hk];simp[Qb]
          rw[e2]at e1;unfold Xm at h2;unfold PK at h3 ⊢;simp only[e1]at h2;simp[f351r0,h0,h7,h8,r9,h2,h3,Qb,e1,Qi]
        ·have h2:=Qii d a false bs htm (fun x hx=>(gd x hx).2) h.al h.ml h.cl h.p15;simp only[r4,r5,r12,r7,r9,Zp];have q3: ¬d.r=3:=fun e=>r3 (.inl e);have q6: ¬d.r=6:=fun e=>r3 (.inr (.inl e));have q8: ¬d.r=8:=fun e=>r3 (.inr (.inr (.inl e)));have q10: ¬d.r=10:=fun e=>r3 (.inr (.inr (.inr (.inl e))));have q11: ¬d.r=11:=fun e=>r3 (.inr (.inr (.inr (.inr (.inl e)))));have q13: ¬d.r=13:=fun e=>r3 (.inr (.inr (.inr (.inr (.inr e)))));simp[f351r0,h0,h7,h8,r1,r2,q3,q6,q8,q10,q11,q13,r4,r5,r12,r7,r9,h2,Qi]
end Go.Am
