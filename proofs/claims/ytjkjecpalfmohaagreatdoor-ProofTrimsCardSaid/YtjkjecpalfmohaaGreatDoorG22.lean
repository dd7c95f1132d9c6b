/-
  En38, En39, En40, En41, En42, En43, En44.
-/
import Derived.Test.YtjkjecpalfmohaaGreatDoorG21
set_option linter.all false
open Go.Am.F
namespace Go.Am
set_option maxRecDepth 20000
def IF {cols:Qc} {f g:Tm->Int} (h: ∀t,f t=g t):QJ (cols.map f)=QJ (cols.map g):=by rw[PR fun t _=>h t]
def Qqs (l:List Qj) (m:Qj) (cs:QO) (cols:Qc) (B0:Qa) (hl:l.length<=200) (hlc:cs.length=l.length) (hcs: ∀c∈cs,Yu c=false) (hg: ∀g∈l,okG g) (hm:okG m)
  (hcl:cols.length < 1000000) (hcm: ∀t∈cols,t.mass < 1000000) (ha:Asc cols) (hin: ∀g∈l,∀q∈g,q.1∈cols):
  ∀(post pre:List Qj) (cpost cpre:QO) (o o2:Bool) (ρ:Ql),l=pre ++ post->cs=cpre ++ cpost->cpre.length=pre.length->
   ρ 2= .sl o 1 (ZF cs)->ρ 7= .sl true 4 (Qb cols)->ρ 8= .gs B0.length 0 1 cols.length->ρ 45= .sl o2 1 (ZK l)->ρ 46= .int .i64 l.length->ρ 47= .int .i64 pre.length->
  R tb (.loop f367l1) ρ (B0 ++ [QJ (cols.map fun t=>pwT m t - Yo cpre pre t)]) (Qo 0 (QB tb f367r1 (QN f367 B0)))=some (.bool (!(cols.map fun t=>pwT m t - Yo cs l t).any nz),B0):=by
 intro post
 induction post with
 | nil=>
  intro pre cpost cpre o o2 ρ hk hc hcl2 h2 h7 h8 h45 h46 h47;simp only[QH]at hk;subst hk;have:cpost=[]:=by
   have:=WF List.length hc;simp at this;exact YX (by omega)
  subst this;simp only[QH]at hc;subst hc;have hB: ∀x:Qh,(B0 ++ [x])[B0.length]? =some x:=fun x=>Ye;have h599:=QjC (cols.map fun t=>pwT m t - Yo cs l t) B0.length (B0 ++ [QJ (cols.map fun t=>pwT m t - Yo cs l t)]) (hB _) (by simp;omega);rw[WQ]at h599;generalize (cols.map fun t=>pwT m t - Yo cs l t).any nz=X at *;generalize QJ (cols.map fun t=>pwT m t - Yo cs l t)=RR at *;rw[Qe f367l1.eq_1];simp[h2,h7,h8,h45,h46,h47,f367r1,h599]
 | cons g post IH=>
  intro pre cpost cpre o o2 ρ hk hc hcl2 h2 h7 h8 h45 h46 h47;have hgt:=Qw hk;have hll:=QE hk;have hw1:=wr1 pre.length (by omega);have hlt:=QI hk;cases cpost with
  | nil=>have:=WF List.length hc;simp at this;omega
  | cons ci cpost=>
   have hci:cs[pre.length]? =some ci:=by rw[hc,<- hcl2];simp
   have okg:=hg g (by rw[hk];simp);have hco:Yu ci=false:=hcs ci (by rw[hc];simp);have b1: ∀t,(ci*pwT g t).natAbs<=35184372088832000:=fun t=>Cl (Hn hco) (IB okg.bd);have b2: ∀t,(Yo cpre pre t).natAbs<=pre.length*35184372088832000:=fun t=>DI (fun c h=>hcs c (by rw[hc];simp[h])) (fun x h=>hg x (by rw[hk];simp[h]));have b3: ∀t,(pwT m t).natAbs<=1000:=fun t=>IB hm.bd;have hm1: ∀t,IntKind.i64.wrap (ci*pwT g t)=ci*pwT g t:=fun t=>Zf (by have:=b1 t;omega) (by have:=b1 t;omega);have hs1: ∀t,IntKind.i64.wrap (pwT m t - Yo cpre pre t - ci*pwT g t)=pwT m t - Yo cpre pre t - ci*pwT g t:=fun t=>by
    have h1:=b1 t;have h2:=b2 t;have h3:=b3 t;have h4:pre.length<=199:=by omega
    have h5:pre.length*35184372088832000<=199*35184372088832000:=Yg _ h4;exact Zf (by omega) (by omega)
   have h:=fun o o2 ρ c K X=>Qqr cols g ci cs pre.length B0 (fun t=>pwT m t - Yo cpre pre t) hcl hci hm1 hs1 c K X cols [] o o2 ρ rfl;have hrow:QJ (cols.map fun t=>pwT m t - Yo cpre pre t - ci*pwT g t)=QJ (cols.map fun t=>pwT m t - Yo (cpre ++ [ci]) (pre ++ [g]) t):=IF fun t=>by rw[LA ci g t hcl2];omega
   have ih:=fun ρ=>IH (pre ++ [g]) cpost (cpre ++ [ci]) o o2 ρ (by rw[hk];simp) (by rw[hc];simp) (by simp[hcl2]);obtain⟨o3,hpo⟩:=Qjk cols g false false (B0 ++ [QJ (cols.map fun t=>pwT m t - Yo cpre pre t)]) hcl hcm ha okg.2 okg.asc (hin g (by rw[hk];simp));rw[hrow]at h;simp only[We,XP]at h;generalize QJ (cols.map fun t=>pwT m t - Yo cpre pre t)=R1 at *;generalize QJ (cols.map fun t=>pwT m t - Yo (cpre ++ [ci]) (pre ++ [g]) t)=R2 at *;generalize (cols.map fun t=>pwT m t - Yo cs l t).any nz=X at *;have hpl: (cols.map (pwT g)).length=cols.length:=by simp
   generalize cols.map (pwT g)=PP at *;rw[Qe f367l1.eq_1];simp[h2,h7,h8,h45,h46,h47,hlt,hgt,hpo,hpl];refine h o o3 _ _ _ _ ?_ ?_ ?_ ?_ ?_ ?_ ?_
   ·simp[h2]
   ·simp[h8]
   ·simp
   ·simp
   ·simp
   ·simp
   ·intro ρ' gj g45 g46 g47;simp[f367r0,g47,h47,hw1];have e2:=gj 2 (by omega);have e7:=gj 7 (by omega);have e8:=gj 8 (by omega);refine ih _ ?_ ?_ ?_ ?_ ?_ ?_
    ·simp[e2,h2]
    ·simp[e7,h7]
    ·simp[e8,h8]
    ·simp[g45,h45]
    ·simp[g46,h46]
    ·simp
def R9 (l:List Qj) (m:Qj) (cs:QO):Bool:=
 !(decide (200 < l.length) || !decide (cs.length=l.length) || cs.any Yu || decide (Z7 m≠0) || l.any VD) && (XD (l ++ [m])).all (fun t=>decide (Yo cs l t=pwT m t))
def Qow {cols:Qc} {m:Qj} {cs:QO} {l:List Qj}: (!(cols.map fun t=>pwT m t - Yo cs l t).any nz)=cols.all (fun t=>decide (Yo cs l t=pwT m t)):=by
 rw[List.any_map,List.not_any_eq_all_not];congr 1;funext t;simp only[nz,Function.comp_apply,Bool.not_not];exact E0.2 (by omega)
def J4 {l:List Qj} (hl:l.length<=1000) (hg: ∀g∈l,okG g): (XD l).length < 1000000/\(∀t∈XD l,t.mass < 1000000)/\Asc (XD l)/\∀g∈l,∀q∈g,q.1∈XD l:=by
 refine⟨?_,?_,KR _,fun g hg2 q hq=>UO.2 (Qg2 hg2 hq)⟩
 ·have h1: ∀(l:List Qj),(∀g∈l,okG g)->(VN l).length<=200*l.length:=by
   intro l
   induction l with
   | nil=>intro _;simp[VN]
   | cons g l ih=>
    intro h;have a:=(h g (by simp)).len;have b:=ih fun x hx=>h x (by simp[hx]);rw[Lm,Zk,ZQ];have: (Zn g).length=g.length:=by simp[Zn]
    omega
  have h2:=h1 l hg;have h3:=Mu (VN l);unfold XD;omega
 ·intro t ht;obtain⟨g,hg2,q,hq,rfl⟩:=QfX (UO.1 ht);exact(hg g hg2).2.2 q hq
def TU:=@List.any_eq_false
def BX {l:List Qj} (h:l.any VD=false) (hs: ∀g∈l,SmP g): ∀g∈l,okG g:=fun g hg=>by
 have:=TU.1 h g hg;exact⟨by simpa[VD]using this,hs g hg⟩
def Qje (l:List Qj) (m:Qj) (cs:QO) (o o2 o3:Bool) (B0:Qa) (hl:l.length < 1000000) (hs: ∀g∈l,SmP g) (hm:SmP m) (hc:cs.length < 1000000):
  call tb 367 [.sl o 1 (ZK l),.sl o2 5 (QF m),.sl o3 1 (ZF cs)] B0=some (.bool (R9 l m cs),B0):=by
 have c356:=fun o=>Kc 368 [] Yu cs o B0 (fun c _=>Qjf c _) hc (by simp);have c197:=fun o=>Nv m o B0 (by have:=hm.1;omega) hm.big;have c370:=fun o=>Qjh l o B0 hs hl;rw[zcc 367 rfl rfl];unfold R9;by_cases k1:200 < l.length
 ·have k1': (200:Int) < (l.length:Int):=by omega
  simp[f367C,k1,k1']
 ·have k1': ¬(200:Int) < (l.length:Int):=by omega
  by_cases k2:cs.length=l.length
  ·have k2': (cs.length:Int)=(l.length:Int):=by omega
   cases k3:cs.any Yu
   ·rw[k3]at c356;by_cases k4:Z7 m=0
    ·cases k5:l.any VD
     ·rw[k5]at c370;have okm:okG m:=⟨k4,hm⟩;have okl:=BX k5 hs;have oka: ∀g∈l ++ [m],okG g:=fun g hg=>by
       rcases Xe.1 hg with h | h
       ·exact okl g h
       ·simp at h;subst h;exact okm
      obtain⟨f1,f2,f3,f4⟩:=J4 (l:=l ++ [m]) (by simp;omega) oka;have c372: ∀o,call tb 372 [.sl o 1 (ZK l)] B0=some (.sl true 1 (ZK l),B0):=fun o=>by
       have e24:l.length*24<=140737488355328:=by omega
       rw[Ws tb_372];simp[W3,TZ,e24]
      have e24: (l.length+1)*24<=140737488355328:=by omega
      have c373:=fun o=>Qji (l ++ [m]) o B0 (by simp;omega) fun g hg=>⟨(oka g hg).2,(oka g hg).len⟩;have c563:=fun o o2=>QjA (XD (l ++ [m])) m o o2 B0 f1 f2 f3 okm.2 okm.asc (f4 m (by simp));have h:=fun o o2 ρ=>Qqs l m cs (XD (l ++ [m])) B0 (by omega) k2 (fun c hc=>by simpa using TU.1 k3 c hc) okl okm f1 f2 f3 (fun g hg=>f4 g (by simp[hg])) l [] cs [] o o2 ρ rfl rfl rfl;have hrow:QJ ((XD (l ++ [m])).map fun t=>pwT m t - Yo [] [] t)=QJ ((XD (l ++ [m])).map (pwT m)):=IF fun t=>by simp[Yo]
      rw[hrow,Qow]at h;generalize (XD (l ++ [m])).all (fun t=>decide (Yo cs l t=pwT m t))=X at *;generalize QJ ((XD (l ++ [m])).map (pwT m))=R1 at *;generalize XD (l ++ [m])=CC at *;have happ:=J8 l [m];have hone:=Ph m;simp[f367C,k1,k1',k2,k2',k4,c356,c197,c370,c372,e24,hone,happ,c373,c563];refine h false false _ ?_ ?_ ?_ ?_ ?_ ?_ <;> simp
     ·rw[k5]at c370;simp[f367C,k1,k1',k2,k2',k4,c356,c197,c370]
    ·simp[f367C,k1,k1',k2,k2',k4,c356,c197]
   ·rw[k3]at c356;simp[f367C,k1,k1',k2,k2',c356]
  ·have k2': ¬(cs.length:Int)=(l.length:Int):=by omega
   simp[f367C,k1,k1',k2,k2']
def Qhj (g:Qj) (t:Tm) (bs:Qa) (hg:SmP g) (ht:t.mass < 1000000):
  ∀(post pre:Qj) (o:Bool) (ρ:Ql),g=pre ++ post->ρ 0= .sl o 5 (QF g)->ρ 3= .bx (Qf t)->ρ 5= .int .i64 pre.length->
  R tb (.loop f326l0) ρ bs (Qo 0 (QB tb f326r0 (QN f326 bs)))=some (.int .i64 (pwT post t),bs):=by
 intro post
 induction post with
 | nil=>
  intro pre o ρ hk h0 h3 h5;simp only[QH]at hk;rw[<- hk]at h5;rw[Qe f326l0.eq_1];simp[h0,h3,h5,pwT,f326r0]
 | cons q post IH=>
  intro pre o ρ hk h0 h3 h5;have hgt:=Qw hk;have hll:=QE hk;have hgl:=hg.1;have hw1:=wr1 pre.length (by omega);have hlt:=QI hk;have hc:=Xs q.1 t bs (hg.big q (by rw[hk];simp)) (by unfold big;omega);have ih:=fun ρ=>IH (pre ++ [q]) o ρ (by rw[hk];simp);rw[Qe f326l0.eq_1];by_cases c:Qq q.1 t=0
  ·simp only[pwT,Qn c];simp[-getElem?_pos,Zb,Ze,Zv,h0,h3,h5,hlt,hgt,hc,c]
  ·simp only[pwT,Qm c];generalize pwT post t=X at *;simp[-getElem?_pos,Zb,Ze,Zv,h0,h3,h5,hlt,hgt,hc,c,hw1];apply ih <;> simp[h0,h3]
def Ac (g:Qj) (t:Tm) (o:Bool) (bs:Qa) (hg:SmP g) (ht:t.mass < 1000000):call tb 326 [.sl o 5 (QF g),.agg (Qf t)] bs=some (.int .i64 (pwT g t),bs):=by
 have h:=fun ρ=>Qhj g t bs hg ht g [] false ρ rfl;rw[zcc 326 rfl rfl];generalize pwT g t=X at *;simp[f326C];apply h <;> simp
def QqS (l:List Qj) (g:Qj) (i:Nat) (bs:Qa) (hi:l[i]? =some g) (hg:SmP g) (c:AC) (K:Kn) (X:Out):
  ∀(post pre:Qj) (acc:Qc) (o o2:Bool) (ρ:Ql),g=pre ++ post->acc.length+post.length < 500000->(∀x∈acc,x.mass < 1000000)->
   ρ 0= .sl o 1 (ZK l)->ρ 3= .sl o2 4 (Qb acc)->ρ 4= .int .i64 i->ρ 5= .int .i64 pre.length->
   (∀(ρ':Ql) (o2:Bool),ρ' 0=ρ 0->ρ' 3= .sl o2 4 (Qb (YG acc (Zn post)))->ρ' 4=ρ 4->R tb c ρ' bs K=X)->
  R tb (.loop f324l0) ρ bs (Qo 2 (Qo 1 (QB tb c K)))=X:=by
 intro post
 induction post with
 | nil=>
  intro pre acc o o2 ρ hk hal ham h0 h3 h4 h5 H;simp only[QH]at hk;rw[<- hk]at h5;rw[Qe f324l0.eq_1];simp[-getElem?_pos,Zb,Ze,Zv,h0,h3,h4,h5,hi];refine H _ o2 ?_ ?_ ?_ <;> simp[h0,h3,YG,Zn]
 | cons q post IH=>
  intro pre acc o o2 ρ hk hal ham h0 h3 h4 h5 H;have hgt:=Qw hk;have hll:=QE hk;have hgl:=hg.1;have hw1:=wr1 pre.length (by omega);have hlt:=QI hk;simp only[ZQ]at hal;have hqm:=hg.2 q (by rw[hk];simp);have hc:=fun o=>KW acc q.1 o bs (by omega) (fun x hx=>by have:=ham x hx;unfold big;omega) (by unfold big;omega);have hlen:=P3 q.1 acc;have ih:=fun ρ=>IH (pre ++ [q]) (ZZ q.1 acc) o false ρ (by rw[hk];simp) (by omega) (fun x hx=>by
   rcases Ro.1 hx with rfl | hx
   ·exact hqm
   ·exact ham x hx)
  rw[Qe f324l0.eq_1];simp[-getElem?_pos,Zb,Ze,Zv,h0,h3,h4,h5,hi,hlt,hgt,hw1,hc];refine ih _ ?_ ?_ ?_ ?_ ?_
  ·simp[h0]
  ·simp
  ·simp[h4]
  ·simp
  ·intro ρ' o3 g0 g3 g4;refine H ρ' o3 ?_ (by simpa[Zn,YG]using g3) ?_
   ·rw[g0];simp
   ·rw[g4];simp
def C6 (acc l:Qc): (YG acc l).length<=acc.length+l.length:=NO l acc
def QqT (l:List Qj) (bs:Qa) (hl:l.length < 1000) (hs: ∀g∈l,SmP g/\g.length<=200):
  ∀(post pre:List Qj) (acc:Qc) (o o2:Bool) (ρ:Ql),l=pre ++ post->acc.length+200*post.length<=200*l.length->(∀x∈acc,x.mass < 1000000)->
   ρ 0= .sl o 1 (ZK l)->ρ 3= .sl o2 4 (Qb acc)->ρ 4= .int .i64 pre.length->
  R tb (.loop f324l1) ρ bs (Qo 0 (QB tb f324r1 (QN f324 bs)))=some (.sl false 4 (Qb (YG acc (VN post))),bs):=by
 intro post
 induction post with
 | nil=>
  intro pre acc o o2 ρ hk hal ham h0 h3 h4;simp only[QH]at hk;rw[<- hk]at h4;rw[Qe f324l1.eq_1];simp[h0,h3,h4,f324r1,VN,YG]
 | cons g post IH=>
  intro pre acc o o2 ρ hk hal ham h0 h3 h4;have hgt:=Qw hk;have hll:=QE hk;have hw1:=wr1 pre.length (by omega);have hlt:=QI hk;obtain⟨hsg,hg2⟩:=hs g (by rw[hk];simp);simp only[ZQ]at hal;have hpl: (Zn g).length=g.length:=by simp[Zn]
  have hal2:=C6 acc (Zn g);have ih:=fun o2 ρ=>IH (pre ++ [g]) (YG acc (Zn g)) o o2 ρ (by rw[hk];simp) (by omega) (fun x hx=>by
   rcases Mj.1 hx with hx | hx
   ·exact ham x hx
   ·obtain⟨q,hq,rfl⟩:=Wf.1 hx;exact hsg.2 q hq)
  have e:YG acc (VN (g:: post))=YG (YG acc (Zn g)) (VN post):=by rw[Lm,QaH]
  have h:=fun o o2 ρ c K X=>QqS l g pre.length bs hgt hsg c K X g [] acc o o2 ρ rfl (by omega) ham;rw[e,Qe f324l1.eq_1];simp[h0,h3,h4,hlt];refine h o o2 _ _ _ _ ?_ ?_ ?_ ?_ ?_
  ·simp[h0]
  ·simp[h3]
  ·simp[h4]
  ·simp
  ·intro ρ' o3 g0 g3 g4;simp[f324r0,g4,h4,hw1];refine ih o3 _ ?_ ?_ ?_
   ·simp[g0,h0]
   ·simp[g3]
   ·simp
def Qi1 (l:List Qj) (o:Bool) (bs:Qa) (hl:l.length < 1000) (hs: ∀g∈l,SmP g/\g.length<=200):
  call tb 324 [.sl o 1 (ZK l)] bs=some (.sl false 4 (Qb (XD l)),bs):=by
 have h:=fun o ρ=>QqT l bs hl hs l [] [] o true ρ rfl (by simp) (by simp);rw[zcc 324 rfl rfl];have e:Qb (YG [] (VN l))=Qb (XD l):=rfl;rw[e]at h;generalize Qb (XD l)=E1 at *;simp[f324C];refine h false _ ?_ ?_ ?_ <;> simp[Qb]
def Qq9 (l:List Qj) (cs:QO) (cols:Qc) (k:Nat) (t:Tm) (bs:Qa) (hl:l.length<=200) (hlc:cs.length=l.length) (hcs: ∀c∈cs,Yu c=false) (hg: ∀g∈l,okG g) (hk:cols[k]? =some t) (ht:t.mass < 1000000) (c:AC) (K:Kn) (X:Out):
  ∀(post pre:List Qj) (cpost cpre:QO) (o o2 o3:Bool) (ρ:Ql),l=pre ++ post->cs=cpre ++ cpost->cpre.length=pre.length->
   ρ 0= .sl o 1 (ZK l)->ρ 2= .sl o2 1 (ZF cs)->ρ 8= .sl o3 4 (Qb cols)->ρ 9= .int .i64 k->ρ 10= .int .i64 (Yo cpre pre t)->ρ 11= .int .i64 pre.length->
   (∀ρ':Ql,(∀j,j < 10->ρ' j=ρ j)->ρ' 10= .int .i64 (Yo cs l t)->R tb c ρ' bs K=X)->
  R tb (.loop f392l1) ρ bs (Qo 4 (QB tb c K))=X:=by
 intro post
 induction post with
 | nil=>
  intro pre cpost cpre o o2 o3 ρ hkk hc hcl2 h0 h2 h8 h9 h10 h11 H;simp only[QH]at hkk;subst hkk;have:cpost=[]:=by
   have:=WF List.length hc;simp at this;exact YX (by omega)
  subst this;simp only[QH]at hc;subst hc;generalize Yo cs l t=D at *;rw[Qe f392l1.eq_1];simp[h0,h2,h8,h9,h10,h11];refine H _ (fun j hj=> ?_) ?_
  ·simp[show j≠66 by omega,show j≠67 by omega,show j≠68 by omega,show j≠69 by omega]
  ·simp[h10]
 | cons g post IH=>
  intro pre cpost cpre o o2 o3 ρ hkk hc hcl2 h0 h2 h8 h9 h10 h11 H;have hgt:=Qw hkk;have hll:l.length=pre.length+ (post.length+1):=by rw[hkk];simp
  have hw1:=wr1 pre.length (by omega);have hlt: (pre.length:Int) < (l.length:Int):=by omega
  cases cpost with
  | nil=>have:=WF List.length hc;simp at this;omega
  | cons ci cpost=>
   have hci:cs[pre.length]? =some ci:=by rw[hc,<- hcl2];simp
   have okg:=hg g (by rw[hkk];simp);have hco:Yu ci=false:=hcs ci (by rw[hc];simp);have b1: (ci*pwT g t).natAbs<=35184372088832000:=Cl (Hn hco) (IB okg.bd);have b2: (Yo cpre pre t).natAbs<=pre.length*35184372088832000:=DI (fun c h=>hcs c (by rw[hc];simp[h])) (fun x h=>hg x (by rw[hkk];simp[h]));have hm1:IntKind.i64.wrap (ci*pwT g t)=ci*pwT g t:=Zf (by omega) (by omega);have hd:=LA (cs:=cpre) (gs:=pre) ci g t hcl2;have hs1:IntKind.i64.wrap (Yo cpre pre t+ci*pwT g t)=Yo (cpre ++ [ci]) (pre ++ [g]) t:=by
    rw[hd];have h5:pre.length*35184372088832000<=199*35184372088832000:=Yg _ (by omega);exact Zf (by omega) (by omega)
   have ih:=fun ρ=>IH (pre ++ [g]) cpost (cpre ++ [ci]) o o2 o3 ρ (by rw[hkk];simp) (by rw[hc];simp) (by simp[hcl2]);have h326:=Ac g t false bs okg.2 ht;generalize Yo cpre pre t=D1 at *;generalize Yo (cpre ++ [ci]) (pre ++ [g]) t=D2 at *;generalize Yo cs l t=D3 at *;generalize pwT g t=pt at *;rw[Qe f392l1.eq_1];simp[-getElem?_pos,Zb,Ze,Zv,h0,h2,h8,h9,h10,h11,hlt,hgt,hci,hk,h326,hm1,hs1,hw1];refine ih _ ?_ ?_ ?_ ?_ ?_ ?_ ?_
   ·simp[h0]
   ·simp[h2]
   ·simp[h8]
   ·simp[h9]
   ·simp
   ·simp
   ·intro ρ' gj g10;refine H ρ' (fun j hj=> ?_) g10;rw[gj j hj];simp[show j≠10 by omega,show j≠11 by omega,show j≠66 by omega,show j≠67 by omega,show j≠68 by omega,show j≠69 by omega,show j≠70 by omega,show j≠71 by omega,show j≠72 by omega,show j≠73 by omega,show j≠74 by omega,show j≠75 by omega,show j≠76 by omega,show j≠77 by omega,show j≠78 by omega,show j≠79 by omega,show j≠80 by omega,show j≠81 by omega,show j≠82 by omega,show j≠83 by omega,show j≠84 by omega,show j≠85 by omega,show j≠86 by omega,show j≠87 by omega]
def Qra (l:List Qj) (m:Qj) (cs:QO) (cols:Qc) (bs:Qa) (hl:l.length<=200) (hlc:cs.length=l.length) (hcs: ∀c∈cs,Yu c=false) (hg: ∀g∈l,okG g) (hm:okG m) (hcl:cols.length < 1000000) (hcm: ∀t∈cols,t.mass < 1000000):
  ∀(post pre:Qc) (o o1 o2 o3:Bool) (ρ:Ql),cols=pre ++ post->
   ρ 0= .sl o 1 (ZK l)->ρ 1= .sl o1 5 (QF m)->ρ 2= .sl o2 1 (ZF cs)->ρ 8= .sl o3 4 (Qb cols)->ρ 9= .int .i64 pre.length->
  R tb (.loop f392l2) ρ bs (Qo 2 (QB tb f392r2 (QN f392 bs)))=some (.bool (post.all fun t=>decide (Yo cs l t=pwT m t)),bs):=by
 intro post
 induction post with
 | nil=>
  intro pre o o1 o2 o3 ρ hk h0 h1 h2 h8 h9;simp only[QH]at hk;rw[<- hk]at h9;rw[Qe f392l2.eq_1];simp[h0,h1,h2,h8,h9,f392r2]
 | cons t post IH=>
  intro pre o o1 o2 o3 ρ hk h0 h1 h2 h8 h9;have hgt:=Qw hk;have hll:=QE hk;have hw1:=wr1 pre.length (by omega);have hlt:=QI hk;have htm:=hcm t (by rw[hk];simp);have h:=fun o o2 o3 ρ c K X=>Qq9 l cs cols pre.length t bs hl hlc hcs hg hgt htm c K X l [] cs [] o o2 o3 ρ rfl rfl rfl;have h326:=fun o=>Ac m t o bs hm.2 htm;have ih:=fun ρ=>IH (pre ++ [t]) o o1 o2 o3 ρ (by rw[hk];simp);simp only[SL];rw[Qe f392l2.eq_1];simp only[Yo]at h;generalize post.all (fun t=>decide (Yo cs l t=pwT m t))=X at *;generalize Yo cs l t=D at *;generalize pwT m t=pt at *;simp[h0,h1,h2,h8,h9,hlt];refine h o o2 o3 _ _ _ _ ?_ ?_ ?_ ?_ ?_ ?_ ?_
  ·simp[h0]
  ·simp[h2]
  ·simp[h8]
  ·simp[h9]
  ·simp
  ·simp
  ·intro ρ' gj g10;have e0:=gj 0 (by omega);have e1:=gj 1 (by omega);have e2:=gj 2 (by omega);have e8:=gj 8 (by omega);have e9:=gj 9 (by omega);simp[h0]at e0;simp[h1]at e1;simp[h2]at e2;simp[h8]at e8;simp[h9]at e9;by_cases c:D=pt
   ·simp[-getElem?_pos,Zb,f392r0,f392r1,g10,e0,e1,e2,e8,e9,hgt,h326,c,hw1];apply ih <;> simp[e0,e1,e2,e8]
   ·simp[-getElem?_pos,Zb,f392r0,f392r1,g10,e0,e1,e2,e8,e9,hgt,h326,c]
def Qrb (l:List Qj) (m:Qj) (cs:QO) (bs:Qa) (hl:l.length<=200) (hlc:cs.length=l.length) (hcs: ∀c∈cs,Yu c=false) (hg: ∀g∈l,okG g) (hm:okG m) (o o1 o2:Bool) (ρ:Ql)
  (h0:ρ 0= .sl o 1 (ZK l)) (h1:ρ 1= .sl o1 5 (QF m)) (h2:ρ 2= .sl o2 1 (ZF cs)):
  R tb f392r3 ρ bs (QN f392 bs)=some (.bool ((XD (l ++ [m])).all fun t=>decide (Yo cs l t=pwT m t)),bs):=by
 have oka: ∀g∈l ++ [m],okG g:=fun g hg2=>by
  rcases Xe.1 hg2 with h | h
  ·exact hg g h
  ·simp at h;subst h;exact hm
 obtain⟨f1,f2,f3,f4⟩:=J4 (l:=l ++ [m]) (by simp;omega) oka;have c324:=fun o=>Qi1 (l ++ [m]) o bs (by simp;omega) fun g hg=>⟨(oka g hg).2,(oka g hg).len⟩;have h:=fun o o1 o2 o3 ρ=>Qra l m cs (XD (l ++ [m])) bs hl hlc hcs hg hm f1 f2 (XD (l ++ [m])) [] o o1 o2 o3 ρ rfl;generalize (XD (l ++ [m])).all (fun t=>decide (Yo cs l t=pwT m t))=X at *;generalize XD (l ++ [m])=CC at *;have happ:=J8 l [m];have hone:=Ph m;have e24:l.length*24<=140737488355328:=by omega
 have e25: (l.length+1)*24<=140737488355328:=by omega
 simp[f392r3,h0,h1,h2,e24,e25,hone,happ,c324];refine h o o1 o2 false _ ?_ ?_ ?_ ?_ ?_ <;> simp[h0,h1,h2]
def Qq8 (l:List Qj) (m:Qj) (cs:QO) (bs:Qa) (hl:l.length<=200) (hlc:cs.length=l.length) (hs: ∀g∈l,SmP g) (hm:okG m):
  ∀(post pre:List Qj) (cpost cpre:QO) (o o1 o2:Bool) (ρ:Ql),l=pre ++ post->cs=cpre ++ cpost->cpre.length=pre.length->pre.any VD=false->cpre.any Yu=false->
   ρ 0= .sl o 1 (ZK l)->ρ 1= .sl o1 5 (QF m)->ρ 2= .sl o2 1 (ZF cs)->ρ 7= .int .i64 pre.length->
  R tb (.loop f392l0) ρ bs (Qo 0 (QB tb f392r3 (QN f392 bs)))=some (.bool (!(post.any VD || cpost.any Yu) && (XD (l ++ [m])).all fun t=>decide (Yo cs l t=pwT m t)),bs):=by
 intro post
 induction post with
 | nil=>
  intro pre cpost cpre o o1 o2 ρ hk hc hcl2 hb1 hb2 h0 h1 h2 h7;simp only[QH]at hk;subst hk;have:cpost=[]:=by
   have:=WF List.length hc;simp at this;exact YX (by omega)
  subst this;simp only[QH]at hc;subst hc;have h:=fun ρ=>Qrb l m cs bs hl hlc (fun c hc=>by simpa using TU.1 hb2 c hc) (BX hb1 hs) hm o o1 o2 ρ;generalize (XD (l ++ [m])).all (fun t=>decide (Yo cs l t=pwT m t))=X at *;rw[Qe f392l0.eq_1];simp[h0,h1,h2,h7];apply h <;> simp[h0,h1,h2]
 | cons g post IH=>
  intro pre cpost cpre o o1 o2 ρ hk hc hcl2 hb1 hb2 h0 h1 h2 h7;have hgt:=Qw hk;have hll:=QE hk;have hw1:=wr1 pre.length (by omega);have hlt:=QI hk;cases cpost with
  | nil=>have:=WF List.length hc;simp at this;omega
  | cons ci cpost=>
   have hci:cs[pre.length]? =some ci:=by rw[hc,<- hcl2];simp
   have hsg:=hs g (by rw[hk];simp);have c259:=fun o=>Nw g o bs (by have:=hsg.1;omega) hsg.big;have ih:=fun ρ b1 b2=>IH (pre ++ [g]) cpost (cpre ++ [ci]) o o1 o2 ρ (by rw[hk];simp) (by rw[hc];simp) (by simp[hcl2]) (by rw[SJ,hb1];simpa using b1) (by rw[SJ,hb2];simpa using b2);simp only[List.any_cons];rw[Qe f392l0.eq_1];generalize (XD (l ++ [m])).all (fun t=>decide (Yo cs l t=pwT m t))=X at *;generalize post.any VD=P1 at *;generalize cpost.any Yu=P2 at *;by_cases c1:Z7 g=0
   ·have eb:VD g=false:=by simp[VD,c1]
    by_cases c2:ci < -35184372088832
    ·have eo:Yu ci=true:=by simp[Yu,c2]
     simp[-getElem?_pos,Zb,h0,h1,h2,h7,hlt,hgt,hci,c259,c1,c2,eb,eo]
    ·by_cases c3:35184372088832 < ci
     ·have eo:Yu ci=true:=by simp[Yu,c3]
      simp[-getElem?_pos,Zb,h0,h1,h2,h7,hlt,hgt,hci,c259,c1,c2,c3,eb,eo]
     ·have eo:Yu ci=false:=by simp[Yu,c2,c3]
      have ih2:=fun ρ=>ih ρ eb eo;simp[-getElem?_pos,Zb,h0,h1,h2,h7,hlt,hgt,hci,c259,c1,c2,c3,eb,eo,hw1];simp only[Bool.not_or]at ih2;apply ih2 <;> simp[h0,h1,h2]
   ·have eb:VD g=true:=by simp[VD,c1]
    simp[-getElem?_pos,Zb,h0,h1,h2,h7,hlt,hgt,hci,c259,c1,eb]
def JN:=@Bool.or_false
def Ak (l:List Qj) (m:Qj) (cs:QO) (o o2 o3:Bool) (bs:Qa) (hl:l.length < 1000000) (hs: ∀g∈l,SmP g) (hm:SmP m) (hc:cs.length < 1000000):
  call tb 392 [.sl o 1 (ZK l),.sl o2 5 (QF m),.sl o3 1 (ZF cs)] bs=some (.bool (R9 l m cs),bs):=by
 have c259:=fun o=>Nw m o bs (by have:=hm.1;omega) hm.big;rw[zcc 392 rfl rfl];unfold R9;by_cases k4:Z7 m=0
 ·by_cases k2:cs.length=l.length
  ·have k2': (cs.length:Int)=(l.length:Int):=by omega
   by_cases k1:200 < l.length
   ·have k1': (200:Int) < (l.length:Int):=by omega
    simp[f392C,k1,k1',k2,k2',k4,c259]
   ·have k1': ¬(200:Int) < (l.length:Int):=by omega
    have h:=fun o o1 o2 ρ=>Qq8 l m cs bs (by omega) k2 hs ⟨k4,hm⟩ l [] cs [] o o1 o2 ρ rfl rfl rfl rfl rfl;have e: (!(decide (200 < l.length) || !decide (cs.length=l.length) || cs.any Yu || decide (Z7 m≠0) || l.any VD))= !(l.any VD || cs.any Yu):=by
     simp only[k1,k2,k4,Lh,Nu,Nt,JN,Lf,ne_eq,JL];rw[Bool.or_comm]
    rw[e];generalize (!(l.any VD || cs.any Yu) && (XD (l ++ [m])).all fun t=>decide (Yo cs l t=pwT m t))=X at *;simp[f392C,k1,k1',k2,k2',k4,c259];refine h false false false _ ?_ ?_ ?_ ?_ <;> simp
  ·have k2': ¬(cs.length:Int)=(l.length:Int):=by omega
   simp[f392C,k2,k2',k4,c259]
 ·simp[f392C,k4,c259]
def Z6 (l:Qj):Qj:=l.map fun q=>(q.1,-q.2)
def Oh (l:Qj): (Z6 l).length=l.length:=by simp[Z6]
def QgR (B0:Qa) (l:Qj) (id:Nat) (t:Qh) (hl:l.length < 1000000) (hn: ∀q∈l,-100000000 < q.2/\q.2 < 100000000) (hid:B0.length<=id):
  ∀(post pre:Qj) (M:Qa) (ρ:Ql),l=pre ++ post->(B0 ++ M)[id]? =some (QX (Z6 pre ++ post)++ t)->
   ρ 3= .gs id 0 5 l.length->ρ 8= .int .i64 l.length->ρ 9= .int .i64 pre.length->
  EF (Z6 l) B0 (R tb (.loop f363l0) ρ (B0 ++ M) (Qo 0 (QB tb f363r0 (QN f363 B0)))):=by
 intro post
 induction post with
 | nil=>
  intro pre M ρ hk hb h3 h8 h9;simp only[QH]at hk hb;subst hk;by_cases c:l.length=0
  ·have:l=[]:=YX c;subst this;refine⟨false,?_⟩;rw[Qe f363l0.eq_1];simp at h3;simp[h3,h8,h9,f363r0,Yr,QF,Z6]
  ·refine⟨true,?_⟩;have hle:l.length*5<=(QX (Z6 l)++ t).length:=by rw[Zk,XK,Oh];omega
   have hch:Z3 (QX (Z6 l)++ t) 0 5 (Z6 l).length=QF (Z6 l):=XZ (f:=Zx) (k:=5) Vh V4 (Z6 l) t;rw[Oh]at hch;have hgp:=N5 (Z6 l);generalize QX (Z6 l)++ t=RR at *;generalize QF (Z6 l)=EE at *;rw[Qe f363l0.eq_1];simp[-getElem?_pos,h3,h8,h9,f363r0,Yr,c,hb,hle,hch,hgp,X7 hid]
 | cons q post IH=>
  intro pre M ρ hk hb h3 h8 h9;have hll:=QE hk;have hw1:=wr1 pre.length (by omega);have hlt:=QI hk;have hlt':pre.length < l.length:=by omega
  have hqb:=hn q (by rw[hk];simp);have hwn:IntKind.i64.wrap (-q.2)= -q.2:=Zf (by omega) (by omega);have hnl:=Oh pre;have hq: (Z6 pre ++ q:: post)[pre.length]? =some q:=by rw[YQ (by omega),hnl];simp
  have hrd:=NH hq t;have hlen: (QX (Z6 pre ++ q:: post)++ t).length=l.length*5+t.length:=by rw[Zk,XK,Zk,hnl,hll,ZQ]
  have hcell: (QX (Z6 pre ++ q:: post)++ t)[pre.length*5+4]? =some (.int .i64 q.2):=by
   have h1: (((QX (Z6 pre ++ q:: post)++ t).drop (pre.length*5)).take 5)[4]? =some (.int .i64 q.2):=by rw[hrd];simp
   rw[WO (by omega),XX]at h1;exact h1
  have hle:pre.length*5+4+1<=(QX (Z6 pre ++ q:: post)++ t).length:=by omega
  have hnew: (QX (Z6 pre ++ q:: post)++ t).take (pre.length*5+4)++ (AV.int .i64 (-q.2):: (QX (Z6 pre ++ q:: post)++ t).drop (pre.length*5+4+1))=QX (Z6 (pre ++ [q])++ post)++ t:=by
   have e:Z6 (pre ++ [q])++ post=Z6 pre ++ (q.1,-q.2):: post:=by simp[Z6]
   rw[e];have h1:=PC (f:=Zx) (k:=5) Vh (pre:=Z6 pre) (q.1,-q.2) (rfl:Z6 pre ++ q:: post=Z6 pre ++ q:: post) t;rw[hnl]at h1;rw[show QX (Z6 pre ++ (q.1,-q.2):: post)++ t=_ from h1.symm];have h2: (QX (Z6 pre ++ q:: post)++ t).take (pre.length*5+4)=(QX (Z6 pre ++ q:: post)++ t).take (pre.length*5)++ Qf q.1:=by
    rw[List.take_add];congr 1;have: ((QX (Z6 pre ++ q:: post)++ t).drop (pre.length*5)).take 4=(((QX (Z6 pre ++ q:: post)++ t).drop (pre.length*5)).take 5).take 4:=by rw[JR];rfl
    rw[this];rw[hrd];simp
   rw[h2];simp[Zx]
  have hB:=YT hb;have hgs: ∀x:Qh,(B0 ++ M.set (id - B0.length) x)[id]? =some x:=fun x=>by
   rw[<- X7 hid,Xq,Qn rfl,Qn hB]
  have ih:=fun M ρ hb=>IH (pre ++ [q]) M ρ (by rw[hk];simp) hb;generalize QX (Z6 (pre ++ [q])++ post)++ t=R2 at *;generalize QX (Z6 pre ++ q:: post)++ t=R1 at *;rw[Qe f363l0.eq_1];simp[-getElem?_pos,Zb,Ze,Zv,h3,h8,h9,hlt,hb,hcell,hle,hwn,hw1,hnew,X7 hid];refine ih _ _ (hgs R2) ?_ ?_ ?_ <;> simp[h3,h8]
def Qjc (l:Qj) (o:Bool) (B0:Qa) (hl:l.length < 1000000) (hm: ∀q∈l,q.1.mass < big) (hn: ∀q∈l,-100000000 < q.2/\q.2 < 100000000):EF (Z6 l) B0 (call tb 363 [.sl o 5 (QF l)] B0):=by
 obtain⟨v,B,h1,M,id,sz,rfl,rfl,hc⟩:=B8 l false B0 (by omega) hm;rw[zcc 363 rfl rfl];rcases hc with⟨rfl,rfl,rfl⟩ | ⟨rfl,hid,t,hb,hne⟩
 ·have e:QF []=[]:=rfl;rw[e]at h1;refine⟨true,?_⟩;have hN:Z6 []=[]:=rfl;simp[f363C,h1,e,hN];rw[Qe f363l0.eq_1];simp[f363r0,Yr]
 ·have h:=fun ρ=>QgR B0 l id t hl hn hid l [] M ρ rfl (by simpa[Z6]using hb);simp[f363C,h1];apply h <;> simp
def QeW (l:Qj) (bs:Qa) (hl:l.length < 1000000) (hn: ∀q∈l,-100000000 < q.2/\q.2 < 100000000):
  ∀(post pre:Qj) (o:Bool) (ρ:Ql),l=pre ++ post->ρ 0= .sl o 5 (QF l)->ρ 3= .sl true 5 (QF (Z6 pre))->ρ 4= .int .i64 pre.length->
  R tb (.loop f319l0) ρ bs (Qo 0 (QB tb f319r0 (QN f319 bs)))=some (.sl false 5 (QF (Z6 l)),bs):=by
 intro post
 induction post with
 | nil=>
  intro pre o ρ hk h0 h3 h4;simp only[QH]at hk;subst hk;rw[Qe f319l0.eq_1];simp[h0,h3,h4,f319r0]
 | cons q post IH=>
  intro pre o ρ hk h0 h3 h4;have hgt:=Qw hk;have hll:=QE hk;have hw1:=wr1 pre.length (by omega);have hlt:=QI hk;have hqb:=hn q (by rw[hk];simp);have hwn:IntKind.i64.wrap (-q.2)= -q.2:=Zf (by omega) (by omega);have hb: (pre.length+1)*64<=140737488355328:=Mg (by omega);have hnl:=Oh pre;have e1:Qf q.1 ++ [AV.int .i64 (-q.2)]=Zx (q.1,-q.2):=rfl;have e0: (Qf q.1 ++ [AV.int .i64 0]).drop 5=[]:=by simp[Zt]
  have e2:QF (Z6 pre)++ [Zx (q.1,-q.2)]=QF (Z6 (pre ++ [q])):=by simp[QF,Z6]
  have ih:=fun ρ=>IH (pre ++ [q]) o ρ (by rw[hk];simp);rw[Qe f319l0.eq_1];simp[-getElem?_pos,Zb,Ze,Zv,h0,h3,h4,hlt,hgt,hwn,hw1,hnl,hb,e0,e1,e2,Qk];apply ih <;> simp[h0]
def Qi0 (l:Qj) (o:Bool) (bs:Qa) (hl:l.length < 1000000) (hn: ∀q∈l,-100000000 < q.2/\q.2 < 100000000):call tb 319 [.sl o 5 (QF l)] bs=some (.sl false 5 (QF (Z6 l)),bs):=by
 have h:=fun ρ=>QeW l bs hl hn l [] false ρ rfl;rw[zcc 319 rfl rfl];simp[f319C];apply h <;> simp[QF,Z6]
def Sx {t:Tm} (h:t.mass < 1000000):SmP (ofP t):=⟨by have:=Uv t;omega,fun q hq=>by have:=Of t t.mass (Zm _) q hq;omega⟩
def CQ {a b:Qj} (ha:SmP a) (hb:SmP b):SmP (XJ a b):=⟨by have:=Ja a b;omega,fun q hq=>by
 have:=Hj (a:=a) (b:=b) (M:=999999) (fun q hq=>by have:=ha.2 q hq;omega) (fun q hq=>by have:=hb.2 q hq;omega) q hq;omega⟩
def QpD {t:Tm} (h:t.mass < 1000000): ∀q∈ofP t,-100000000 < q.2/\q.2 < 100000000:=fun q hq=>by
 unfold ofP at hq;split at hq
 ·have:=(LX t [] 1 0 (by unfold big;omega) (.inl rfl) Jf).bd q hq;have hn:=YK t;omega
 ·cases hq
def Jj {a:Qj} (ha:SmP a):SmP (Z6 a):=⟨by rw[Oh];exact ha.1,fun q hq=>by
 obtain⟨p,hp,rfl⟩:=Wf.1 hq;exact ha.2 p hp⟩
def XE (l:Qc):Bool:=l.all fun t=>decide (ofE t=0)
def Xu (l:Qc):List Qj:=if XE l then l.map ofP else []
def L1 {l:Qc} (h: ∀t∈l,t.mass < 1000000): ∀g∈Xu l,SmP g:=fun g hg=>by
 unfold Xu at hg;split at hg
 ·obtain⟨t,ht,rfl⟩:=Wf.1 hg;exact Sx (h t ht)
 ·cases hg
def Mo (l:Qc): (Xu l).length<=l.length:=by
 unfold Xu;split <;> simp
def QaB (l:Qc) (bs:Qa) (r:Out):Prop:=∃o,r=some (.tup [.sl o 1 (ZK (Xu l)),.bool (XE l)],bs)
def Qk3 (l:Qc) (bs:Qa) (hl:l.length < 1000000) (hm: ∀t∈l,t.mass < 1000000):
  ∀(post pre:Qc) (o:Bool) (ρ:Ql),l=pre ++ post->XE pre=true->ρ 4= .sl true 1 (ZK (pre.map ofP))->ρ 9= .sl o 4 (Qb l)->ρ 10= .int .i64 l.length->ρ 11= .int .i64 pre.length->
  QaB l bs (R tb (.loop f366l0) ρ bs (Qo 0 (QB tb f366r0 (QN f366 bs)))):=by
 intro post
 induction post with
 | nil=>
  intro pre o ρ hk hp h4 h9 h10 h11;simp only[QH]at hk;subst hk;have e:Xu l=l.map ofP:=by simp[Xu,hp]
  refine⟨false,?_⟩;rw[e,hp,Qe f366l0.eq_1];simp[h4,h9,h10,h11,f366r0]
 | cons t post IH=>
  intro pre o ρ hk hp h4 h9 h10 h11;have hgt:=Qw hk;have hll:=QE hk;have hw1:=wr1 pre.length (by omega);have hlt:=QI hk;have htm:=hm t (by rw[hk];simp);have hc:=Si t bs (by omega);have hb: (pre.length+1)*24<=140737488355328:=by omega
  rw[Qe f366l0.eq_1];by_cases c:ofE t=0
  ·have ih:=fun ρ=>IH (pre ++ [t]) o ρ (by rw[hk];simp) (by unfold XE at hp ⊢;rw[Lb,hp];simp[c]);have e1:=Ph (ofP t);have e2:ZK (pre.map ofP)++ ZK [ofP t]=ZK ((pre ++ [t]).map ofP):=by simp[ZK]
   simp[h4,h9,h10,h11,hlt,hgt,hc,c,hw1,hb,e1,e2];apply ih <;> simp[h9,h10]
  ·have ef:XE l=false:=by
    unfold XE;rw[List.all_eq_false];exact⟨t,by rw[hk];simp,by simpa using c⟩
   have e:Xu l=[]:=by simp[Xu,ef]
   refine⟨false,?_⟩;rw[e,ef];simp[h4,h9,h10,h11,hlt,hgt,hc,c,ZK]
def Qjd (l:Qc) (o:Bool) (bs:Qa) (hl:l.length < 1000000) (hm: ∀t∈l,t.mass < 1000000):QaB l bs (call tb 366 [.sl o 4 (Qb l)] bs):=by
 have h:=fun ρ=>Qk3 l bs hl hm l [] false ρ rfl rfl;rw[zcc 366 rfl rfl];simp[f366C];apply h <;> simp[ZK]
def Qhi (l:Qc) (bs:Qa) (hl:l.length < 1000000) (hm: ∀t∈l,t.mass < 1000000):
  ∀(post pre:Qc) (o:Bool) (ρ:Ql),l=pre ++ post->XE pre=true->ρ 4= .sl true 1 (ZK (pre.map ofP))->ρ 0= .sl o 4 (Qb l)->ρ 5= .int .i64 pre.length->
  QaB l bs (R tb (.loop f391l0) ρ bs (Qo 0 (QB tb f391r0 (QN f391 bs)))):=by
 intro post
 induction post with
 | nil=>
  intro pre o ρ hk hp h4 h0 h5;simp only[QH]at hk;subst hk;have e:Xu l=l.map ofP:=by simp[Xu,hp]
  refine⟨false,?_⟩;rw[e,hp,Qe f391l0.eq_1];simp[h4,h0,h5,f391r0]
 | cons t post IH=>
  intro pre o ρ hk hp h4 h0 h5;have hgt:=Qw hk;have hll:=QE hk;have hw1:=wr1 pre.length (by omega);have hlt:=QI hk;have htm:=hm t (by rw[hk];simp);have hc:=Pr t bs (by omega);have hb: (pre.length+1)*24<=140737488355328:=by omega
  rw[Qe f391l0.eq_1];by_cases c:ofE t=0
  ·have ih:=fun ρ=>IH (pre ++ [t]) o ρ (by rw[hk];simp) (by unfold XE at hp ⊢;rw[Lb,hp];simp[c]);have e1:=Ph (ofP t);have e2:ZK (pre.map ofP)++ ZK [ofP t]=ZK ((pre ++ [t]).map ofP):=by simp[ZK]
   simp[h4,h0,h5,hlt,hgt,hc,c,hw1,hb,e1,e2];apply ih <;> simp[h0]
  ·have ef:XE l=false:=by
    unfold XE;rw[List.all_eq_false];exact⟨t,by rw[hk];simp,by simpa using c⟩
   have e:Xu l=[]:=by simp[Xu,ef]
   refine⟨false,?_⟩;rw[e,ef];simp[h4,h0,h5,hlt,hgt,hc,c,ZK]
def Aj (l:Qc) (o:Bool) (bs:Qa) (hl:l.length < 1000000) (hm: ∀t∈l,t.mass < 1000000):QaB l bs (call tb 391 [.sl o 4 (Qb l)] bs):=by
 have h:=fun ρ=>Qhi l bs hl hm l [] false ρ rfl rfl;rw[zcc 391 rfl rfl];simp[f391C];apply h <;> simp[ZK]
def T6 (t:Tm):Bool:=isB t EXP && decide (t.kids.length=2)
def VI (t:Tm):Tm:=if T6 t then kid t 0 else t
def Xf (t:Tm):Qj:=if T6 t then ofP (kid t 1)else []
def Sh {t:Tm} (h:t.kids.length=2):t.kids=[kid t 0,kid t 1]:=by
 cases hk:t.kids with
 | nil=>rw[hk]at h;simp at h
 | cons a r=>cases r with
  | nil=>rw[hk]at h;simp at h
  | cons b r2=>cases r2 with
   | nil=>simp[kid,hk]
   | cons c r3=>rw[hk]at h;simp at h
def Pf (t:Tm): (VI t).mass<=t.mass:=by
 unfold VI;split
 ·exact Ui t 0
 ·exact Zm _
def Sw {t:Tm} (h:t.mass < 1000000):SmP (Xf t)/\∀q∈Xf t,-100000000 < q.2/\q.2 < 100000000:=by
 unfold Xf;split
 ·have:=Ui t 1;exact⟨Sx (by omega),QpD (by omega)⟩
 ·exact⟨⟨by simp,fun q h=>by cases h⟩,fun q h=>by cases h⟩
def QlC (t:Tm) (bs:Qa) (r:Out):Prop:=∃o,r=some (.tup [.agg (Qf (VI t)),.sl o 5 (QF (Xf t))],bs)
def Ag (t:Tm) (bs:Qa) (hm:t.mass < 1000000):QlC t bs (call tb 362 [.agg (Qf t)] bs):=by
 have h1:=Af t EXP bs;have e1:=Zt t;rw[zcc 362 rfl rfl];unfold EXP at h1;simp only[isN]at h1;cases c:isB t [101,120,112]
 ·have eb:T6 t=false:=by simp[T6,EXP,c]
  rw[c]at h1;refine⟨false,?_⟩;simp[f362C,h1,VI,Xf,eb,QF,Qk]
 ·rw[c]at h1;by_cases c2:t.kids.length=2
  ·have eb:T6 t=true:=by simp[T6,EXP,c,c2]
   have hk:=Sh c2;have km:=Ui t 1;have h2:=Si (kid t 1) bs (by omega);refine⟨false,?_⟩;have e2:Qb t.kids=[Qf (kid t 0),Qf (kid t 1)]:=by rw[hk];simp[Qb]
   rw[e2]at e1;simp only[e1]at h1 ⊢;simp[f362C,h1,h2,VI,Xf,eb,Qk]
  ·have eb:T6 t=false:=by simp[T6,c2]
   have c2': ¬(t.kids.length:Int)=2:=by omega
   refine⟨false,?_⟩;simp only[VI,Xf,eb];simp only[e1]at h1 ⊢;simp[f362C,h1,c2',QF];exact e1.symm
def Ab (t:Tm) (bs:Qa) (hm:t.mass < 1000000) (ha:isB t EXP=true->t.kids.length=2):QlC t bs (call tb 318 [.agg (Qf t)] bs):=by
 have h1:=P7 t EXP bs;have e1:=Zt t;rw[zcc 318 rfl rfl];cases c:isB t EXP
 ·have eb:T6 t=false:=by simp[T6,c]
  rw[c]at h1;unfold EXP at h1;refine⟨false,?_⟩;simp[f318C,h1,VI,Xf,eb,QF,Qk]
 ·have c2:=ha c;have eb:T6 t=true:=by simp[T6,c,c2]
  rw[c]at h1;unfold EXP at h1;have hk:=Sh c2;have km:=Ui t 1;have h2:=Pr (kid t 1) bs (by omega);refine⟨false,?_⟩;have e2:Qb t.kids=[Qf (kid t 0),Qf (kid t 1)]:=by rw[hk];simp[Qb]
  rw[e2]at e1;simp only[e1]at h1 ⊢;simp[f318C,h1,h2,VI,Xf,eb,Qk]
def Kl (u a:Tm):Bool:=decide (Qq (VI u) (VI a)=0) && decide (Vj (Xf u) (Z6 (Xf a))=0)
def Ho (u a:Tm):Qj:=XJ (Xf u) (Z6 (Xf a))
def Qop (u a:Tm) (bs:Qa) (r:Out):Prop:=∃o x,r=some (.tup [.sl o 5 x,.bool (Kl u a)],bs)/\(Kl u a=true->x=QF (Ho u a))
def Qi2 (u a:Tm) (bs:Qa) (hu:u.mass < 1000000) (ha:a.mass < 1000000) (h1:isB u EXP=true->u.kids.length=2) (h2:isB a EXP=true->a.kids.length=2):
  Qop u a bs (call tb 340 [.agg (Qf u),.agg (Qf a)] bs):=by
 obtain⟨o1,b1⟩:=Ab u bs hu h1;obtain⟨o2,b2⟩:=Ab a bs ha h2;obtain⟨su,_⟩:=Sw hu;obtain⟨sa,na⟩:=Sw ha;have sn:=Jj sa;have h3:=fun o=>Qi0 (Xf a) o bs sa.1 na;have h4:=fun o o2=>Aa (Xf u) (Z6 (Xf a)) o o2 bs (by have:=su.1;omega) (by have:=sn.1;omega) su.big sn.big;have mu:=Pf u;have ma:=Pf a;have h5:=Xs (VI u) (VI a) bs (by unfold big;omega) (by unfold big;omega);rw[zcc 340 rfl rfl];unfold Qop Kl Ho;by_cases c:Qq (VI u) (VI a)=0
 ·by_cases c2:Vj (Xf u) (Z6 (Xf a))=0
  ·refine⟨false,QF (XJ (Xf u) (Z6 (Xf a))),?_,fun _=>rfl⟩;simp[f340C,b1,b2,h3,h4,h5,c,c2,Qk]
  ·refine⟨false,QF (XJ (Xf u) (Z6 (Xf a))),?_,fun _=>rfl⟩;simp[f340C,b1,b2,h3,h4,h5,c,c2,Qk]
 ·refine⟨false,[],?_,fun h=>by simp[c]at h⟩;simp[f340C,b1,b2,h3,h4,h5,c,Qk]
def Ah (l:Qc) (m:Qj) (c:QO) (o o2 o3:Bool) (bs:Qa) (hl:l.length < 1000000) (hm: ∀t∈l,t.mass < 1000000) (hs:SmP m) (hc:c.length < 1000000):
  call tb 365 [.sl o 4 (Qb l),.sl o2 5 (QF m),.sl o3 1 (ZF c)] bs=some (.bool (XE l && R9 (Xu l) m c),bs):=by
 obtain⟨o4,h1⟩:=Qjd l false bs hl hm;have h2:=fun o o2 o3=>Qje (Xu l) m c o o2 o3 bs (by have:=Mo l;omega) (L1 hm) hs hc;rw[zcc 365 rfl rfl];cases k:XE l
 ·rw[k]at h1;simp[f365C,h1]
 ·rw[k]at h1;generalize R9 (Xu l) m c=X at *;simp[f365C,h1,h2]
def E9 (d:Ded) (a:Qc):Bool:=
 if d.r=14 then decide ((Ww a).2=0) && decide (Qq (Ww a).1 d.t=0)
 else if d.r=15 then Kl d.t (a.headD QM) && (XE a.tail && R9 (Xu a.tail) (Ho d.t (a.headD QM)) d.c)
 else decide (ofE d.t=0) && (XE a && R9 (Xu a) (ofP d.t) d.c)
def DJ (x:Tm×Int):Zs x= .tup [.agg (Qf x.1),.int .i64 x.2]:=rfl
def JQ:=@List.headD_cons
def Qjb (d:Ded) (a:Qc) (o:Bool) (bs:Qa) (hd:d.t.mass < 1000000) (ha: ∀x∈a,x.mass < 1000000) (hal:a.length < 10000) (hml:Qv a < 20000000) (hc:d.c.length < 1000000) (h15:d.r=15->a≠[]):
  call tb 361 [.agg (Za d),.sl o 4 (Qb a)] bs=some (.bool (E9 d a),bs):=by
 have hdb:d.t.mass < big:=by unfold big;omega
 rw[zcc 361 rfl rfl];unfold E9;by_cases r14:d.r=14
 ·have h1:=fun o=>Dm a o bs (by omega) (by omega);simp only[DJ]at h1;have h2:=Sj (Ww a).1 d.t bs (by have:=LS a;unfold big;omega) hdb;generalize Ww a=S at *;obtain⟨s1,s2⟩:=S;simp only at h1 h2 ⊢;by_cases c:s2=0
  ·simp[f361C,r14,h1,h2,c,Qk]
  ·simp[f361C,r14,h1,c,Qk]
 ·by_cases r15:d.r=15
  ·cases a with
   | nil=>exact absurd rfl (h15 r15)
   | cons a0 r=>
    have ham:=ha a0 (by simp);obtain⟨o1,b1⟩:=Ag d.t bs hd;obtain⟨o2,b2⟩:=Ag a0 bs ham;obtain⟨su,_⟩:=Sw hd;obtain⟨sa,na⟩:=Sw ham;have sn:=Jj sa;obtain⟨o3,b3⟩:=Qjc (Xf a0) false bs sa.1 sa.big na;have h4:=fun o o2=>B7 (Xf d.t) (Z6 (Xf a0)) o o2 bs (by have:=su.1;omega) (by have:=sn.1;omega) su.big sn.big;have mu:=Pf d.t;have ma:=Pf a0;have h5:=Sj (VI d.t) (VI a0) bs (by unfold big;omega) (by unfold big;omega);have h6:=fun o o2 o3=>Ah r (XJ (Xf d.t) (Z6 (Xf a0))) d.c o o2 o3 bs (by simp at hal;omega) (fun x hx=>ha x (by simp[hx])) (CQ su sn) hc;have e1:Qb (a0:: r)=Qf a0:: Qb r:=rfl;have htk: (Qb r).take r.length=Qb r:=YH (by simp[YU]);have h1r: (1:Int)<=(r.length:Int)+1:=by omega
    simp only[JQ,List.tail_cons,Kl,Ho,r14,r15,Zi,Zj];generalize (XE r && R9 (Xu r) (XJ (Xf d.t) (Z6 (Xf a0))) d.c)=X at *;by_cases c:Qq (VI d.t) (VI a0)=0
    ·by_cases c2:Vj (Xf d.t) (Z6 (Xf a0))=0
     ·simp[f361C,r15,b1,b2,b3,h4,h5,h6,c,c2,e1,htk,h1r,Qk]
     ·simp[f361C,r15,b1,b2,b3,h4,h5,c,c2,e1,htk,h1r,Qk]
    ·simp[f361C,r15,b1,b2,b3,h4,h5,c,e1,Qk]
  ·have h1:=Si d.t bs (by omega);have h6:=fun o o2 o3=>Ah a (ofP d.t) d.c o o2 o3 bs (by omega) ha (Sx hd) hc;simp only[r14,r15,Zi];generalize (XE a && R9 (Xu a) (ofP d.t) d.c)=X at *;by_cases c:ofE d.t=0
   ·simp[f361C,r14,r15,h1,h6,c,Qk]
   ·simp[f361C,r14,r15,h1,c,Qk]
def Qjq (d:Ded) (a:Qc) (o:Bool) (bs:Qa) (hr:d.r=14\/d.r=15\/d.r=16) (hd:d.t.mass < 1000000) (ha: ∀x∈a,x.mass < 1000000) (hal:a.length < 10000) (hml:Qv a < 20000000) (hc:d.c.length < 1000000) (h15:d.r=15->a≠[])
  (hdk:isB d.t EXP=true->d.t.kids.length=2) (hak: ∀x∈a,isB x EXP=true->x.kids.length=2):
  call tb 390 [.agg (Za d),.sl o 4 (Qb a)] bs=some (.bool (E9 d a),bs):=by
 have hdb:d.t.mass < big:=by unfold big;omega
 rw[zcc 390 rfl rfl];unfold E9;by_cases r14:d.r=14
 ·have h1:=fun o=>JZ a o bs (by omega) (by omega);simp only[DJ]at h1;have h2:=Xs (Ww a).1 d.t bs (by have:=LS a;unfold big;omega) hdb;generalize Ww a=S at *;obtain⟨s1,s2⟩:=S;simp only at h1 h2 ⊢;by_cases c:s2=0
  ·simp[f390C,r14,h1,h2,c,Qk]
  ·simp[f390C,r14,h1,c,Qk]
 ·by_cases r15:d.r=15
  ·cases a with
   | nil=>exact absurd rfl (h15 r15)
   | cons a0 r=>
    have ham:=ha a0 (by simp);obtain⟨o1,x,b1,hx⟩:=Qi2 d.t a0 bs hd ham hdk (hak a0 (by simp));obtain⟨su,_⟩:=Sw hd;obtain⟨sa,na⟩:=Sw ham;have sn:=Jj sa;obtain⟨o4,b4⟩:=Aj r false bs (by simp at hal;omega) (fun x hx=>ha x (by simp[hx]));have hpl:=Mo r;have h6:=fun o o2 o3=>Ak (Xu r) (Ho d.t a0) d.c o o2 o3 bs (by simp at hal;omega) (L1 fun x hx=>ha x (by simp[hx])) (CQ su sn) hc;have e1:Qb (a0:: r)=Qf a0:: Qb r:=rfl;have htk: (Qb r).take r.length=Qb r:=YH (by simp[YU]);have h1r: (1:Int)<=(r.length:Int)+1:=by omega
    simp only[JQ,List.tail_cons,r14,r15,Zi,Zj];cases q:Kl d.t a0
    ·rw[q]at b1;cases p:XE r
     ·rw[p]at b4;simp[f390C,r15,b1,b4,e1,htk,h1r,Qk]
     ·rw[p]at b4;simp[f390C,r15,b1,b4,e1,htk,h1r,Qk]
    ·rw[q]at b1;rw[hx q]at b1;cases p:XE r
     ·rw[p]at b4;simp[f390C,r15,b1,b4,e1,htk,h1r,Qk]
     ·rw[p]at b4;generalize R9 (Xu r) (Ho d.t a0) d.c=X at *;simp[f390C,r15,b1,b4,h6,e1,htk,h1r,Qk]
  ·have r16:d.r=16:=by omega
   have h1:=Pr d.t bs (by omega);obtain⟨o4,b4⟩:=Aj a false bs (by omega) ha;have hpl:=Mo a;have h6:=fun o o2 o3=>Ak (Xu a) (ofP d.t) d.c o o2 o3 bs (by omega) (L1 ha) (Sx hd) hc;simp only[r14,r15,Zi];cases p:XE a
   ·rw[p]at b4;simp[f390C,r16,h1,b4,Qk]
   ·rw[p]at b4;generalize R9 (Xu a) (ofP d.t) d.c=X at *;by_cases c:ofE d.t=0
    ·simp[f390C,r16,h1,b4,h6,c,Qk]
    ·simp[f390C,r16,h1,b4,c,Qk]
def Po {t:Tm} (h:Zc t=0):Zh t=true/\t.mass<=13200:=by
 unfold Zc at h;by_cases c:thV t=0
 ·obtain⟨_,_,h3,h4,_⟩:=Kp c;exact⟨h3,h4⟩
 ·simp[c]at h
def AN {t:Tm} (hg:Zh t=true) (hk:t.kind=3):t.sort=0/\YF t.name t.kids.length=true:=by
 rw[K5]at hg;simp[hk]at hg;exact hg.1
def CY (n:Qu):Prop:=n=YE\/n=ENC\/n=Xw\/n=YZ\/n=EXP
def gd2 {t:Tm} {n:Qu} (hg:Zh t=true) (h:isB t n=true) (hn:CY n):t.kids.length=2/\t.sort=0:=by
 obtain⟨h1,rfl⟩:=Sm.1 h;obtain⟨h2,h3⟩:=AN hg h1;refine⟨?_,h2⟩;unfold YF at h3;rw[Qn (by unfold CY at hn;rcases hn with h | h | h | h | h <;> simp[h])]at h3;simpa using h3
def gdp {t:Tm} (hg:Zh t=true) (h:isB t PK=true):t.kids.length=1/\t.sort=0:=by
 obtain⟨h1,h4⟩:=Sm.1 h;obtain⟨h2,h3⟩:=AN hg h1;refine⟨?_,h2⟩;rw[h4]at h3;simpa[YF,PK,YE,ENC,Xw,YZ,EXP,DEC,Yj,YD]using h3
def Qfx (t:Tm):t= .mk t.kind t.name t.sort t.kids:=by cases t;rfl
def Ax {t u v:Tm} {n:Qu} (hg:Zh t=true) (hn:CY n):decide (Qq t (.mk 3 n 0 [u,v])=0)=(WW t n 0 u && decide (Qq (kid t 1) v=0)):=by
 rw[JP];unfold WW;cases c:isB t n
 ·simp only[isN,c,JS,Qy,Wt,Yl,iff_false];intro e;subst e;simp[isB]at c
 ·obtain⟨h1,h2⟩:=gd2 hg c hn;obtain⟨h3,h4⟩:=Sm.1 c;have hk:=Sh h1;have e:t= .mk 3 n 0 [kid t 0,kid t 1]:=by
   have:=Qfx t;rw[h3,h4,h2,hk]at this;exact this
  have e0:t.kids[0]? =some (kid t 0):=by rw[hk];rfl
  simp only[isN,c,e0,VZ,Qp,Qy,Wt];constructor
  ·intro h;rw[e]at h;injection h with _ _ _ h
   injection h with ha h
   injection h with hb h
   exact⟨ha,hb⟩
  ·rintro⟨ha,hb⟩
   rw[ha,hb]at e;exact e
def QoP {t v:Tm} (hg:Zh t=true):decide (Qq t (.mk 3 PK 0 [v])=0)=WW t PK 0 v:=by
 rw[JP];unfold WW;cases c:isB t PK
 ·simp only[isN,c,JS,Qy,Wt,Yl,iff_false];intro e;subst e;simp[isB]at c
 ·obtain⟨h1,h2⟩:=gdp hg c;obtain⟨h3,h4⟩:=Sm.1 c;cases hk:t.kids with
  | nil=>rw[hk]at h1;simp at h1
  | cons a r=>
   cases r with
   | cons b r2=>rw[hk]at h1;simp at h1
   | nil=>
    have e:t= .mk 3 PK 0 [a]:=by
     have:=Qfx t;rw[h3,h4,h2,hk]at this;exact this
    simp only[isN,c,Ze,VZ,Qy,Wt];constructor
    ·intro h;rw[e]at h;injection h with _ _ _ h
     injection h
    ·intro h;rw[h]at e;exact e
def rtB (ks:Qc) (d:Ded) (a:Qc):Bool:=
 if d.r=1 then(match ks[d.n.toNat]? with | some k=>decide (Qq k d.t=0) | none=>false)
 else if d.r=2 then TR d.t
 else if d.r=3\/d.r=6\/d.r=8\/d.r=10\/d.r=11\/d.r=13 then decide (Qq d.t (.mk 3 (X0 d.r) 0 a)=0)
 else if d.r=4 then WW (a.headD QM) YE 0 d.t
 else if d.r=5 then WW (a.headD QM) YE 1 d.t
 else if d.r=12 then WW (a.headD QM) YZ 0 d.t
 else if d.r=7 then WW (a.headD QM) ENC 0 d.t && decide (Qq (kid (a.headD QM) 1) (a.getD 1 QM)=0)
 else if d.r=9 then WW (a.headD QM) Xw 0 d.t && WW (kid (a.headD QM) 1) PK 0 (a.getD 1 QM)
 else E9 d a
structure AOk (d:Ded) (a:List Tm):Prop where
 ok:rOk d.r=true
 n0:0<=d.n
 n1:d.n<=1000000
 len:0<=Xv d.r->(a.length:Int)=Xv d.r
 p15:d.r=15->a≠[]
 al:a.length < 10000
 ml:Qv a < 20000000
 good: ∀x∈a,Zc x=0
 td:Zc d.t=0
 cl:d.c.length < 1000000
def AOk.gd {d:Ded} {a:Qc} (h:AOk d a): ∀x∈a,Zh x=true/\x.mass < 1000000:=fun x hx=>by
 obtain⟨h1,h2⟩:=Po (h.good x hx);exact⟨h1,by omega⟩
def AOk.tm {d:Ded} {a:Qc} (h:AOk d a):d.t.mass < 1000000:=by have:=(Po h.td).2;omega
def AOk.one {d:Ded} {a:Qc} (h:AOk d a) (hr:Xv d.r=1): ∃x,a=[x]:=by
 have:=h.len (by omega);rw[hr]at this;cases a with
 | nil=>simp at this
 | cons x r=>cases r with
  | nil=>exact⟨x,rfl⟩
  | cons y r2=>simp at this;omega
def AOk.two {d:Ded} {a:Qc} (h:AOk d a) (hr:Xv d.r=2): ∃x y,a=[x,y]:=by
 have:=h.len (by omega);rw[hr]at this;cases a with
 | nil=>simp at this
 | cons x r=>cases r with
  | nil=>simp at this
  | cons y r2=>cases r2 with
   | nil=>exact⟨x,y,rfl⟩
   | cons z r3=>simp at this;omega
def Qgv (w:Qu) (a:Qc):Qf (.mk 3 w 0 a)=[.int .i64 3,.str w,.int .i64 0,.sl false 4 (Qb a)]:=by simp[Qf]
def Qri (ks:Qc) (d:Ded) (a:Qc) (bs:Qa) (h:AOk d a) (hks: ∀x∈ks,x.mass < 1000000) (hkl:ks.length < 1000000) (o:Bool) (ρ:Ql)
  (h0:ρ 0= .sl o 4 (Qb ks)) (h7:ρ 7= .bx (Za d)) (h8:ρ 8= .sl true 4 (Qb a)):
  R tb f351r0 ρ bs (QN f351 bs)=some (.bool (rtB ks d a),bs):=by
 have htm:=h.tm;have htb:d.t.mass < big:=by unfold big;omega
 have gd:=h.gd;have hml:=h.ml;have hal:=h.al;unfold rtB;by_cases r1:d.r=1
 ·simp only[r1,Zj];have hn:=h.n0;cases hk:ks[d.n.toNat]? with
  | none=>
   have hle:ks.length<=d.n.toNat:=by
    rcases QT d.n.toNat ks.length with h | h
    ·rw[Zq h]at hk;cases hk
    ·exact h
   have hlt: ¬d.n < (ks.length:Int):=by omega
   simp[-getElem?_pos,Zb,f351r0,h0,h7,h8,r1,hlt,Qk]
  | some k=>
   have hlt2:=(WN.1 hk).1;have hlt:d.n < (ks.length:Int):=by omega
   have h2:=Sj k d.t bs (by have:=hks k (XN hk);unfold big;omega) htb;simp[-getElem?_pos,Zb,f351r0,h0,h7,h8,r1,hlt,hn,hk,h2,Qk]
 ·by_cases r2:d.r=2
  ·have h2:=Qiy d.t bs htm;simp[f351r0,h0,h7,h8,r2,h2,Qk]
  ·have c353:=Ae d.r bs;have hwl: (X0 d.r).length<=7:=by
    rcases R4 h.ok with e | e | e | e | e | e | e | e | e | e | e | e | e | e | e | e <;> rw[e] <;> decide
   have hc:=Sj d.t (.mk 3 (X0 d.r) 0 a) bs htb (by rw[QK];simp only[Zz,Ya];unfold big;omega);rw[Qgv]at hc;by_cases r3:d.r=3\/d.r=6\/d.r=8\/d.r=10\/d.r=11\/d.r=13
   ·simp only[r1,r2,r3,Zj,Zi];generalize X0 d.r=w at *;generalize Xv d.r=n at *;rcases r3 with e | e | e | e | e | e <;> (rw[e]at c353;simp[f351r0,h0,h7,h8,e,c353,hc,Qk])
   ·simp only[r1,r2,r3,Zi];clear hc c353;by_cases r4:d.r=4
    ·obtain⟨x,rfl⟩:=h.one (by rw[r4];rfl);obtain⟨g1,g2⟩:=gd x (by simp);have h2:=Ps x YE 0 d.t bs (fun hb=>by have:=(gd2 g1 hb (.inl rfl)).1;omega) (by unfold big;omega) htb (by omega);rw[show((0:Nat):Int)=0 from rfl]at h2;unfold YE at h2 ⊢;simp[f351r0,h0,h7,h8,r4,h2,Qb,Qk]
    ·by_cases r5:d.r=5
     ·obtain⟨x,rfl⟩:=h.one (by rw[r5];rfl);obtain⟨g1,g2⟩:=gd x (by simp);have h2:=Ps x YE 1 d.t bs (fun hb=>by have:=(gd2 g1 hb (.inl rfl)).1;omega) (by unfold big;omega) htb (by omega);rw[show((1:Nat):Int)=1 from rfl]at h2;unfold YE at h2 ⊢;simp[f351r0,h0,h7,h8,r5,h2,Qb,Qk]
     ·by_cases r12:d.r=12
      ·obtain⟨x,rfl⟩:=h.one (by rw[r12];rfl);obtain⟨g1,g2⟩:=gd x (by simp);have h2:=Ps x YZ 0 d.t bs (fun hb=>by have:=(gd2 g1 hb (.inr (.inr (.inr (.inl rfl))))).1;omega) (by unfold big;omega) htb (by omega);rw[show((0:Nat):Int)=0 from rfl]at h2;unfold YZ at h2 ⊢;simp[f351r0,h0,h7,h8,r12,h2,Qb,Qk]
      ·by_cases r7:d.r=7
       ·obtain⟨x,y,rfl⟩:=h.two (by rw[r7];rfl);obtain⟨g1,g2⟩:=gd x (by simp);obtain⟨g3,g4⟩:=gd y (by simp);have h2:=Ps x ENC 0 d.t bs (fun hb=>by have:=(gd2 g1 hb (.inr (.inl rfl))).1;omega) (by unfold big;omega) htb (by omega);have h3:=Sj (kid x 1) y bs (by have:=Ui x 1;unfold big;omega) (by unfold big;omega);simp only[r4,r5,r12,r7,Zi,Zj,JQ];rw[show((0:Nat):Int)=0 from rfl]at h2;cases c:WW x ENC 0 d.t
        ·rw[c]at h2;unfold ENC at h2;simp[f351r0,h0,h7,h8,r7,h2,Qb,Qk]
        ·rw[c]at h2;have hb:isB x ENC=true:=by
          unfold WW at c;simp only[Qp]at c;exact c.1
         have hk:=Sh (gd2 g1 hb (.inr (.inl rfl))).1;have e1:=Zt x;have e2:Qb x.kids=[Qf (kid x 0),Qf (kid x 1)]:=by rw[hk];simp[Qb]
         rw[e2]at e1;unfold ENC at h2;simp only[e1]at h2;simp[f351r0,h0,h7,h8,r7,h2,h3,Qb,e1,Qk]
       ·by_cases r9:d.r=9
        ·obtain⟨x,y,rfl⟩:=h.two (by rw[r9];rfl);obtain⟨g1,g2⟩:=gd x (by simp);obtain⟨g3,g4⟩:=gd y (by simp);have h2:=Ps x Xw 0 d.t bs (fun hb=>by have:=(gd2 g1 hb (.inr (.inr (.inl rfl)))).1;omega) (by unfold big;omega) htb (by omega);have h3:=Ps (kid x 1) PK 0 y bs (fun hb=>by have:=(gdp (Oc g1 1) hb).1;omega) (by have:=Ui x 1;unfold big;omega) (by unfold big;omega) (by omega);simp only[r4,r5,r12,r7,r9,Zi,Zj,JQ];rw[show((0:Nat):Int)=0 from rfl]at h2 h3;cases c:WW x Xw 0 d.t
         ·rw[c]at h2;unfold Xw at h2;simp[f351r0,h0,h7,h8,r9,h2,Qb,Qk]
         ·rw[c]at h2;have hb:isB x Xw=true:=by
           unfold WW at c;simp only[Qp]at c;exact c.1
          have hk:=Sh (gd2 g1 hb (.inr (.inr (.inl rfl)))).1;have e1:=Zt x;have e2:Qb x.kids=[Qf (kid x 0),Qf (kid x 1)]:=by rw[hk];simp[Qb]
          rw[e2]at e1;unfold Xw at h2;unfold PK at h3 ⊢;simp only[e1]at h2;simp[f351r0,h0,h7,h8,r9,h2,h3,Qb,e1,Qk]
        ·have h2:=Qjb d a false bs htm (fun x hx=>(gd x hx).2) h.al h.ml h.cl h.p15;simp only[r4,r5,r12,r7,r9,Zi];have q3: ¬d.r=3:=fun e=>r3 (.inl e);have q6: ¬d.r=6:=fun e=>r3 (.inr (.inl e));have q8: ¬d.r=8:=fun e=>r3 (.inr (.inr (.inl e)));have q10: ¬d.r=10:=fun e=>r3 (.inr (.inr (.inr (.inl e))));have q11: ¬d.r=11:=fun e=>r3 (.inr (.inr (.inr (.inr (.inl e)))));have q13: ¬d.r=13:=fun e=>r3 (.inr (.inr (.inr (.inr (.inr e)))));simp[f351r0,h0,h7,h8,r1,r2,q3,q6,q8,q10,q11,q13,r4,r5,r12,r7,r9,h2,Qk]
end Go.Am
