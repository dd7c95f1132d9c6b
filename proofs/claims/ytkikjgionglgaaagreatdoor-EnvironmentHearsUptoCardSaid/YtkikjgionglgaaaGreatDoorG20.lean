/-
  En3, En4, En5, En6, En7, En8, En9, En10.
-/
import Derived.Test.YtkikjgionglgaaaGreatDoorG19
set_option linter.unusedVariables false
set_option linter.unusedSimpArgs false
namespace Go.Am
set_option maxRecDepth 8000
def agN (a:Nm):Tm:= .mk 2 a 1 []
def skN (a:Nm):Tm:= .mk 3 [115,107] 0 [agN a]
def pkN (a:Nm):Tm:= .mk 3 [112,107] 0 [skN a]
def shN (a b:Nm):Tm:= .mk 3 [115,104,107] 0 [agN a,agN b]
theorem Oc (a:Nm) (bs:List (List AV)):call F.tb 481 [.str a] bs=some (.agg (Qb (agN a)),bs):=by
 rw[Qa F.tb_481 _ _ rfl];simp[F.f481C,agN,Qb,encTs]
theorem Ml (n:Nm) (ks:List Tm) (o:Bool) (bs:List (List AV)):call F.tb 491 [.str n,.sl o 4 (encTs ks)] bs=some (.agg (Qb (.mk 3 n 0 ks)),bs):=by
 have hg:=encTs_gp ks;rw[Qa F.tb_491 _ _ rfl];simp[F.f491C,Qb,hg]
theorem HS (a:Nm) (bs:List (List AV)):call F.tb 490 [.str a] bs=some (.agg (Qb (skN a)),bs):=by
 have h1:=Oc a bs;have h2:=fun o=>Ml [115,107] [agN a] o bs;simp only[encTs]at h2;rw[Qa F.tb_490 _ _ rfl];simp[F.f490C,h1,h2,skN]
theorem QbK (a:Nm) (bs:List (List AV)):call F.tb 494 [.str a] bs=some (.agg (Qb (pkN a)),bs):=by
 have h1:=HS a bs;have h2:=fun o=>Ml [112,107] [skN a] o bs;simp only[encTs]at h2;rw[Qa F.tb_494 _ _ rfl];simp[F.f494C,h1,h2,pkN]
theorem QbI (a b:Nm) (bs:List (List AV)):call F.tb 492 [.str a,.str b] bs=some (.agg (Qb (shN a b)),bs):=by
 have h1:=Oc a bs;have h3:=Oc b bs;have h2:=fun o=>Ml [115,104,107] [agN a,agN b] o bs;simp only[encTs]at h2;rw[Qa F.tb_492 _ _ rfl];simp[F.f492C,h1,h3,h2,shN]
theorem Mm (a:Nm) (bs:List (List AV)):call F.tb 578 [.str a] bs=some (.agg (Qb (agN a)),bs):=by
 have h:=Rw a 1 bs;rw[Qa F.tb_578 _ _ rfl];simp[F.f578C,h,agN]
theorem H3 (a:Nm) (bs:List (List AV)):call F.tb 577 [.str a] bs=some (.agg (Qb (skN a)),bs):=by
 have h1:=Mm a bs;have h2:=fun o=>X2 [115,107] [agN a] o bs (by simp);simp only[encTs]at h2;rw[Qa F.tb_577 _ _ rfl];simp[F.f577C,h1,h2,skN]
theorem QbX (a:Nm) (bs:List (List AV)):call F.tb 576 [.str a] bs=some (.agg (Qb (pkN a)),bs):=by
 have h1:=H3 a bs;have h2:=fun o=>X2 [112,107] [skN a] o bs (by simp);simp only[encTs]at h2;rw[Qa F.tb_576 _ _ rfl];simp[F.f576C,h1,h2,pkN]
theorem QbZ (a b:Nm) (bs:List (List AV)):call F.tb 580 [.str a,.str b] bs=some (.agg (Qb (shN a b)),bs):=by
 have h1:=Mm a bs;have h3:=Mm b bs;have h2:=fun o=>X2 [115,104,107] [agN a,agN b] o bs (by simp);simp only[encTs]at h2;rw[Qa F.tb_580 _ _ rfl];simp[F.f580C,h1,h3,h2,shN]
def VR (a:Nm):Bool:= !ZT a || a.contains 35
def agE:List Nm→List Nm→Int
 | _,[]=>0
 | pre,a:: r=>if VR a then 2 else if pre.contains a then 5 else agE (pre ++ [a]) r
def bdE (ags:List Nm):Int→List Nm→Int
 | _,[]=>0
 | last,b:: r=>if ixF ags b < 0 then 4 else if ixF ags b≤last then 5 else bdE ags (ixF ags b) r
def Ya (ags bad:List Nm):Int:=if ags.length=0 then 8 else if 6 < ags.length then 3 else if agE [] ags≠0 then agE [] ags else bdE ags (-1) bad
def QL (ags bad:List Nm):List AV:=[.sl false 1 (QO ags),.sl false 1 (QO bad)]
theorem Ea (a:Nm):decide (QM (agN a)≠0)= !ZT a:=by
 unfold QM agN;simp only[Xc,errL,V9,Tm.nodes,Tm.depth,nodesL,depthL];cases h:ZT a <;> simp[h]
theorem Qge (ags bad:List Nm) (bs:List (List AV)) (ha:ags.length < 1000000) (hb:bad.length < 1000000):
  ∀(post pre:List Nm) (last:Int) (o:Bool) (ρ:Nat→AV),bad=pre ++ post→ρ 1= .bx (QL ags bad)→ρ 5= .int .i64 last→ρ 43= .sl o 1 (QO bad)→ρ 44= .int .i64 bad.length→ρ 45= .int .i64 pre.length→
  R F.tb (.loop F.f480l1) ρ bs (Qi 3 (Qs F.tb F.f480r0 (Qy F.f480 bs)))=some (.int .i64 (bdE ags last post),bs):=by
 intro post
 induction post with
 | nil=>
  intro pre last o ρ hk h1 h5 h43 h44 h45;simp only[List.append_nil]at hk;rw[← hk]at h45;rw[Qc F.f480l1.eq_1];simp[h1,h5,h43,h44,h45,bdE,F.f480r0]
 | cons b post IH=>
  intro pre last o ρ hk h1 h5 h43 h44 h45;have hgt:=ZU (Qn hk);have hll:=Qv hk;have hw1:=wr1 pre.length (by omega);have hlt:=Qw hk;have hc:=Jx ags b false bs ha;have ih:=fun ρ=>IH (pre ++ [b]) (ixF ags b) o ρ (by rw[hk];simp);rw[Qc F.f480l1.eq_1];simp only[bdE];generalize ixF ags b=z at *;simp only[QL]at h1;by_cases c1:z < 0
  ·simp[h1,h5,h43,h44,h45,hlt,hgt,hc,c1]
  ·by_cases c2:z≤last
   ·simp[h1,h5,h43,h44,h45,hlt,hgt,hc,c1,c2]
   ·rw[if_neg c1,if_neg c2];simp[h1,h5,h43,h44,h45,hlt,hgt,hc,c1,c2,hw1];apply ih <;> simp[h1,h43,h44,QL]
theorem Qgd (ags bad:List Nm) (bs:List (List AV)) (ha:ags.length < 1000000) (hb:bad.length < 1000000) (hm: ∀a∈ags,a.length < 1000000):
  ∀(post pre:List Nm) (o:Bool) (ρ:Nat→AV),ags=pre ++ post→ρ 1= .bx (QL ags bad)→ρ 20= .sl o 1 (QO ags)→ρ 21= .int .i64 ags.length→ρ 22= .int .i64 pre.length→
  R F.tb (.loop F.f480l0) ρ bs (Qi 1 (Qs F.tb F.f480r1 (Qy F.f480 bs)))=some (.int .i64 (if agE pre post≠0 then agE pre post else bdE ags (-1) bad),bs):=by
 intro post
 induction post with
 | nil=>
  intro pre o ρ hk h1 h20 h21 h22;simp only[List.append_nil]at hk;rw[← hk]at h22;have h:=fun ρ=>Qge ags bad bs ha hb bad [] (-1) false ρ rfl;rw[Qc F.f480l0.eq_1];simp only[QL]at h1;simp[h1,h20,h21,h22,agE,F.f480r1];apply h <;> simp[h1,QL,Qz]
 | cons a post IH=>
  intro pre o ρ hk h1 h20 h21 h22;have hgt:=ZU (Qn hk);have hll:=Qv hk;have hw1:=wr1 pre.length (by omega);have hlt:=Qw hk;have hle:pre.length≤ags.length:=by omega
  have hlei: (pre.length:Int)≤(ags.length:Int):=by omega
  have htk:=Nt hk;have c481:=Oc a bs;have am: (agN a).mass < big:=by have:=hm a (by rw[hk];simp);simp only[agN,Tm.mass,massL,List.length_nil];unfold big;omega
  have c6:=XI (agN a) bs am;have c482:=BV a bs;have c161:=Rv pre a false bs (by omega);have hv:=Ea a;have ih:=fun ρ=>IH (pre ++ [a]) o ρ (by rw[hk];simp);rw[Qc F.f480l0.eq_1];simp only[agE];simp only[QL]at h1;have v1:ZT a=true→QM (agN a)=0:=fun e=>by rw[e]at hv;simpa using hv
  have v2:ZT a=false→¬QM (agN a)=0:=fun e=>by rw[e]at hv;simpa using hv
  clear hv;cases hX:ZT a
  ·have v0:=v2 hX;have eb:VR a=true:=by simp[VR,hX]
   simp[h1,h20,h21,h22,hlt,hgt,c481,c6,v0,eb]
  ·have v0:=v1 hX;cases hY:a.contains 35
   ·have eb:VR a=false:=by simp only[VR,hX,hY];rfl
    rw[hY]at c482;rcases Bool.eq_false_or_eq_true (pre.contains a)with hZ | hZ
    ·rw[hZ]at c161;simp[h1,h20,h21,h22,hlt,hgt,c481,c6,v0,c482,hlei,htk,c161,hw1,Qz,eb,hZ,-List.contains_eq_mem]
    ·rw[hZ]at c161;simp[h1,h20,h21,h22,hlt,hgt,c481,c6,v0,c482,hlei,htk,c161,hw1,Qz,eb,hZ,-List.contains_eq_mem];have ih2:=ih;simp only[Ne,ite_not]at ih2;rw[ih2] <;> simp[h1,h20,h21,QL]
   ·have eb:VR a=true:=by simp only[VR,hX,hY];rfl
    rw[hY]at c482;simp[h1,h20,h21,h22,hlt,hgt,c481,c6,v0,c482,eb]
theorem QbG (ags bad:List Nm) (bs:List (List AV)) (ha:ags.length < 1000000) (hb:bad.length < 1000000) (hm: ∀a∈ags,a.length < 1000000):
  call F.tb 480 [.agg (QL ags bad)] bs=some (.int .i64 (Ya ags bad),bs):=by
 have h:=fun ρ=>Qgd ags bad bs ha hb hm ags [] false ρ rfl;rw[Qa F.tb_480 _ _ rfl];unfold Ya;by_cases c0:ags.length=0
 ·have:ags=[]:=List.eq_nil_of_length_eq_zero c0;subst this;simp[F.f480C,QL,QO]
 ·have c0':ags≠[]:=fun e=>c0 (by simp[e]);by_cases c1:6 < ags.length
  ·have c1': (6:Int) < (ags.length:Int):=by omega
   simp[F.f480C,QL,Qz,c0,c0',c1,c1']
  ·have c1': ¬(6:Int) < (ags.length:Int):=by omega
   rw[if_neg c0,if_neg c1];simp[F.f480C,QL,Qz,c0,c0',c1'];have h2:=h;simp only[Ne,ite_not]at h2;rw[h2] <;> simp[QL]
theorem QgB (ags bad:List Nm) (bs:List (List AV)) (ha:ags.length < 1000000) (hb:bad.length < 1000000):
  ∀(post pre:List Nm) (last:Int) (ρ:Nat→AV),bad=pre ++ post→ρ 1= .bx (QL ags bad)→ρ 4= .int .i64 last→ρ 5= .int .i64 pre.length→
  R F.tb (.loop F.f572l1) ρ bs (Qi 2 (Qs F.tb F.f572r0 (Qy F.f572 bs)))=some (.int .i64 (bdE ags last post),bs):=by
 intro post
 induction post with
 | nil=>
  intro pre last ρ hk h1 h4 h5;simp only[List.append_nil]at hk;rw[← hk]at h5;simp only[QL]at h1;rw[Qc F.f572l1.eq_1];simp[h1,h4,h5,Qz,bdE,F.f572r0]
 | cons b post IH=>
  intro pre last ρ hk h1 h4 h5;have hgt:=ZU (Qn hk);have hll:=Qv hk;have hw1:=wr1 pre.length (by omega);have hlt:=Qw hk;have hc:=Rf ags b false bs ha;have ih:=fun ρ=>IH (pre ++ [b]) (ixF ags b) ρ (by rw[hk];simp);rw[Qc F.f572l1.eq_1];simp only[bdE];generalize ixF ags b=z at *;simp only[QL]at h1;by_cases c1:z < 0
  ·simp[h1,h4,h5,Qz,hlt,hgt,hc,c1]
  ·by_cases c2:z≤last
   ·simp[h1,h4,h5,Qz,hlt,hgt,hc,c1,c2]
   ·rw[if_neg c1,if_neg c2];simp[h1,h4,h5,Qz,hlt,hgt,hc,c1,c2,hw1];apply ih <;> simp[h1,QL]
theorem QgA (ags bad:List Nm) (bs:List (List AV)) (ha:ags.length < 1000000) (hb:bad.length < 1000000) (hm: ∀a∈ags,a.length < 1000000):
  ∀(post pre:List Nm) (ρ:Nat→AV),ags=pre ++ post→ρ 1= .bx (QL ags bad)→ρ 3= .int .i64 pre.length→
  R F.tb (.loop F.f572l0) ρ bs (Qi 0 (Qs F.tb F.f572r1 (Qy F.f572 bs)))=some (.int .i64 (if agE pre post≠0 then agE pre post else bdE ags (-1) bad),bs):=by
 intro post
 induction post with
 | nil=>
  intro pre ρ hk h1 h3;simp only[List.append_nil]at hk;rw[← hk]at h3;have h:=fun ρ=>QgB ags bad bs ha hb bad [] (-1) ρ rfl;rw[Qc F.f572l0.eq_1];simp only[QL]at h1;simp[h1,h3,Qz,agE,F.f572r1];apply h <;> simp[h1,QL,Qz]
 | cons a post IH=>
  intro pre ρ hk h1 h3;have hgt:=ZU (Qn hk);have hll:=Qv hk;have hw1:=wr1 pre.length (by omega);have hlt:=Qw hk;have hlei: (pre.length:Int)≤(ags.length:Int):=by omega
  have htk:=Nt hk;have am:=hm a (by rw[hk];simp);have c57:=Pi a bs (by omega);have c573:=QbV a bs am;have c574:=Rf pre a false bs (by omega);have hge:=PJ (l:=pre) (x:=a);have ih:=fun ρ=>IH (pre ++ [a]) ρ (by rw[hk];simp);rw[Qc F.f572l0.eq_1];simp only[agE];simp only[QL]at h1;cases hX:ZT a
  ·have eb:VR a=true:=by simp[VR,hX]
   rw[hX]at c57;simp[h1,h3,Qz,hlt,hgt,c57,eb]
  ·rw[hX]at c57;cases hY:a.contains 35
   ·have eb:VR a=false:=by simp only[VR,hX,hY];rfl
    rw[hY]at c573;rcases Bool.eq_false_or_eq_true (pre.contains a)with hZ | hZ
    ·rw[hZ]at hge;have hg2:0≤ixF pre a:=by simpa using hge
     simp[h1,h3,Qz,hlt,hgt,c57,c573,hlei,htk,c574,hg2,hw1,eb,hZ,-List.contains_eq_mem]
    ·rw[hZ]at hge;have hg2: ¬0≤ixF pre a:=by simpa using hge
     simp[h1,h3,Qz,hlt,hgt,c57,c573,hlei,htk,c574,hg2,hw1,eb,hZ,-List.contains_eq_mem];have ih2:=ih;simp only[Ne,ite_not]at ih2;rw[ih2] <;> simp[h1,QL]
   ·have eb:VR a=true:=by simp only[VR,hX,hY];rfl
    rw[hY]at c573;simp[h1,h3,Qz,hlt,hgt,c57,c573,eb]
theorem H2 (ags bad:List Nm) (bs:List (List AV)) (ha:ags.length < 1000000) (hb:bad.length < 1000000) (hm: ∀a∈ags,a.length < 1000000):
  call F.tb 572 [.agg (QL ags bad)] bs=some (.int .i64 (Ya ags bad),bs):=by
 have h:=fun ρ=>QgA ags bad bs ha hb hm ags [] ρ rfl;rw[Qa F.tb_572 _ _ rfl];unfold Ya;by_cases c0:ags.length=0
 ·have:ags=[]:=List.eq_nil_of_length_eq_zero c0;subst this;simp[F.f572C,QL,QO]
 ·have c0':ags≠[]:=fun e=>c0 (by simp[e]);by_cases c1:6 < ags.length
  ·have c1': (6:Int) < (ags.length:Int):=by omega
   simp[F.f572C,QL,Qz,c0,c0',c1,c1']
  ·have c1': ¬(6:Int) < (ags.length:Int):=by omega
   rw[if_neg c0,if_neg c1];simp[F.f572C,QL,Qz,c0,c0',c1'];have h2:=h;simp only[Ne,ite_not]at h2;rw[h2] <;> simp[QL]
def VD (l:List Nm):Bool:=l.all (fun s=>decide (s.length≤60)) && decide (l.length≤20)
theorem OZ {a b:List Nm} (h:VD (a ++ b)=true):a.length≤20∧b.length≤20:=by
 unfold VD at h;simp only[Bool.and_eq_true,decide_eq_true_eq,List.length_append]at h;omega
theorem Cg (a b:List Nm):QO (a ++ b)=QO a ++ QO b:=by simp[QO]
theorem Qcx (l:List Nm) (bs:List (List AV)) (hl:l.length < 30000000000):
  ∀(post pre:List Nm) (o:Bool) (ρ:Nat→AV),l=pre ++ post→pre.all (fun s=>decide (s.length≤60))=true→ρ 3= .sl o 1 (QO l)→ρ 4= .int .i64 pre.length→
  R F.tb (.loop F.f569l0) ρ bs (Qi 0 (Qs F.tb F.f569r0 (Qy F.f569 bs)))=some (.bool (VD l),bs):=by
 intro post
 induction post with
 | nil=>
  intro pre o ρ hk hp h3 h4;simp only[List.append_nil]at hk;rw[← hk]at h4 hp;have e:VD l=decide ((l.length:Int)≤20):=by
   unfold VD;rw[hp,Bool.true_and];exact decide_eq_decide.2 (by omega)
  rw[Qc F.f569l0.eq_1,e];simp[h3,h4,Qz,F.f569r0]
 | cons a post IH=>
  intro pre o ρ hk hp h3 h4;have hgt:=ZU (Qn hk);have hll:=Qv hk;have hw1:=wr1 pre.length (by omega);have hlt:=Qw hk;have ih:=fun ρ hp=>IH (pre ++ [a]) o ρ (by rw[hk];simp) hp;rw[Qc F.f569l0.eq_1];by_cases c:60 < a.length
  ·have e:VD l=false:=by
    unfold VD;have:l.all (fun s=>decide (s.length≤60))=false:=by
     rw[List.all_eq_false];exact⟨a,by rw[hk];simp,by simp;omega⟩
    rw[this];rfl
   have ci: (60:Int) < (a.length:Int):=by omega
   rw[e];simp[h3,h4,Qz,hlt,hgt,ci]
  ·have ci: ¬(60:Int) < (a.length:Int):=by omega
   have ih2:=fun ρ=>ih ρ (by rw[List.all_append,hp];simp;omega);simp[h3,h4,Qz,hlt,hgt,ci,hw1];apply ih2 <;> simp[h3]
theorem H0 (ags bad:List Nm) (bs:List (List AV)) (ha:ags.length < 10000000000) (hb:bad.length < 10000000000):
  call F.tb 569 [.agg (QL ags bad)] bs=some (.bool (VD (ags ++ bad)),bs):=by
 have h:=fun o ρ=>Qcx (ags ++ bad) bs (by simp;omega) (ags ++ bad) [] o ρ rfl rfl;simp only[Cg]at h;have e1:ags.length*16≤140737488355328:=by omega
 have e2: (ags.length+bad.length)*16≤140737488355328:=by omega
 rw[Qa F.tb_569 _ _ rfl];simp[F.f569C,QL,Qz,e1,e2];refine h true _ ?_ ?_ <;> simp
theorem Qc8 (a:List Nm) (r1 r2:Int) (bs:List (List AV)) (hl:a.length < 1000000):
  ∀(post pre:List Nm) (o o2:Bool) (ρ:Nat→AV),a=pre ++ post→ρ 2= .bx [.int .i64 r1,.sl o 1 (QO a)]→ρ 3= .bx [.int .i64 r2,.sl o2 1 (QO a)]→ρ 5= .int .i64 pre.length→
  R F.tb (.loop F.f583l0) ρ bs (Qi 0 (Qs F.tb F.f583r0 (Qy F.f583 bs)))=some (.bool true,bs):=by
 intro post
 induction post with
 | nil=>
  intro pre o o2 ρ hk h2 h3 h5;simp only[List.append_nil]at hk;rw[← hk]at h5;rw[Qc F.f583l0.eq_1];simp[h2,h3,h5,Qz,F.f583r0]
 | cons x post IH=>
  intro pre o o2 ρ hk h2 h3 h5;have hgt:=ZU (Qn hk);have hll:=Qv hk;have hw1:=wr1 pre.length (by omega);have hlt:=Qw hk;have ih:=fun ρ=>IH (pre ++ [x]) o o2 ρ (by rw[hk];simp);rw[Qc F.f583l0.eq_1];simp[h2,h3,h5,Qz,hlt,hgt,hw1];apply ih <;> simp[h2,h3]
theorem H4 (a:List Nm) (o o2:Bool) (bs:List (List AV)) (hl:a.length < 1000000):
  call F.tb 583 [.agg [.int .i64 0,.sl o 1 (QO a)],.agg [.int .i64 0,.sl o2 1 (QO a)]] bs=some (.bool true,bs):=by
 have h:=fun ρ=>Qc8 a 0 0 bs hl a [] false false ρ rfl;rw[Qa F.tb_583 _ _ rfl];simp[F.f583C];apply h <;> simp
theorem Qb0 (ags bad:List Nm) (bs:List (List AV)) (ha:ags.length < 1000000) (hb:bad.length < 1000000):
  call F.tb 582 [.agg (QL ags bad),.agg (QL ags bad)] bs=some (.bool true,bs):=by
 have h1:=fun o o2=>H4 ags o o2 bs ha;have h2:=fun o o2=>H4 bad o o2 bs hb;rw[Qa F.tb_582 _ _ rfl];simp[F.f582C,QL,h1,h2]
def shB (sm:List Nm) (a b:Nm):Bool:= !(a == b) && (sm.contains a || sm.contains b)
def shL (sm:List Nm) (a:Nm) (l:List Nm):List Tm:=(l.filter (shB sm a)).map (shN a)
def skL (sm:List Nm) (a:Nm):List Tm:=if sm.contains a then [skN a]else []
def Yg (ags sm:List Nm):List Nm→List Tm
 | []=>[]
 | a:: r=>(skL sm a ++ shL sm a ags)++ Yg ags sm r
theorem Mz (sm:List Nm) (a:Nm) (l:List Nm): (shL sm a l).length≤l.length:=by
 unfold shL;rw[List.length_map];exact List.length_filter_le _ _
theorem MA (sm:List Nm) (a:Nm): (skL sm a).length≤1:=by unfold skL;split <;> simp
theorem Ru (ags sm:List Nm): ∀l:List Nm,(Yg ags sm l).length≤l.length* (ags.length+1)
 | []=>by simp[Yg]
 | a:: r=>by
  have h1:=Mz sm a ags;have h2:=MA sm a;have h3:=Ru ags sm r;simp only[Yg,List.length_append,List.length_cons,Nat.succ_mul];omega
theorem Qf0 (ags sm:List Nm) (a:Nm) (B0:List (List AV)) (ha:ags.length < 1000) (hs:sm.length < 1000000) (c:AC) (K:Kn) (P:Out→Prop):
  ∀(post pre:List Nm) (acc:List Tm) (B:List (List AV)) (v:AV) (o o2:Bool) (ρ:Nat→AV),ags=pre ++ post→TS B0 B v acc→acc.length+post.length < 100000→
   ρ 1= .sl o2 1 (QO sm)→ρ 5=v→ρ 7= .str a→ρ 26= .sl o 1 (QO ags)→ρ 27= .int .i64 ags.length→ρ 28= .int .i64 pre.length→
   (∀(ρ':Nat→AV) (B':List (List AV)) (v':AV),TS B0 B' v' (acc ++ shL sm a post)→ρ' 5=v'→(∀j,j < 26→j≠5→j≠9→ρ' j=ρ j)→P (R F.tb c ρ' B' K))→
  P (R F.tb (.loop F.f489l0) ρ B (Qi 2 (Qi 1 (Qs F.tb c K)))):=by
 intro post
 induction post with
 | nil=>
  intro pre acc B v o o2 ρ hk hts hal h1 h5 h7 h26 h27 h28 h;simp only[List.append_nil]at hk;rw[← hk]at h28;rw[Qc F.f489l0.eq_1];simp[h1,h26,h27,h28];refine h _ B v (by simpa[shL]using hts) ?_ ?_
  ·simp[h5]
  ·intro j hj h3j h7j;have:j≠29:=by omega
   simp[this]
 | cons b post IH=>
  intro pre acc B v o o2 ρ hk hts hal h1 h5 h7 h26 h27 h28 h;have hgt:=ZU (Qn hk);have hll:=Qv hk;have hw1:=wr1 pre.length (by omega);have hlt:=Qw hk;simp only[List.length_cons]at hal;have c1:=Rv sm a false B hs;have c2:=Rv sm b false B hs;have hjn: ∀j:Nat,j < 26→j≠28∧j≠29∧j≠30∧j≠31∧j≠32∧j≠33∧j≠34∧j≠35∧j≠36∧j≠37∧j≠38∧j≠39∧j≠40∧j≠41∧j≠42∧j≠43∧j≠44∧j≠45∧j≠46∧j≠47∧j≠48∧j≠49∧j≠50∧j≠51:=by intro j hj;omega
  obtain⟨id,sz,rfl⟩:=Z3 hts;rw[Qc F.f489l0.eq_1];have skip:shB sm a b=false→∀ρ2:Nat→AV,ρ2 1= .sl o2 1 (QO sm)→ρ2 5= .gs id 0 sz acc.length→ρ2 7= .str a→ρ2 26= .sl o 1 (QO ags)→ρ2 27= .int .i64 ags.length→ρ2 28= .int .i64 ((pre ++ [b]).length:Nat)→(∀j,j < 26→j≠5→j≠9→ρ2 j=ρ j)→
    P (R F.tb (.loop F.f489l0) ρ2 B (Qi 2 (Qi 1 (Qs F.tb c K)))):=by
   intro hb ρ2 a1 a5 a7 a26 a27 a28 aj;have e:shL sm a (b:: post)=shL sm a post:=by simp[shL,hb]
   refine IH (pre ++ [b]) acc B _ o o2 ρ2 (by rw[hk];simp) hts (by omega) a1 a5 a7 a26 a27 a28 fun ρ' B' v' t1 t2 t3=>h ρ' B' v' (by rw[e];exact t1) t2 fun j j1 j2 j3=> ?_;rw[t3 j j1 j2 j3,aj j j1 j2 j3]
  have take:shB sm a b=true→∃v2 B2,appM 56 4 (.gs id 0 sz acc.length) (.sl false 4 [Qb (shN a b)]) B=some (v2,B2)∧(∃id2 sz2 n2,v2= .gs id2 0 sz2 n2)∧∀ρ2:Nat→AV,ρ2 1= .sl o2 1 (QO sm)→ρ2 5=v2→ρ2 7= .str a→ρ2 26= .sl o 1 (QO ags)→ρ2 27= .int .i64 ags.length→ρ2 28= .int .i64 ((pre ++ [b]).length:Nat)→(∀j,j < 26→j≠5→j≠9→ρ2 j=ρ j)→
    P (R F.tb (.loop F.f489l0) ρ2 B2 (Qi 2 (Qi 1 (Qs F.tb c K)))):=by
   intro hb;obtain⟨v2,B2,q1,q2,_⟩:=Vu (shN a b) false hts (by omega);obtain⟨id2,sz2,rfl⟩:=Z3 q2;refine⟨_,B2,q1,⟨_,_,_,rfl⟩,fun ρ2 a1 a5 a7 a26 a27 a28 aj=> ?_⟩;have e:acc ++ shL sm a (b:: post)=(acc ++ [shN a b])++ shL sm a post:=by simp[shL,hb]
   refine IH (pre ++ [b]) (acc ++ [shN a b]) B2 _ o o2 ρ2 (by rw[hk];simp) q2 (by simp;omega) a1 a5 a7 a26 a27 a28 fun ρ' B' v' t1 t2 t3=>h ρ' B' v' (by rw[e];exact t1) t2 fun j j1 j2 j3=> ?_;rw[t3 j j1 j2 j3,aj j j1 j2 j3]
  have c492:=QbI a b B;by_cases hab:a=b
  ·have hb:shB sm a b=false:=by simp[shB,hab]
   subst hab;simp[h1,h5,h7,h26,h27,h28,hgt,hlt,hw1];apply skip hb
   all_goals first | (intro j j1 j2 j3;have:=hjn j j1;simp[this,j2,j3];done) | simp[h1,h5,h7,h26,h27]
  ·have hab': (a == b)=false:=by simpa using hab
   cases hA:sm.contains a
   ·rw[hA]at c1;cases hB:sm.contains b
    ·rw[hB]at c2;have hb:shB sm a b=false:=by unfold shB;rw[hA,hB];simp
     simp[h1,h5,h7,h26,h27,h28,hgt,hlt,hw1,hab',c1,c2];apply skip hb
     all_goals first | (intro j j1 j2 j3;have:=hjn j j1;simp[this,j2,j3];done) | simp[h1,h5,h7,h26,h27]
    ·rw[hB]at c2;have hb:shB sm a b=true:=by unfold shB;rw[hA,hB,hab'];rfl
     obtain⟨v2,B2,q1,⟨id2,sz2,n2,rfl⟩,key⟩:=take hb;simp[h1,h5,h7,h26,h27,h28,hgt,hlt,hw1,hab',c1,c2,c492,q1];apply key
     all_goals first | (intro j j1 j2 j3;have:=hjn j j1;simp[this,j2,j3];done) | simp[h1,h5,h7,h26,h27]
   ·rw[hA]at c1;have hb:shB sm a b=true:=by unfold shB;rw[hA,hab'];rfl
    obtain⟨v2,B2,q1,⟨id2,sz2,n2,rfl⟩,key⟩:=take hb;simp[h1,h5,h7,h26,h27,h28,hgt,hlt,hw1,hab',c1,c492,q1];apply key
    all_goals first | (intro j j1 j2 j3;have:=hjn j j1;simp[this,j2,j3];done) | simp[h1,h5,h7,h26,h27]
theorem Qf1 (ags bad sm:List Nm) (B0:List (List AV)) (ha:ags.length < 100) (hs:sm.length < 1000000):
  ∀(post pre:List Nm) (acc:List Tm) (B:List (List AV)) (v:AV) (o o2:Bool) (ρ:Nat→AV),ags=pre ++ post→TS B0 B v acc→acc.length+post.length* (ags.length+1) < 20000→
   ρ 1= .sl o2 1 (QO sm)→ρ 2= .bx (QL ags bad)→ρ 5=v→ρ 11= .sl o 1 (QO ags)→ρ 12= .int .i64 ags.length→ρ 13= .int .i64 pre.length→
   ∃v' B',R F.tb (.loop F.f489l1) ρ B (Qi 0 (Qs F.tb F.f489r1 (Qy F.f489 B0)))=some (v',B')∧TS B0 B' v' (acc ++ Yg ags sm post):=by
 intro post
 induction post with
 | nil=>
  intro pre acc B v o o2 ρ hk hts hal h1 h2 h5 h11 h12 h13;simp only[List.append_nil]at hk;rw[← hk]at h13;obtain⟨id,sz,rfl⟩:=Z3 hts;refine⟨_,B,?_,by simpa[Yg]using hts⟩;rw[Qc F.f489l1.eq_1];simp[h1,h5,h11,h12,h13,F.f489r1]
 | cons a post IH=>
  intro pre acc B v o o2 ρ hk hts hal h1 h2 h5 h11 h12 h13;have hgt:=ZU (Qn hk);have hll:=Qv hk;have hw1:=wr1 pre.length (by omega);have hlt:=Qw hk;have hsh:=Mz sm a ags;simp only[List.length_cons,Nat.succ_mul]at hal;have c1:=Rv sm a false B hs;have c490:=HS a B;have go: ∀(acc2:List Tm) (B2:List (List AV)) (v2:AV),TS B0 B2 v2 acc2→acc2=acc ++ skL sm a→∀ρ2:Nat→AV,ρ2 1= .sl o2 1 (QO sm)→ρ2 2= .bx (QL ags bad)→ρ2 5=v2→ρ2 7= .str a→ρ2 11= .sl o 1 (QO ags)→ρ2 12= .int .i64 ags.length→ρ2 13= .int .i64 pre.length→
    ρ2 26= .sl false 1 (QO ags)→ρ2 27= .int .i64 ags.length→ρ2 28= .int .i64 0→
    ∃v' B',R F.tb (.loop F.f489l0) ρ2 B2 (Qi 2 (Qi 1 (Qs F.tb F.f489r0 (Qs F.tb (.loop F.f489l1) (Qi 0 (Qs F.tb F.f489r1 (Qy F.f489 B0)))))))=some (v',B')∧TS B0 B' v' (acc ++ Yg ags sm (a:: post)):=by
   intro acc2 B2 v2 t2 e2 ρ2 a1 a2 a5 a7 a11 a12 a13 a26 a27 a28;have hsk:=MA sm a;refine Qf0 ags sm a B0 (by omega) hs F.f489r0 _ (fun r=>∃v' B',r=some (v',B')∧TS B0 B' v' (acc ++ Yg ags sm (a:: post))) ags [] acc2 B2 v2 false o2 ρ2 rfl t2 (by rw[e2,List.length_append];omega) a1 a5 a7 a26 a27 (by simpa using a28) ?_;intro ρ' B' v' t1 t5 tj;have e3:acc ++ Yg ags sm (a:: post)=(acc2 ++ shL sm a ags)++ Yg ags sm post:=by rw[e2];simp[Yg]
   rw[e3];obtain⟨id,sz,rfl⟩:=Z3 t1;have ih:=fun ρ=>IH (pre ++ [a]) (acc2 ++ shL sm a ags) B' _ o o2 ρ (by rw[hk];simp) t1 (by rw[List.length_append,e2,List.length_append];omega);have b1:=tj 1 (by omega) (by omega) (by omega);have b2:=tj 2 (by omega) (by omega) (by omega);have b11:=tj 11 (by omega) (by omega) (by omega);have b12:=tj 12 (by omega) (by omega) (by omega);have b13:=tj 13 (by omega) (by omega) (by omega);rw[a1]at b1;rw[a2]at b2;rw[a11]at b11;rw[a12]at b12;rw[a13]at b13
   simp[-List.append_assoc,F.f489r0,b13,hw1];apply ih <;> simp[b1,b2,t5,b11,b12]
  rw[Qc F.f489l1.eq_1];cases hA:sm.contains a
  ·rw[hA]at c1;have e2:acc=acc ++ skL sm a:=by unfold skL;rw[hA];simp
   have g:=fun ρ2=>go acc B v hts e2 ρ2;obtain⟨id,sz,rfl⟩:=Z3 hts;simp only[QL]at h2 g;simp[h1,h2,h5,h11,h12,h13,hgt,hlt,c1];apply g <;> simp[h1,h2,h5,h11,h12,h13,Qz]
  ·rw[hA]at c1;obtain⟨v2,B2,q1,q2,_⟩:=Vu (skN a) false hts (by omega);have e2:acc ++ [skN a]=acc ++ skL sm a:=by unfold skL;rw[hA];simp
   have g:=fun ρ2=>go (acc ++ [skN a]) B2 v2 q2 e2 ρ2;obtain⟨id,sz,rfl⟩:=Z3 hts;obtain⟨id2,sz2,rfl⟩:=Z3 q2;simp only[QL]at h2 g;simp[h1,h2,h5,h11,h12,h13,hgt,hlt,c1,c490,q1];apply g <;> simp[h1,h2,h5,h11,h12,h13,Qz]
theorem QbH (ags bad sm:List Nm) (o:Bool) (B0:List (List AV)) (ha:ags.length < 100) (hs:sm.length < 1000000):
  ∃v B,call F.tb 489 [.agg (QL ags bad),.sl o 1 (QO sm)] B0=some (v,B)∧TS B0 B v (Yg ags sm ags):=by
 have hq:ags.length* (ags.length+1)≤99*100:=Nat.mul_le_mul (by omega) (by omega);have h:=fun ρ=>Qf1 ags bad sm B0 ha hs ags [] [] B0 (.gs 0 0 0 0) false false ρ rfl (PZ B0) (by simp;omega);simp only[QL,List.nil_append]at h;rw[Qa F.tb_489 _ _ rfl];simp[F.f489C,QL];apply h <;> simp[Qz]
theorem O6 {a:Nm} (h:a.length≤1000): (pkN a).mass < 10000:=by simp only[pkN,skN,agN,Tm.mass,massL,List.length_cons,List.length_nil];omega
theorem Qaj {a:Nm} (h:a.length≤1000): (skN a).mass < 10000:=by simp only[skN,agN,Tm.mass,massL,List.length_cons,List.length_nil];omega
theorem Qai {a b:Nm} (h:a.length≤1000) (h2:b.length≤1000): (shN a b).mass < 10000:=by simp only[shN,agN,Tm.mass,massL,List.length_cons,List.length_nil];omega
theorem Th {ags sm:List Nm} (hm: ∀a∈ags,a.length≤1000): ∀(l:List Nm),(∀a∈l,a.length≤1000)→∀x∈Yg ags sm l,x.mass < 10000
 | [],_,x,hx=>by simp[Yg]at hx
 | a:: r,hl,x,hx=>by
  simp only[Yg,List.mem_append]at hx;rcases hx with(hx | hx) | hx
  ·unfold skL at hx;split at hx
   ·simp at hx;subst hx;exact Qaj (hl a (by simp))
   ·simp at hx
  ·unfold shL at hx;obtain⟨b,hb,rfl⟩:=List.mem_map.1 hx;exact Qai (hl a (by simp)) (hm b (List.mem_filter.1 hb).1)
  ·exact Th hm r (fun y hy=>hl y (by simp[hy])) x hx
theorem QgG (ags:List Nm) (B0 B1:List (List AV)) (ha:ags.length < 1000) (hm: ∀a∈ags,a.length≤1000) (hB1:B0.length≤B1.length):
  ∀(post pre:List Nm) (acc:List Tm) (B:List (List AV)) (v:AV) (o:Bool) (ρ:Nat→AV),ags=pre ++ post→TS B0 B v acc→Ch B1 B→acc.length+post.length < 100000→(∀x∈acc,x.mass < 1000000)→
   ρ 1=v→ρ 8= .sl o 1 (QO ags)→ρ 9= .int .i64 ags.length→ρ 10= .int .i64 pre.length→
   ∃M,R F.tb (.loop F.f493l0) ρ B (Qi 0 (Qs F.tb F.f493r0 (Qy F.f493 B1)))=some (.sl true 4 (encTs (QT (acc ++ post.map pkN))),B0 ++ M):=by
 intro post
 induction post with
 | nil=>
  intro pre acc B v o ρ hk hts hch hal ham h1 h8 h9 h10;simp only[List.append_nil]at hk;rw[← hk]at h10;obtain⟨M,q1,q2,q3⟩:=QbL hts (by simp at hal;omega) ham;have hck:=(hch.trans q2).take;have hg:=encTs_gp (QT acc);have htk: (B0 ++ M).take B1.length=B0 ++ M.take (B1.length - B0.length):=by
   rw[List.take_append,List.take_of_length_le (by omega)]
  obtain⟨id,sz,rfl⟩:=Z3 hts;refine⟨M.take (B1.length - B0.length),?_⟩;rw[htk]at hck;rw[Qc F.f493l0.eq_1];simp only[List.map_nil,List.append_nil];generalize encTs (QT acc)=E at *;simp[h1,h8,h9,h10,F.f493r0,q1,htk,hck,hg]
 | cons a post IH=>
  intro pre acc B v o ρ hk hts hch hal ham h1 h8 h9 h10;have hgt:=ZU (Qn hk);have hll:=Qv hk;have hw1:=wr1 pre.length (by omega);have hlt:=Qw hk;simp only[List.length_cons]at hal;have c494:=QbK a B;obtain⟨v2,B2,q1,q2,q3⟩:=Vu (pkN a) false hts (by omega);have hpm:=O6 (hm a (by rw[hk];simp));have ih:=fun ρ=>IH (pre ++ [a]) (acc ++ [pkN a]) B2 v2 o ρ (by rw[hk];simp) q2 (q3 _ hch) (by simp;omega) (fun x hx=>by
   rcases List.mem_append.1 hx with hx | hx
   ·exact ham x hx
   ·simp at hx;subst hx;omega)
  have e:acc ++ (a:: post).map pkN=(acc ++ [pkN a])++ post.map pkN:=by simp
  obtain⟨id,sz,rfl⟩:=Z3 hts;obtain⟨id2,sz2,rfl⟩:=Z3 q2;rw[Qc F.f493l0.eq_1,e];simp[-List.append_assoc,h1,h8,h9,h10,hlt,hgt,hw1,c494,q1];apply ih <;> simp[h8,h9]
theorem QbJ (ags bad:List Nm) {B0 B1:List (List AV)} {v:AV} {l:List Tm} (h:TS B0 B1 v l) (ha:ags.length < 1000) (hm: ∀a∈ags,a.length≤1000) (hl:l.length < 50000) (hlm: ∀x∈l,x.mass < 1000000):
  ∃M,call F.tb 493 [.agg (QL ags bad),v] B1=some (.sl true 4 (encTs (QT (l ++ ags.map pkN))),B0 ++ M):=by
 have hB1:B0.length≤B1.length:=by obtain⟨M,_,_,rfl,_⟩:=h;simp
 have hh:=fun ρ=>QgG ags B0 B1 ha hm hB1 ags [] l B1 v false ρ rfl h (Ch.refl _) (by omega) hlm;obtain⟨id,sz,rfl⟩:=Z3 h;rw[Qa F.tb_493 _ _ rfl];simp[-List.append_assoc,F.f493C,QL];apply hh <;> simp[Qz]
def Yx (ags bad:List Nm):List Tm:=QT (Yg ags bad ags ++ ags.map pkN)
def PG (ags bad:List Nm):AV:=if Ya ags bad≠0 then .tup [.sl false 4 [],.int .i64 (Ya ags bad)]else .tup [.sl false 4 (encTs (Yx ags bad)),.int .i64 0]
theorem Pr {ags bad:List Nm} (h:Ya ags bad=0):ags.length≤6:=by
 unfold Ya at h;split at h
 ·cases h
 ·split at h
  ·cases h
  ·omega
theorem HR (ags bad:List Nm) (B0:List (List AV)) (ha:ags.length < 1000000) (hb:bad.length < 1000000) (hm: ∀a∈ags,a.length≤1000):
  call F.tb 479 [.agg (QL ags bad)] B0=some (PG ags bad,B0):=by
 have c480:=QbG ags bad B0 ha hb fun a h=>by have:=hm a h;omega
 rw[Qa F.tb_479 _ _ rfl];unfold PG;by_cases c:Ya ags bad=0
 ·have hl:=Pr c;obtain⟨v,B1,q1,q2⟩:=QbH ags bad bad false B0 (by omega) hb;have hbl:=Ru ags bad ags;have hq:ags.length* (ags.length+1)≤6*7:=Nat.mul_le_mul (by omega) (by omega);obtain⟨M,q3⟩:=QbJ ags bad q2 (by omega) hm (by omega) fun x hx=>by have:=Th (sm:=bad) hm ags hm x hx;omega
  have hg:=encTs_gp (Yx ags bad);rw[c]at c480;change call F.tb 493 _ _=some (.sl true 4 (encTs (Yx ags bad)),_)at q3;generalize encTs (Yx ags bad)=E at *;obtain⟨id,sz,rfl⟩:=Z3 q2;simp only[QL]at *;simp[F.f479C,c480,c,q1,q3,hg]
 ·simp only[QL]at *;simp[F.f479C,c480,c]
theorem ME: ∀(r pre:List Nm),pre.Nodup→agE pre r=0→(pre ++ r).Nodup
 | [],pre,hp,_=>by simpa using hp
 | a:: r,pre,hp,h=>by
  simp only[agE]at h;split at h
  ·cases h
  ·split at h
   ·cases h
   ·rename_i hc;have hn:a ∉ pre:=by simpa using hc
    have:=ME r (pre ++ [a]) (by
     rw[List.nodup_append];exact⟨hp,by simp,fun x hx y hy e=>by simp at hy;subst hy;subst e;exact hn hx⟩) h
    simpa using this
theorem I8 {ags bad:List Nm} (h:Ya ags bad=0):ags.Nodup:=by
 unfold Ya at h;split at h
 ·cases h
 ·split at h
  ·cases h
  ·split at h
   ·rename_i h1;exact absurd h h1
   ·rename_i h1;simpa using ME ags [] (by simp) (by simpa using h1)
theorem AH {l:List Nm} (h:l.Nodup) {i k:Nat} {a b:Nm} (h1:l[i]? =some a) (h2:l[k]? =some b): (i=k↔a=b):=by
 constructor
 ·intro e;subst e;rw[h1]at h2;injection h2
 ·intro e;subst e;have l1:=XK h1;have l2:=XK h2;exact(List.getElem?_inj l1 h).1 (h1.trans h2.symm)
theorem Qgu (ags bad sm:List Nm) (bs:List (List AV)) (ha:ags.length < 1000) (hs:sm.length < 1000000) (hn:ags.Nodup) (a:Nm) (i:Nat) (hi:ags[i]? =some a) (c:AC) (K:Kn) (X:Out):
  ∀(post pre:List Nm) (acc:List Tm) (o2:Bool) (ρ:Nat→AV),ags=pre ++ post→acc.length+post.length < 100000→
   ρ 1= .sl o2 1 (QO sm)→ρ 2= .bx (QL ags bad)→ρ 5= .sl true 4 (encTs acc)→ρ 6= .int .i64 i→ρ 7= .str a→ρ 8= .int .i64 pre.length→
   (∀(ρ':Nat→AV),ρ' 5= .sl true 4 (encTs (acc ++ shL sm a post))→(∀j,j < 8→j≠5→ρ' j=ρ j)→R F.tb c ρ' bs K=X)→
  R F.tb (.loop F.f579l0) ρ bs (Qi 2 (Qi 1 (Qs F.tb c K)))=X:=by
 intro post
 induction post with
 | nil=>
  intro pre acc o2 ρ hk hal h1 h2 h5 h6 h7 h8 h;simp only[List.append_nil]at hk;rw[← hk]at h8;simp only[QL]at h2;rw[Qc F.f579l0.eq_1];simp[h1,h2,h8,Qz];refine h _ ?_ ?_
  ·simp[h5,shL]
  ·intro j hj h5j;have:j≠31∧j≠32∧j≠33∧j≠34∧j≠35:=by omega
   simp[this]
 | cons b post IH=>
  intro pre acc o2 ρ hk hal h1 h2 h5 h6 h7 h8 h;have hgp:=Qn hk;have hgt:=ZU hgp;have hll:=Qv hk;have hw1:=wr1 pre.length (by omega);have hlt:=Qw hk;simp only[List.length_cons]at hal;have c1:=Rf sm a false bs hs;have c2:=Rf sm b false bs hs;have g1:=PJ (l:=sm) (x:=a);have g2:=PJ (l:=sm) (x:=b);have hik:=AH hn hi hgp;have hiki: ((i:Int)=(pre.length:Int))↔a=b:=by rw[← hik];omega
  have happ:encTs acc ++ [Qb (shN a b)]=encTs (acc ++ [shN a b]):=by simp[QV]
  have hlen: (encTs acc).length=acc.length:=by simp[QV]
  have hby: (acc.length+1)*56≤140737488355328:=ZS (by omega);have c580:=QbZ a b bs;have hjn: ∀j:Nat,j < 8→j≠8∧j≠9∧j≠31∧j≠32∧j≠33∧j≠34∧j≠35∧j≠36∧j≠37∧j≠38∧j≠39∧j≠40∧j≠41∧j≠42∧j≠43∧j≠44∧j≠45∧j≠46∧j≠47∧j≠48∧j≠49∧j≠50∧j≠51∧j≠52∧j≠53∧j≠54∧j≠55∧j≠56∧j≠57∧j≠58∧j≠59∧j≠60∧j≠61∧j≠62∧j≠63:=by intro j hj;omega
  rw[Qc F.f579l0.eq_1];have skip:shB sm a b=false→∀ρ2:Nat→AV,ρ2 1= .sl o2 1 (QO sm)→ρ2 2= .bx (QL ags bad)→ρ2 5= .sl true 4 (encTs acc)→ρ2 6= .int .i64 i→ρ2 7= .str a→ρ2 8= .int .i64 ((pre ++ [b]).length:Nat)→(∀j,j < 8→j≠5→ρ2 j=ρ j)→
    R F.tb (.loop F.f579l0) ρ2 bs (Qi 2 (Qi 1 (Qs F.tb c K)))=X:=by
   intro hb ρ2 a1 a2 a5 a6 a7 a8 aj;have e:shL sm a (b:: post)=shL sm a post:=by simp[shL,hb]
   refine IH (pre ++ [b]) acc o2 ρ2 (by rw[hk];simp) (by omega) a1 a2 a5 a6 a7 a8 fun ρ' t2 t3=>h ρ' (by rw[e];exact t2) fun j j1 j2=> ?_;rw[t3 j j1 j2,aj j j1 j2]
  have take:shB sm a b=true→∀ρ2:Nat→AV,ρ2 1= .sl o2 1 (QO sm)→ρ2 2= .bx (QL ags bad)→ρ2 5= .sl true 4 (encTs (acc ++ [shN a b]))→ρ2 6= .int .i64 i→ρ2 7= .str a→ρ2 8= .int .i64 ((pre ++ [b]).length:Nat)→(∀j,j < 8→j≠5→ρ2 j=ρ j)→
    R F.tb (.loop F.f579l0) ρ2 bs (Qi 2 (Qi 1 (Qs F.tb c K)))=X:=by
   intro hb ρ2 a1 a2 a5 a6 a7 a8 aj;have e:acc ++ shL sm a (b:: post)=(acc ++ [shN a b])++ shL sm a post:=by simp[shL,hb]
   refine IH (pre ++ [b]) (acc ++ [shN a b]) o2 ρ2 (by rw[hk];simp) (by simp;omega) a1 a2 a5 a6 a7 a8 fun ρ' t2 t3=>h ρ' (by rw[e];exact t2) fun j j1 j2=> ?_;rw[t3 j j1 j2,aj j j1 j2]
  simp only[QL]at h2 skip take;generalize encTs (acc ++ [shN a b])=E2 at *;generalize encTs acc=EA at *;by_cases hab:a=b
  ·have hb:shB sm a b=false:=by simp[shB,hab]
   have hi1: (i:Int)=(pre.length:Int):=hiki.2 hab;have hi2:i=pre.length:=by omega
   simp[h1,h2,h5,h6,h7,h8,hgt,hlt,hw1,hi1,hi2,Qz];apply skip hb
   all_goals first | (intro j j1 j2;have:=hjn j j1;simp[this,j2];done) | simp[h1,h2,h5,h6,h7,hi1,hi2]
  ·have hab': (a == b)=false:=by simpa using hab
   have hi1: ¬(i:Int)=(pre.length:Int):=fun e=>hab (hiki.1 e);have hi2: ¬i=pre.length:=fun e=>hab (hik.1 e);cases hA:sm.contains a
   ·rw[hA]at g1;have g1': ¬0≤ixF sm a:=by simpa using g1
    cases hB:sm.contains b
    ·rw[hB]at g2;have g2': ¬0≤ixF sm b:=by simpa using g2
     have hb:shB sm a b=false:=by unfold shB;rw[hA,hB];simp
     simp[h1,h2,h5,h6,h7,h8,hgt,hlt,hw1,hi1,hi2,c1,c2,g1',g2',Qz];apply skip hb
     all_goals first | (intro j j1 j2;have:=hjn j j1;simp[this,j2];done) | simp[h1,h2,h5,h6,h7]
    ·rw[hB]at g2;have g2':0≤ixF sm b:=by simpa using g2
     have hb:shB sm a b=true:=by unfold shB;rw[hA,hB,hab'];rfl
     simp[h1,h2,h5,h6,h7,h8,hgt,hlt,hw1,hi1,hi2,c1,c2,g1',g2',Qz,c580,hlen,hby,happ];apply take hb
     all_goals first | (intro j j1 j2;have:=hjn j j1;simp[this,j2];done) | simp[h1,h2,h5,h6,h7]
   ·rw[hA]at g1;have g1':0≤ixF sm a:=by simpa using g1
    have hb:shB sm a b=true:=by unfold shB;rw[hA,hab'];rfl
    simp[h1,h2,h5,h6,h7,h8,hgt,hlt,hw1,hi1,hi2,c1,g1',Qz,c580,hlen,hby,happ];apply take hb
    all_goals first | (intro j j1 j2;have:=hjn j j1;simp[this,j2];done) | simp[h1,h2,h5,h6,h7]
theorem Qgv (ags bad sm:List Nm) (bs:List (List AV)) (ha:ags.length < 100) (hs:sm.length < 1000000) (hn:ags.Nodup):
  ∀(post pre:List Nm) (acc:List Tm) (o2:Bool) (ρ:Nat→AV),ags=pre ++ post→acc.length+post.length* (ags.length+1) < 20000→
   ρ 1= .sl o2 1 (QO sm)→ρ 2= .bx (QL ags bad)→ρ 5= .sl true 4 (encTs acc)→ρ 6= .int .i64 pre.length→
  R F.tb (.loop F.f579l1) ρ bs (Qi 0 (Qs F.tb F.f579r1 (Qy F.f579 bs)))=some (.sl false 4 (encTs (acc ++ Yg ags sm post)),bs):=by
 intro post
 induction post with
 | nil=>
  intro pre acc o2 ρ hk hal h1 h2 h5 h6;simp only[List.append_nil]at hk;rw[← hk]at h6;have hg:=encTs_gp acc;simp only[QL]at h2;rw[Qc F.f579l1.eq_1];simp[h1,h2,h5,h6,Qz,Yg,F.f579r1,hg]
 | cons a post IH=>
  intro pre acc o2 ρ hk hal h1 h2 h5 h6;have hgp:=Qn hk;have hgt:=ZU hgp;have hll:=Qv hk;have hw1:=wr1 pre.length (by omega);have hlt:=Qw hk;have hsh:=Mz sm a ags;have hsk:=MA sm a;simp only[List.length_cons,Nat.succ_mul]at hal;have c1:=Rf sm a false bs hs;have g1:=PJ (l:=sm) (x:=a);have c577:=H3 a bs;have happ:encTs acc ++ [Qb (skN a)]=encTs (acc ++ [skN a]):=by simp[QV]
  have hlen: (encTs acc).length=acc.length:=by simp[QV]
  have hby: (acc.length+1)*56≤140737488355328:=ZS (by omega);have go: ∀(acc2:List Tm),acc2=acc ++ skL sm a→∀ρ2:Nat→AV,ρ2 1= .sl o2 1 (QO sm)→ρ2 2= .bx (QL ags bad)→ρ2 5= .sl true 4 (encTs acc2)→ρ2 6= .int .i64 pre.length→ρ2 7= .str a→ρ2 8= .int .i64 0→
    R F.tb (.loop F.f579l0) ρ2 bs (Qi 2 (Qi 1 (Qs F.tb F.f579r0 (Qs F.tb (.loop F.f579l1) (Qi 0 (Qs F.tb F.f579r1 (Qy F.f579 bs)))))))=some (.sl false 4 (encTs (acc ++ Yg ags sm (a:: post))),bs):=by
   intro acc2 e2 ρ2 a1 a2 a5 a6 a7 a8;refine Qgu ags bad sm bs (by omega) hs hn a pre.length hgp F.f579r0 _ _ ags [] acc2 o2 ρ2 rfl (by rw[e2,List.length_append];omega) a1 a2 a5 a6 a7 (by simpa using a8) ?_;intro ρ' t5 tj;have e3:acc ++ Yg ags sm (a:: post)=(acc2 ++ shL sm a ags)++ Yg ags sm post:=by rw[e2];simp[Yg]
   rw[e3];have ih:=fun ρ=>IH (pre ++ [a]) (acc2 ++ shL sm a ags) o2 ρ (by rw[hk];simp) (by rw[List.length_append,e2,List.length_append];omega);have b1:=tj 1 (by omega) (by omega);have b2:=tj 2 (by omega) (by omega);have b6:=tj 6 (by omega) (by omega);rw[a1]at b1;rw[a2]at b2;rw[a6]at b6
   simp[-List.append_assoc,F.f579r0,b6,hw1];apply ih <;> simp[-List.append_assoc,b1,b2,t5]
  rw[Qc F.f579l1.eq_1];cases hA:sm.contains a
  ·rw[hA]at g1;have g1': ¬0≤ixF sm a:=by simpa using g1
   have e2:acc=acc ++ skL sm a:=by unfold skL;rw[hA];simp
   have g:=fun ρ2=>go acc e2 ρ2;simp only[QL]at h2 g;simp[h1,h2,h5,h6,hgt,hlt,c1,g1',Qz];apply g <;> simp[h1,h2,h5,h6,Qz]
  ·rw[hA]at g1;have g1':0≤ixF sm a:=by simpa using g1
   have e2:acc ++ [skN a]=acc ++ skL sm a:=by unfold skL;rw[hA];simp
   have g:=fun ρ2=>go (acc ++ [skN a]) e2 ρ2;simp only[QL]at h2 g;generalize encTs (acc ++ [skN a])=E2 at *;simp[h1,h2,h5,h6,hgt,hlt,c1,g1',c577,hlen,hby,happ,Qz];apply g <;> simp[h1,h2,h5,h6,Qz]
theorem QbY (ags bad sm:List Nm) (o:Bool) (bs:List (List AV)) (ha:ags.length < 100) (hs:sm.length < 1000000) (hn:ags.Nodup):
  call F.tb 579 [.agg (QL ags bad),.sl o 1 (QO sm)] bs=some (.sl false 4 (encTs (Yg ags sm ags)),bs):=by
 have hq:ags.length* (ags.length+1)≤99*100:=Nat.mul_le_mul (by omega) (by omega);have h:=fun ρ=>Qgv ags bad sm bs ha hs hn ags [] [] false ρ rfl (by simp;omega);simp only[QL,List.nil_append]at h;rw[Qa F.tb_579 _ _ rfl];simp[F.f579C,QL];apply h <;> simp[Qz,encTs]
theorem Qgw (ags bad:List Nm) (bs:List (List AV)) (ha:ags.length < 1000):
  ∀(post pre:List Nm) (acc:List Tm) (ρ:Nat→AV),ags=pre ++ post→acc.length+post.length < 100000→
   ρ 1= .bx (QL ags bad)→ρ 3= .sl true 4 (encTs acc)→ρ 4= .int .i64 pre.length→
  R F.tb (.loop F.f575l0) ρ bs (Qi 0 (Qs F.tb F.f575r0 (Qy F.f575 bs)))=some (.sl true 4 (encTs (acc ++ post.map pkN)),bs):=by
 intro post
 induction post with
 | nil=>
  intro pre acc ρ hk hal h1 h3 h4;simp only[List.append_nil]at hk;rw[← hk]at h4;have hg:=encTs_gp acc;simp only[QL]at h1;rw[Qc F.f575l0.eq_1];simp[h1,h3,h4,Qz,F.f575r0,hg]
 | cons a post IH=>
  intro pre acc ρ hk hal h1 h3 h4;have hgt:=ZU (Qn hk);have hll:=Qv hk;have hw1:=wr1 pre.length (by omega);have hlt:=Qw hk;simp only[List.length_cons]at hal;have c576:=QbX a bs;have happ:encTs acc ++ [Qb (pkN a)]=encTs (acc ++ [pkN a]):=by simp[QV]
  have hlen: (encTs acc).length=acc.length:=by simp[QV]
  have hby: (acc.length+1)*56≤140737488355328:=ZS (by omega);have ih:=fun ρ=>IH (pre ++ [a]) (acc ++ [pkN a]) ρ (by rw[hk];simp) (by simp;omega);have e:acc ++ (a:: post).map pkN=(acc ++ [pkN a])++ post.map pkN:=by simp
  simp only[QL]at h1 ih;rw[Qc F.f575l0.eq_1,e];generalize encTs (acc ++ [pkN a])=E2 at *;simp[-List.append_assoc,h1,h3,h4,Qz,hlt,hgt,hw1,c576,hlen,hby,happ];apply ih <;> simp[h1]
theorem QbW (ags bad:List Nm) (bs:List (List AV)) (ha:ags.length < 1000):call F.tb 575 [.agg (QL ags bad)] bs=some (.sl true 4 (encTs (ags.map pkN)),bs):=by
 have h:=fun ρ=>Qgw ags bad bs ha ags [] [] ρ rfl (by simp;omega);simp only[QL,List.nil_append]at h;rw[Qa F.tb_575 _ _ rfl];simp[F.f575C,QL];apply h <;> simp[Qz,encTs]
theorem H1 (ags bad:List Nm) (B0:List (List AV)) (ha:ags.length < 1000000) (hb:bad.length < 1000000) (hm: ∀a∈ags,a.length≤1000):
  call F.tb 571 [.agg (QL ags bad)] B0=some (PG ags bad,B0):=by
 have c572:=H2 ags bad B0 ha hb fun a h=>by have:=hm a h;omega
 rw[Qa F.tb_571 _ _ rfl];unfold PG;by_cases c:Ya ags bad=0
 ·have hl:=Pr c;have hn:=I8 c;have c575:=QbW ags bad B0 (by omega);have c579:=fun o=>QbY ags bad bad o B0 (by omega) hb hn;have hbl:=Ru ags bad ags;have hq:ags.length* (ags.length+1)≤6*7:=Nat.mul_le_mul (by omega) (by omega);have hbm:=Th (sm:=bad) hm ags hm;have c238:=fun o=>VS (ags.map pkN ++ Yg ags bad ags) o B0 (by simp;omega) fun x hx=>by
   rcases List.mem_append.1 hx with hx | hx
   ·obtain⟨a,ha2,rfl⟩:=List.mem_map.1 hx;have:=O6 (hm a ha2);unfold big;omega
   ·have:=hbm x hx;unfold big;omega
  have es:QT (ags.map pkN ++ Yg ags bad ags)=Yx ags bad:=IE fun x=>by simp only[List.mem_append];exact Or.comm
  rw[es]at c238;have happ:encTs (ags.map pkN)++ encTs (Yg ags bad ags)=encTs (ags.map pkN ++ Yg ags bad ags):=by simp[QV]
  have l1: (encTs (ags.map pkN)).length=ags.length:=by simp[QV]
  have l2: (encTs (Yg ags bad ags)).length=(Yg ags bad ags).length:=by simp[QV]
  have hby: (ags.length+ (Yg ags bad ags).length)*56≤140737488355328:=ZS (by omega);have hg:=encTs_gp (Yx ags bad);rw[c]at c572;generalize encTs (Yx ags bad)=E1 at *;generalize encTs (ags.map pkN ++ Yg ags bad ags)=E2 at *;generalize encTs (ags.map pkN)=E3 at *;generalize encTs (Yg ags bad ags)=E4 at *;simp only[QL]at *;simp[F.f571C,c572,c,c575,c579,l1,l2,hby,happ,c238,hg]
 ·simp only[QL]at *;simp[F.f571C,c572,c]
theorem Qb8 (t:Tm) (bs:List (List AV)) (hm:t.mass < 1000000) (ih: ∀x∈t.kids,∀bs,call F.tb 500 [.agg (Qb x)] bs=some (.agg (Qb x),bs)):
  ∀(post pre:List Tm) (o:Bool) (ρ:Nat→AV),t.kids=pre ++ post→ρ 2= .bx [.int .i64 0,.str [],.int .i64 0,.sl true 4 []]→ρ 3= .bx [.int .i64 t.kind,.str t.name,.int .i64 t.sort,.sl true 4 (encTs pre)]→
   ρ 9= .sl o 4 (encTs t.kids)→ρ 10= .int .i64 t.kids.length→ρ 11= .int .i64 pre.length→
  R F.tb (.loop F.f500l0) ρ bs (Qi 0 (Qs F.tb F.f500r0 (Qy F.f500 bs)))=some (.agg (Qb t),bs):=by
 have hm2:=Qu t;intro post
 induction post with
 | nil=>
  intro pre o ρ hk h2 h3 h9 h10 h11;simp only[List.append_nil]at hk;rw[← hk]at h11 h3;have hg:=encTs_gp t.kids;have he:Qb t=[.int .i64 t.kind,.str t.name,.int .i64 t.sort,.sl false 4 (encTs t.kids)]:=by cases t;simp[Qb]
  rw[Qc F.f500l0.eq_1,he];simp[h2,h3,h9,h10,h11,F.f500r0,hg]
 | cons x post IH=>
  intro pre o ρ hk h2 h3 h9 h10 h11;have hgt:=Qn hk;have hll:=Qv hk;have hw1:=wr1 pre.length (by omega);have hlt:=Qw hk;have hc:=ih x (by rw[hk];simp) bs;have happ:encTs pre ++ [Qb x]=encTs (pre ++ [x]):=by simp[QV]
  have hlen: (encTs pre).length=pre.length:=by simp[QV]
  have hby: (pre.length+1)*56≤140737488355328:=ZS (by omega);have ih2:=fun ρ=>IH (pre ++ [x]) o ρ (by rw[hk];simp);rw[Qc F.f500l0.eq_1];generalize encTs (pre ++ [x])=E2 at *;simp[h2,h3,h9,h10,h11,hgt,hlt,hw1,hc,hlen,hby,happ];apply ih2 <;> simp[h2,h9,h10]
theorem Oe: ∀(t:Tm) (bs:List (List AV)),t.mass < 1000000→call F.tb 500 [.agg (Qb t)] bs=some (.agg (Qb t),bs):=by
 refine Zo ?_;intro k n s ks ih bs hm;have h:=fun ρ=>Qb8 (.mk k n s ks) bs hm (fun x hx bs=>ih x hx bs (by have:=QB hx;have:=Qu (.mk k n s ks);simp at *;omega)) ks [] false ρ rfl;rw[Qa F.tb_500 _ _ rfl];simp[F.f500C,Qb];simp only[Qb]at h;apply h <;> simp[encTs]
theorem Xo:QO []=[]:=rfl
def Qt (ags bad:List Nm) (ks:List Tm):List AV:=[.sl false 1 (QO ags),.sl false 1 (QO bad),.sl false 4 (encTs ks)]
theorem Od (l:List Nm) (bs:List (List AV)) (hl:l.length < 1000000):call F.tb 499 [.sl false 1 (QO l)] bs=some (.sl true 1 (QO l),bs):=by
 have hb:l.length*16≤140737488355328:=by omega
 rw[Xb F.tb_499];simp[YZ,Uk,Qz,hb]
theorem YD (l:List Nm):gpfreeE (QO l)=true:=by
 induction l with
 | nil=>rfl
 | cons a r ih=>simp only[QO,List.map_cons]at ih ⊢;simp only[gpfreeE,ih,gpfreeL,AV.gpfree,Bool.and_true]
theorem CR (ags bad:List Nm) (ks:List Tm) (bs:List (List AV)) (hk2:ks.length < 1000000) (hm: ∀x∈ks,x.mass < 1000000):
  ∀(post pre:List Tm) (o oa ob:Bool) (ρ:Nat→AV),ks=pre ++ post→ρ 2= .bx [.sl true 1 [],.sl true 1 [],.sl true 4 []]→ρ 3= .bx [.sl oa 1 (QO ags),.sl ob 1 (QO bad),.sl true 4 (encTs pre)]→
   ρ 17= .sl o 4 (encTs ks)→ρ 18= .int .i64 ks.length→ρ 19= .int .i64 pre.length→
  R F.tb (.loop F.f498l0) ρ bs (Qi 0 (Qs F.tb F.f498r0 (Qy F.f498 bs)))=some (.agg (Qt ags bad ks),bs):=by
 intro post
 induction post with
 | nil=>
  intro pre o oa ob ρ hk h2 h3 h17 h18 h19;simp only[List.append_nil]at hk;rw[← hk]at h19 h3;have hg:=encTs_gp ks;have g1:=YD ags;have g2:=YD bad;rw[Qc F.f498l0.eq_1];simp[h2,h3,h17,h18,h19,F.f498r0,hg,g1,g2,Qt]
 | cons x post IH=>
  intro pre o oa ob ρ hk h2 h3 h17 h18 h19;have hgt:=Qn hk;have hll:=Qv hk;have hw1:=wr1 pre.length (by omega);have hlt:=Qw hk;have hc:=Oe x bs (hm x (by rw[hk];simp));have happ:encTs pre ++ [Qb x]=encTs (pre ++ [x]):=by simp[QV]
  have hlen: (encTs pre).length=pre.length:=by simp[QV]
  have hby: (pre.length+1)*56≤140737488355328:=ZS (by omega);have ih2:=fun ρ=>IH (pre ++ [x]) o oa ob ρ (by rw[hk];simp);rw[Qc F.f498l0.eq_1];generalize encTs (pre ++ [x])=E2 at *;simp[h2,h3,h17,h18,h19,hgt,hlt,hw1,hc,hlen,hby,happ];apply ih2 <;> simp[h2,h17,h18]
theorem QbM (ags bad:List Nm) (ks:List Tm) (bs:List (List AV)) (ha:ags.length < 1000000) (hb:bad.length < 1000000) (hk2:ks.length < 1000000) (hm: ∀x∈ks,x.mass < 1000000):
  call F.tb 498 [.agg (Qt ags bad ks)] bs=some (.agg (Qt ags bad ks),bs):=by
 have c1:=Od ags bs ha;have c2:=Od bad bs hb;have h:=fun ρ oa ob=>CR ags bad ks bs hk2 hm ks [] false oa ob ρ rfl;rw[Qa F.tb_498 _ _ rfl];simp only[Qt]at h ⊢;simp[F.f498C,c1,c2];refine h _ false false ?_ ?_ ?_ ?_ ?_ <;> simp[encTs]
def Ij (ags bad:List Nm):AV:=if Ya ags bad≠0 then .tup [.agg (Qt [] [] []),.int .i64 (Ya ags bad)]else .tup [.agg (Qt ags bad (Yx ags bad)),.int .i64 0]
theorem Uu {ags bad:List Nm} (hm: ∀a∈ags,a.length≤1000) (c:Ya ags bad=0): (Yx ags bad).length < 100∧∀x∈Yx ags bad,x.mass < 10000:=by
 have hl:=Pr c;have hbl:=Ru ags bad ags;have hq:ags.length* (ags.length+1)≤6*7:=Nat.mul_le_mul (by omega) (by omega);constructor
 ·have:=U9 (Yg ags bad ags ++ ags.map pkN);simp only[List.length_append,List.length_map]at this;unfold Yx;omega
 ·intro x hx;rcases List.mem_append.1 (Wj.1 hx)with hx | hx
  ·exact Th hm ags hm x hx
  ·obtain⟨a,ha2,rfl⟩:=List.mem_map.1 hx;exact O6 (hm a ha2)
theorem QbF (ags bad:List Nm) (bs:List (List AV)) (ha:ags.length < 1000000) (hb:bad.length < 1000000) (hm: ∀a∈ags,a.length≤1000):
  call F.tb 478 [.agg (QL ags bad)] bs=some (Ij ags bad,bs):=by
 have c479:=HR ags bad bs ha hb hm;rw[Qa F.tb_478 _ _ rfl];unfold Ij;unfold PG at c479;by_cases c:Ya ags bad=0
 ·obtain⟨f1,f2⟩:=Uu hm c;have c498:=QbM ags bad (Yx ags bad) bs ha hb (by omega) fun x hx=>by have:=f2 x hx;omega
  have hg:=encTs_gp (Yx ags bad);have g1:=YD ags;have g2:=YD bad;rw[c]at c479;simp only[QL,Qt]at *;generalize encTs (Yx ags bad)=E1 at *;simp at c479;simp[F.f478C,c479,c,c498,hg,g1,g2]
 ·simp only[QL,Qt,ne_eq,c,not_false_eq_true,if_true]at c479 ⊢;simp[F.f478C,c479,c,Xo,encTs]
theorem QbU (ags bad:List Nm) (bs:List (List AV)) (ha:ags.length < 1000000) (hb:bad.length < 1000000) (hm: ∀a∈ags,a.length≤1000):
  call F.tb 570 [.agg (QL ags bad)] bs=some (Ij ags bad,bs):=by
 have c571:=H1 ags bad bs ha hb hm;rw[Qa F.tb_570 _ _ rfl];unfold Ij;unfold PG at c571;by_cases c:Ya ags bad=0
 ·have hg:=encTs_gp (Yx ags bad);have g1:=YD ags;have g2:=YD bad;rw[c]at c571;simp only[QL,Qt]at *;generalize encTs (Yx ags bad)=E1 at *;simp at c571;simp[F.f570C,c571,c,hg,g1,g2]
 ·simp only[QL,Qt,ne_eq,c,not_false_eq_true,if_true]at c571 ⊢;simp[F.f570C,c571,c,Xo,encTs]
theorem Rg (ags bad:List Nm) (ks:List Tm) (bs:List (List AV)) (ha:ags.length < 1000000) (hb:bad.length < 1000000) (hk:ks.length < 1000000) (hm:massL ks < big):
  call F.tb 581 [.agg (Qt ags bad ks),.agg (Qt ags bad ks)] bs=some (.bool true,bs):=by
 have h1:=Qb0 ags bad bs ha hb;have h2:=Ti ks bs false false hm (by omega);rw[Qa F.tb_581 _ _ rfl];simp only[QL,Qt]at *;simp[F.f581C,h1,h2]
theorem PL (ags bad:List Nm) (h0:call F.tb 477 [] []=some (.bool true,[])) (ha:ags.length < 10000000000) (hb:bad.length < 10000000000):
  call F.tb 476 [.agg (QL ags bad)] []=some (.bool true,[]):=by
 have c569:=H0 ags bad [] ha hb;rw[Qa F.tb_476 _ _ rfl];cases hf:VD (ags ++ bad)
 ·rw[hf]at c569;simp only[QL]at *;simp[F.f476C,h0,c569]
 ·rw[hf]at c569;obtain⟨hal,hbl⟩:=OZ hf;have hm: ∀a∈ags,a.length≤1000:=fun a h=>by
   unfold VD at hf;simp only[Bool.and_eq_true,List.all_eq_true,decide_eq_true_eq]at hf;have:=hf.1 a (by simp[h]);omega
  have c1:=QbF ags bad [] (by omega) (by omega) hm;have c2:=QbU ags bad [] (by omega) (by omega) hm;unfold Ij at c1 c2;by_cases c:Ya ags bad=0
  ·obtain⟨f1,f2⟩:=Uu hm c;have hml: ∀(l:List Tm),(∀x∈l,x.mass < 10000)→massL l≤l.length*10000:=by
    intro l
    induction l with
    | nil=>intro _;simp[massL]
    | cons x r ih=>
     intro h;have h1:=h x (by simp);have h2:=ih fun y hy=>h y (by simp[hy]);simp only[massL,List.length_cons,Nat.succ_mul];omega
   have hm2:=hml _ f2;have c3:=Rg ags bad (Yx ags bad) [] (by omega) (by omega) (by omega) (by unfold big;omega);rw[c]at c1 c2;simp only[QL,Qt]at *;generalize encTs (Yx ags bad)=E1 at *;simp at c1 c2;simp[F.f476C,h0,c569,c1,c2,c3]
  ·have c3:=Rg [] [] [] [] (by simp) (by simp) (by simp) (by simp[massL,big]);simp only[QL,Qt,ne_eq,c,not_false_eq_true,if_true]at c569 c1 c2 c3 ⊢;simp[F.f476C,h0,c569,c1,c2,c3]
theorem AE (f g:Nat) (p:Tm→Bool) (l:List Tm) (bs:List (List AV)) (hc: ∀x∈l,call F.tb f [.agg (Qb x),.gp g 0] bs=some (.bool (p x),bs)) (hl:l.length < 1000000):
  ∀(post pre:List Tm) (o:Bool) (ρ:Nat→AV),l=pre ++ post→pre.any p=false→ρ 0= .sl o 4 (encTs l)→ρ 1= .fn f [.gp g 0]→ρ 7= .int .i64 l.length→ρ 8= .int .i64 pre.length→
  Ma (l.any p) bs (R F.tb (.loop F.f215l0) ρ bs (Qi 0 (Qs F.tb F.f215r0 (Qy F.f215 bs)))):=by
 intro post
 induction post with
 | nil=>
  intro pre o ρ hk hp h0 h1 h7 h8;simp only[List.append_nil]at hk;rw[← hk]at h8 hp;rw[Qc F.f215l0.eq_1];refine⟨-1,?_,by rw[hp];simp⟩;simp[h0,h1,h7,h8,F.f215r0]
 | cons x post IH=>
  intro pre o ρ hk hp h0 h1 h7 h8;have hgt:=Qn hk;have hll:=Qv hk;have hw1:=wr1 pre.length (by omega);have hlt:=Qw hk;have hcall:=hc x (by rw[hk];simp);have ih:=fun ρ hpp=>IH (pre ++ [x]) o ρ (by rw[hk];simp) hpp;rw[Qc F.f215l0.eq_1];cases ho:p x
  ·rw[ho]at hcall;have ih2:=fun ρ=>ih ρ (by rw[List.any_append,hp];simp[ho]);simp[h0,h1,h7,h8,hlt,hgt,hw1,hcall,-List.any_eq_false,-List.any_eq_true];apply ih2 <;> simp[h0,h1,h7]
  ·rw[ho]at hcall;have hany:l.any p=true:=List.any_eq_true.2 ⟨x,by rw[hk];simp,ho⟩;refine⟨pre.length,?_,by rw[hany];simp⟩;simp[h0,h1,h7,h8,hlt,hgt,hcall]
theorem Jy (f g:Nat) (p:Tm→Bool) (l:List Tm) (o:Bool) (bs:List (List AV)) (hc: ∀x∈l,call F.tb f [.agg (Qb x),.gp g 0] bs=some (.bool (p x),bs)) (hl:l.length < 1000000):
  call F.tb 214 [.sl o 4 (encTs l),.fn f [.gp g 0]] bs=some (.bool (l.any p),bs):=by
 have h1:=fun ρ=>AE f g p l bs hc hl l [] false ρ rfl rfl;have h2:Ma (l.any p) bs (call F.tb 215 [.sl false 4 (encTs l),.fn f [.gp g 0]] bs):=by
  rw[Qa F.tb_215 _ _ rfl];simp[F.f215C,-List.any_eq_false,-List.any_eq_true];apply h1 <;> simp
 obtain⟨i,hi,hb⟩:=h2;rw[Qa F.tb_214 _ _ rfl];simp[F.f214C,hi,-List.any_eq_false,-List.any_eq_true];cases hx:l.any p
 ·rw[hx]at hb;simp at hb;simpa using hb
 ·rw[hx]at hb;simp at hb;simpa using hb
theorem Ce (x y:Tm):decide (Qm y x=0)=decide (Qm x y=0):=decide_eq_decide.2 (by rw[OU,OU];exact eq_comm)
theorem HY (x y:Tm) (bs:List (List AV)) (hx:x.mass < big) (hy:y.mass < big):call F.tb 507 [.agg (Qb x),.agg (Qb y)] bs=some (.bool (decide (Qm x y=0)),bs):=by
 have h:=call_Compare x y bs hx hy;rw[Qa F.tb_507 _ _ rfl];simp[F.f507C,h]
theorem HX (x y:Tm) (g:Nat) (bs:List (List AV)) (hg:bs[g]? =some (Qb y)) (hx:x.mass < big) (hy:y.mass < big):call F.tb 506 [.agg (Qb x),.gp g 0] bs=some (.bool (decide (Qm x y=0)),bs):=by
 have h:=HY y x bs hy hx;rw[Ce]at h;rw[Qa F.tb_506 _ _ rfl];simp[-getElem?_pos,F.f506C,hg,h]
theorem QbO (l:List Tm) (y:Tm) (o:Bool) (bs:List (List AV)) (hl:l.length < 1000000) (hm: ∀x∈l,x.mass < big) (hy:y.mass < big):
  call F.tb 505 [.sl o 4 (encTs l),.agg (Qb y)] bs=some (.bool (Z2 l y),bs):=by
 have hg: (bs ++ [Qb y])[bs.length]? =some (Qb y):=List.getElem?_concat_length;have h3:=Jy 506 bs.length (fun x=>decide (Qm x y=0)) l false (bs ++ [Qb y]) (fun x hx=>HX x y _ _ hg (hm x hx) hy) hl;change call F.tb 214 _ _=some (.bool (Z2 l y),_)at h3;rw[Qa F.tb_505 _ _ rfl];simp[F.f505C,h3]
theorem HW (t:Tm) (bs:List (List AV)) (hm:t.mass < 1000000):call F.tb 503 [.agg (Qb t)] bs=some (.int .i64 (ZP t),bs):=by
 have hb:t.mass < big:=by unfold big;omega
 have h1:=Pp t bs hb;have h2:=Ca t bs (by omega);have h3:=Qbe t bs hb;have hlen: (encTs (W7 t)).length=(W7 t).length:=by simp[QV]
 rw[Qa F.tb_503 _ _ rfl];unfold ZP;by_cases c:thV t=0
 ·rw[c]at h1;by_cases c2:W7 t=[]
  ·rw[c2]at h2;simp only[encTs]at h2;cases c3:VH t
   ·rw[c3]at h3;simp[F.f503C,h1,h2,h3,c,c2]
   ·rw[c3]at h3;simp[F.f503C,h1,h2,h3,c,c2]
  ·have hpos: (0:Int) < ((W7 t).length:Int):=by
    have:=List.length_pos_iff.2 c2;omega
   generalize encTs (W7 t)=EV at *;simp[F.f503C,h1,h2,h3,c,c2,hlen,hpos]
 ·simp[F.f503C,h1,c]
def X3 (ags bad:List Nm) (ks:List Tm):Int:=
 if Ya ags bad≠0 then Ya ags bad else if 60 < ks.length then 3 else if YR ks≠0 then YR ks else if(Yx ags bad).any (fun t=> !Z2 ks t)then 1 else 0
theorem QbN (ags bad:List Nm) (ks:List Tm) (x:Tm) (g:Nat) (bs:List (List AV)) (hg:bs[g]? =some (Qt ags bad ks)) (hl:ks.length < 1000000) (hm: ∀y∈ks,y.mass < big) (hx:x.mass < big):
  call F.tb 504 [.agg (Qb x),.gp g 0] bs=some (.bool (!Z2 ks x),bs):=by
 have h:=QbO ks x false bs hl hm hx;simp only[Qt]at hg;rw[Qa F.tb_504 _ _ rfl];simp[-getElem?_pos,List.getElem?_cons_zero,F.f504C,hg,h]
theorem Qgk (ags bad:List Nm) (ks:List Tm) (g:Nat) (B bs:List (List AV)) (hB:B=bs ++ [Qt ags bad ks]) (hgl:g=bs.length) (c:Ya ags bad=0) (hma: ∀a∈ags,a.length≤1000) (hl:ks.length < 1000000) (hm: ∀y∈ks,y.mass < 1000000):
  ∀(post pre:List Tm) (o o2:Bool) (ρ:Nat→AV),ks=pre ++ post→ρ 1= .gp g 0→ρ 3= .sl o2 4 (encTs (Yx ags bad))→ρ 22= .sl o 4 (encTs ks)→ρ 23= .int .i64 ks.length→ρ 24= .int .i64 pre.length→
  R F.tb (.loop F.f502l0) ρ B (Qi 0 (Qs F.tb F.f502r0 (Qy F.f502 bs)))=
   some (.int .i64 (if YR post≠0 then YR post else if(Yx ags bad).any (fun t=> !Z2 ks t)then 1 else 0),bs):=by
 obtain⟨f1,f2⟩:=Uu hma c;have hg:B[g]? =some (Qt ags bad ks):=by rw[hB,hgl];exact List.getElem?_concat_length
 subst hB;have hmb: ∀y∈ks,y.mass < big:=fun y hy=>by have:=hm y hy;unfold big;omega
 intro post
 induction post with
 | nil=>
  intro pre o o2 ρ hk h1 h3 h22 h23 h24;simp only[List.append_nil]at hk;rw[← hk]at h24;have h:=Jy 504 g (fun t=> !Z2 ks t) (Yx ags bad) false (bs ++ [Qt ags bad ks]) (fun x hx=>QbN ags bad ks x g _ hg hl hmb (by have:=f2 x hx;unfold big;omega)) (by omega);rw[Qc F.f502l0.eq_1];simp only[YR];generalize encTs (Yx ags bad)=EI at *;cases hA: (Yx ags bad).any (fun t=> !Z2 ks t)
  ·rw[hA]at h;simp[h1,h3,h22,h23,h24,F.f502r0,h]
  ·rw[hA]at h;simp[h1,h3,h22,h23,h24,F.f502r0,h]
 | cons x post IH=>
  intro pre o o2 ρ hk h1 h3 h22 h23 h24;have hgt:=Qn hk;have hll:=Qv hk;have hw1:=wr1 pre.length (by omega);have hlt:=Qw hk;have hc:=HW x (bs ++ [Qt ags bad ks]) (hm x (by rw[hk];simp));have ih:=fun ρ=>IH (pre ++ [x]) o o2 ρ (by rw[hk];simp);rw[Qc F.f502l0.eq_1];by_cases cx:ZP x=0
  ·have e:YR (x:: post)=YR post:=by simp[YR,cx]
   rw[e];rw[cx]at hc;simp[h1,h3,h22,h23,h24,hgt,hlt,hw1,hc];have ih2:=ih;simp only[ne_eq,ite_not]at ih2;rw[ih2] <;> simp[h1,h3,h22,h23]
  ·have e:YR (x:: post)=ZP x:=by simp[YR,cx]
   rw[e];simp[h1,h3,h22,h23,h24,hgt,hlt,hw1,hc,cx]
theorem HV (ags bad:List Nm) (ks:List Tm) (bs:List (List AV)) (ha:ags.length < 1000000) (hb:bad.length < 1000000) (hma: ∀a∈ags,a.length≤1000) (hl:ks.length < 1000000) (hm: ∀y∈ks,y.mass < 1000000):
  call F.tb 502 [.agg (Qt ags bad ks)] bs=some (.int .i64 (X3 ags bad ks),bs):=by
 have c479:=HR ags bad (bs ++ [Qt ags bad ks]) ha hb hma;rw[Qa F.tb_502 _ _ rfl];unfold X3;unfold PG at c479;by_cases c:Ya ags bad=0
 ·have h:=fun ρ=>Qgk ags bad ks bs.length (bs ++ [Qt ags bad ks]) bs rfl rfl c hma hl hm ks [] false false ρ rfl;rw[c]at c479 ⊢;simp only[QL,Qt]at *;simp at c479;by_cases c6:60 < ks.length
  ·have c6i: (60:Int) < (ks.length:Int):=by omega
   simp[F.f502C,c479,c6,c6i]
  ·have c6i: ¬(60:Int) < (ks.length:Int):=by omega
   simp[F.f502C,c479,c6,c6i];have h2:=h;simp only[ne_eq,ite_not]at h2;rw[h2] <;> simp
 ·simp only[QL,Qt,ne_eq,c,not_false_eq_true,if_true]at c479 ⊢;simp[F.f502C,c479,c]
end Go.Am
