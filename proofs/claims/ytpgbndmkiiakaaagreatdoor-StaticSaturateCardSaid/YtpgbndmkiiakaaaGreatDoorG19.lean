/-
  Rc20, Rc21, Rc22, Rc23, Rc24, Rc25.
-/
import Derived.Test.YtpgbndmkiiakaaaGreatDoorG18
set_option linter.unusedVariables false
set_option linter.unusedSimpArgs false
namespace Go.Am
set_option maxRecDepth 8000
theorem Xa:QH []=[]:=rfl
def YT (a:List Pw):List Pw→List Pw
 | []=>a
 | q:: b=>YT (Yc a q.1 q.2) b
def ZX (l:List Pw):Int:=if l.any (fun q=>YB q.2)then 7 else if 200 < l.length then 3 else 0
def XV (a b:List Pw):Int:=if ZP a≠0 then ZP a else if ZP b≠0 then ZP b else ZX (YT a b)
def Xl (a b:List Pw):List Pw:=if XV a b=0 then YT a b else []
theorem Bl (l:List Pw) (bs:List (List AV)) (hl:l.length < 100000000):
  ∀(post pre:List Pw) (o:Bool) (ρ:Nat→AV),l=pre ++ post→pre.any (fun q=>YB q.2)=false→ρ 0= .sl o 5 (QH l)→ρ 3= .int .i64 pre.length→
  R F.tb (.loop F.f263l0) ρ bs (Qk 0 (Qv F.tb F.f263r0 (Qx F.f263 bs)))=some (.int .i64 (ZX l),bs):=by
 intro post
 induction post with
 | nil=>
  intro pre o ρ hk hp h0 h3
  simp only[List.append_nil]at hk
  rw[← hk]at h3 hp
  rw[Qc F.f263l0.eq_1]
  by_cases c:200 < l.length
  ·have c': (200:Int) < (l.length:Int):=by omega
   simp[h0,h3,F.f263r0,F.f263R,F.f263K,ZX,hp,c,c',-List.any_eq_false,-List.any_eq_true]
  ·have c': ¬(200:Int) < (l.length:Int):=by omega
   simp[h0,h3,F.f263r0,F.f263R,F.f263K,ZX,hp,c,c',-List.any_eq_false,-List.any_eq_true]
 | cons p post IH=>
  intro pre o ρ hk hp h0 h3
  have hg:=Qp hk
  have hll:l.length=pre.length+ (post.length+1):=by rw[hk];simp
  have hw1:IntKind.i64.wrap ((pre.length:Int)+1)=(pre.length:Int)+1:=Ql (by omega) (by omega)
  have hlt: (pre.length:Int) < (l.length:Int):=by omega
  have hany:YB p.2=true→ZX l=7:=by
   intro h
   have:l.any (fun q=>YB q.2)=true:=List.any_eq_true.2 ⟨p,by rw[hk];simp,h⟩
   simp only[ZX,this,if_true]
  rw[Qc F.f263l0.eq_1]
  by_cases c4:p.2 < -1000
  ·rw[hany (by simp[YB,c4])]
   simp[h0,h3,hg,hlt,c4,F.f263R,F.f263K]
  ·by_cases c5:1000 < p.2
   ·rw[hany (by simp[YB,c5])]
    simp[h0,h3,hg,hlt,c4,c5,F.f263R,F.f263K]
   ·have ih:=fun ρ=>IH (pre ++ [p]) o ρ (by rw[hk];simp) (by rw[List.any_append,hp];simp[YB,c4,c5])
    simp[h0,h3,hg,hlt,hw1,c4,c5]
    apply ih <;> simp[h0]
theorem Qgc (l:List Pw) (o:Bool) (bs:List (List AV)) (hl:l.length < 100000000):call F.tb 263 [.sl o 5 (QH l)] bs=some (.int .i64 (ZX l),bs):=by
 have h:=fun ρ=>Bl l bs hl l [] false ρ rfl rfl
 rw[Qb F.tb_263 _ _ rfl]
 simp[F.f263B,F.f263C]
 apply h <;> simp
theorem BV (b:List Pw) (bs:List (List AV)) (hb:b.length≤200) (hbm: ∀q∈b,q.1.mass < big∧q.2≠0∧ -1000≤q.2∧q.2≤1000) (X:List Pw):
  ∀(post pre:List Pw) (acc:List Pw) (n:Nat) (o o2:Bool) (ρ:Nat→AV),b=pre ++ post→XR acc n→n+1000*post.length < 40000000→YT acc post=X→ρ 1= .sl o 5 (QH b)→ρ 8= .sl o2 5 (QH acc)→ρ 9= .int .i64 pre.length→
  R F.tb (.loop F.f262l0) ρ bs (Qk 0 (Qv F.tb F.f262r0 (Qx F.f262 bs)))=some (.tup [.sl false 5 (QH (if ZX X=0 then X else [])),.int .i64 (ZX X)],bs):=by
 intro post
 induction post with
 | nil=>
  intro pre acc n o o2 ρ hk ha hn hX h1 h8 h9
  simp only[List.append_nil]at hk
  rw[← hk]at h9
  simp only[YT]at hX
  subst hX
  have hal:=ha.len
  have hr:=Qgc acc false bs (by simp at hn;omega)
  rw[Qc F.f262l0.eq_1]
  by_cases c:ZX acc=0
  ·simp[h1,h8,h9,F.f262r0,hr,c,F.f262R,F.f262K]
  ·simp[h1,h8,h9,F.f262r0,hr,c,F.f262R,F.f262K,Xa]
 | cons p post IH=>
  intro pre acc n o o2 ρ hk ha hn hX h1 h8 h9
  have hg:=Qp hk
  have hll:b.length=pre.length+ (post.length+1):=by rw[hk];simp
  have hw1:IntKind.i64.wrap ((pre.length:Int)+1)=(pre.length:Int)+1:=Ql (by omega) (by omega)
  have hlt: (pre.length:Int) < (b.length:Int):=by omega
  obtain⟨q1,q2,q3,q4⟩:=hbm p (by rw[hk];simp)
  simp only[List.length_cons]at hn
  have hc:=Dc (m:=p.2) false bs ha (by omega) q1 (by omega)
  have ih:=fun ρ=>IH (pre ++ [p]) (Yc acc p.1 p.2) (n+1000) o false ρ (by rw[hk];simp) (ha.add (c:=1000) q1 q2 (by omega) (by omega)) (by omega) (by rw[← hX];rfl)
  rw[Qc F.f262l0.eq_1]
  simp[h1,h8,h9,hg,hlt,hw1,hc]
  apply ih <;> simp[h1]
theorem Qgb (a b:List Pw) (o o2:Bool) (bs:List (List AV)) (ha:a.length < 100000000) (hb:b.length < 100000000) (hma: ∀q∈a,q.1.mass < big) (hmb: ∀q∈b,q.1.mass < big):
  call F.tb 262 [.sl o 5 (QH a),.sl o2 5 (QH b)] bs=some (.tup [.sl false 5 (QH (Xl a b)),.int .i64 (XV a b)],bs):=by
 have h1:=KL a false bs ha hma
 have h2:=KL b false bs hb hmb
 rw[Qb F.tb_262 _ _ rfl]
 by_cases va:ZP a=0
 ·by_cases vb:ZP b=0
  ·obtain⟨ia,la,_⟩:=Ur va hma
   obtain⟨ib,lb,_⟩:=Ur vb hmb
   have h3:=fun ρ=>BV b bs lb (fun q hq=>by obtain⟨x1,x2,x3⟩:=ib.bd q hq;exact⟨x1,ib.nz q hq,x2,x3⟩) _ b [] a 1000 false true ρ rfl ia (by omega) rfl
   have e1:XV a b=ZX (YT a b):=by simp[XV,va,vb]
   have e2:Xl a b=if ZX (YT a b)=0 then YT a b else []:=by simp[Xl,e1]
   have hb64:a.length*64≤140737488355328:=N6 (by omega)
   rw[e1,e2]
   simp[F.f262B,F.f262C,h1,h2,va,vb,hb64]
   apply h3 <;> simp
  ·have e1:XV a b=ZP b:=by simp[XV,va,vb]
   have e2:Xl a b=[]:=by simp[Xl,e1,vb]
   rw[e1,e2]
   simp[F.f262B,F.f262C,h1,h2,va,vb,F.f262R,F.f262K,Xa]
 ·have e1:XV a b=ZP a:=by simp[XV,va]
  have e2:Xl a b=[]:=by simp[Xl,e1,va]
  rw[e1,e2]
  simp[F.f262B,F.f262C,h1,va,F.f262R,F.f262K,Xa]
theorem QkA {B0 B:List (List AV)} {v:AV} {l:List Pw} (p:Pw) (o:Bool) (h:PS B0 B v l) (hl:l.length < 50000000): ∃v' B',appM 64 5 v (.sl o 5 [QZ p]) B=some (v',B')∧PS B0 B' v' (l ++ [p]):=by
 obtain⟨M,id,sz,rfl,rfl,hc⟩:=h
 have hb: (l.length+1)*64≤140737488355328:=N6 (by omega)
 have hs:Wh 5 (.sl o 5 [QZ p]) (B0 ++ M)=some (1,QZ p):=by simp[Wh]
 rcases hc with⟨rfl,rfl,rfl⟩ | ⟨rfl,hid,t,hbx,hne⟩
 ·refine⟨.gs (B0 ++ M).length 0 5 1,B0 ++ (M ++ [QZ p]),?_,M ++ [QZ p],(B0 ++ M).length,5,rfl,rfl,.inr ⟨rfl,by simp,[],?_,?_⟩⟩
  ·simp[appM,hs]
  ·rw[← List.append_assoc,List.getElem?_concat_length];simp[QM,ZL]
  ·simp[QM,ZL,Dv]
 ·have hlt:=Ug hbx
  have hr:=YJ l
  have hle:l.length*5≤(QM l ++ t).length:=by rw[List.length_append,hr];omega
  have hrow:QM (l ++ [p])=QM l ++ QZ p:=by simp[QM,XZ,Sa]
  have htk: (QM l ++ t).take (l.length*5)=QM l:=by rw[← hr,List.take_left]
  have hne2: ∀x:List AV,QM l ++ (QZ p ++ x)≠[]:=fun x e=>by
   have:=congrArg List.length e;simp at this
  by_cases hroom: (l.length+1)*5≤(QM l ++ t).length
  ·refine⟨.gs id 0 5 (l.length+1),(B0 ++ M).set id (QM l ++ (QZ p ++ (QM l ++ t).drop (l.length*5+5))),?_,_,id,5,Y0 hid _,by simp,.inr ⟨rfl,hid,(QM l ++ t).drop (l.length*5+5),?_,?_⟩⟩
   ·simp only[appM,hs,Option.bind_some]
    rw[if_pos ⟨by omega,hb⟩,if_neg (by omega),if_neg (by omega),if_pos ⟨trivial,trivial⟩,hbx]
    simp only[Option.bind_some]
    rw[if_pos ⟨hne,hle⟩,if_pos hroom]
    simp only[put,htk,Wk]
    simp
   ·have:id < (B0 ++ M).length:=hlt
    rw[List.getElem?_set,if_pos rfl,if_pos this,hrow];simp
   ·rw[hrow,List.append_assoc];exact hne2 _
  ·refine⟨.gs (B0 ++ M).length 0 5 (l.length+1),(B0 ++ M).set id []++ [QM l ++ QZ p],?_,M.set (id - B0.length) []++ [QM l ++ QZ p],(B0 ++ M).length,5,?_,by simp,.inr ⟨rfl,by simp,[],?_,?_⟩⟩
   ·have hst: (QM l).map AV.strip=QM l:=Z5 WH l
    simp only[appM,hs,Option.bind_some]
    rw[if_pos ⟨by omega,hb⟩,if_neg (by omega),if_neg (by omega),if_pos ⟨trivial,trivial⟩,hbx]
    simp only[Option.bind_some]
    rw[if_pos ⟨hne,hle⟩,if_neg hroom,htk,hst]
   ·rw[Y0 hid,List.append_assoc]
   ·have e: (B0 ++ M).length=((B0 ++ M).set id []).length:=by simp
    rw[hrow,List.append_nil,e,List.getElem?_concat_length]
   ·rw[hrow,List.append_nil];have:=hne2 [];simpa using this
theorem FP (l:List Pw) (B0 K:List (List AV)) (hl:l.length < 40000000) (hm: ∀q∈l,q.1.mass < big):
  ∀(post pre:List Pw) (B:List (List AV)) (v:AV) (ρ:Nat→AV),l=pre ++ post→PS B0 B v pre→ρ 3=v→ρ 6= .sl false 5 (QH l)→ρ 7= .int .i64 l.length→ρ 8= .int .i64 pre.length→
  QcE B0 l (R F.tb (.loop F.f201l0) ρ B (Qk 0 (Qv F.tb F.f201r0 (Qx F.f201 K)))):=by
 intro post
 induction post with
 | nil=>
  intro pre B v ρ hk hps h3 h6 h7 h8
  simp only[List.append_nil]at hk
  subst hk
  obtain⟨id,sz,rfl⟩:=WK hps
  rw[Qc F.f201l0.eq_1]
  refine⟨_,B,?_,hps⟩
  simp[h3,h6,h7,h8,F.f201r0,F.f201R,F.f201K]
 | cons p post IH=>
  intro pre B v ρ hk hps h3 h6 h7 h8
  have hg:=Qp hk
  have hll:l.length=pre.length+ (post.length+1):=by rw[hk];simp
  have hw1:IntKind.i64.wrap ((pre.length:Int)+1)=(pre.length:Int)+1:=Ql (by omega) (by omega)
  have hlt: (pre.length:Int) < (l.length:Int):=by omega
  have hc:=UM p.1 B (hm p (by rw[hk];simp))
  obtain⟨v2,B2,ha,hps2⟩:=QkA p false hps (by omega)
  have ih:=fun ρ=>IH (pre ++ [p]) B2 v2 ρ (by rw[hk];simp) hps2
  obtain⟨id,sz,rfl⟩:=WK hps
  obtain⟨id2,sz2,rfl⟩:=WK hps2
  have hf:Qa p.1 ++ [.int .i64 p.2]=QZ p:=rfl
  rw[Qc F.f201l0.eq_1]
  simp[h3,h6,h7,h8,hg,hlt,hw1,hc,List.take_append,List.drop_append,hf,ha]
  apply ih <;> simp[h6,h7]
theorem QfM (l:List Pw) (o:Bool) (B0:List (List AV)) (hl:l.length < 40000000) (hm: ∀q∈l,q.1.mass < big):QcE B0 l (call F.tb 201 [.sl o 5 (QH l)] B0):=by
 have h:=fun ρ=>FP l B0 B0 hl hm l [] B0 _ ρ rfl (QbT B0)
 rw[Qb F.tb_201 _ _ rfl]
 simp[F.f201B,F.f201C]
 apply h <;> simp
theorem QfO (p:Pw) (B:List (List AV)):call F.tb 203 [.agg (QZ p)] B=some (.bool (YB p.2),B):=by
 rw[Qb F.tb_203 _ _ rfl]
 by_cases c4:p.2 < -1000
 ·simp[F.f203B,F.f203C,F.f203R,F.f203K,YB,c4]
 ·by_cases c5:1000 < p.2
  ·simp[F.f203B,F.f203C,F.f203R,F.f203K,YB,c4,c5]
  ·simp[F.f203B,F.f203C,F.f203R,F.f203K,YB,c4,c5]
def U4 (b:Bool) (B:List (List AV)) (r:Out):Prop:=∃i:Int,r=some (.int .i64 i,B)∧(0≤i↔b=true)
theorem Qhq {B0 B:List (List AV)} {v:AV} {l:List Pw} (h:PS B0 B v l) (hl:l.length < 100000000):
  ∀(post pre:List Pw) (ρ:Nat→AV),l=pre ++ post→pre.any (fun q=>YB q.2)=false→ρ 0=v→ρ 1= .fn 203 []→ρ 7= .int .i64 l.length→ρ 8= .int .i64 pre.length→
  U4 (l.any fun q=>YB q.2) B (R F.tb (.loop F.f205l0) ρ B (Qk 0 (Qv F.tb F.f205r0 (Qx F.f205 B)))):=by
 obtain⟨M,id,sz,rfl,rfl,hc⟩:=h
 have htk: (B0 ++ M).take (B0.length+M.length)=B0 ++ M:=List.take_of_length_le (by simp)
 intro post
 induction post with
 | nil=>
  intro pre ρ hk hp h0 h1 h7 h8
  simp only[List.append_nil]at hk
  rw[← hk]at h8 hp
  rw[Qc F.f205l0.eq_1]
  refine⟨-1,?_,by rw[hp];simp⟩
  simp[h0,h1,h7,h8,F.f205r0,F.f205R,F.f205K,htk]
 | cons p post IH=>
  intro pre ρ hk hp h0 h1 h7 h8
  have hg:=Qp hk
  have hll:l.length=pre.length+ (post.length+1):=by rw[hk];simp
  have hw1:IntKind.i64.wrap ((pre.length:Int)+1)=(pre.length:Int)+1:=Ql (by omega) (by omega)
  have hlt: (pre.length:Int) < (l.length:Int):=by omega
  have hlt':pre.length < l.length:=by omega
  rcases hc with⟨rfl,rfl,rfl⟩ | ⟨rfl,hid,t,hbx,hne⟩
  ·simp at hlt'
  have r1:=K3 (l:=l) (Nz hg t)
  have hle:pre.length*5+5≤(QM l ++ t).length:=by rw[List.length_append,YJ];omega
  have hcall:=QfO p (B0 ++ M)
  have ih:=fun ρ hpp=>IH (pre ++ [p]) ρ (by rw[hk];simp) hpp
  generalize QM l ++ t=c at *
  rw[Qc F.f205l0.eq_1]
  cases ho:YB p.2
  ·have ih2:=fun ρ=>ih ρ (by rw[List.any_append,hp];simp[ho])
   simp[-getElem?_pos,h0,h1,h7,h8,hlt,hlt',hw1,hbx,hle,r1,hcall,ho,-List.any_eq_false,-List.any_eq_true]
   apply ih2 <;> simp[h0,h1,h7]
  ·have hany:l.any (fun q=>YB q.2)=true:=List.any_eq_true.2 ⟨p,by rw[hk];simp,ho⟩
   refine⟨pre.length,?_,by rw[hany];simp⟩
   simp[-getElem?_pos,h0,h1,h7,h8,hlt,hlt',hbx,hle,r1,hcall,ho,F.f205R,F.f205K,htk]
theorem QfP {B0 B:List (List AV)} {v:AV} {l:List Pw} (h:PS B0 B v l) (hl:l.length < 100000000):call F.tb 204 [v,.fn 203 []] B=some (.bool (l.any fun q=>YB q.2),B):=by
 have h1:=fun ρ=>Qhq h hl l [] ρ rfl rfl
 obtain⟨id,sz,rfl⟩:=WK h
 have h2:U4 (l.any fun q=>YB q.2) B (call F.tb 205 [.gs id 0 sz l.length,.fn 203 []] B):=by
  rw[Qb F.tb_205 _ _ rfl]
  simp[F.f205B,F.f205C,-List.any_eq_false,-List.any_eq_true]
  apply h1 <;> simp
 obtain⟨i,hi,hb⟩:=h2
 rw[Qb F.tb_204 _ _ rfl]
 simp[F.f204B,F.f204C,hi,F.f204R,F.f204K,-List.any_eq_false,-List.any_eq_true]
 cases hx:l.any fun q=>YB q.2
 ·rw[hx]at hb;simp at hb;simpa using hb
 ·rw[hx]at hb;simp at hb;simpa using hb
theorem QhH {B0 B:List (List AV)} {v:AV} {l:List Pw} (h:PS B0 B v l) (n:Nat): ∃o M2,(B0 ++ M2).length=B.length∧YM B (B0 ++ M2)=true∧∀ρ:Nat→AV,ρ n=v→Z4 {env:=ρ,bs:=B} n 5=some (.sl o 5 (QH l),{env:=upd ρ n .undef,bs:=B0 ++ M2}):=by
 obtain⟨M,id,sz,rfl,rfl,hc⟩:=h
 rcases hc with⟨rfl,rfl,rfl⟩ | ⟨rfl,hid,t,hb,hne⟩
 ·exact⟨true,M,rfl,SG _,fun ρ hn=>by simp[Z4,hn,QH]⟩
 ·by_cases hl:l.length=0
  ·have:l=[]:=List.eq_nil_of_length_eq_zero hl
   subst this
   exact⟨false,M,rfl,SG _,fun ρ hn=>by simp[Z4,hn,QH]⟩
  ·refine⟨true,M.set (id - B0.length) [],by simp,by rw[← Y0 hid];exact Gr _ _,fun ρ hn=> ?_⟩
   have hle:0+l.length*5≤(QM l ++ t).length:=by rw[List.length_append,YJ];omega
   have hch:ZU (QM l ++ t) 0 5 l.length=QH l:=Xx (f:=QZ) (k:=5) Wk WH l t
   simp only[Z4,hn]
   rw[if_pos ⟨trivial,by omega⟩,if_neg hl,hb]
   simp only[Option.bind_some]
   rw[if_pos hle,hch,Y0 hid]
   rfl
def Qk6 (B0:List (List AV)) (l:List Pw) (r:Out):Prop:=∃M,r=some (.tup [.sl false 5 (QH (if ZX l=0 then l else [])),.int .i64 (ZX l)],B0 ++ M)
theorem QfN {B0 B:List (List AV)} {v:AV} {l:List Pw} (h:PS B0 B v l) (hl:l.length < 100000000):Qk6 B0 l (call F.tb 202 [v] B):=by
 have h1:=QfP h hl
 obtain⟨o,M2,hlen,hchk,hf⟩:=QhH h 9
 obtain⟨M,hM⟩: ∃M,B=B0 ++ M:=by obtain⟨M,_,_,h,_⟩:=h;exact⟨M,h⟩
 subst hM
 have htk: (B0 ++ M2).take (B0.length+M.length)=B0 ++ M2:=List.take_of_length_le (by rw[hlen];simp)
 have htk0: (B0 ++ M).take (B0.length+M.length)=B0 ++ M:=List.take_of_length_le (by simp)
 have hgp:=MD l
 obtain⟨id,sz,rfl⟩:=WK h
 rw[Qb F.tb_202 _ _ rfl]
 cases ha:l.any fun q=>YB q.2
 ·rw[ha]at h1
  by_cases c:200 < l.length
  ·have c': (200:Int) < (l.length:Int):=by omega
   have e:ZX l=3:=by simp only[ZX,ha,c,if_true];rfl
   refine⟨M,?_⟩
   rw[e]
   simp[F.f202B,F.f202C,h1,c',F.f202R,F.f202K,Xa,htk0]
  ·have c': ¬(200:Int) < (l.length:Int):=by omega
   have e:ZX l=0:=by simp only[ZX,ha,c,if_false];rfl
   refine⟨M2,?_⟩
   rw[e]
   simp[F.f202B,F.f202C,h1,c',F.f202R,F.f202K,hf,htk,hchk]
 ·rw[ha]at h1
  have e:ZX l=7:=by simp only[ZX,ha,if_true]
  refine⟨M,?_⟩
  rw[e]
  simp[F.f202B,F.f202C,h1,F.f202R,F.f202K,Xa,htk0]
theorem QdE (b:List Pw) (B0:List (List AV)) (hb:b.length≤200) (hbm: ∀q∈b,q.1.mass < big∧q.2≠0∧ -1000≤q.2∧q.2≤1000) (X:List Pw):
  ∀(post pre:List Pw) (acc:List Pw) (n:Nat) (B:List (List AV)) (v:AV) (ρ:Nat→AV),b=pre ++ post→PS B0 B v acc→XR acc n→n+1000*post.length < 40000000→YT acc post=X→ρ 8=v→ρ 23= .sl false 5 (QH b)→ρ 24= .int .i64 b.length→ρ 25= .int .i64 pre.length→
  R F.tb (.loop F.f200l0) ρ B (Qk 0 (Qv F.tb F.f200r0 (Qx F.f200 B0)))=some (.tup [.sl false 5 (QH (if ZX X=0 then X else [])),.int .i64 (ZX X)],B0):=by
 intro post
 induction post with
 | nil=>
  intro pre acc n B v ρ hk hps ha hn hX h8 h23 h24 h25
  simp only[List.append_nil]at hk
  rw[← hk]at h25
  simp only[YT]at hX
  subst hX
  have hal:=ha.len
  obtain⟨M,hr⟩:=QfN hps (by simp at hn;omega)
  obtain⟨id,sz,rfl⟩:=WK hps
  rw[Qc F.f200l0.eq_1]
  generalize (if ZX acc=0 then acc else [])=X at *
  simp[h8,h23,h24,h25,F.f200r0,hr,F.f200R,F.f200K]
 | cons p post IH=>
  intro pre acc n B v ρ hk hps ha hn hX h8 h23 h24 h25
  have hg:=Qp hk
  have hll:b.length=pre.length+ (post.length+1):=by rw[hk];simp
  have hw1:IntKind.i64.wrap ((pre.length:Int)+1)=(pre.length:Int)+1:=Ql (by omega) (by omega)
  have hlt: (pre.length:Int) < (b.length:Int):=by omega
  obtain⟨q1,q2,q3,q4⟩:=hbm p (by rw[hk];simp)
  simp only[List.length_cons]at hn
  have hal:=ha.len
  obtain⟨v2,B2,hc,hps2⟩:=E1 (p:=p) hps (by omega) (fun q hq=>by obtain⟨a1,a2,a3⟩:=ha.bd q hq;exact⟨a1,by omega,by omega⟩) q1 (by omega) ha.asc
  have ih:=fun ρ=>IH (pre ++ [p]) (Yc acc p.1 p.2) (n+1000) B2 v2 ρ (by rw[hk];simp) hps2 (ha.add (c:=1000) q1 q2 (by omega) (by omega)) (by omega) (by rw[← hX];rfl)
  obtain⟨id,sz,rfl⟩:=WK hps
  obtain⟨id2,sz2,rfl⟩:=WK hps2
  rw[Qc F.f200l0.eq_1]
  simp[h8,h23,h24,h25,hg,hlt,hw1,hc]
  apply ih <;> simp[h23,h24]
theorem QfL (a b:List Pw) (o o2:Bool) (bs:List (List AV)) (ha:a.length < 100000000) (hb:b.length < 100000000) (hma: ∀q∈a,q.1.mass < big) (hmb: ∀q∈b,q.1.mass < big):
  call F.tb 200 [.sl o 5 (QH a),.sl o2 5 (QH b)] bs=some (.tup [.sl false 5 (QH (Xl a b)),.int .i64 (XV a b)],bs):=by
 have h1:=KH a false bs ha hma
 have h2:=KH b false bs hb hmb
 rw[Qb F.tb_200 _ _ rfl]
 by_cases va:ZP a=0
 ·by_cases vb:ZP b=0
  ·obtain⟨ia,la,_⟩:=Ur va hma
   obtain⟨ib,lb,_⟩:=Ur vb hmb
   obtain⟨v,B,hc,hps⟩:=QfM a false bs (by omega) hma
   have h3:=fun ρ=>QdE b bs lb (fun q hq=>by obtain⟨x1,x2,x3⟩:=ib.bd q hq;exact⟨x1,ib.nz q hq,x2,x3⟩) _ b [] a 1000 B v ρ rfl hps ia (by omega) rfl
   obtain⟨id,sz,rfl⟩:=WK hps
   have e1:XV a b=ZX (YT a b):=by simp[XV,va,vb]
   have e2:Xl a b=if ZX (YT a b)=0 then YT a b else []:=by simp[Xl,e1]
   rw[e1,e2]
   simp[F.f200B,F.f200C,h1,h2,va,vb,hc]
   apply h3 <;> simp
  ·have e1:XV a b=ZP b:=by simp[XV,va,vb]
   have e2:Xl a b=[]:=by simp[Xl,e1,vb]
   rw[e1,e2]
   simp[F.f200B,F.f200C,h1,h2,va,vb,F.f200R,F.f200K,Xa]
 ·have e1:XV a b=ZP a:=by simp[XV,va]
  have e2:Xl a b=[]:=by simp[Xl,e1,va]
  rw[e1,e2]
  simp[F.f200B,F.f200C,h1,va,F.f200R,F.f200K,Xa]
end Go.Am
namespace Go.Am
set_option maxRecDepth 8000
@[simp] theorem Ql4 (x y:Tm) (a:List Tm) (h:1 < (encTs (x:: y:: a)).length): (encTs (x:: y:: a))[1]=Qa y:=by simp[encTs]
def Q7:List UInt8:=[112,97,105,114]
def ENC:List UInt8:=[101,110,99]
def Zc:List UInt8:=[97,101,110,99]
def PK:List UInt8:=[112,107]
def QW:List UInt8:=[115,105,103,110]
def EXP:List UInt8:=[101,120,112]
def FST:List UInt8:=[102,115,116]
def SND:List UInt8:=[115,110,100]
def DEC:List UInt8:=[100,101,99]
def Q5:List UInt8:=[97,100,101,99]
def QT:List UInt8:=[111,112,101,110]
def READ:List UInt8:=[114,101,97,100]
def Q6 (n:List UInt8) (m:Nat):Bool:=
 if n=Q7∨n=ENC∨n=Zc∨n=QW∨n=EXP∨n=DEC∨n=Q5∨n=QT then decide (m=2)
 else if n=PK∨n=FST∨n=SND∨n=READ then decide (m=1)else true
mutual
def QU:Tm→Bool
 | .mk k n s ks=>(!(k == 3) || ((s == 0) && Q6 n ks.length)) && goodL ks
def goodL:List Tm→Bool
 | []=>true
 | t:: ts=>QU t && goodL ts
end
theorem GG (t:Tm):QU t=((!(t.kind == 3) || ((t.sort == 0) && Q6 t.name t.kids.length)) && goodL t.kids):=by cases t;simp[QU]
theorem YE: ∀{l:List Tm},goodL l=true↔∀x∈l,QU x=true
 | []=>by simp[goodL]
 | t:: ts=>by simp[goodL,YE (l:=ts)]
theorem Xc {t:Tm} (h:QU t=true):goodL t.kids=true:=by rw[GG]at h;simp at h;exact h.2
theorem Wy {t:Tm} (h:QU t=true) (hk:t.kind=3):t.sort=0∧Q6 t.name t.kids.length=true:=by
 rw[GG]at h;simp[hk]at h;exact h.1
theorem Q0 {t:Tm} {n:List UInt8} (h:QU t=true) (hb:isB t n=true) (hn:Q6 n t.kids.length=decide (t.kids.length=2)): ∃x y,t.kids=[x,y]:=by
 obtain⟨hk,rfl⟩:=PY.1 hb
 have:=(Wy h hk).2
 rw[hn]at this
 simp at this
 match hh:t.kids with
 | [x,y]=>exact⟨x,y,rfl⟩
 | []=>rw[hh]at this;simp at this
 | [_]=>rw[hh]at this;simp at this
 | _:: _:: _:: _=>rw[hh]at this;simp at this
def kid (t:Tm) (i:Nat):Tm:=t.kids.getD i Qy
def pkT (t:Tm):Tm:= .mk 3 PK 0 [t]
theorem DK {u:Tm} (h:QU u=true) (key:Tm):decide (Qm u (pkT key)=0)=(isB u PK && decide (Qm (kid u 0) key=0)):=by
 cases hb:isB u PK
 ·have: ¬Qm u (pkT key)=0:=by
   intro e
   have:=Z6 _ _ e
   subst this
   simp[isB,pkT]at hb
  simp[this]
 ·obtain⟨hk,hn⟩:=PY.1 hb
  obtain⟨hs,ha⟩:=Wy h hk
  rw[hn]at ha
  have h1:u.kids.length=1:=by simpa[Q6,PK,Q7,ENC,Zc,QW,EXP,DEC,Q5,QT]using ha
  obtain⟨x,hx⟩:=List.length_eq_one_iff.1 h1
  have hu:u=pkT x:=by rw[← Tm.eta u,hk,hn,hs,hx];rfl
  subst hu
  have:kid (pkT x) 0=x:=rfl
  rw[this]
  have e1:Qm (pkT x) (pkT key)=0↔Qm x key=0:=by
   constructor
   ·intro e
    have:=Z6 _ _ e
    injection this with _ _ _ h4
    injection h4 with h4
    subst h4;exact Y8 _
   ·intro e
    have:=Z6 _ _ e
    subst this;exact Y8 _
  simp[e1]
def QN (n:List UInt8) (us:List Tm):Tm:=
 let a:=us.getD 0 Qy
 let key:=us.getD 1 Qy
 let out:Tm:= .mk 3 n 0 us
 if n=FST then(if isB a Q7 then kid a 0 else out)
 else if n=SND then(if isB a Q7 then kid a 1 else out)
 else if n=DEC then(if isB a ENC && decide (Qm (kid a 1) key=0)then kid a 0 else out)
 else if n=Q5 then(if isB a Zc && decide (Qm (kid a 1) (pkT key)=0)then kid a 0 else out)
 else if n=QT then(if isB a QW && decide (Qm key (pkT (kid a 1))=0)then kid a 0 else out)
 else if n=READ then(if isB a QW then kid a 0 else out)
 else out
theorem NU (x y:Tm) (bs:List (List AV)) (hx:x.mass < big) (hy:y.mass < big):call F.tb 177 [.agg (Qa x),.agg (Qa y)] bs=some (.bool (decide (Qm x y=0)),bs):=by
 have h:=call_Compare x y bs hx hy
 rw[Qb F.tb_177 _ _ rfl]
 simp[F.f177B,F.f177C,F.f177R,F.f177K,h]
def Yq (n:List UInt8):Bool:=n == FST || n == SND || n == DEC || n == Q5 || n == QT || n == READ
theorem Qc7 (n:List UInt8) (a:Tm) (bs:List (List AV)) (hn:n=FST∨n=SND∨n=READ) (hg:QU a=true) (hm:a.mass < big):
  call F.tb 176 [.agg (Qa (.mk 3 n 0 [a]))] bs=some (.agg (Qa (QN n [a])),bs):=by
 have h1:=fun m=>SF a m bs
 rw[Qb F.tb_176 _ _ rfl]
 rcases hn with rfl | rfl | rfl
 ·cases hb:isB a Q7
  ·have h2:=h1 Q7;rw[hb]at h2;simp only[Q7]at h2
   have e:QN FST [a]= .mk 3 FST 0 [a]:=by simp[QN,hb]
   rw[e]
   simp only[FST]
   simp[F.f176B,F.f176C,F.f176R,F.f176K,h2]
  ·have h2:=h1 Q7;rw[hb]at h2;simp only[Q7]at h2
   obtain⟨x,y,hk⟩:=Q0 hg hb (by simp[Q6])
   have e:QN FST [a]=x:=by simp[QN,hb,kid,hk]
   rw[e]
   simp only[FST]
   simp[F.f176B,F.f176C,F.f176R,F.f176K,h2,hk]
 ·cases hb:isB a Q7
  ·have h2:=h1 Q7;rw[hb]at h2;simp only[Q7]at h2
   have e:QN SND [a]= .mk 3 SND 0 [a]:=by simp[QN,hb,SND,FST]
   rw[e]
   simp only[SND]
   simp[F.f176B,F.f176C,F.f176R,F.f176K,h2]
  ·have h2:=h1 Q7;rw[hb]at h2;simp only[Q7]at h2
   obtain⟨x,y,hk⟩:=Q0 hg hb (by simp[Q6])
   have e:QN SND [a]=y:=by simp[QN,hb,kid,hk,SND,FST]
   rw[e]
   simp only[SND]
   simp[F.f176B,F.f176C,F.f176R,F.f176K,h2,hk]
 ·cases hb:isB a QW
  ·have h2:=h1 QW;rw[hb]at h2;simp only[QW]at h2
   have e:QN READ [a]= .mk 3 READ 0 [a]:=by simp[QN,hb,SND,FST,DEC,Q5,QT,READ]
   rw[e]
   simp only[READ]
   simp[F.f176B,F.f176C,F.f176R,F.f176K,h2]
  ·have h2:=h1 QW;rw[hb]at h2;simp only[QW]at h2
   obtain⟨x,y,hk⟩:=Q0 hg hb (by simp[Q6])
   have e:QN READ [a]=x:=by simp[QN,hb,kid,hk,SND,FST,DEC,Q5,QT,READ]
   rw[e]
   simp only[READ]
   simp[F.f176B,F.f176C,F.f176R,F.f176K,h2,hk]
theorem Qc8 (n:List UInt8) (a key:Tm) (bs:List (List AV)) (hn:n=DEC∨n=Q5∨n=QT) (hg:QU a=true) (hgk:QU key=true) (hm:a.mass < big - 10) (hmk:key.mass < big - 10):
  call F.tb 176 [.agg (Qa (.mk 3 n 0 [a,key]))] bs=some (.agg (Qa (QN n [a,key])),bs):=by
 have h1:=fun t m=>SF t m bs
 rw[Qb F.tb_176 _ _ rfl]
 rcases hn with rfl | rfl | rfl
 ·cases hb:isB a ENC
  ·have h2:=h1 a ENC;rw[hb]at h2;simp only[ENC]at h2
   have e:QN DEC [a,key]= .mk 3 DEC 0 [a,key]:=by simp[QN,hb,SND,FST,DEC]
   rw[e]
   simp only[DEC]
   simp[F.f176B,F.f176C,F.f176R,F.f176K,h2]
  ·have h2:=h1 a ENC;rw[hb]at h2;simp only[ENC]at h2
   obtain⟨x,y,hk⟩:=Q0 hg hb (by simp[Q6])
   have hma:=Qo a
   rw[hk]at hma
   simp only[massL]at hma
   have h3:=NU y key bs (by omega) (by omega)
   by_cases hc:Qm y key=0
   ·have e:QN DEC [a,key]=x:=by simp[QN,hb,kid,hk,hc,SND,FST,DEC]
    rw[e]
    simp only[DEC]
    simp[F.f176B,F.f176C,F.f176R,F.f176K,h2,h3,hc,hk]
   ·have e:QN DEC [a,key]= .mk 3 DEC 0 [a,key]:=by simp[QN,hb,kid,hk,hc,SND,FST,DEC]
    rw[e]
    simp only[DEC]
    simp[F.f176B,F.f176C,F.f176R,F.f176K,h2,h3,hc,hk]
 ·cases hb:isB a Zc
  ·have h2:=h1 a Zc;rw[hb]at h2;simp only[Zc]at h2
   have e:QN Q5 [a,key]= .mk 3 Q5 0 [a,key]:=by simp[QN,hb,SND,FST,DEC,Q5]
   rw[e]
   simp only[Q5]
   simp[F.f176B,F.f176C,F.f176R,F.f176K,h2]
  ·have h2:=h1 a Zc;rw[hb]at h2;simp only[Zc]at h2
   obtain⟨x,y,hk⟩:=Q0 hg hb (by simp[Q6])
   have hma:=Qo a
   have hgy:QU y=true:=by
    have:=Xc hg;rw[hk]at this;simp[goodL]at this;exact this.2
   rw[hk]at hma
   simp only[massL]at hma
   have hpk:=DK hgy key
   have h4:=h1 y PK
   have e0:QN Q5 [a,key]=if isB y PK && decide (Qm (kid y 0) key=0)then x else .mk 3 Q5 0 [a,key]:=by
    rw[← hpk];simp[QN,hb,kid,hk,SND,FST,DEC,Q5]
   rw[e0]
   cases hbp:isB y PK
   ·rw[hbp]at h4;simp only[PK]at h4
    simp only[Q5]
    simp[F.f176B,F.f176C,F.f176R,F.f176K,h2,h4,hk]
   ·rw[hbp]at h4;simp only[PK]at h4
    obtain⟨hyk,hyn⟩:=PY.1 hbp
    have har:=(Wy hgy hyk).2
    rw[hyn]at har
    have hl1:y.kids.length=1:=by simpa[Q6,PK,Q7,ENC,Zc,QW,EXP,DEC,Q5,QT]using har
    obtain⟨z,hz⟩:=List.length_eq_one_iff.1 hl1
    have hmy:=Qo y
    rw[hz]at hmy
    simp only[massL]at hmy
    have h3:=NU z key bs (by omega) (by omega)
    have hk0:kid y 0=z:=by simp[kid,hz]
    rw[hk0]
    by_cases hc:Qm z key=0
    ·simp only[Q5]
     simp[F.f176B,F.f176C,F.f176R,F.f176K,h2,h3,h4,hc,hk,hz]
    ·simp only[Q5]
     simp[F.f176B,F.f176C,F.f176R,F.f176K,h2,h3,h4,hc,hk,hz]
 ·cases hb:isB a QW
  ·have h2:=h1 a QW;rw[hb]at h2;simp only[QW]at h2
   have e:QN QT [a,key]= .mk 3 QT 0 [a,key]:=by simp[QN,hb,SND,FST,DEC,Q5,QT]
   rw[e]
   simp only[QT]
   simp[F.f176B,F.f176C,F.f176R,F.f176K,h2]
  ·have h2:=h1 a QW;rw[hb]at h2;simp only[QW]at h2
   obtain⟨x,y,hk⟩:=Q0 hg hb (by simp[Q6])
   have hma:=Qo a
   rw[hk]at hma
   simp only[massL]at hma
   have hpk:=DK hgk y
   have h4:=h1 key PK
   have e0:QN QT [a,key]=if isB key PK && decide (Qm (kid key 0) y=0)then x else .mk 3 QT 0 [a,key]:=by
    rw[← hpk];simp[QN,hb,kid,hk,SND,FST,DEC,Q5,QT]
   rw[e0]
   cases hbp:isB key PK
   ·rw[hbp]at h4;simp only[PK]at h4
    simp only[QT]
    simp[F.f176B,F.f176C,F.f176R,F.f176K,h2,h4,hk]
   ·rw[hbp]at h4;simp only[PK]at h4
    obtain⟨hyk,hyn⟩:=PY.1 hbp
    have har:=(Wy hgk hyk).2
    rw[hyn]at har
    have hl1:key.kids.length=1:=by simpa[Q6,PK,Q7,ENC,Zc,QW,EXP,DEC,Q5,QT]using har
    obtain⟨z,hz⟩:=List.length_eq_one_iff.1 hl1
    have hmy:=Qo key
    rw[hz]at hmy
    simp only[massL]at hmy
    have h3:=NU y z bs (by omega) (by omega)
    have hk0:kid key 0=z:=by simp[kid,hz]
    have hsym: (Qm z y=0)=(Qm y z=0):=by
     have:=Y7 y z
     rw[eq_iff_iff];omega
    rw[hk0]
    by_cases hc:Qm y z=0
    ·simp only[QT]
     simp[F.f176B,F.f176C,F.f176R,F.f176K,h2,h3,h4,hc,hk,hz,hsym]
    ·simp only[QT]
     simp[F.f176B,F.f176C,F.f176R,F.f176K,h2,h3,h4,hc,hk,hz,hsym]
end Go.Am
namespace Go.Am
set_option maxRecDepth 8000
theorem G8 (t:Tm): (pkT t).mass=t.mass+4:=by simp only[pkT,Tm.mass,massL,PK,List.length_cons,List.length_nil];omega
def Qcz (t:Tm) (bs:List (List AV)) (r:Out):Prop:=∃b,r=some (.tup [.agg (Qa t),.bool b],bs)
theorem BT (n:List UInt8) (a:Tm) (bs:List (List AV)) (hn:n=FST∨n=SND∨n=READ) (hg:QU a=true) (hm:a.mass < big):
  Qcz (QN n [a]) bs (call F.tb 243 [.agg (Qa (.mk 3 n 0 [a]))] bs):=by
 have h1:=fun m=>VJ a m bs
 rw[Qb F.tb_243 _ _ rfl]
 rcases hn with rfl | rfl | rfl
 ·cases hb:isB a Q7
  ·have h2:=h1 Q7;rw[hb]at h2;simp only[Q7]at h2
   have e:QN FST [a]= .mk 3 FST 0 [a]:=by simp[QN,hb]
   rw[e]
   refine⟨false,?_⟩
   simp only[FST]
   simp[F.f243B,F.f243C,F.f243R,F.f243K,h2]
  ·have h2:=h1 Q7;rw[hb]at h2;simp only[Q7]at h2
   obtain⟨x,y,hk⟩:=Q0 hg hb (by simp[Q6])
   have e:QN FST [a]=x:=by simp[QN,hb,kid,hk]
   rw[e]
   refine⟨true,?_⟩
   simp only[FST]
   simp[F.f243B,F.f243C,F.f243R,F.f243K,h2,hk]
 ·cases hb:isB a Q7
  ·have h2:=h1 Q7;rw[hb]at h2;simp only[Q7]at h2
   have e:QN SND [a]= .mk 3 SND 0 [a]:=by simp[QN,hb,SND,FST]
   rw[e]
   refine⟨false,?_⟩
   simp only[SND]
   simp[F.f243B,F.f243C,F.f243R,F.f243K,h2]
  ·have h2:=h1 Q7;rw[hb]at h2;simp only[Q7]at h2
   obtain⟨x,y,hk⟩:=Q0 hg hb (by simp[Q6])
   have e:QN SND [a]=y:=by simp[QN,hb,kid,hk,SND,FST]
   rw[e]
   refine⟨true,?_⟩
   simp only[SND]
   simp[F.f243B,F.f243C,F.f243R,F.f243K,h2,hk]
 ·cases hb:isB a QW
  ·have h2:=h1 QW;rw[hb]at h2;simp only[QW]at h2
   have e:QN READ [a]= .mk 3 READ 0 [a]:=by simp[QN,hb,SND,FST,DEC,Q5,QT,READ]
   rw[e]
   refine⟨false,?_⟩
   simp only[READ]
   simp[F.f243B,F.f243C,F.f243R,F.f243K,h2]
  ·have h2:=h1 QW;rw[hb]at h2;simp only[QW]at h2
   obtain⟨x,y,hk⟩:=Q0 hg hb (by simp[Q6])
   have e:QN READ [a]=x:=by simp[QN,hb,kid,hk,SND,FST,DEC,Q5,QT,READ]
   rw[e]
   refine⟨true,?_⟩
   simp only[READ]
   simp[F.f243B,F.f243C,F.f243R,F.f243K,h2,hk]
theorem BU (n:List UInt8) (a key:Tm) (bs:List (List AV)) (hn:n=DEC∨n=Q5∨n=QT) (hg:QU a=true) (hm:a.mass < big - 10) (hmk:key.mass < big - 10):
  Qcz (QN n [a,key]) bs (call F.tb 243 [.agg (Qa (.mk 3 n 0 [a,key]))] bs):=by
 have h1:=fun t m=>VJ t m bs
 rw[Qb F.tb_243 _ _ rfl]
 rcases hn with rfl | rfl | rfl
 ·cases hb:isB a ENC
  ·have h2:=h1 a ENC;rw[hb]at h2;simp only[ENC]at h2
   have e:QN DEC [a,key]= .mk 3 DEC 0 [a,key]:=by simp[QN,hb,SND,FST,DEC]
   rw[e]
   refine⟨false,?_⟩
   simp only[DEC]
   simp[F.f243B,F.f243C,F.f243R,F.f243K,h2]
  ·have h2:=h1 a ENC;rw[hb]at h2;simp only[ENC]at h2
   obtain⟨x,y,hk⟩:=Q0 hg hb (by simp[Q6])
   have hma:=Qo a
   rw[hk]at hma
   simp only[massL]at hma
   have h3:=Z8 y key bs (by omega) (by omega)
   by_cases hc:Qm y key=0
   ·have e:QN DEC [a,key]=x:=by simp[QN,hb,kid,hk,hc,SND,FST,DEC]
    rw[e]
    refine⟨true,?_⟩
    simp only[DEC]
    simp[F.f243B,F.f243C,F.f243R,F.f243K,h2,h3,hc,hk]
   ·have e:QN DEC [a,key]= .mk 3 DEC 0 [a,key]:=by simp[QN,hb,kid,hk,hc,SND,FST,DEC]
    rw[e]
    refine⟨false,?_⟩
    simp only[DEC]
    simp[F.f243B,F.f243C,F.f243R,F.f243K,h2,h3,hc,hk]
 ·cases hb:isB a Zc
  ·have h2:=h1 a Zc;rw[hb]at h2;simp only[Zc]at h2
   have e:QN Q5 [a,key]= .mk 3 Q5 0 [a,key]:=by simp[QN,hb,SND,FST,DEC,Q5]
   rw[e]
   refine⟨false,?_⟩
   simp only[Q5]
   simp[F.f243B,F.f243C,F.f243R,F.f243K,h2]
  ·have h2:=h1 a Zc;rw[hb]at h2;simp only[Zc]at h2
   obtain⟨x,y,hk⟩:=Q0 hg hb (by simp[Q6])
   have hma:=Qo a
   rw[hk]at hma
   simp only[massL]at hma
   have hpm: (pkT key).mass < big:=by rw[G8];unfold big at *;omega
   have h3:=Z8 y (pkT key) bs (by omega) hpm
   have h4:=YD PK [key] false bs (by simp)
   simp only[pkT,PK]at h3 h4
   by_cases hc:Qm y (pkT key)=0
   ·have e:QN Q5 [a,key]=x:=by simp[QN,hb,kid,hk,hc,SND,FST,DEC,Q5]
    rw[e]
    refine⟨true,?_⟩
    simp only[pkT,PK]at hc
    simp only[Q5]
    simp[F.f243B,F.f243C,F.f243R,F.f243K,h2,h3,h4,hc,hk,Zb]
   ·have e:QN Q5 [a,key]= .mk 3 Q5 0 [a,key]:=by simp[QN,hb,kid,hk,hc,SND,FST,DEC,Q5]
    rw[e]
    refine⟨false,?_⟩
    simp only[pkT,PK]at hc
    simp only[Q5]
    simp[F.f243B,F.f243C,F.f243R,F.f243K,h2,h3,h4,hc,hk,Zb]
 ·cases hb:isB a QW
  ·have h2:=h1 a QW;rw[hb]at h2;simp only[QW]at h2
   have e:QN QT [a,key]= .mk 3 QT 0 [a,key]:=by simp[QN,hb,SND,FST,DEC,Q5,QT]
   rw[e]
   refine⟨false,?_⟩
   simp only[QT]
   simp[F.f243B,F.f243C,F.f243R,F.f243K,h2]
  ·have h2:=h1 a QW;rw[hb]at h2;simp only[QW]at h2
   obtain⟨x,y,hk⟩:=Q0 hg hb (by simp[Q6])
   have hma:=Qo a
   rw[hk]at hma
   simp only[massL]at hma
   have hpm: (pkT y).mass < big:=by rw[G8];unfold big at *;omega
   have h3:=Z8 key (pkT y) bs (by omega) hpm
   have h4:=YD PK [y] false bs (by simp)
   simp only[pkT,PK]at h3 h4
   by_cases hc:Qm key (pkT y)=0
   ·have e:QN QT [a,key]=x:=by simp[QN,hb,kid,hk,hc,SND,FST,DEC,Q5,QT]
    rw[e]
    refine⟨true,?_⟩
    simp only[pkT,PK]at hc
    simp only[QT]
    simp[F.f243B,F.f243C,F.f243R,F.f243K,h2,h3,h4,hc,hk,Zb]
   ·have e:QN QT [a,key]= .mk 3 QT 0 [a,key]:=by simp[QN,hb,kid,hk,hc,SND,FST,DEC,Q5,QT]
    rw[e]
    refine⟨false,?_⟩
    simp only[pkT,PK]at hc
    simp only[QT]
    simp[F.f243B,F.f243C,F.f243R,F.f243K,h2,h3,h4,hc,hk,Zb]
end Go.Am
namespace Go.Am
set_option maxRecDepth 8000
def KM (l:List Pw) (M:Nat):Prop:=∀q∈l,q.1.mass≤M
theorem DP {l:List Pw} {t:Tm} {m:Int} {M:Nat} (h:KM l M) (ht:t.mass≤M):KM (Yc l t m) M:=by
 intro q hq
 rcases Uu hq with hq | rfl | ⟨_,_,rfl,_⟩
 ·exact h q hq
 ·exact ht
 ·exact ht
theorem Qhu: ∀(t:Tm) (l:List Pw) (m:Int) (M:Nat),KM l M→t.mass≤M→KM (XI l t m) M:=by
 refine Zh ?_
 intro k n s ks ih l m M h hm
 have hme:=Qo (.mk k n s ks)
 simp only[QJ,Q3]at hme
 have hL: ∀(xs:List Tm) (l:List Pw) (m:Int),(∀x∈xs,x∈ks)→KM l M→KM (colL l xs m) M:=by
  intro xs
  induction xs with
  | nil=>intro l m _ h;simpa[colL]using h
  | cons x xs IH=>
   intro l m hx h
   simp only[colL]
   exact IH _ m (fun y hy=>hx y (by simp[hy])) (ih x (hx x (by simp)) l m M h (by have:=Qz (hx x (by simp));omega))
 rw[PT]
 split
 ·exact hL ks l _ (fun x hx=>hx) h
 ·exact DP h hm
theorem LE: ∀(b a:List Pw) (M:Nat),KM a M→KM b M→KM (YT a b) M
 | [],a,M,h,_=>h
 | q:: b,a,M,h,hb=>LE b _ M (DP h (hb q (by simp))) fun x hx=>hb x (by simp[hx])
theorem PZ (t:Tm) (M:Nat) (h:t.mass≤M):KM (ofP t) M:=by
 unfold ofP
 split
 ·exact Qhu t [] 1 M (fun q hq=>by simp at hq) h
 ·intro q hq;simp at hq
theorem T7 (t:Tm): (ofP t).length≤200:=by
 unfold ofP
 split
 ·rename_i h
  unfold ofE at h
  split at h
  ·rename_i h1;exact absurd h h1
  ·split at h
   ·split at h
    ·cases h
    ·omega
   ·cases h
 ·simp
theorem Bk {l:List Pw} (h:ZX l=0):l.length≤200:=by
 unfold ZX at h
 split at h
 ·cases h
 ·split at h
  ·cases h
  ·omega
theorem GZ (a b:List Pw): (Xl a b).length≤200:=by
 unfold Xl
 split
 ·rename_i h
  unfold XV at h
  split at h
  ·rename_i h1;exact absurd h h1
  ·split at h
   ·rename_i h1;exact absurd h h1
   ·exact Bk h
 ·simp
theorem DQ {a b:List Pw} {M:Nat} (ha:KM a M) (hb:KM b M):KM (Xl a b) M:=by
 unfold Xl
 split
 ·exact LE b a M ha hb
 ·intro q hq;simp at hq
theorem JD (n:Nat) (t:Tm):massL (List.replicate n t)=n*t.mass:=by
 induction n with
 | zero=>simp[massL]
 | succ n ih=>rw[List.replicate_succ,massL,ih,Nat.succ_mul];omega
theorem QbE (t:Tm): (VO t).mass=t.mass+5:=by simp only[VO,Tm.mass,massL,INV,List.length_cons,List.length_nil];omega
theorem LM: ∀{l:List Pw} {M:Nat},KM l M→(∀q∈l,q.2≤8)→massL (Xf l)≤l.length* (8*M)
 | [],M,_,_=>by simp[Xf,massL]
 | p:: l,M,h,hb=>by
  have h1:=LM (l:=l) (M:=M) (fun q hq=>h q (by simp[hq])) fun q hq=>hb q (by simp[hq])
  have h2:=h p (by simp)
  have h3:=hb p (by simp)
  have h4:p.2.toNat* p.1.mass≤8*M:=Nat.mul_le_mul (by omega) h2
  have e:Xf (p:: l)=List.replicate p.2.toNat p.1 ++ Xf l:=by simp[Xf]
  rw[e,XL,JD,List.length_cons,Nat.succ_mul];omega
theorem LK: ∀{l:List Pw} {M:Nat},KM l M→(∀q∈l,-8≤q.2)→massL (Xu l)≤l.length* (8* (M+5))
 | [],M,_,_=>by simp[Xu,massL]
 | p:: l,M,h,hb=>by
  have h1:=LK (l:=l) (M:=M) (fun q hq=>h q (by simp[hq])) fun q hq=>hb q (by simp[hq])
  have h2:=h p (by simp)
  have h3:=hb p (by simp)
  have h4: (-p.2).toNat* (VO p.1).mass≤8* (M+5):=Nat.mul_le_mul (by omega) (by rw[QbE];omega)
  have e:Xu (p:: l)=List.replicate (-p.2).toNat (VO p.1)++ Xu l:=by simp[Xu]
  rw[e,XL,JD,List.length_cons,Nat.succ_mul];omega
theorem LL {l:List Pw} (h:KM l 25000000) (hl:l.length≤200) (hb: ∀q∈l,-8≤q.2∧q.2≤8):massL (Zx l) < big - 100:=by
 have h1:=LM h fun q hq=>(hb q hq).2
 have h2:=LK h fun q hq=>(hb q hq).1
 have h3:l.length* (8*25000000)≤200* (8*25000000):=Nat.mul_le_mul_right _ hl
 have h4:l.length* (8* (25000000+5))≤200* (8* (25000000+5)):=Nat.mul_le_mul_right _ hl
 unfold Zx
 rw[XL]
 unfold big
 omega
theorem Mv {l:List Pw} (o:Bool) (bs:List (List AV)) (h:KM l 25000000) (hl:l.length≤200):call F.tb 196 [.sl o 5 (QH l)] bs=some (QL (ZA l),bs):=
 QfJ l o bs (by omega) (fun q hq=>by have:=h q hq;unfold big;omega) (LL h hl)
theorem Mx {l:List Pw} (o:Bool) (bs:List (List AV)) (h:KM l 25000000) (hl:l.length≤200):call F.tb 258 [.sl o 5 (QH l)] bs=some (QL (ZA l),bs):=
 Qf8 l o bs (by omega) (fun q hq=>by have:=h q hq;unfold big;omega) (LL h hl)
def Wl (b:Tm) (p:List Pw):Tm×Int:=if p=[]then(b,0)else if(ZA p).2≠0 then(Qy,(ZA p).2)else(.mk 3 EXP 0 [b,(ZA p).1],0)
def YO (b e:Tm):Tm×Int:=
 if ofE e≠0 then(Qy,ofE e)
 else if isB b EXP then
  if ofE (kid b 1)≠0 then(Qy,ofE (kid b 1))else if XV (ofP (kid b 1)) (ofP e)≠0 then(Qy,XV (ofP (kid b 1)) (ofP e))else Wl (kid b 0) (Xl (ofP (kid b 1)) (ofP e))
 else Wl b (ofP e)
def Yg (t:Tm):Tm×Int:=if ofE t≠0 then(Qy,ofE t)else ZA (ofP t)
theorem QD (t:Tm) (e:Int):QL (t,e)= .tup [.agg (Qa t),.int .i64 e]:=rfl
theorem Qf6 (t:Tm) (bs:List (List AV)) (hm:t.mass < 20000000):call F.tb 252 [.agg (Qa t)] bs=some (QL (Yg t),bs):=by
 have h1:=KJ t bs (by omega)
 have h2:=Mx false bs (PZ t 25000000 (by omega)) (T7 t)
 rw[Qb F.tb_252 _ _ rfl]
 by_cases c:ofE t=0
 ·have e:Yg t=ZA (ofP t):=by simp[Yg,c]
  rw[e]
  simp only[QL]at h2 ⊢
  simp[F.f252B,F.f252C,F.f252R,F.f252K,h1,h2,c]
 ·have e:Yg t=(Qy,ofE t):=by simp[Yg,c]
  rw[e]
  simp[F.f252B,F.f252C,F.f252R,F.f252K,h1,c,QD,QA]
end Go.Am
namespace Go.Am
set_option maxRecDepth 8000
theorem QfK (b e:Tm) (bs:List (List AV)) (hg:QU b=true) (hb:b.mass < 20000000) (he:e.mass < 20000000):call F.tb 199 [.agg (Qa b),.agg (Qa e)] bs=some (QL (YO b e),bs):=by
 have h1:=KF e bs (by omega)
 have h2:=SF b EXP bs
 have ke:=PZ e 25000000 (by omega)
 have le:=T7 e
 rw[Qb F.tb_199 _ _ rfl]
 by_cases c1:ofE e=0
 ·cases hx:isB b EXP
  ·rw[hx]at h2;simp only[EXP]at h2
   have h4:=Mv false bs ke le
   have e0:YO b e=Wl b (ofP e):=by simp[YO,c1,hx]
   rw[e0]
   generalize ofP e=p at *
   match p with
   | []=>
    simp only[Xa]at h1
    simp[F.f199B,F.f199C,F.f199R,F.f199K,h1,h2,c1,Wl,QD]
   | q:: r=>
    have n0: ¬(r.length:Int)+1=0:=by omega
    by_cases c2: (ZA (q:: r)).2=0
    ·have h5:=Gi EXP [b,(ZA (q:: r)).1] false bs
     simp only[QL,encTs]at h4 h5
     simp only[EXP]at h5
     simp[F.f199B,F.f199C,F.f199R,F.f199K,h1,h2,h4,h5,c1,c2,n0,Wl,QD,EXP]
    ·simp only[QL]at h4
     simp[F.f199B,F.f199C,F.f199R,F.f199K,h1,h2,h4,c1,c2,n0,Wl,QD,QA]
  ·obtain⟨x,y,hk⟩:=Q0 hg hx (by simp[Q6])
   rw[hx]at h2;simp only[EXP]at h2
   have hmb:=Qo b
   rw[hk]at hmb
   simp only[massL]at hmb
   have k0:kid b 0=x:=by simp[kid,hk]
   have k1:kid b 1=y:=by simp[kid,hk]
   have h3:=KF y bs (by omega)
   have ky:=PZ y 25000000 (by omega)
   have ly:=T7 y
   by_cases c2:ofE y=0
   ·have h4:=QfL (ofP y) (ofP e) false false bs (by omega) (by omega) (fun q hq=>by have:=ky q hq;unfold big;omega) (fun q hq=>by have:=ke q hq;unfold big;omega)
    by_cases c3:XV (ofP y) (ofP e)=0
    ·have h6:=Mv false bs (DQ ky ke) (GZ (ofP y) (ofP e))
     have e0:YO b e=Wl x (Xl (ofP y) (ofP e)):=by simp[YO,c1,hx,k0,k1,c2,c3]
     rw[e0]
     generalize Xl (ofP y) (ofP e)=p at *
     match p with
     | []=>
      simp only[Xa]at h4
      simp[F.f199B,F.f199C,F.f199R,F.f199K,h1,h2,h3,h4,hk,c1,c2,c3,Wl,QD]
     | q:: r=>
      have n0: ¬(r.length:Int)+1=0:=by omega
      by_cases c4: (ZA (q:: r)).2=0
      ·have h5:=Gi EXP [x,(ZA (q:: r)).1] false bs
       simp only[QL,encTs]at h6 h5
       simp only[EXP]at h5
       simp[F.f199B,F.f199C,F.f199R,F.f199K,h1,h2,h3,h4,h5,h6,hk,c1,c2,c3,c4,n0,Wl,QD,EXP]
      ·simp only[QL]at h6
       simp[F.f199B,F.f199C,F.f199R,F.f199K,h1,h2,h3,h4,h6,hk,c1,c2,c3,c4,n0,Wl,QD,QA]
    ·have e0:YO b e=(Qy,XV (ofP y) (ofP e)):=by simp[YO,c1,hx,k1,c2,c3]
     rw[e0]
     simp[F.f199B,F.f199C,F.f199R,F.f199K,h1,h2,h3,h4,hk,c1,c2,c3,QD,QA]
   ·have e0:YO b e=(Qy,ofE y):=by simp[YO,c1,hx,k1,c2]
    rw[e0]
    simp[F.f199B,F.f199C,F.f199R,F.f199K,h1,h2,h3,hk,c1,c2,QD,QA]
 ·have e0:YO b e=(Qy,ofE e):=by simp[YO,c1]
  rw[e0]
  simp[F.f199B,F.f199C,F.f199R,F.f199K,h1,c1,QD,QA]
theorem Qga (b e:Tm) (bs:List (List AV)) (hg:QU b=true) (hb:b.mass < 20000000) (he:e.mass < 20000000):call F.tb 261 [.agg (Qa b),.agg (Qa e)] bs=some (QL (YO b e),bs):=by
 have h1:=KJ e bs (by omega)
 have h2:=VJ b EXP bs
 have ke:=PZ e 25000000 (by omega)
 have le:=T7 e
 rw[Qb F.tb_261 _ _ rfl]
 by_cases c1:ofE e=0
 ·cases hx:isB b EXP
  ·rw[hx]at h2;simp only[EXP]at h2
   have h4:=Mx false bs ke le
   have e0:YO b e=Wl b (ofP e):=by simp[YO,c1,hx]
   rw[e0]
   generalize ofP e=p at *
   match p with
   | []=>
    simp only[Xa]at h1
    simp[F.f261B,F.f261C,F.f261R,F.f261K,h1,h2,c1,Wl,QD]
   | q:: r=>
    have n0: ¬(r.length:Int)+1=0:=by omega
    by_cases c2: (ZA (q:: r)).2=0
    ·have h5:=YD EXP [b,(ZA (q:: r)).1] false bs (by simp)
     simp only[QL,encTs]at h4 h5
     simp only[EXP]at h5
     simp[F.f261B,F.f261C,F.f261R,F.f261K,h1,h2,h4,h5,c1,c2,n0,Wl,QD,EXP]
    ·simp only[QL]at h4
     simp[F.f261B,F.f261C,F.f261R,F.f261K,h1,h2,h4,c1,c2,n0,Wl,QD,QA]
  ·obtain⟨x,y,hk⟩:=Q0 hg hx (by simp[Q6])
   rw[hx]at h2;simp only[EXP]at h2
   have hmb:=Qo b
   rw[hk]at hmb
   simp only[massL]at hmb
   have k0:kid b 0=x:=by simp[kid,hk]
   have k1:kid b 1=y:=by simp[kid,hk]
   have h3:=KJ y bs (by omega)
   have ky:=PZ y 25000000 (by omega)
   have ly:=T7 y
   by_cases c2:ofE y=0
   ·have h4:=Qgb (ofP y) (ofP e) false false bs (by omega) (by omega) (fun q hq=>by have:=ky q hq;unfold big;omega) (fun q hq=>by have:=ke q hq;unfold big;omega)
    by_cases c3:XV (ofP y) (ofP e)=0
    ·have h6:=Mx false bs (DQ ky ke) (GZ (ofP y) (ofP e))
     have e0:YO b e=Wl x (Xl (ofP y) (ofP e)):=by simp[YO,c1,hx,k0,k1,c2,c3]
     rw[e0]
     generalize Xl (ofP y) (ofP e)=p at *
     match p with
     | []=>
      simp only[Xa]at h4
      simp[F.f261B,F.f261C,F.f261R,F.f261K,h1,h2,h3,h4,hk,c1,c2,c3,Wl,QD]
     | q:: r=>
      have n0: ¬(r.length:Int)+1=0:=by omega
      by_cases c4: (ZA (q:: r)).2=0
      ·have h5:=YD EXP [x,(ZA (q:: r)).1] false bs (by simp)
       simp only[QL,encTs]at h6 h5
       simp only[EXP]at h5
       simp[F.f261B,F.f261C,F.f261R,F.f261K,h1,h2,h3,h4,h5,h6,hk,c1,c2,c3,c4,n0,Wl,QD,EXP]
      ·simp only[QL]at h6
       simp[F.f261B,F.f261C,F.f261R,F.f261K,h1,h2,h3,h4,h6,hk,c1,c2,c3,c4,n0,Wl,QD,QA]
    ·have e0:YO b e=(Qy,XV (ofP y) (ofP e)):=by simp[YO,c1,hx,k1,c2,c3]
     rw[e0]
     simp[F.f261B,F.f261C,F.f261R,F.f261K,h1,h2,h3,h4,hk,c1,c2,c3,QD,QA]
   ·have e0:YO b e=(Qy,ofE y):=by simp[YO,c1,hx,k1,c2]
    rw[e0]
    simp[F.f261B,F.f261C,F.f261R,F.f261K,h1,h2,h3,hk,c1,c2,QD,QA]
 ·have e0:YO b e=(Qy,ofE e):=by simp[YO,c1]
  rw[e0]
  simp[F.f261B,F.f261C,F.f261R,F.f261K,h1,c1,QD,QA]
end Go.Am
namespace Go.Am
set_option maxRecDepth 8000
theorem Mj {n:List UInt8} (h:Xh n=true):n.length≤24:=by
 cases n with
 | nil=>simp
 | cons c r=>
  simp only[Xh,Bool.and_eq_true,decide_eq_true_eq]at h
  simp only[List.length_cons]
  omega
theorem Oo {t:Tm} (h:WJ t=0):t.name.length≤24∧t.kids.length≤8∧(t.kind=3→t.sort=0)∧(t.kind≠3→t.kids=[]):=by
 unfold WJ at h
 split at h
 ·rename_i hk
  split at h
  ·cases h
  ·rename_i h1
   split at h
   ·cases h
   ·rename_i h2
    have h3:t.kids.length=0:=by omega
    exact⟨Mj (by simpa using h2),by omega,fun e=>by omega,fun _=>List.eq_nil_of_length_eq_zero h3⟩
 ·split at h
  ·rename_i hk
   split at h
   ·cases h
   ·rename_i h1
    split at h
    ·cases h
    ·rename_i h2
     split at h
     ·cases h
     ·exact⟨Mj (by simpa using h2),by omega,fun _=>by simpa using h1,fun e=>absurd hk e⟩
  ·cases h
mutual
theorem Js: ∀t:Tm,Yd t=0→t.mass≤33*t.nodes
 | .mk k n s ks,h=>by
  simp only[Yd]at h
  split at h
  ·rename_i h1;exact absurd h h1
  ·rename_i h1
   obtain⟨a,b,_⟩:=Oo (t:= .mk k n s ks) (by simpa using h1)
   have:=errL_mass ks h
   simp only[Q3,QJ]at a b
   simp only[Tm.mass,Tm.nodes];omega
theorem errL_mass: ∀ts:List Tm,errL ts=0→massL ts≤33*nodesL ts
 | [],_=>by simp[massL,nodesL]
 | t:: ts,h=>by
  simp only[errL]at h
  split at h
  ·rename_i h1;exact absurd h h1
  ·rename_i h1
   have a:=Js t (by simpa using h1)
   have b:=errL_mass ts h
   simp only[massL,nodesL];omega
end
theorem Y6 {t:Tm} (h:QF t=0):Yd t=0∧t.nodes≤400∧t.mass≤13200:=by
 unfold QF at h
 split at h
 ·rename_i h1;exact absurd h h1
 ·rename_i h1
  split at h
  ·cases h
  ·have:=Js t (by simpa using h1)
   exact⟨by simpa using h1,by omega,by omega⟩
theorem Qbo {n:List UInt8} {y:Sy} (h:Zm n Yl=some y) (m:Nat) (h1: ¬((m:Int) < y.l∨y.m < m)):Q6 n m=true:=by
 unfold Q6
 split
 ·rename_i hn
  have:y.l=2∧y.m=2:=by rcases hn with rfl | rfl | rfl | rfl | rfl | rfl | rfl | rfl <;> simp[Q7,ENC,Zc,QW,EXP,DEC,Q5,QT,Zm,Yl]at h <;> subst h <;> simp
  simp;omega
 ·split
  ·rename_i hn
   have:y.l=1∧y.m=1:=by rcases hn with rfl | rfl | rfl | rfl <;> simp[PK,FST,SND,READ,Zm,Yl]at h <;> subst h <;> simp
   simp;omega
  ·rfl
mutual
theorem Lx: ∀t:Tm,Yd t=0→Yk t=0→QU t=true
 | .mk k n s ks,h,hc=>by
  simp only[Yd]at h
  split at h
  ·rename_i h1;exact absurd h h1
  ·rename_i h1
   obtain⟨_,_,a,b⟩:=Oo (t:= .mk k n s ks) (by simpa using h1)
   simp only[Xi,WT,QJ]at a b
   simp only[Yk]at hc
   by_cases hk:k=3
   ·subst hk
    rw[if_neg (by simp)]at hc
    cases hy:Zm n Yl with
    | none=>rw[hy]at hc;simp at hc
    | some y=>
     rw[hy]at hc
     simp only at hc
     split at hc
     ·cases hc
     ·rename_i h2
      have har:=Qbo hy ks.length h2
      split at hc
      ·cases hc
      ·split at hc
       ·cases hc
       ·have:=goodL_valid ks h hc
        simp[QU,a rfl,har,this]
   ·have:=b hk
    subst this
    simp[QU,hk,goodL]
theorem goodL_valid: ∀ts:List Tm,errL ts=0→chkL ts=0→goodL ts=true
 | [],_,_=>rfl
 | t:: ts,h,hc=>by
  simp only[errL]at h
  simp only[chkL]at hc
  split at h
  ·rename_i h1;exact absurd h h1
  ·rename_i h1
   split at hc
   ·rename_i h2;exact absurd hc h2
   ·rename_i h2
    simp[goodL,Lx t (by simpa using h1) (by simpa using h2),goodL_valid ts h hc]
end
mutual
theorem Qbw: ∀(t y:Tm),QU t=true→y∈QY t→QU y=true
 | .mk k n s ks,y,h,hy=>by
  simp only[QY,List.mem_cons]at hy
  rcases hy with rfl | hy
  ·exact h
  ·exact good_allL ks y (Xc h) hy
theorem good_allL: ∀(ts:List Tm) (y:Tm),goodL ts=true→y∈allL ts→QU y=true
 | [],y,_,hy=>by simp[allL]at hy
 | t:: ts,y,h,hy=>by
  simp only[goodL,Bool.and_eq_true]at h
  simp only[allL,List.mem_append]at hy
  rcases hy with hy | hy
  ·exact Qbw t y h.1 hy
  ·exact good_allL ts y h.2 hy
end
theorem Xd:QU Qy=true:=by simp[Qy,QU,goodL]
theorem VN {n:List UInt8} {us:List Tm} (ha:Q6 n us.length=true) (h:goodL us=true):QU (.mk 3 n 0 us)=true:=by simp[QU,ha,h]
theorem MJ {t:Tm} (h:QU t=true) (i:Nat):QU (kid t i)=true:=by
 unfold kid
 rw[List.getD_eq_getElem?_getD]
 cases hg:t.kids[i]? with
 | none=>simpa using Xd
 | some x=>exact YE.1 (Xc h) x (List.mem_of_getElem? hg)
theorem Ok (t:Tm) (i:Nat): (kid t i).mass≤t.mass:=by
 unfold kid
 rw[List.getD_eq_getElem?_getD]
 have:=Qo t
 cases hg:t.kids[i]? with
 | none=>simp[Qy,Tm.mass,massL];omega
 | some x=>have:=Qz (List.mem_of_getElem? hg);simp;omega
theorem Qby {us:List Tm} (h:goodL us=true):QU (Wm us).1=true:=by
 unfold Wm
 split
 ·exact Xd
 ·split
  ·exact Xd
  ·have hL: ∀y∈sumL [] us,QU y=true:=fun y hy=>by
    rcases sumL_mem us [] y hy with h1 | h1
    ·simp at h1
    ·exact good_allL us y h h1
   show QU (tmX (sumL [] us))=true
   match hh:sumL [] us with
   | []=>simp[tmX,QU,goodL,Q6,Zq,Q7,ENC,Zc,QW,EXP,DEC,Q5,QT,PK,FST,SND,READ]
   | [p]=>simp only[tmX];exact hL p (by rw[hh];simp)
   | p:: q:: r=>
    simp only[tmX]
    refine VN (by simp[Q6,XOR,Q7,ENC,Zc,QW,EXP,DEC,Q5,QT,PK,FST,SND,READ]) (YE.2 fun x hx=>hL x (by rw[hh];exact hx))
theorem QbL (us:List Tm): (Wm us).1.mass≤13200:=by
 unfold Wm
 split
 ·simp[Qy,Tm.mass,massL]
 ·split
  ·simp[Qy,Tm.mass,massL]
  ·rename_i h;exact(Y6 (by simpa using h)).2.2
theorem Vf:Qy.mass=1:=by simp[Qy,Tm.mass,massL]
def KG (l:List Pw):Prop:=∀q∈l,QU q.1=true
theorem DO {l:List Pw} {t:Tm} {m:Int} (h:KG l) (ht:QU t=true):KG (Yc l t m):=by
 intro q hq
 rcases Uu hq with hq | rfl | ⟨_,_,rfl,_⟩
 ·exact h q hq
 ·exact ht
 ·exact ht
theorem Qhr: ∀(t:Tm) (l:List Pw) (m:Int),KG l→QU t=true→KG (XI l t m):=by
 refine Zh ?_
 intro k n s ks ih l m h hm
 have hk:=YE.1 (Xc hm)
 have hL: ∀(xs:List Tm) (l:List Pw) (m:Int),(∀x∈xs,x∈ks)→KG l→KG (colL l xs m):=by
  intro xs
  induction xs with
  | nil=>intro l m _ h;simpa[colL]using h
  | cons x xs IH=>
   intro l m hx h
   simp only[colL]
   exact IH _ m (fun y hy=>hx y (by simp[hy])) (ih x (hx x (by simp)) l m h (hk x (hx x (by simp))))
 rw[PT]
 split
 ·exact hL ks l _ (fun x hx=>hx) h
 ·exact DO h hm
theorem LC: ∀(b a:List Pw),KG a→KG b→KG (YT a b)
 | [],a,h,_=>h
 | q:: b,a,h,hb=>LC b _ (DO h (hb q (by simp))) fun x hx=>hb x (by simp[hx])
theorem LD {t:Tm} (h:QU t=true):KG (ofP t):=by
 unfold ofP
 split
 ·exact Qhr t [] 1 (fun q hq=>by simp at hq) h
 ·intro q hq;simp at hq
theorem Qhs {a b:List Pw} (ha:KG a) (hb:KG b):KG (Xl a b):=by
 unfold Xl
 split
 ·exact LC b a ha hb
 ·intro q hq;simp at hq
theorem Qbx {l:List Pw} (h:KG l):goodL (Zx l)=true:=by
 refine YE.2 fun x hx=> ?_
 simp only[Zx,Xf,Xu,List.mem_append,List.mem_flatten,List.mem_map]at hx
 rcases hx with⟨_,⟨q,hq,rfl⟩,hx⟩ | ⟨_,⟨q,hq,rfl⟩,hx⟩
 ·rw[List.eq_of_mem_replicate hx];exact h q hq
 ·rw[List.eq_of_mem_replicate hx]
  exact VN (by simp[Q6,INV,Q7,ENC,Zc,QW,EXP,DEC,Q5,QT,PK,FST,SND,READ]) (by simp[goodL,h q hq])
theorem Lw {l:List Pw} (h:KG l):QU (ZA l).1=true:=by
 unfold ZA
 split
 ·exact Xd
 ·split
  ·exact Xd
  ·split
   ·exact Xd
   ·have hL:=Qbx h
    show QU (Zu (Zx l))=true
    match hh:Zx l with
    | []=>simp[Zu,QU,goodL,Q6,ONE,Q7,ENC,Zc,QW,EXP,DEC,Q5,QT,PK,FST,SND,READ]
    | [p]=>simp only[Zu];rw[hh]at hL;simpa[goodL]using hL
    | p:: q:: r=>
     simp only[Zu]
     rw[hh]at hL
     exact VN (by simp[Q6,MUL,Q7,ENC,Zc,QW,EXP,DEC,Q5,QT,PK,FST,SND,READ]) hL
theorem LN (l:List Pw): (ZA l).1.mass≤13200:=by
 unfold ZA
 split
 ·simp[Qy,Tm.mass,massL]
 ·split
  ·simp[Qy,Tm.mass,massL]
  ·split
   ·simp[Qy,Tm.mass,massL]
   ·rename_i h;exact(Y6 (by simpa using h)).2.2
theorem J1 {t:Tm} (h:QU t=true):QU (Yg t).1=true:=by
 unfold Yg
 split
 ·exact Xd
 ·exact Lw (LD h)
theorem J3 (t:Tm): (Yg t).1.mass≤13200:=by
 unfold Yg
 split
 ·simp[Qy,Tm.mass,massL]
 ·exact LN _
theorem DE {b:Tm} {p:List Pw} (hb:QU b=true) (hp:KG p):QU (Wl b p).1=true∧(Wl b p).1.mass≤6+b.mass+13200:=by
 have h0:=LN p
 unfold Wl
 split
 ·exact⟨hb,by simp;omega⟩
 ·split
  ·exact⟨Xd,by show Qy.mass≤_;rw[Vf];omega⟩
  ·exact⟨VN (by simp[Q6]) (by simp[goodL,hb,Lw hp]),by simp only[Tm.mass,massL,EXP,List.length_cons,List.length_nil];omega⟩
theorem QhG {b e:Tm} (hb:QU b=true) (he:QU e=true):QU (YO b e).1=true∧(YO b e).1.mass≤6+b.mass+13200:=by
 have hz:QU Qy=true∧Qy.mass≤6+b.mass+13200:=⟨Xd,by show Qy.mass≤_;rw[Vf];omega⟩
 have hk:=Ok b 0
 unfold YO
 split
 ·exact hz
 ·split
  ·split
   ·exact hz
   ·split
    ·exact hz
    ·obtain⟨h1,h2⟩:=DE (MJ hb 0) (Qhs (LD (MJ hb 1)) (LD he))
     exact⟨h1,by omega⟩
  ·exact DE hb (LD he)
theorem Qc6 {n:List UInt8} {us:List Tm} (ha:Q6 n us.length=true) (h:goodL us=true):QU (QN n us)=true∧(QN n us).mass≤1+n.length+us.length+massL us:=by
 have hout:QU (.mk 3 n 0 us)=true∧(Tm.mk 3 n 0 us).mass≤1+n.length+us.length+massL us:=⟨VN ha h,by simp[Tm.mass]⟩
 have ha0:QU (us.getD 0 Qy)=true∧(us.getD 0 Qy).mass≤1+massL us:=by
  cases us with
  | nil=>exact⟨Xd,by simp[Qy,Tm.mass,massL]⟩
  | cons x r=>simp only[goodL,Bool.and_eq_true]at h;exact⟨h.1,by simp[massL];omega⟩
 have hkid: ∀i,QU (kid (us.getD 0 Qy) i)=true∧(kid (us.getD 0 Qy) i).mass≤1+n.length+us.length+massL us:=fun i=>⟨MJ ha0.1 i,by have:=Ok (us.getD 0 Qy) i;omega⟩
 simp only[QN]
 repeat' split
 all_goals first | exact hout | exact hkid _
def Ya (n:List UInt8) (us:List Tm):Tm×Int:=
 if Yq n then(QN n us,0)else if n=XOR then Wm us else if n=MUL∨n=INV∨n=ONE then Yg (.mk 3 n 0 us)
 else if n=EXP then YO (us.getD 0 Qy) (us.getD 1 Qy)else(.mk 3 n 0 us,0)
mutual
def Zn:Tm→Tm×Int
 | .mk k n s ks=>if k=3 then(if(normL ks).2=0 then Ya n (normL ks).1 else(Qy,(normL ks).2))else(.mk k n s ks,0)
def normL:List Tm→List Tm×Int
 | []=>([],0)
 | t:: ts=>if(Zn t).2=0 then(if(normL ts).2=0 then((Zn t).1:: (normL ts).1,0)else([],(normL ts).2))else([],(Zn t).2)
end
theorem Qds {n:List UInt8} {us:List Tm} (ha:Q6 n us.length=true) (h:goodL us=true):QU (Ya n us).1=true∧(Ya n us).1.mass≤1+n.length+us.length+massL us+13200:=by
 unfold Ya
 split
 ·obtain⟨h1,h2⟩:=Qc6 ha h;exact⟨h1,by simp;omega⟩
 ·split
  ·exact⟨Qby h,by have:=QbL us;omega⟩
  ·split
   ·exact⟨J1 (VN ha h),by have:=J3 (.mk 3 n 0 us);omega⟩
   ·split
    ·rename_i hn
     subst hn
     have h2:us.length=2:=by simpa[Q6]using ha
     match us,h2,h with
     | [x,y],_,h=>
      simp only[goodL,Bool.and_eq_true]at h
      obtain⟨h3,h4⟩:=QhG h.1 h.2.1
      exact⟨h3,by simp only[massL,EXP,List.length_cons,List.length_nil]at *;simp at h4 ⊢;omega⟩
    ·exact⟨VN ha h,by simp[Tm.mass]⟩
mutual
theorem Sq: ∀t:Tm,QU t=true→QU (Zn t).1=true∧(Zn t).1.mass≤t.mass+13200*t.nodes
 | .mk k n s ks,h=>by
  have hk:=normL_ok ks (Xc h)
  simp only[Zn]
  split
  ·rename_i hk3
   subst hk3
   split
   ·rename_i h2
    obtain⟨h3,h4,h5⟩:=hk
    have h5:=h5 h2
    have har:=(Wy h rfl).2
    simp only[Q3,QJ]at har
    obtain⟨h6,h7⟩:=Qds (by rw[h5];exact har) h3
    exact⟨h6,by simp only[Tm.mass,Tm.nodes];rw[h5]at h7;omega⟩
   ·exact⟨Xd,by show Qy.mass≤_;rw[Vf];simp only[Tm.mass];omega⟩
  ·exact⟨h,Nat.le_add_right _ _⟩
theorem normL_ok: ∀ts:List Tm,goodL ts=true→goodL (normL ts).1=true∧massL (normL ts).1≤massL ts+13200*nodesL ts∧((normL ts).2=0→(normL ts).1.length=ts.length)
 | [],_=>by simp[normL,goodL,massL]
 | t:: ts,h=>by
  simp only[goodL,Bool.and_eq_true]at h
  obtain⟨a1,a2⟩:=Sq t h.1
  obtain⟨b1,b2,b3⟩:=normL_ok ts h.2
  simp only[normL]
  split
  ·split
   ·rename_i h2
    refine⟨by simp[goodL,a1,b1],by simp only[massL,nodesL];omega,fun _=>by simp[b3 h2]⟩
   ·rename_i h2
    exact⟨rfl,by simp[massL],fun e=>absurd e h2⟩
  ·rename_i h2
   exact⟨rfl,by simp[massL],fun e=>absurd e h2⟩
end
end Go.Am
