/-
  Rc20, Rc21, Rc22, Rc23, Rc24, Rc25.
-/
import Derived.Test.YtpgbndmkiiakaaaGreatDoorG18
set_option linter.unusedVariables false
set_option linter.unusedSimpArgs false
namespace Go.Am
set_option maxRecDepth 8000
theorem YR:QG []=[]:=rfl
def YC (a:List Pw):List Pw→List Pw
 | []=>a
 | q:: b=>YC (ZS a q.1 q.2) b
def ZJ (l:List Pw):Int:=if l.any (fun q=>Yf q.2)then 7 else if 200 < l.length then 3 else 0
def Xu (a b:List Pw):Int:=if ZD a≠0 then ZD a else if ZD b≠0 then ZD b else ZJ (YC a b)
def YY (a b:List Pw):List Pw:=if Xu a b=0 then YC a b else []
theorem DV (l:List Pw) (bs:List (List AV)) (hl:l.length < 100000000):
  ∀(post pre:List Pw) (o:Bool) (ρ:Nat→AV),l=pre ++ post→pre.any (fun q=>Yf q.2)=false→ρ 0= .sl o 5 (QG l)→ρ 3= .int .i64 pre.length→
  R F.tb (.loop F.f263l0) ρ bs (Qk 0 (Qw F.tb F.f263r0 (QB F.f263 bs)))=some (.int .i64 (ZJ l),bs):=by
 intro post
 induction post with
 | nil=>
  intro pre o ρ hk hp h0 h3
  simp only[List.append_nil]at hk
  rw[← hk]at h3 hp
  rw[Qc F.f263l0.eq_1]
  by_cases c:200 < l.length
  ·have c': (200:Int) < (l.length:Int):=by omega
   simp[h0,h3,F.f263r0,F.f263R,F.f263K,ZJ,hp,c,c',-List.any_eq_false,-List.any_eq_true]
  ·have c': ¬(200:Int) < (l.length:Int):=by omega
   simp[h0,h3,F.f263r0,F.f263R,F.f263K,ZJ,hp,c,c',-List.any_eq_false,-List.any_eq_true]
 | cons p post IH=>
  intro pre o ρ hk hp h0 h3
  have hg:=Qp hk
  have hll:l.length=pre.length+ (post.length+1):=by rw[hk];simp
  have hw1:IntKind.i64.wrap ((pre.length:Int)+1)=(pre.length:Int)+1:=Qj (by omega) (by omega)
  have hlt: (pre.length:Int) < (l.length:Int):=by omega
  have hany:Yf p.2=true→ZJ l=7:=by
   intro h
   have:l.any (fun q=>Yf q.2)=true:=List.any_eq_true.2 ⟨p,by rw[hk];simp,h⟩
   simp only[ZJ,this,if_true]
  rw[Qc F.f263l0.eq_1]
  by_cases c4:p.2 < -1000
  ·rw[hany (by simp[Yf,c4])]
   simp[h0,h3,hg,hlt,c4,F.f263R,F.f263K]
  ·by_cases c5:1000 < p.2
   ·rw[hany (by simp[Yf,c5])]
    simp[h0,h3,hg,hlt,c4,c5,F.f263R,F.f263K]
   ·have ih:=fun ρ=>IH (pre ++ [p]) o ρ (by rw[hk];simp) (by rw[List.any_append,hp];simp[Yf,c4,c5])
    simp[h0,h3,hg,hlt,hw1,c4,c5]
    apply ih <;> simp[h0]
theorem Qez (l:List Pw) (o:Bool) (bs:List (List AV)) (hl:l.length < 100000000):call F.tb 263 [.sl o 5 (QG l)] bs=some (.int .i64 (ZJ l),bs):=by
 have h:=fun ρ=>DV l bs hl l [] false ρ rfl rfl
 rw[Qa F.tb_263 _ _ rfl]
 simp[F.f263B,F.f263C]
 apply h <;> simp
theorem Cv (b:List Pw) (bs:List (List AV)) (hb:b.length≤200) (hbm: ∀q∈b,q.1.mass < big∧q.2≠0∧ -1000≤q.2∧q.2≤1000) (X:List Pw):
  ∀(post pre:List Pw) (acc:List Pw) (n:Nat) (o o2:Bool) (ρ:Nat→AV),b=pre ++ post→Xs acc n→n+1000*post.length < 40000000→YC acc post=X→ρ 1= .sl o 5 (QG b)→ρ 8= .sl o2 5 (QG acc)→ρ 9= .int .i64 pre.length→
  R F.tb (.loop F.f262l0) ρ bs (Qk 0 (Qw F.tb F.f262r0 (QB F.f262 bs)))=some (.tup [.sl false 5 (QG (if ZJ X=0 then X else [])),.int .i64 (ZJ X)],bs):=by
 intro post
 induction post with
 | nil=>
  intro pre acc n o o2 ρ hk ha hn hX h1 h8 h9
  simp only[List.append_nil]at hk
  rw[← hk]at h9
  simp only[YC]at hX
  subst hX
  have hal:=ha.len
  have hr:=Qez acc false bs (by simp at hn;omega)
  rw[Qc F.f262l0.eq_1]
  by_cases c:ZJ acc=0
  ·simp[h1,h8,h9,F.f262r0,hr,c,F.f262R,F.f262K]
  ·simp[h1,h8,h9,F.f262r0,hr,c,F.f262R,F.f262K,YR]
 | cons p post IH=>
  intro pre acc n o o2 ρ hk ha hn hX h1 h8 h9
  have hg:=Qp hk
  have hll:b.length=pre.length+ (post.length+1):=by rw[hk];simp
  have hw1:IntKind.i64.wrap ((pre.length:Int)+1)=(pre.length:Int)+1:=Qj (by omega) (by omega)
  have hlt: (pre.length:Int) < (b.length:Int):=by omega
  obtain⟨q1,q2,q3,q4⟩:=hbm p (by rw[hk];simp)
  simp only[List.length_cons]at hn
  have hc:=FW (m:=p.2) false bs ha (by omega) q1 (by omega)
  have ih:=fun ρ=>IH (pre ++ [p]) (ZS acc p.1 p.2) (n+1000) o false ρ (by rw[hk];simp) (ha.add (c:=1000) q1 q2 (by omega) (by omega)) (by omega) (by rw[← hX];rfl)
  rw[Qc F.f262l0.eq_1]
  simp[h1,h8,h9,hg,hlt,hw1,hc]
  apply ih <;> simp[h1]
theorem Qey (a b:List Pw) (o o2:Bool) (bs:List (List AV)) (ha:a.length < 100000000) (hb:b.length < 100000000) (hma: ∀q∈a,q.1.mass < big) (hmb: ∀q∈b,q.1.mass < big):
  call F.tb 262 [.sl o 5 (QG a),.sl o2 5 (QG b)] bs=some (.tup [.sl false 5 (QG (YY a b)),.int .i64 (Xu a b)],bs):=by
 have h1:=LK a false bs ha hma
 have h2:=LK b false bs hb hmb
 rw[Qa F.tb_262 _ _ rfl]
 by_cases va:ZD a=0
 ·by_cases vb:ZD b=0
  ·obtain⟨ia,la,_⟩:=VR va hma
   obtain⟨ib,lb,_⟩:=VR vb hmb
   have h3:=fun ρ=>Cv b bs lb (fun q hq=>by obtain⟨x1,x2,x3⟩:=ib.bd q hq;exact⟨x1,ib.nz q hq,x2,x3⟩) _ b [] a 1000 false true ρ rfl ia (by omega) rfl
   have e1:Xu a b=ZJ (YC a b):=by simp[Xu,va,vb]
   have e2:YY a b=if ZJ (YC a b)=0 then YC a b else []:=by simp[YY,e1]
   have hb64:a.length*64≤140737488355328:=OW (by omega)
   rw[e1,e2]
   simp[F.f262B,F.f262C,h1,h2,va,vb,hb64]
   apply h3 <;> simp
  ·have e1:Xu a b=ZD b:=by simp[Xu,va,vb]
   have e2:YY a b=[]:=by simp[YY,e1,vb]
   rw[e1,e2]
   simp[F.f262B,F.f262C,h1,h2,va,vb,F.f262R,F.f262K,YR]
 ·have e1:Xu a b=ZD a:=by simp[Xu,va]
  have e2:YY a b=[]:=by simp[YY,e1,va]
  rw[e1,e2]
  simp[F.f262B,F.f262C,h1,va,F.f262R,F.f262K,YR]
theorem Qiy {B0 B:List (List AV)} {v:AV} {l:List Pw} (p:Pw) (o:Bool) (h:PS B0 B v l) (hl:l.length < 50000000): ∃v' B',appM 64 5 v (.sl o 5 [QU p]) B=some (v',B')∧PS B0 B' v' (l ++ [p]):=by
 obtain⟨M,id,sz,rfl,rfl,hc⟩:=h
 have hb: (l.length+1)*64≤140737488355328:=OW (by omega)
 have hs:Wd 5 (.sl o 5 [QU p]) (B0 ++ M)=some (1,QU p):=by simp[Wd]
 rcases hc with⟨rfl,rfl,rfl⟩ | ⟨rfl,hid,t,hbx,hne⟩
 ·refine⟨.gs (B0 ++ M).length 0 5 1,B0 ++ (M ++ [QU p]),?_,M ++ [QU p],(B0 ++ M).length,5,rfl,rfl,.inr ⟨rfl,by simp,[],?_,?_⟩⟩
  ·simp[appM,hs]
  ·rw[← List.append_assoc,List.getElem?_concat_length];simp[QI,ZH]
  ·simp[QI,ZH,F7]
 ·have hlt:=VH hbx
  have hr:=Yq l
  have hle:l.length*5≤(QI l ++ t).length:=by rw[List.length_append,hr];omega
  have hrow:QI (l ++ [p])=QI l ++ QU p:=by simp[QI,XZ,RY]
  have htk: (QI l ++ t).take (l.length*5)=QI l:=by rw[← hr,List.take_left]
  have hne2: ∀x:List AV,QI l ++ (QU p ++ x)≠[]:=fun x e=>by
   have:=congrArg List.length e;simp at this
  by_cases hroom: (l.length+1)*5≤(QI l ++ t).length
  ·refine⟨.gs id 0 5 (l.length+1),(B0 ++ M).set id (QI l ++ (QU p ++ (QI l ++ t).drop (l.length*5+5))),?_,_,id,5,Xo hid _,by simp,.inr ⟨rfl,hid,(QI l ++ t).drop (l.length*5+5),?_,?_⟩⟩
   ·simp only[appM,hs,Option.bind_some]
    rw[if_pos ⟨by omega,hb⟩,if_neg (by omega),if_neg (by omega),if_pos ⟨trivial,trivial⟩,hbx]
    simp only[Option.bind_some]
    rw[if_pos ⟨hne,hle⟩,if_pos hroom]
    simp only[put,htk,XN]
    simp
   ·have:id < (B0 ++ M).length:=hlt
    rw[List.getElem?_set,if_pos rfl,if_pos this,hrow];simp
   ·rw[hrow,List.append_assoc];exact hne2 _
  ·refine⟨.gs (B0 ++ M).length 0 5 (l.length+1),(B0 ++ M).set id []++ [QI l ++ QU p],?_,M.set (id - B0.length) []++ [QI l ++ QU p],(B0 ++ M).length,5,?_,by simp,.inr ⟨rfl,by simp,[],?_,?_⟩⟩
   ·have hst: (QI l).map AV.strip=QI l:=Yi X9 l
    simp only[appM,hs,Option.bind_some]
    rw[if_pos ⟨by omega,hb⟩,if_neg (by omega),if_neg (by omega),if_pos ⟨trivial,trivial⟩,hbx]
    simp only[Option.bind_some]
    rw[if_pos ⟨hne,hle⟩,if_neg hroom,htk,hst]
   ·rw[Xo hid,List.append_assoc]
   ·have e: (B0 ++ M).length=((B0 ++ M).set id []).length:=by simp
    rw[hrow,List.append_nil,e,List.getElem?_concat_length]
   ·rw[hrow,List.append_nil];have:=hne2 [];simpa using this
theorem GJ (l:List Pw) (B0 K:List (List AV)) (hl:l.length < 40000000) (hm: ∀q∈l,q.1.mass < big):
  ∀(post pre:List Pw) (B:List (List AV)) (v:AV) (ρ:Nat→AV),l=pre ++ post→PS B0 B v pre→ρ 3=v→ρ 6= .sl false 5 (QG l)→ρ 7= .int .i64 l.length→ρ 8= .int .i64 pre.length→
  Qa3 B0 l (R F.tb (.loop F.f201l0) ρ B (Qk 0 (Qw F.tb F.f201r0 (QB F.f201 K)))):=by
 intro post
 induction post with
 | nil=>
  intro pre B v ρ hk hps h3 h6 h7 h8
  simp only[List.append_nil]at hk
  subst hk
  obtain⟨id,sz,rfl⟩:=Wb hps
  rw[Qc F.f201l0.eq_1]
  refine⟨_,B,?_,hps⟩
  simp[h3,h6,h7,h8,F.f201r0,F.f201R,F.f201K]
 | cons p post IH=>
  intro pre B v ρ hk hps h3 h6 h7 h8
  have hg:=Qp hk
  have hll:l.length=pre.length+ (post.length+1):=by rw[hk];simp
  have hw1:IntKind.i64.wrap ((pre.length:Int)+1)=(pre.length:Int)+1:=Qj (by omega) (by omega)
  have hlt: (pre.length:Int) < (l.length:Int):=by omega
  have hc:=V7 p.1 B (hm p (by rw[hk];simp))
  obtain⟨v2,B2,ha,hps2⟩:=Qiy p false hps (by omega)
  have ih:=fun ρ=>IH (pre ++ [p]) B2 v2 ρ (by rw[hk];simp) hps2
  obtain⟨id,sz,rfl⟩:=Wb hps
  obtain⟨id2,sz2,rfl⟩:=Wb hps2
  have hf:Qb p.1 ++ [.int .i64 p.2]=QU p:=rfl
  rw[Qc F.f201l0.eq_1]
  simp[h3,h6,h7,h8,hg,hlt,hw1,hc,List.take_append,List.drop_append,hf,ha]
  apply ih <;> simp[h6,h7]
theorem Qd9 (l:List Pw) (o:Bool) (B0:List (List AV)) (hl:l.length < 40000000) (hm: ∀q∈l,q.1.mass < big):Qa3 B0 l (call F.tb 201 [.sl o 5 (QG l)] B0):=by
 have h:=fun ρ=>GJ l B0 B0 hl hm l [] B0 _ ρ rfl (Qah B0)
 rw[Qa F.tb_201 _ _ rfl]
 simp[F.f201B,F.f201C]
 apply h <;> simp
theorem Qeb (p:Pw) (B:List (List AV)):call F.tb 203 [.agg (QU p)] B=some (.bool (Yf p.2),B):=by
 rw[Qa F.tb_203 _ _ rfl]
 by_cases c4:p.2 < -1000
 ·simp[F.f203B,F.f203C,F.f203R,F.f203K,Yf,c4]
 ·by_cases c5:1000 < p.2
  ·simp[F.f203B,F.f203C,F.f203R,F.f203K,Yf,c4,c5]
  ·simp[F.f203B,F.f203C,F.f203R,F.f203K,Yf,c4,c5]
def PH (b:Bool) (B:List (List AV)) (r:Out):Prop:=∃i:Int,r=some (.int .i64 i,B)∧(0≤i↔b=true)
theorem Qfw {B0 B:List (List AV)} {v:AV} {l:List Pw} (h:PS B0 B v l) (hl:l.length < 100000000):
  ∀(post pre:List Pw) (ρ:Nat→AV),l=pre ++ post→pre.any (fun q=>Yf q.2)=false→ρ 0=v→ρ 1= .fn 203 []→ρ 7= .int .i64 l.length→ρ 8= .int .i64 pre.length→
  PH (l.any fun q=>Yf q.2) B (R F.tb (.loop F.f205l0) ρ B (Qk 0 (Qw F.tb F.f205r0 (QB F.f205 B)))):=by
 obtain⟨M,id,sz,rfl,rfl,hc⟩:=h
 have htk: (B0 ++ M).take (B0.length+M.length)=B0 ++ M:=List.take_of_length_le (by simp)
 intro post
 induction post with
 | nil=>
  intro pre ρ hk hp h0 h1 h7 h8
  simp only[List.append_nil]at hk
  rw[← hk]at h8 hp
  rw[Qc F.f205l0.eq_1]
  refine⟨-1,?_,by rw[hp];simp⟩
  simp[h0,h1,h7,h8,F.f205r0,F.f205R,F.f205K,htk]
 | cons p post IH=>
  intro pre ρ hk hp h0 h1 h7 h8
  have hg:=Qp hk
  have hll:l.length=pre.length+ (post.length+1):=by rw[hk];simp
  have hw1:IntKind.i64.wrap ((pre.length:Int)+1)=(pre.length:Int)+1:=Qj (by omega) (by omega)
  have hlt: (pre.length:Int) < (l.length:Int):=by omega
  have hlt':pre.length < l.length:=by omega
  rcases hc with⟨rfl,rfl,rfl⟩ | ⟨rfl,hid,t,hbx,hne⟩
  ·simp at hlt'
  have r1:=L2 (l:=l) (Om hg t)
  have hle:pre.length*5+5≤(QI l ++ t).length:=by rw[List.length_append,Yq];omega
  have hcall:=Qeb p (B0 ++ M)
  have ih:=fun ρ hpp=>IH (pre ++ [p]) ρ (by rw[hk];simp) hpp
  generalize QI l ++ t=c at *
  rw[Qc F.f205l0.eq_1]
  cases ho:Yf p.2
  ·have ih2:=fun ρ=>ih ρ (by rw[List.any_append,hp];simp[ho])
   simp[-getElem?_pos,h0,h1,h7,h8,hlt,hlt',hw1,hbx,hle,r1,hcall,ho,-List.any_eq_false,-List.any_eq_true]
   apply ih2 <;> simp[h0,h1,h7]
  ·have hany:l.any (fun q=>Yf q.2)=true:=List.any_eq_true.2 ⟨p,by rw[hk];simp,ho⟩
   refine⟨pre.length,?_,by rw[hany];simp⟩
   simp[-getElem?_pos,h0,h1,h7,h8,hlt,hlt',hbx,hle,r1,hcall,ho,F.f205R,F.f205K,htk]
theorem Qec {B0 B:List (List AV)} {v:AV} {l:List Pw} (h:PS B0 B v l) (hl:l.length < 100000000):call F.tb 204 [v,.fn 203 []] B=some (.bool (l.any fun q=>Yf q.2),B):=by
 have h1:=fun ρ=>Qfw h hl l [] ρ rfl rfl
 obtain⟨id,sz,rfl⟩:=Wb h
 have h2:PH (l.any fun q=>Yf q.2) B (call F.tb 205 [.gs id 0 sz l.length,.fn 203 []] B):=by
  rw[Qa F.tb_205 _ _ rfl]
  simp[F.f205B,F.f205C,-List.any_eq_false,-List.any_eq_true]
  apply h1 <;> simp
 obtain⟨i,hi,hb⟩:=h2
 rw[Qa F.tb_204 _ _ rfl]
 simp[F.f204B,F.f204C,hi,F.f204R,F.f204K,-List.any_eq_false,-List.any_eq_true]
 cases hx:l.any fun q=>Yf q.2
 ·rw[hx]at hb;simp at hb;simpa using hb
 ·rw[hx]at hb;simp at hb;simpa using hb
theorem QfN {B0 B:List (List AV)} {v:AV} {l:List Pw} (h:PS B0 B v l) (n:Nat): ∃o M2,(B0 ++ M2).length=B.length∧Yv B (B0 ++ M2)=true∧∀ρ:Nat→AV,ρ n=v→Z0 {env:=ρ,bs:=B} n 5=some (.sl o 5 (QG l),{env:=upd ρ n .undef,bs:=B0 ++ M2}):=by
 obtain⟨M,id,sz,rfl,rfl,hc⟩:=h
 rcases hc with⟨rfl,rfl,rfl⟩ | ⟨rfl,hid,t,hb,hne⟩
 ·exact⟨true,M,rfl,TK _,fun ρ hn=>by simp[Z0,hn,QG]⟩
 ·by_cases hl:l.length=0
  ·have:l=[]:=List.eq_nil_of_length_eq_zero hl
   subst this
   exact⟨false,M,rfl,TK _,fun ρ hn=>by simp[Z0,hn,QG]⟩
  ·refine⟨true,M.set (id - B0.length) [],by simp,by rw[← Xo hid];exact Hn _ _,fun ρ hn=> ?_⟩
   have hle:0+l.length*5≤(QI l ++ t).length:=by rw[List.length_append,Yq];omega
   have hch:ZO (QI l ++ t) 0 5 l.length=QG l:=Wc (f:=QU) (k:=5) XN X9 l t
   simp only[Z0,hn]
   rw[if_pos ⟨trivial,by omega⟩,if_neg hl,hb]
   simp only[Option.bind_some]
   rw[if_pos hle,hch,Xo hid]
   rfl
def QiM (B0:List (List AV)) (l:List Pw) (r:Out):Prop:=∃M,r=some (.tup [.sl false 5 (QG (if ZJ l=0 then l else [])),.int .i64 (ZJ l)],B0 ++ M)
theorem Qea {B0 B:List (List AV)} {v:AV} {l:List Pw} (h:PS B0 B v l) (hl:l.length < 100000000):QiM B0 l (call F.tb 202 [v] B):=by
 have h1:=Qec h hl
 obtain⟨o,M2,hlen,hchk,hf⟩:=QfN h 9
 obtain⟨M,hM⟩: ∃M,B=B0 ++ M:=by obtain⟨M,_,_,h,_⟩:=h;exact⟨M,h⟩
 subst hM
 have htk: (B0 ++ M2).take (B0.length+M.length)=B0 ++ M2:=List.take_of_length_le (by rw[hlen];simp)
 have htk0: (B0 ++ M).take (B0.length+M.length)=B0 ++ M:=List.take_of_length_le (by simp)
 have hgp:=Nx l
 obtain⟨id,sz,rfl⟩:=Wb h
 rw[Qa F.tb_202 _ _ rfl]
 cases ha:l.any fun q=>Yf q.2
 ·rw[ha]at h1
  by_cases c:200 < l.length
  ·have c': (200:Int) < (l.length:Int):=by omega
   have e:ZJ l=3:=by simp only[ZJ,ha,c,if_true];rfl
   refine⟨M,?_⟩
   rw[e]
   simp[F.f202B,F.f202C,h1,c',F.f202R,F.f202K,YR,htk0]
  ·have c': ¬(200:Int) < (l.length:Int):=by omega
   have e:ZJ l=0:=by simp only[ZJ,ha,c,if_false];rfl
   refine⟨M2,?_⟩
   rw[e]
   simp[F.f202B,F.f202C,h1,c',F.f202R,F.f202K,hf,htk,hchk]
 ·rw[ha]at h1
  have e:ZJ l=7:=by simp only[ZJ,ha,if_true]
  refine⟨M,?_⟩
  rw[e]
  simp[F.f202B,F.f202C,h1,F.f202R,F.f202K,YR,htk0]
theorem QbZ (b:List Pw) (B0:List (List AV)) (hb:b.length≤200) (hbm: ∀q∈b,q.1.mass < big∧q.2≠0∧ -1000≤q.2∧q.2≤1000) (X:List Pw):
  ∀(post pre:List Pw) (acc:List Pw) (n:Nat) (B:List (List AV)) (v:AV) (ρ:Nat→AV),b=pre ++ post→PS B0 B v acc→Xs acc n→n+1000*post.length < 40000000→YC acc post=X→ρ 8=v→ρ 23= .sl false 5 (QG b)→ρ 24= .int .i64 b.length→ρ 25= .int .i64 pre.length→
  R F.tb (.loop F.f200l0) ρ B (Qk 0 (Qw F.tb F.f200r0 (QB F.f200 B0)))=some (.tup [.sl false 5 (QG (if ZJ X=0 then X else [])),.int .i64 (ZJ X)],B0):=by
 intro post
 induction post with
 | nil=>
  intro pre acc n B v ρ hk hps ha hn hX h8 h23 h24 h25
  simp only[List.append_nil]at hk
  rw[← hk]at h25
  simp only[YC]at hX
  subst hX
  have hal:=ha.len
  obtain⟨M,hr⟩:=Qea hps (by simp at hn;omega)
  obtain⟨id,sz,rfl⟩:=Wb hps
  rw[Qc F.f200l0.eq_1]
  generalize (if ZJ acc=0 then acc else [])=X at *
  simp[h8,h23,h24,h25,F.f200r0,hr,F.f200R,F.f200K]
 | cons p post IH=>
  intro pre acc n B v ρ hk hps ha hn hX h8 h23 h24 h25
  have hg:=Qp hk
  have hll:b.length=pre.length+ (post.length+1):=by rw[hk];simp
  have hw1:IntKind.i64.wrap ((pre.length:Int)+1)=(pre.length:Int)+1:=Qj (by omega) (by omega)
  have hlt: (pre.length:Int) < (b.length:Int):=by omega
  obtain⟨q1,q2,q3,q4⟩:=hbm p (by rw[hk];simp)
  simp only[List.length_cons]at hn
  have hal:=ha.len
  obtain⟨v2,B2,hc,hps2⟩:=FO (p:=p) hps (by omega) (fun q hq=>by obtain⟨a1,a2,a3⟩:=ha.bd q hq;exact⟨a1,by omega,by omega⟩) q1 (by omega) ha.asc
  have ih:=fun ρ=>IH (pre ++ [p]) (ZS acc p.1 p.2) (n+1000) B2 v2 ρ (by rw[hk];simp) hps2 (ha.add (c:=1000) q1 q2 (by omega) (by omega)) (by omega) (by rw[← hX];rfl)
  obtain⟨id,sz,rfl⟩:=Wb hps
  obtain⟨id2,sz2,rfl⟩:=Wb hps2
  rw[Qc F.f200l0.eq_1]
  simp[h8,h23,h24,h25,hg,hlt,hw1,hc]
  apply ih <;> simp[h23,h24]
theorem Qd8 (a b:List Pw) (o o2:Bool) (bs:List (List AV)) (ha:a.length < 100000000) (hb:b.length < 100000000) (hma: ∀q∈a,q.1.mass < big) (hmb: ∀q∈b,q.1.mass < big):
  call F.tb 200 [.sl o 5 (QG a),.sl o2 5 (QG b)] bs=some (.tup [.sl false 5 (QG (YY a b)),.int .i64 (Xu a b)],bs):=by
 have h1:=LF a false bs ha hma
 have h2:=LF b false bs hb hmb
 rw[Qa F.tb_200 _ _ rfl]
 by_cases va:ZD a=0
 ·by_cases vb:ZD b=0
  ·obtain⟨ia,la,_⟩:=VR va hma
   obtain⟨ib,lb,_⟩:=VR vb hmb
   obtain⟨v,B,hc,hps⟩:=Qd9 a false bs (by omega) hma
   have h3:=fun ρ=>QbZ b bs lb (fun q hq=>by obtain⟨x1,x2,x3⟩:=ib.bd q hq;exact⟨x1,ib.nz q hq,x2,x3⟩) _ b [] a 1000 B v ρ rfl hps ia (by omega) rfl
   obtain⟨id,sz,rfl⟩:=Wb hps
   have e1:Xu a b=ZJ (YC a b):=by simp[Xu,va,vb]
   have e2:YY a b=if ZJ (YC a b)=0 then YC a b else []:=by simp[YY,e1]
   rw[e1,e2]
   simp[F.f200B,F.f200C,h1,h2,va,vb,hc]
   apply h3 <;> simp
  ·have e1:Xu a b=ZD b:=by simp[Xu,va,vb]
   have e2:YY a b=[]:=by simp[YY,e1,vb]
   rw[e1,e2]
   simp[F.f200B,F.f200C,h1,h2,va,vb,F.f200R,F.f200K,YR]
 ·have e1:Xu a b=ZD a:=by simp[Xu,va]
  have e2:YY a b=[]:=by simp[YY,e1,va]
  rw[e1,e2]
  simp[F.f200B,F.f200C,h1,va,F.f200R,F.f200K,YR]
end Go.Am
namespace Go.Am
set_option maxRecDepth 8000
@[simp] theorem QjK (x y:Tm) (a:List Tm) (h:1 < (encTs (x:: y:: a)).length): (encTs (x:: y:: a))[1]=Qb y:=by simp[encTs]
def ZX:List UInt8:=[112,97,105,114]
def ENC:List UInt8:=[101,110,99]
def Zo:List UInt8:=[97,101,110,99]
def PK:List UInt8:=[112,107]
def ZY:List UInt8:=[115,105,103,110]
def EXP:List UInt8:=[101,120,112]
def FST:List UInt8:=[102,115,116]
def SND:List UInt8:=[115,110,100]
def DEC:List UInt8:=[100,101,99]
def Q1:List UInt8:=[97,100,101,99]
def Zf:List UInt8:=[111,112,101,110]
def READ:List UInt8:=[114,101,97,100]
def ZB (n:List UInt8) (m:Nat):Bool:=
 if n=ZX∨n=ENC∨n=Zo∨n=ZY∨n=EXP∨n=DEC∨n=Q1∨n=Zf then decide (m=2)
 else if n=PK∨n=FST∨n=SND∨n=READ then decide (m=1)else true
mutual
def QT:Tm→Bool
 | .mk k n s ks=>(!(k == 3) || ((s == 0) && ZB n ks.length)) && goodL ks
def goodL:List Tm→Bool
 | []=>true
 | t:: ts=>QT t && goodL ts
end
theorem HD (t:Tm):QT t=((!(t.kind == 3) || ((t.sort == 0) && ZB t.name t.kids.length)) && goodL t.kids):=by cases t;simp[QT]
theorem Yh: ∀{l:List Tm},goodL l=true↔∀x∈l,QT x=true
 | []=>by simp[goodL]
 | t:: ts=>by simp[goodL,Yh (l:=ts)]
theorem XE {t:Tm} (h:QT t=true):goodL t.kids=true:=by rw[HD]at h;simp at h;exact h.2
theorem Ww {t:Tm} (h:QT t=true) (hk:t.kind=3):t.sort=0∧ZB t.name t.kids.length=true:=by
 rw[HD]at h;simp[hk]at h;exact h.1
theorem Ym {t:Tm} {n:List UInt8} (h:QT t=true) (hb:isB t n=true) (hn:ZB n t.kids.length=decide (t.kids.length=2)): ∃x y,t.kids=[x,y]:=by
 obtain⟨hk,rfl⟩:=OS.1 hb
 have:=(Ww h hk).2
 rw[hn]at this
 simp at this
 match hh:t.kids with
 | [x,y]=>exact⟨x,y,rfl⟩
 | []=>rw[hh]at this;simp at this
 | [_]=>rw[hh]at this;simp at this
 | _:: _:: _:: _=>rw[hh]at this;simp at this
def kid (t:Tm) (i:Nat):Tm:=t.kids.getD i QC
def pkT (t:Tm):Tm:= .mk 3 PK 0 [t]
theorem Ek {u:Tm} (h:QT u=true) (key:Tm):decide (Qm u (pkT key)=0)=(isB u PK && decide (Qm (kid u 0) key=0)):=by
 cases hb:isB u PK
 ·have: ¬Qm u (pkT key)=0:=by
   intro e
   have:=ZP _ _ e
   subst this
   simp[isB,pkT]at hb
  simp[this]
 ·obtain⟨hk,hn⟩:=OS.1 hb
  obtain⟨hs,ha⟩:=Ww h hk
  rw[hn]at ha
  have h1:u.kids.length=1:=by simpa[ZB,PK,ZX,ENC,Zo,ZY,EXP,DEC,Q1,Zf]using ha
  obtain⟨x,hx⟩:=List.length_eq_one_iff.1 h1
  have hu:u=pkT x:=by rw[← Tm.eta u,hk,hn,hs,hx];rfl
  subst hu
  have:kid (pkT x) 0=x:=rfl
  rw[this]
  have e1:Qm (pkT x) (pkT key)=0↔Qm x key=0:=by
   constructor
   ·intro e
    have:=ZP _ _ e
    injection this with _ _ _ h4
    injection h4 with h4
    subst h4;exact XA _
   ·intro e
    have:=ZP _ _ e
    subst this;exact XA _
  simp[e1]
def QJ (n:List UInt8) (us:List Tm):Tm:=
 let a:=us.getD 0 QC
 let key:=us.getD 1 QC
 let out:Tm:= .mk 3 n 0 us
 if n=FST then(if isB a ZX then kid a 0 else out)
 else if n=SND then(if isB a ZX then kid a 1 else out)
 else if n=DEC then(if isB a ENC && decide (Qm (kid a 1) key=0)then kid a 0 else out)
 else if n=Q1 then(if isB a Zo && decide (Qm (kid a 1) (pkT key)=0)then kid a 0 else out)
 else if n=Zf then(if isB a ZY && decide (Qm key (pkT (kid a 1))=0)then kid a 0 else out)
 else if n=READ then(if isB a ZY then kid a 0 else out)
 else out
theorem OL (x y:Tm) (bs:List (List AV)) (hx:x.mass < big) (hy:y.mass < big):call F.tb 177 [.agg (Qb x),.agg (Qb y)] bs=some (.bool (decide (Qm x y=0)),bs):=by
 have h:=call_Compare x y bs hx hy
 rw[Qa F.tb_177 _ _ rfl]
 simp[F.f177B,F.f177C,F.f177R,F.f177K,h]
def Z7 (n:List UInt8):Bool:=n == FST || n == SND || n == DEC || n == Q1 || n == Zf || n == READ
theorem Qbv (n:List UInt8) (a:Tm) (bs:List (List AV)) (hn:n=FST∨n=SND∨n=READ) (hg:QT a=true) (hm:a.mass < big):
  call F.tb 176 [.agg (Qb (.mk 3 n 0 [a]))] bs=some (.agg (Qb (QJ n [a])),bs):=by
 have h1:=fun m=>PZ a m bs
 rw[Qa F.tb_176 _ _ rfl]
 rcases hn with rfl | rfl | rfl
 ·cases hb:isB a ZX
  ·have h2:=h1 ZX;rw[hb]at h2;simp only[ZX]at h2
   have e:QJ FST [a]= .mk 3 FST 0 [a]:=by simp[QJ,hb]
   rw[e]
   simp only[FST]
   simp[F.f176B,F.f176C,F.f176R,F.f176K,h2]
  ·have h2:=h1 ZX;rw[hb]at h2;simp only[ZX]at h2
   obtain⟨x,y,hk⟩:=Ym hg hb (by simp[ZB])
   have e:QJ FST [a]=x:=by simp[QJ,hb,kid,hk]
   rw[e]
   simp only[FST]
   simp[F.f176B,F.f176C,F.f176R,F.f176K,h2,hk]
 ·cases hb:isB a ZX
  ·have h2:=h1 ZX;rw[hb]at h2;simp only[ZX]at h2
   have e:QJ SND [a]= .mk 3 SND 0 [a]:=by simp[QJ,hb,SND,FST]
   rw[e]
   simp only[SND]
   simp[F.f176B,F.f176C,F.f176R,F.f176K,h2]
  ·have h2:=h1 ZX;rw[hb]at h2;simp only[ZX]at h2
   obtain⟨x,y,hk⟩:=Ym hg hb (by simp[ZB])
   have e:QJ SND [a]=y:=by simp[QJ,hb,kid,hk,SND,FST]
   rw[e]
   simp only[SND]
   simp[F.f176B,F.f176C,F.f176R,F.f176K,h2,hk]
 ·cases hb:isB a ZY
  ·have h2:=h1 ZY;rw[hb]at h2;simp only[ZY]at h2
   have e:QJ READ [a]= .mk 3 READ 0 [a]:=by simp[QJ,hb,SND,FST,DEC,Q1,Zf,READ]
   rw[e]
   simp only[READ]
   simp[F.f176B,F.f176C,F.f176R,F.f176K,h2]
  ·have h2:=h1 ZY;rw[hb]at h2;simp only[ZY]at h2
   obtain⟨x,y,hk⟩:=Ym hg hb (by simp[ZB])
   have e:QJ READ [a]=x:=by simp[QJ,hb,kid,hk,SND,FST,DEC,Q1,Zf,READ]
   rw[e]
   simp only[READ]
   simp[F.f176B,F.f176C,F.f176R,F.f176K,h2,hk]
theorem Qbw (n:List UInt8) (a key:Tm) (bs:List (List AV)) (hn:n=DEC∨n=Q1∨n=Zf) (hg:QT a=true) (hgk:QT key=true) (hm:a.mass < big - 10) (hmk:key.mass < big - 10):
  call F.tb 176 [.agg (Qb (.mk 3 n 0 [a,key]))] bs=some (.agg (Qb (QJ n [a,key])),bs):=by
 have h1:=fun t m=>PZ t m bs
 rw[Qa F.tb_176 _ _ rfl]
 rcases hn with rfl | rfl | rfl
 ·cases hb:isB a ENC
  ·have h2:=h1 a ENC;rw[hb]at h2;simp only[ENC]at h2
   have e:QJ DEC [a,key]= .mk 3 DEC 0 [a,key]:=by simp[QJ,hb,SND,FST,DEC]
   rw[e]
   simp only[DEC]
   simp[F.f176B,F.f176C,F.f176R,F.f176K,h2]
  ·have h2:=h1 a ENC;rw[hb]at h2;simp only[ENC]at h2
   obtain⟨x,y,hk⟩:=Ym hg hb (by simp[ZB])
   have hma:=Qq a
   rw[hk]at hma
   simp only[massL]at hma
   have h3:=OL y key bs (by omega) (by omega)
   by_cases hc:Qm y key=0
   ·have e:QJ DEC [a,key]=x:=by simp[QJ,hb,kid,hk,hc,SND,FST,DEC]
    rw[e]
    simp only[DEC]
    simp[F.f176B,F.f176C,F.f176R,F.f176K,h2,h3,hc,hk]
   ·have e:QJ DEC [a,key]= .mk 3 DEC 0 [a,key]:=by simp[QJ,hb,kid,hk,hc,SND,FST,DEC]
    rw[e]
    simp only[DEC]
    simp[F.f176B,F.f176C,F.f176R,F.f176K,h2,h3,hc,hk]
 ·cases hb:isB a Zo
  ·have h2:=h1 a Zo;rw[hb]at h2;simp only[Zo]at h2
   have e:QJ Q1 [a,key]= .mk 3 Q1 0 [a,key]:=by simp[QJ,hb,SND,FST,DEC,Q1]
   rw[e]
   simp only[Q1]
   simp[F.f176B,F.f176C,F.f176R,F.f176K,h2]
  ·have h2:=h1 a Zo;rw[hb]at h2;simp only[Zo]at h2
   obtain⟨x,y,hk⟩:=Ym hg hb (by simp[ZB])
   have hma:=Qq a
   have hgy:QT y=true:=by
    have:=XE hg;rw[hk]at this;simp[goodL]at this;exact this.2
   rw[hk]at hma
   simp only[massL]at hma
   have hpk:=Ek hgy key
   have h4:=h1 y PK
   have e0:QJ Q1 [a,key]=if isB y PK && decide (Qm (kid y 0) key=0)then x else .mk 3 Q1 0 [a,key]:=by
    rw[← hpk];simp[QJ,hb,kid,hk,SND,FST,DEC,Q1]
   rw[e0]
   cases hbp:isB y PK
   ·rw[hbp]at h4;simp only[PK]at h4
    simp only[Q1]
    simp[F.f176B,F.f176C,F.f176R,F.f176K,h2,h4,hk]
   ·rw[hbp]at h4;simp only[PK]at h4
    obtain⟨hyk,hyn⟩:=OS.1 hbp
    have har:=(Ww hgy hyk).2
    rw[hyn]at har
    have hl1:y.kids.length=1:=by simpa[ZB,PK,ZX,ENC,Zo,ZY,EXP,DEC,Q1,Zf]using har
    obtain⟨z,hz⟩:=List.length_eq_one_iff.1 hl1
    have hmy:=Qq y
    rw[hz]at hmy
    simp only[massL]at hmy
    have h3:=OL z key bs (by omega) (by omega)
    have hk0:kid y 0=z:=by simp[kid,hz]
    rw[hk0]
    by_cases hc:Qm z key=0
    ·simp only[Q1]
     simp[F.f176B,F.f176C,F.f176R,F.f176K,h2,h3,h4,hc,hk,hz]
    ·simp only[Q1]
     simp[F.f176B,F.f176C,F.f176R,F.f176K,h2,h3,h4,hc,hk,hz]
 ·cases hb:isB a ZY
  ·have h2:=h1 a ZY;rw[hb]at h2;simp only[ZY]at h2
   have e:QJ Zf [a,key]= .mk 3 Zf 0 [a,key]:=by simp[QJ,hb,SND,FST,DEC,Q1,Zf]
   rw[e]
   simp only[Zf]
   simp[F.f176B,F.f176C,F.f176R,F.f176K,h2]
  ·have h2:=h1 a ZY;rw[hb]at h2;simp only[ZY]at h2
   obtain⟨x,y,hk⟩:=Ym hg hb (by simp[ZB])
   have hma:=Qq a
   rw[hk]at hma
   simp only[massL]at hma
   have hpk:=Ek hgk y
   have h4:=h1 key PK
   have e0:QJ Zf [a,key]=if isB key PK && decide (Qm (kid key 0) y=0)then x else .mk 3 Zf 0 [a,key]:=by
    rw[← hpk];simp[QJ,hb,kid,hk,SND,FST,DEC,Q1,Zf]
   rw[e0]
   cases hbp:isB key PK
   ·rw[hbp]at h4;simp only[PK]at h4
    simp only[Zf]
    simp[F.f176B,F.f176C,F.f176R,F.f176K,h2,h4,hk]
   ·rw[hbp]at h4;simp only[PK]at h4
    obtain⟨hyk,hyn⟩:=OS.1 hbp
    have har:=(Ww hgk hyk).2
    rw[hyn]at har
    have hl1:key.kids.length=1:=by simpa[ZB,PK,ZX,ENC,Zo,ZY,EXP,DEC,Q1,Zf]using har
    obtain⟨z,hz⟩:=List.length_eq_one_iff.1 hl1
    have hmy:=Qq key
    rw[hz]at hmy
    simp only[massL]at hmy
    have h3:=OL y z bs (by omega) (by omega)
    have hk0:kid key 0=z:=by simp[kid,hz]
    have hsym: (Qm z y=0)=(Qm y z=0):=by
     have:=YP y z
     rw[eq_iff_iff];omega
    rw[hk0]
    by_cases hc:Qm y z=0
    ·simp only[Zf]
     simp[F.f176B,F.f176C,F.f176R,F.f176K,h2,h3,h4,hc,hk,hz,hsym]
    ·simp only[Zf]
     simp[F.f176B,F.f176C,F.f176R,F.f176K,h2,h3,h4,hc,hk,hz,hsym]
end Go.Am
namespace Go.Am
set_option maxRecDepth 8000
theorem H2 (t:Tm): (pkT t).mass=t.mass+4:=by simp only[pkT,Tm.mass,massL,PK,List.length_cons,List.length_nil];omega
def QaY (t:Tm) (bs:List (List AV)) (r:Out):Prop:=∃b,r=some (.tup [.agg (Qb t),.bool b],bs)
theorem Ct (n:List UInt8) (a:Tm) (bs:List (List AV)) (hn:n=FST∨n=SND∨n=READ) (hg:QT a=true) (hm:a.mass < big):
  QaY (QJ n [a]) bs (call F.tb 243 [.agg (Qb (.mk 3 n 0 [a]))] bs):=by
 have h1:=fun m=>Nt a m bs
 rw[Qa F.tb_243 _ _ rfl]
 rcases hn with rfl | rfl | rfl
 ·cases hb:isB a ZX
  ·have h2:=h1 ZX;rw[hb]at h2;simp only[ZX]at h2
   have e:QJ FST [a]= .mk 3 FST 0 [a]:=by simp[QJ,hb]
   rw[e]
   refine⟨false,?_⟩
   simp only[FST]
   simp[F.f243B,F.f243C,F.f243R,F.f243K,h2]
  ·have h2:=h1 ZX;rw[hb]at h2;simp only[ZX]at h2
   obtain⟨x,y,hk⟩:=Ym hg hb (by simp[ZB])
   have e:QJ FST [a]=x:=by simp[QJ,hb,kid,hk]
   rw[e]
   refine⟨true,?_⟩
   simp only[FST]
   simp[F.f243B,F.f243C,F.f243R,F.f243K,h2,hk]
 ·cases hb:isB a ZX
  ·have h2:=h1 ZX;rw[hb]at h2;simp only[ZX]at h2
   have e:QJ SND [a]= .mk 3 SND 0 [a]:=by simp[QJ,hb,SND,FST]
   rw[e]
   refine⟨false,?_⟩
   simp only[SND]
   simp[F.f243B,F.f243C,F.f243R,F.f243K,h2]
  ·have h2:=h1 ZX;rw[hb]at h2;simp only[ZX]at h2
   obtain⟨x,y,hk⟩:=Ym hg hb (by simp[ZB])
   have e:QJ SND [a]=y:=by simp[QJ,hb,kid,hk,SND,FST]
   rw[e]
   refine⟨true,?_⟩
   simp only[SND]
   simp[F.f243B,F.f243C,F.f243R,F.f243K,h2,hk]
 ·cases hb:isB a ZY
  ·have h2:=h1 ZY;rw[hb]at h2;simp only[ZY]at h2
   have e:QJ READ [a]= .mk 3 READ 0 [a]:=by simp[QJ,hb,SND,FST,DEC,Q1,Zf,READ]
   rw[e]
   refine⟨false,?_⟩
   simp only[READ]
   simp[F.f243B,F.f243C,F.f243R,F.f243K,h2]
  ·have h2:=h1 ZY;rw[hb]at h2;simp only[ZY]at h2
   obtain⟨x,y,hk⟩:=Ym hg hb (by simp[ZB])
   have e:QJ READ [a]=x:=by simp[QJ,hb,kid,hk,SND,FST,DEC,Q1,Zf,READ]
   rw[e]
   refine⟨true,?_⟩
   simp only[READ]
   simp[F.f243B,F.f243C,F.f243R,F.f243K,h2,hk]
theorem Cu (n:List UInt8) (a key:Tm) (bs:List (List AV)) (hn:n=DEC∨n=Q1∨n=Zf) (hg:QT a=true) (hm:a.mass < big - 10) (hmk:key.mass < big - 10):
  QaY (QJ n [a,key]) bs (call F.tb 243 [.agg (Qb (.mk 3 n 0 [a,key]))] bs):=by
 have h1:=fun t m=>Nt t m bs
 rw[Qa F.tb_243 _ _ rfl]
 rcases hn with rfl | rfl | rfl
 ·cases hb:isB a ENC
  ·have h2:=h1 a ENC;rw[hb]at h2;simp only[ENC]at h2
   have e:QJ DEC [a,key]= .mk 3 DEC 0 [a,key]:=by simp[QJ,hb,SND,FST,DEC]
   rw[e]
   refine⟨false,?_⟩
   simp only[DEC]
   simp[F.f243B,F.f243C,F.f243R,F.f243K,h2]
  ·have h2:=h1 a ENC;rw[hb]at h2;simp only[ENC]at h2
   obtain⟨x,y,hk⟩:=Ym hg hb (by simp[ZB])
   have hma:=Qq a
   rw[hk]at hma
   simp only[massL]at hma
   have h3:=Y2 y key bs (by omega) (by omega)
   by_cases hc:Qm y key=0
   ·have e:QJ DEC [a,key]=x:=by simp[QJ,hb,kid,hk,hc,SND,FST,DEC]
    rw[e]
    refine⟨true,?_⟩
    simp only[DEC]
    simp[F.f243B,F.f243C,F.f243R,F.f243K,h2,h3,hc,hk]
   ·have e:QJ DEC [a,key]= .mk 3 DEC 0 [a,key]:=by simp[QJ,hb,kid,hk,hc,SND,FST,DEC]
    rw[e]
    refine⟨false,?_⟩
    simp only[DEC]
    simp[F.f243B,F.f243C,F.f243R,F.f243K,h2,h3,hc,hk]
 ·cases hb:isB a Zo
  ·have h2:=h1 a Zo;rw[hb]at h2;simp only[Zo]at h2
   have e:QJ Q1 [a,key]= .mk 3 Q1 0 [a,key]:=by simp[QJ,hb,SND,FST,DEC,Q1]
   rw[e]
   refine⟨false,?_⟩
   simp only[Q1]
   simp[F.f243B,F.f243C,F.f243R,F.f243K,h2]
  ·have h2:=h1 a Zo;rw[hb]at h2;simp only[Zo]at h2
   obtain⟨x,y,hk⟩:=Ym hg hb (by simp[ZB])
   have hma:=Qq a
   rw[hk]at hma
   simp only[massL]at hma
   have hpm: (pkT key).mass < big:=by rw[H2];unfold big at *;omega
   have h3:=Y2 y (pkT key) bs (by omega) hpm
   have h4:=Vj PK [key] false bs (by simp)
   simp only[pkT,PK]at h3 h4
   by_cases hc:Qm y (pkT key)=0
   ·have e:QJ Q1 [a,key]=x:=by simp[QJ,hb,kid,hk,hc,SND,FST,DEC,Q1]
    rw[e]
    refine⟨true,?_⟩
    simp only[pkT,PK]at hc
    simp only[Q1]
    simp[F.f243B,F.f243C,F.f243R,F.f243K,h2,h3,h4,hc,hk,Q0]
   ·have e:QJ Q1 [a,key]= .mk 3 Q1 0 [a,key]:=by simp[QJ,hb,kid,hk,hc,SND,FST,DEC,Q1]
    rw[e]
    refine⟨false,?_⟩
    simp only[pkT,PK]at hc
    simp only[Q1]
    simp[F.f243B,F.f243C,F.f243R,F.f243K,h2,h3,h4,hc,hk,Q0]
 ·cases hb:isB a ZY
  ·have h2:=h1 a ZY;rw[hb]at h2;simp only[ZY]at h2
   have e:QJ Zf [a,key]= .mk 3 Zf 0 [a,key]:=by simp[QJ,hb,SND,FST,DEC,Q1,Zf]
   rw[e]
   refine⟨false,?_⟩
   simp only[Zf]
   simp[F.f243B,F.f243C,F.f243R,F.f243K,h2]
  ·have h2:=h1 a ZY;rw[hb]at h2;simp only[ZY]at h2
   obtain⟨x,y,hk⟩:=Ym hg hb (by simp[ZB])
   have hma:=Qq a
   rw[hk]at hma
   simp only[massL]at hma
   have hpm: (pkT y).mass < big:=by rw[H2];unfold big at *;omega
   have h3:=Y2 key (pkT y) bs (by omega) hpm
   have h4:=Vj PK [y] false bs (by simp)
   simp only[pkT,PK]at h3 h4
   by_cases hc:Qm key (pkT y)=0
   ·have e:QJ Zf [a,key]=x:=by simp[QJ,hb,kid,hk,hc,SND,FST,DEC,Q1,Zf]
    rw[e]
    refine⟨true,?_⟩
    simp only[pkT,PK]at hc
    simp only[Zf]
    simp[F.f243B,F.f243C,F.f243R,F.f243K,h2,h3,h4,hc,hk,Q0]
   ·have e:QJ Zf [a,key]= .mk 3 Zf 0 [a,key]:=by simp[QJ,hb,kid,hk,hc,SND,FST,DEC,Q1,Zf]
    rw[e]
    refine⟨false,?_⟩
    simp only[pkT,PK]at hc
    simp only[Zf]
    simp[F.f243B,F.f243C,F.f243R,F.f243K,h2,h3,h4,hc,hk,Q0]
end Go.Am
namespace Go.Am
set_option maxRecDepth 8000
def KM (l:List Pw) (M:Nat):Prop:=∀q∈l,q.1.mass≤M
theorem Eq {l:List Pw} {t:Tm} {m:Int} {M:Nat} (h:KM l M) (ht:t.mass≤M):KM (ZS l t m) M:=by
 intro q hq
 rcases VT hq with hq | rfl | ⟨_,_,rfl,_⟩
 ·exact h q hq
 ·exact ht
 ·exact ht
theorem Qfz: ∀(t:Tm) (l:List Pw) (m:Int) (M:Nat),KM l M→t.mass≤M→KM (Xi l t m) M:=by
 refine Zd ?_
 intro k n s ks ih l m M h hm
 have hme:=Qq (.mk k n s ks)
 simp only[QO,Za]at hme
 have hL: ∀(xs:List Tm) (l:List Pw) (m:Int),(∀x∈xs,x∈ks)→KM l M→KM (colL l xs m) M:=by
  intro xs
  induction xs with
  | nil=>intro l m _ h;simpa[colL]using h
  | cons x xs IH=>
   intro l m hx h
   simp only[colL]
   exact IH _ m (fun y hy=>hx y (by simp[hy])) (ih x (hx x (by simp)) l m M h (by have:=QA (hx x (by simp));omega))
 rw[RQ]
 split
 ·exact hL ks l _ (fun x hx=>hx) h
 ·exact Eq h hm
theorem Mw: ∀(b a:List Pw) (M:Nat),KM a M→KM b M→KM (YC a b) M
 | [],a,M,h,_=>h
 | q:: b,a,M,h,hb=>Mw b _ M (Eq h (hb q (by simp))) fun x hx=>hb x (by simp[hx])
theorem RV (t:Tm) (M:Nat) (h:t.mass≤M):KM (ofP t) M:=by
 unfold ofP
 split
 ·exact Qfz t [] 1 M (fun q hq=>by simp at hq) h
 ·intro q hq;simp at hq
theorem Te (t:Tm): (ofP t).length≤200:=by
 unfold ofP
 split
 ·rename_i h
  unfold ofE at h
  split at h
  ·rename_i h1;exact absurd h h1
  ·split at h
   ·split at h
    ·cases h
    ·omega
   ·cases h
 ·simp
theorem DU {l:List Pw} (h:ZJ l=0):l.length≤200:=by
 unfold ZJ at h
 split at h
 ·cases h
 ·split at h
  ·cases h
  ·omega
theorem HT (a b:List Pw): (YY a b).length≤200:=by
 unfold YY
 split
 ·rename_i h
  unfold Xu at h
  split at h
  ·rename_i h1;exact absurd h h1
  ·split at h
   ·rename_i h1;exact absurd h h1
   ·exact DU h
 ·simp
theorem Er {a b:List Pw} {M:Nat} (ha:KM a M) (hb:KM b M):KM (YY a b) M:=by
 unfold YY
 split
 ·exact Mw b a M ha hb
 ·intro q hq;simp at hq
theorem KE (n:Nat) (t:Tm):massL (List.replicate n t)=n*t.mass:=by
 induction n with
 | zero=>simp[massL]
 | succ n ih=>rw[List.replicate_succ,massL,ih,Nat.succ_mul];omega
theorem A5 (t:Tm): (Vf t).mass=t.mass+5:=by simp only[Vf,Tm.mass,massL,INV,List.length_cons,List.length_nil];omega
theorem MG: ∀{l:List Pw} {M:Nat},KM l M→(∀q∈l,q.2≤8)→massL (YT l)≤l.length* (8*M)
 | [],M,_,_=>by simp[YT,massL]
 | p:: l,M,h,hb=>by
  have h1:=MG (l:=l) (M:=M) (fun q hq=>h q (by simp[hq])) fun q hq=>hb q (by simp[hq])
  have h2:=h p (by simp)
  have h3:=hb p (by simp)
  have h4:p.2.toNat* p.1.mass≤8*M:=Nat.mul_le_mul (by omega) h2
  have e:YT (p:: l)=List.replicate p.2.toNat p.1 ++ YT l:=by simp[YT]
  rw[e,Xl,KE,List.length_cons,Nat.succ_mul];omega
theorem ME: ∀{l:List Pw} {M:Nat},KM l M→(∀q∈l,-8≤q.2)→massL (Y6 l)≤l.length* (8* (M+5))
 | [],M,_,_=>by simp[Y6,massL]
 | p:: l,M,h,hb=>by
  have h1:=ME (l:=l) (M:=M) (fun q hq=>h q (by simp[hq])) fun q hq=>hb q (by simp[hq])
  have h2:=h p (by simp)
  have h3:=hb p (by simp)
  have h4: (-p.2).toNat* (Vf p.1).mass≤8* (M+5):=Nat.mul_le_mul (by omega) (by rw[A5];omega)
  have e:Y6 (p:: l)=List.replicate (-p.2).toNat (Vf p.1)++ Y6 l:=by simp[Y6]
  rw[e,Xl,KE,List.length_cons,Nat.succ_mul];omega
theorem MF {l:List Pw} (h:KM l 25000000) (hl:l.length≤200) (hb: ∀q∈l,-8≤q.2∧q.2≤8):massL (Zm l) < big - 100:=by
 have h1:=MG h fun q hq=>(hb q hq).2
 have h2:=ME h fun q hq=>(hb q hq).1
 have h3:l.length* (8*25000000)≤200* (8*25000000):=Nat.mul_le_mul_right _ hl
 have h4:l.length* (8* (25000000+5))≤200* (8* (25000000+5)):=Nat.mul_le_mul_right _ hl
 unfold Zm
 rw[Xl]
 unfold big
 omega
theorem Nn {l:List Pw} (o:Bool) (bs:List (List AV)) (h:KM l 25000000) (hl:l.length≤200):call F.tb 196 [.sl o 5 (QG l)] bs=some (QN (Zq l),bs):=
 Qd6 l o bs (by omega) (fun q hq=>by have:=h q hq;unfold big;omega) (MF h hl)
theorem Nq {l:List Pw} (o:Bool) (bs:List (List AV)) (h:KM l 25000000) (hl:l.length≤200):call F.tb 258 [.sl o 5 (QG l)] bs=some (QN (Zq l),bs):=
 Qev l o bs (by omega) (fun q hq=>by have:=h q hq;unfold big;omega) (MF h hl)
def XO (b:Tm) (p:List Pw):Tm×Int:=if p=[]then(b,0)else if(Zq p).2≠0 then(QC,(Zq p).2)else(.mk 3 EXP 0 [b,(Zq p).1],0)
def Yw (b e:Tm):Tm×Int:=
 if ofE e≠0 then(QC,ofE e)
 else if isB b EXP then
  if ofE (kid b 1)≠0 then(QC,ofE (kid b 1))else if Xu (ofP (kid b 1)) (ofP e)≠0 then(QC,Xu (ofP (kid b 1)) (ofP e))else XO (kid b 0) (YY (ofP (kid b 1)) (ofP e))
 else XO b (ofP e)
def ZV (t:Tm):Tm×Int:=if ofE t≠0 then(QC,ofE t)else Zq (ofP t)
theorem QH (t:Tm) (e:Int):QN (t,e)= .tup [.agg (Qb t),.int .i64 e]:=rfl
theorem Qet (t:Tm) (bs:List (List AV)) (hm:t.mass < 20000000):call F.tb 252 [.agg (Qb t)] bs=some (QN (ZV t),bs):=by
 have h1:=LJ t bs (by omega)
 have h2:=Nq false bs (RV t 25000000 (by omega)) (Te t)
 rw[Qa F.tb_252 _ _ rfl]
 by_cases c:ofE t=0
 ·have e:ZV t=Zq (ofP t):=by simp[ZV,c]
  rw[e]
  simp only[QN]at h2 ⊢
  simp[F.f252B,F.f252C,F.f252R,F.f252K,h1,h2,c]
 ·have e:ZV t=(QC,ofE t):=by simp[ZV,c]
  rw[e]
  simp[F.f252B,F.f252C,F.f252R,F.f252K,h1,c,QH,QE]
end Go.Am
namespace Go.Am
set_option maxRecDepth 8000
theorem Qd7 (b e:Tm) (bs:List (List AV)) (hg:QT b=true) (hb:b.mass < 20000000) (he:e.mass < 20000000):call F.tb 199 [.agg (Qb b),.agg (Qb e)] bs=some (QN (Yw b e),bs):=by
 have h1:=LE e bs (by omega)
 have h2:=PZ b EXP bs
 have ke:=RV e 25000000 (by omega)
 have le:=Te e
 rw[Qa F.tb_199 _ _ rfl]
 by_cases c1:ofE e=0
 ·cases hx:isB b EXP
  ·rw[hx]at h2;simp only[EXP]at h2
   have h4:=Nn false bs ke le
   have e0:Yw b e=XO b (ofP e):=by simp[Yw,c1,hx]
   rw[e0]
   generalize ofP e=p at *
   match p with
   | []=>
    simp only[YR]at h1
    simp[F.f199B,F.f199C,F.f199R,F.f199K,h1,h2,c1,XO,QH]
   | q:: r=>
    have n0: ¬(r.length:Int)+1=0:=by omega
    by_cases c2: (Zq (q:: r)).2=0
    ·have h5:=Hf EXP [b,(Zq (q:: r)).1] false bs
     simp only[QN,encTs]at h4 h5
     simp only[EXP]at h5
     simp[F.f199B,F.f199C,F.f199R,F.f199K,h1,h2,h4,h5,c1,c2,n0,XO,QH,EXP]
    ·simp only[QN]at h4
     simp[F.f199B,F.f199C,F.f199R,F.f199K,h1,h2,h4,c1,c2,n0,XO,QH,QE]
  ·obtain⟨x,y,hk⟩:=Ym hg hx (by simp[ZB])
   rw[hx]at h2;simp only[EXP]at h2
   have hmb:=Qq b
   rw[hk]at hmb
   simp only[massL]at hmb
   have k0:kid b 0=x:=by simp[kid,hk]
   have k1:kid b 1=y:=by simp[kid,hk]
   have h3:=LE y bs (by omega)
   have ky:=RV y 25000000 (by omega)
   have ly:=Te y
   by_cases c2:ofE y=0
   ·have h4:=Qd8 (ofP y) (ofP e) false false bs (by omega) (by omega) (fun q hq=>by have:=ky q hq;unfold big;omega) (fun q hq=>by have:=ke q hq;unfold big;omega)
    by_cases c3:Xu (ofP y) (ofP e)=0
    ·have h6:=Nn false bs (Er ky ke) (HT (ofP y) (ofP e))
     have e0:Yw b e=XO x (YY (ofP y) (ofP e)):=by simp[Yw,c1,hx,k0,k1,c2,c3]
     rw[e0]
     generalize YY (ofP y) (ofP e)=p at *
     match p with
     | []=>
      simp only[YR]at h4
      simp[F.f199B,F.f199C,F.f199R,F.f199K,h1,h2,h3,h4,hk,c1,c2,c3,XO,QH]
     | q:: r=>
      have n0: ¬(r.length:Int)+1=0:=by omega
      by_cases c4: (Zq (q:: r)).2=0
      ·have h5:=Hf EXP [x,(Zq (q:: r)).1] false bs
       simp only[QN,encTs]at h6 h5
       simp only[EXP]at h5
       simp[F.f199B,F.f199C,F.f199R,F.f199K,h1,h2,h3,h4,h5,h6,hk,c1,c2,c3,c4,n0,XO,QH,EXP]
      ·simp only[QN]at h6
       simp[F.f199B,F.f199C,F.f199R,F.f199K,h1,h2,h3,h4,h6,hk,c1,c2,c3,c4,n0,XO,QH,QE]
    ·have e0:Yw b e=(QC,Xu (ofP y) (ofP e)):=by simp[Yw,c1,hx,k1,c2,c3]
     rw[e0]
     simp[F.f199B,F.f199C,F.f199R,F.f199K,h1,h2,h3,h4,hk,c1,c2,c3,QH,QE]
   ·have e0:Yw b e=(QC,ofE y):=by simp[Yw,c1,hx,k1,c2]
    rw[e0]
    simp[F.f199B,F.f199C,F.f199R,F.f199K,h1,h2,h3,hk,c1,c2,QH,QE]
 ·have e0:Yw b e=(QC,ofE e):=by simp[Yw,c1]
  rw[e0]
  simp[F.f199B,F.f199C,F.f199R,F.f199K,h1,c1,QH,QE]
theorem Qex (b e:Tm) (bs:List (List AV)) (hg:QT b=true) (hb:b.mass < 20000000) (he:e.mass < 20000000):call F.tb 261 [.agg (Qb b),.agg (Qb e)] bs=some (QN (Yw b e),bs):=by
 have h1:=LJ e bs (by omega)
 have h2:=Nt b EXP bs
 have ke:=RV e 25000000 (by omega)
 have le:=Te e
 rw[Qa F.tb_261 _ _ rfl]
 by_cases c1:ofE e=0
 ·cases hx:isB b EXP
  ·rw[hx]at h2;simp only[EXP]at h2
   have h4:=Nq false bs ke le
   have e0:Yw b e=XO b (ofP e):=by simp[Yw,c1,hx]
   rw[e0]
   generalize ofP e=p at *
   match p with
   | []=>
    simp only[YR]at h1
    simp[F.f261B,F.f261C,F.f261R,F.f261K,h1,h2,c1,XO,QH]
   | q:: r=>
    have n0: ¬(r.length:Int)+1=0:=by omega
    by_cases c2: (Zq (q:: r)).2=0
    ·have h5:=Vj EXP [b,(Zq (q:: r)).1] false bs (by simp)
     simp only[QN,encTs]at h4 h5
     simp only[EXP]at h5
     simp[F.f261B,F.f261C,F.f261R,F.f261K,h1,h2,h4,h5,c1,c2,n0,XO,QH,EXP]
    ·simp only[QN]at h4
     simp[F.f261B,F.f261C,F.f261R,F.f261K,h1,h2,h4,c1,c2,n0,XO,QH,QE]
  ·obtain⟨x,y,hk⟩:=Ym hg hx (by simp[ZB])
   rw[hx]at h2;simp only[EXP]at h2
   have hmb:=Qq b
   rw[hk]at hmb
   simp only[massL]at hmb
   have k0:kid b 0=x:=by simp[kid,hk]
   have k1:kid b 1=y:=by simp[kid,hk]
   have h3:=LJ y bs (by omega)
   have ky:=RV y 25000000 (by omega)
   have ly:=Te y
   by_cases c2:ofE y=0
   ·have h4:=Qey (ofP y) (ofP e) false false bs (by omega) (by omega) (fun q hq=>by have:=ky q hq;unfold big;omega) (fun q hq=>by have:=ke q hq;unfold big;omega)
    by_cases c3:Xu (ofP y) (ofP e)=0
    ·have h6:=Nq false bs (Er ky ke) (HT (ofP y) (ofP e))
     have e0:Yw b e=XO x (YY (ofP y) (ofP e)):=by simp[Yw,c1,hx,k0,k1,c2,c3]
     rw[e0]
     generalize YY (ofP y) (ofP e)=p at *
     match p with
     | []=>
      simp only[YR]at h4
      simp[F.f261B,F.f261C,F.f261R,F.f261K,h1,h2,h3,h4,hk,c1,c2,c3,XO,QH]
     | q:: r=>
      have n0: ¬(r.length:Int)+1=0:=by omega
      by_cases c4: (Zq (q:: r)).2=0
      ·have h5:=Vj EXP [x,(Zq (q:: r)).1] false bs (by simp)
       simp only[QN,encTs]at h6 h5
       simp only[EXP]at h5
       simp[F.f261B,F.f261C,F.f261R,F.f261K,h1,h2,h3,h4,h5,h6,hk,c1,c2,c3,c4,n0,XO,QH,EXP]
      ·simp only[QN]at h6
       simp[F.f261B,F.f261C,F.f261R,F.f261K,h1,h2,h3,h4,h6,hk,c1,c2,c3,c4,n0,XO,QH,QE]
    ·have e0:Yw b e=(QC,Xu (ofP y) (ofP e)):=by simp[Yw,c1,hx,k1,c2,c3]
     rw[e0]
     simp[F.f261B,F.f261C,F.f261R,F.f261K,h1,h2,h3,h4,hk,c1,c2,c3,QH,QE]
   ·have e0:Yw b e=(QC,ofE y):=by simp[Yw,c1,hx,k1,c2]
    rw[e0]
    simp[F.f261B,F.f261C,F.f261R,F.f261K,h1,h2,h3,hk,c1,c2,QH,QE]
 ·have e0:Yw b e=(QC,ofE e):=by simp[Yw,c1]
  rw[e0]
  simp[F.f261B,F.f261C,F.f261R,F.f261K,h1,c1,QH,QE]
end Go.Am
namespace Go.Am
set_option maxRecDepth 8000
theorem O9 {n:List UInt8} (h:YV n=true):n.length≤24:=by
 cases n with
 | nil=>simp
 | cons c r=>
  simp only[YV,Bool.and_eq_true,decide_eq_true_eq]at h
  simp only[List.length_cons]
  omega
theorem HZ {t:Tm} (h:Wa t=0):t.name.length≤24∧t.kids.length≤8∧(t.kind=3→t.sort=0)∧(t.kind≠3→t.kids=[]):=by
 unfold Wa at h
 split at h
 ·rename_i hk
  split at h
  ·cases h
  ·rename_i h1
   split at h
   ·cases h
   ·rename_i h2
    have h3:t.kids.length=0:=by omega
    exact⟨O9 (by simpa using h2),by omega,fun e=>by omega,fun _=>List.eq_nil_of_length_eq_zero h3⟩
 ·split at h
  ·rename_i hk
   split at h
   ·cases h
   ·rename_i h1
    split at h
    ·cases h
    ·rename_i h2
     split at h
     ·cases h
     ·exact⟨O9 (by simpa using h2),by omega,fun _=>by simpa using h1,fun e=>absurd hk e⟩
  ·cases h
mutual
theorem Kq: ∀t:Tm,Ye t=0→t.mass≤33*t.nodes
 | .mk k n s ks,h=>by
  simp only[Ye]at h
  split at h
  ·rename_i h1;exact absurd h h1
  ·rename_i h1
   obtain⟨a,b,_⟩:=HZ (t:= .mk k n s ks) (by simpa using h1)
   have:=errL_mass ks h
   simp only[Za,QO]at a b
   simp only[Tm.mass,Tm.nodes];omega
theorem errL_mass: ∀ts:List Tm,errL ts=0→massL ts≤33*nodesL ts
 | [],_=>by simp[massL,nodesL]
 | t:: ts,h=>by
  simp only[errL]at h
  split at h
  ·rename_i h1;exact absurd h h1
  ·rename_i h1
   have a:=Kq t (by simpa using h1)
   have b:=errL_mass ts h
   simp only[massL,nodesL];omega
end
theorem WS {t:Tm} (h:QK t=0):Ye t=0∧t.nodes≤400∧t.mass≤13200:=by
 unfold QK at h
 split at h
 ·rename_i h1;exact absurd h h1
 ·rename_i h1
  split at h
  ·cases h
  ·have:=Kq t (by simpa using h1)
   exact⟨by simpa using h1,by omega,by omega⟩
theorem AP {n:List UInt8} {y:Sy} (h:Zc n Z2=some y) (m:Nat) (h1: ¬((m:Int) < y.l∨y.m < m)):ZB n m=true:=by
 unfold ZB
 split
 ·rename_i hn
  have:y.l=2∧y.m=2:=by rcases hn with rfl | rfl | rfl | rfl | rfl | rfl | rfl | rfl <;> simp[ZX,ENC,Zo,ZY,EXP,DEC,Q1,Zf,Zc,Z2]at h <;> subst h <;> simp
  simp;omega
 ·split
  ·rename_i hn
   have:y.l=1∧y.m=1:=by rcases hn with rfl | rfl | rfl | rfl <;> simp[PK,FST,SND,READ,Zc,Z2]at h <;> subst h <;> simp
   simp;omega
  ·rfl
mutual
theorem Mp: ∀t:Tm,Ye t=0→Yd t=0→QT t=true
 | .mk k n s ks,h,hc=>by
  simp only[Ye]at h
  split at h
  ·rename_i h1;exact absurd h h1
  ·rename_i h1
   obtain⟨_,_,a,b⟩:=HZ (t:= .mk k n s ks) (by simpa using h1)
   simp only[XX,WK,QO]at a b
   simp only[Yd]at hc
   by_cases hk:k=3
   ·subst hk
    rw[if_neg (by simp)]at hc
    cases hy:Zc n Z2 with
    | none=>rw[hy]at hc;simp at hc
    | some y=>
     rw[hy]at hc
     simp only at hc
     split at hc
     ·cases hc
     ·rename_i h2
      have har:=AP hy ks.length h2
      split at hc
      ·cases hc
      ·split at hc
       ·cases hc
       ·have:=goodL_valid ks h hc
        simp[QT,a rfl,har,this]
   ·have:=b hk
    subst this
    simp[QT,hk,goodL]
theorem goodL_valid: ∀ts:List Tm,errL ts=0→chkL ts=0→goodL ts=true
 | [],_,_=>rfl
 | t:: ts,h,hc=>by
  simp only[errL]at h
  simp only[chkL]at hc
  split at h
  ·rename_i h1;exact absurd h h1
  ·rename_i h1
   split at hc
   ·rename_i h2;exact absurd hc h2
   ·rename_i h2
    simp[goodL,Mp t (by simpa using h1) (by simpa using h2),goodL_valid ts h hc]
end
mutual
theorem AW: ∀(t y:Tm),QT t=true→y∈QR t→QT y=true
 | .mk k n s ks,y,h,hy=>by
  simp only[QR,List.mem_cons]at hy
  rcases hy with rfl | hy
  ·exact h
  ·exact good_allL ks y (XE h) hy
theorem good_allL: ∀(ts:List Tm) (y:Tm),goodL ts=true→y∈allL ts→QT y=true
 | [],y,_,hy=>by simp[allL]at hy
 | t:: ts,y,h,hy=>by
  simp only[goodL,Bool.and_eq_true]at h
  simp only[allL,List.mem_append]at hy
  rcases hy with hy | hy
  ·exact AW t y h.1 hy
  ·exact good_allL ts y h.2 hy
end
theorem YS:QT QC=true:=by simp[QC,QT,goodL]
theorem Vd {n:List UInt8} {us:List Tm} (ha:ZB n us.length=true) (h:goodL us=true):QT (.mk 3 n 0 us)=true:=by simp[QT,ha,h]
theorem NB {t:Tm} (h:QT t=true) (i:Nat):QT (kid t i)=true:=by
 unfold kid
 rw[List.getD_eq_getElem?_getD]
 cases hg:t.kids[i]? with
 | none=>simpa using YS
 | some x=>exact Yh.1 (XE h) x (List.mem_of_getElem? hg)
theorem HN (t:Tm) (i:Nat): (kid t i).mass≤t.mass:=by
 unfold kid
 rw[List.getD_eq_getElem?_getD]
 have:=Qq t
 cases hg:t.kids[i]? with
 | none=>simp[QC,Tm.mass,massL];omega
 | some x=>have:=QA (List.mem_of_getElem? hg);simp;omega
theorem AY {us:List Tm} (h:goodL us=true):QT (XP us).1=true:=by
 unfold XP
 split
 ·exact YS
 ·split
  ·exact YS
  ·have hL: ∀y∈sumL [] us,QT y=true:=fun y hy=>by
    rcases sumL_mem us [] y hy with h1 | h1
    ·simp at h1
    ·exact good_allL us y h h1
   show QT (tmX (sumL [] us))=true
   match hh:sumL [] us with
   | []=>simp[tmX,QT,goodL,ZB,Q9,ZX,ENC,Zo,ZY,EXP,DEC,Q1,Zf,PK,FST,SND,READ]
   | [p]=>simp only[tmX];exact hL p (by rw[hh];simp)
   | p:: q:: r=>
    simp only[tmX]
    refine Vd (by simp[ZB,XOR,ZX,ENC,Zo,ZY,EXP,DEC,Q1,Zf,PK,FST,SND,READ]) (Yh.2 fun x hx=>hL x (by rw[hh];exact hx))
theorem A7 (us:List Tm): (XP us).1.mass≤13200:=by
 unfold XP
 split
 ·simp[QC,Tm.mass,massL]
 ·split
  ·simp[QC,Tm.mass,massL]
  ·rename_i h;exact(WS (by simpa using h)).2.2
theorem WF:QC.mass=1:=by simp[QC,Tm.mass,massL]
def KG (l:List Pw):Prop:=∀q∈l,QT q.1=true
theorem Ep {l:List Pw} {t:Tm} {m:Int} (h:KG l) (ht:QT t=true):KG (ZS l t m):=by
 intro q hq
 rcases VT hq with hq | rfl | ⟨_,_,rfl,_⟩
 ·exact h q hq
 ·exact ht
 ·exact ht
theorem Qfx: ∀(t:Tm) (l:List Pw) (m:Int),KG l→QT t=true→KG (Xi l t m):=by
 refine Zd ?_
 intro k n s ks ih l m h hm
 have hk:=Yh.1 (XE hm)
 have hL: ∀(xs:List Tm) (l:List Pw) (m:Int),(∀x∈xs,x∈ks)→KG l→KG (colL l xs m):=by
  intro xs
  induction xs with
  | nil=>intro l m _ h;simpa[colL]using h
  | cons x xs IH=>
   intro l m hx h
   simp only[colL]
   exact IH _ m (fun y hy=>hx y (by simp[hy])) (ih x (hx x (by simp)) l m h (hk x (hx x (by simp))))
 rw[RQ]
 split
 ·exact hL ks l _ (fun x hx=>hx) h
 ·exact Ep h hm
theorem Mu: ∀(b a:List Pw),KG a→KG b→KG (YC a b)
 | [],a,h,_=>h
 | q:: b,a,h,hb=>Mu b _ (Ep h (hb q (by simp))) fun x hx=>hb x (by simp[hx])
theorem Mv {t:Tm} (h:QT t=true):KG (ofP t):=by
 unfold ofP
 split
 ·exact Qfx t [] 1 (fun q hq=>by simp at hq) h
 ·intro q hq;simp at hq
theorem Qfy {a b:List Pw} (ha:KG a) (hb:KG b):KG (YY a b):=by
 unfold YY
 split
 ·exact Mu b a ha hb
 ·intro q hq;simp at hq
theorem AX {l:List Pw} (h:KG l):goodL (Zm l)=true:=by
 refine Yh.2 fun x hx=> ?_
 simp only[Zm,YT,Y6,List.mem_append,List.mem_flatten,List.mem_map]at hx
 rcases hx with⟨_,⟨q,hq,rfl⟩,hx⟩ | ⟨_,⟨q,hq,rfl⟩,hx⟩
 ·rw[List.eq_of_mem_replicate hx];exact h q hq
 ·rw[List.eq_of_mem_replicate hx]
  exact Vd (by simp[ZB,INV,ZX,ENC,Zo,ZY,EXP,DEC,Q1,Zf,PK,FST,SND,READ]) (by simp[goodL,h q hq])
theorem Mo {l:List Pw} (h:KG l):QT (Zq l).1=true:=by
 unfold Zq
 split
 ·exact YS
 ·split
  ·exact YS
  ·split
   ·exact YS
   ·have hL:=AX h
    show QT (Zj (Zm l))=true
    match hh:Zm l with
    | []=>simp[Zj,QT,goodL,ZB,ONE,ZX,ENC,Zo,ZY,EXP,DEC,Q1,Zf,PK,FST,SND,READ]
    | [p]=>simp only[Zj];rw[hh]at hL;simpa[goodL]using hL
    | p:: q:: r=>
     simp only[Zj]
     rw[hh]at hL
     exact Vd (by simp[ZB,MUL,ZX,ENC,Zo,ZY,EXP,DEC,Q1,Zf,PK,FST,SND,READ]) hL
theorem MH (l:List Pw): (Zq l).1.mass≤13200:=by
 unfold Zq
 split
 ·simp[QC,Tm.mass,massL]
 ·split
  ·simp[QC,Tm.mass,massL]
  ·split
   ·simp[QC,Tm.mass,massL]
   ·rename_i h;exact(WS (by simpa using h)).2.2
theorem K5 {t:Tm} (h:QT t=true):QT (ZV t).1=true:=by
 unfold ZV
 split
 ·exact YS
 ·exact Mo (Mv h)
theorem K7 (t:Tm): (ZV t).1.mass≤13200:=by
 unfold ZV
 split
 ·simp[QC,Tm.mass,massL]
 ·exact MH _
theorem Ef {b:Tm} {p:List Pw} (hb:QT b=true) (hp:KG p):QT (XO b p).1=true∧(XO b p).1.mass≤6+b.mass+13200:=by
 have h0:=MH p
 unfold XO
 split
 ·exact⟨hb,by simp;omega⟩
 ·split
  ·exact⟨YS,by show QC.mass≤_;rw[WF];omega⟩
  ·exact⟨Vd (by simp[ZB]) (by simp[goodL,hb,Mo hp]),by simp only[Tm.mass,massL,EXP,List.length_cons,List.length_nil];omega⟩
theorem QfM {b e:Tm} (hb:QT b=true) (he:QT e=true):QT (Yw b e).1=true∧(Yw b e).1.mass≤6+b.mass+13200:=by
 have hz:QT QC=true∧QC.mass≤6+b.mass+13200:=⟨YS,by show QC.mass≤_;rw[WF];omega⟩
 have hk:=HN b 0
 unfold Yw
 split
 ·exact hz
 ·split
  ·split
   ·exact hz
   ·split
    ·exact hz
    ·obtain⟨h1,h2⟩:=Ef (NB hb 0) (Qfy (Mv (NB hb 1)) (Mv he))
     exact⟨h1,by omega⟩
  ·exact Ef hb (Mv he)
theorem Qbu {n:List UInt8} {us:List Tm} (ha:ZB n us.length=true) (h:goodL us=true):QT (QJ n us)=true∧(QJ n us).mass≤1+n.length+us.length+massL us:=by
 have hout:QT (.mk 3 n 0 us)=true∧(Tm.mk 3 n 0 us).mass≤1+n.length+us.length+massL us:=⟨Vd ha h,by simp[Tm.mass]⟩
 have ha0:QT (us.getD 0 QC)=true∧(us.getD 0 QC).mass≤1+massL us:=by
  cases us with
  | nil=>exact⟨YS,by simp[QC,Tm.mass,massL]⟩
  | cons x r=>simp only[goodL,Bool.and_eq_true]at h;exact⟨h.1,by simp[massL];omega⟩
 have hkid: ∀i,QT (kid (us.getD 0 QC) i)=true∧(kid (us.getD 0 QC) i).mass≤1+n.length+us.length+massL us:=fun i=>⟨NB ha0.1 i,by have:=HN (us.getD 0 QC) i;omega⟩
 simp only[QJ]
 repeat' split
 all_goals first | exact hout | exact hkid _
def ZQ (n:List UInt8) (us:List Tm):Tm×Int:=
 if Z7 n then(QJ n us,0)else if n=XOR then XP us else if n=MUL∨n=INV∨n=ONE then ZV (.mk 3 n 0 us)
 else if n=EXP then Yw (us.getD 0 QC) (us.getD 1 QC)else(.mk 3 n 0 us,0)
mutual
def Q7:Tm→Tm×Int
 | .mk k n s ks=>if k=3 then(if(normL ks).2=0 then ZQ n (normL ks).1 else(QC,(normL ks).2))else(.mk k n s ks,0)
def normL:List Tm→List Tm×Int
 | []=>([],0)
 | t:: ts=>if(Q7 t).2=0 then(if(normL ts).2=0 then((Q7 t).1:: (normL ts).1,0)else([],(normL ts).2))else([],(Q7 t).2)
end
theorem QbO {n:List UInt8} {us:List Tm} (ha:ZB n us.length=true) (h:goodL us=true):QT (ZQ n us).1=true∧(ZQ n us).1.mass≤1+n.length+us.length+massL us+13200:=by
 unfold ZQ
 split
 ·obtain⟨h1,h2⟩:=Qbu ha h;exact⟨h1,by simp;omega⟩
 ·split
  ·exact⟨AY h,by have:=A7 us;omega⟩
  ·split
   ·exact⟨K5 (Vd ha h),by have:=K7 (.mk 3 n 0 us);omega⟩
   ·split
    ·rename_i hn
     subst hn
     have h2:us.length=2:=by simpa[ZB]using ha
     match us,h2,h with
     | [x,y],_,h=>
      simp only[goodL,Bool.and_eq_true]at h
      obtain⟨h3,h4⟩:=QfM h.1 h.2.1
      exact⟨h3,by simp only[massL,EXP,List.length_cons,List.length_nil]at *;simp at h4 ⊢;omega⟩
    ·exact⟨Vd ha h,by simp[Tm.mass]⟩
mutual
theorem Tw: ∀t:Tm,QT t=true→QT (Q7 t).1=true∧(Q7 t).1.mass≤t.mass+13200*t.nodes
 | .mk k n s ks,h=>by
  have hk:=normL_ok ks (XE h)
  simp only[Q7]
  split
  ·rename_i hk3
   subst hk3
   split
   ·rename_i h2
    obtain⟨h3,h4,h5⟩:=hk
    have h5:=h5 h2
    have har:=(Ww h rfl).2
    simp only[Za,QO]at har
    obtain⟨h6,h7⟩:=QbO (by rw[h5];exact har) h3
    exact⟨h6,by simp only[Tm.mass,Tm.nodes];rw[h5]at h7;omega⟩
   ·exact⟨YS,by show QC.mass≤_;rw[WF];simp only[Tm.mass];omega⟩
  ·exact⟨h,Nat.le_add_right _ _⟩
theorem normL_ok: ∀ts:List Tm,goodL ts=true→goodL (normL ts).1=true∧massL (normL ts).1≤massL ts+13200*nodesL ts∧((normL ts).2=0→(normL ts).1.length=ts.length)
 | [],_=>by simp[normL,goodL,massL]
 | t:: ts,h=>by
  simp only[goodL,Bool.and_eq_true]at h
  obtain⟨a1,a2⟩:=Tw t h.1
  obtain⟨b1,b2,b3⟩:=normL_ok ts h.2
  simp only[normL]
  split
  ·split
   ·rename_i h2
    refine⟨by simp[goodL,a1,b1],by simp only[massL,nodesL];omega,fun _=>by simp[b3 h2]⟩
   ·rename_i h2
    exact⟨rfl,by simp[massL],fun e=>absurd e h2⟩
  ·rename_i h2
   exact⟨rfl,by simp[massL],fun e=>absurd e h2⟩
end
end Go.Am
