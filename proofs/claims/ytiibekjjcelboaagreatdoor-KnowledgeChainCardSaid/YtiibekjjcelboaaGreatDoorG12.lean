/-
  AmT, AmO.
-/
import Derived.Test.YtiibekjjcelboaaGreatDoorG00
import Derived.Test.YtiibekjjcelboaaGreatDoorG09
import Derived.Lib.SlTrimSet
import Derived.Lib.Bytealg
set_option linter.unusedVariables false
set_option linter.unusedSimpArgs false
namespace Go.Am
set_option maxRecDepth 8000
inductive Tm where
 | mk (k:Int) (n:List UInt8) (s:Int) (kids:List Tm)
def Tm.kind:Tm→Int | .mk k _ _ _=>k
def Tm.name:Tm→List UInt8 | .mk _ n _ _=>n
def Tm.sort:Tm→Int | .mk _ _ s _=>s
def Tm.kids:Tm→List Tm | .mk _ _ _ ks=>ks
theorem W2 (k:Int) (n:List UInt8) (s:Int) (ks:List Tm): (Tm.mk k n s ks).kind=k:=rfl
theorem ZH (k:Int) (n:List UInt8) (s:Int) (ks:List Tm): (Tm.mk k n s ks).name=n:=rfl
theorem Uq (k:Int) (n:List UInt8) (s:Int) (ks:List Tm): (Tm.mk k n s ks).sort=s:=rfl
theorem Q0 (k:Int) (n:List UInt8) (s:Int) (ks:List Tm): (Tm.mk k n s ks).kids=ks:=rfl
attribute [simp] W2 ZH Uq Q0
theorem Tm.eta (t:Tm):Tm.mk t.kind t.name t.sort t.kids=t:=by cases t;rfl
theorem ZG {P:Tm→Prop} (h: ∀k n s ks,(∀x∈ks,P x)→P (.mk k n s ks)): ∀t,P t:=by
 intro t;refine Tm.rec (motive_1:=P) (motive_2:=fun ks=>∀x∈ks,P x) ?_ ?_ ?_ t
 ·intro k n s ks ih;exact h k n s ks ih
 ·intro x hx;cases hx
 ·intro t ts h1 h2 x hx;rcases List.mem_cons.1 hx with rfl | hx
  ·exact h1
  ·exact h2 x hx
mutual
def Qb:Tm→List AV
 | .mk k n s ks=>[.int .i64 k,.str n,.int .i64 s,.sl false 4 (encTs ks)]
def encTs:List Tm→List (List AV)
 | []=>[]
 | t:: ts=>Qb t:: encTs ts
end
theorem Q6 (t:Tm):Qb t=[.int .i64 t.kind,.str t.name,.int .i64 t.sort,.sl false 4 (encTs t.kids)]:=by cases t;simp[Qb]
theorem Yd (ts:List Tm):encTs ts=ts.map Qb:=by
 induction ts with
 | nil=>simp[encTs]
 | cons t ts ih=>simp[encTs,ih]
theorem YJ (ts:List Tm): (encTs ts).length=ts.length:=by simp[Yd]
theorem UQ (ts:List Tm) (i:Nat): (encTs ts)[i]? =(ts[i]?).map Qb:=by simp[Yd]
theorem Q7 (a b:List Tm):encTs a ++ encTs b=encTs (a ++ b):=by simp[Yd]
theorem RD (a:List Tm) (n:Nat): (encTs a).take n=encTs (a.take n):=by simp[Yd]
theorem RC (a:List Tm) (n:Nat): (encTs a).drop n=encTs (a.drop n):=by simp[Yd]
theorem Lb:encTs []=[]:=by simp[encTs]
theorem Zt (t:Tm): [Qb t]=encTs [t]:=by simp[encTs]
theorem ZY (t:Tm): (Qb t).length=4:=by simp[Q6]
theorem QL (t:Tm): (Qb t).map AV.strip=Qb t:=by simp[Q6,AV.strip]
theorem Qg (t:Tm): (Qb t).take 4=Qb t:=by simp[Q6]
theorem La (t:Tm): (Qb t).drop 4=[]:=by simp[Q6]
theorem CE (t:Tm): (Qb t)[0]? =some (.int .i64 t.kind):=by simp[Q6]
theorem CF (t:Tm): (Qb t)[1]? =some (.str t.name):=by simp[Q6]
theorem CG (t:Tm): (Qb t)[2]? =some (.int .i64 t.sort):=by simp[Q6]
theorem CH (t:Tm): (Qb t)[3]? =some (.sl false 4 (encTs t.kids)):=by simp[Q6]
theorem Gj (t:Tm) (h:0 < (Qb t).length): (Qb t)[0]= .int .i64 t.kind:=by simp[Q6]
theorem Gk (t:Tm) (h:1 < (Qb t).length): (Qb t)[1]= .str t.name:=by simp[Q6]
theorem Gl (t:Tm) (h:2 < (Qb t).length): (Qb t)[2]= .int .i64 t.sort:=by simp[Q6]
theorem Gm (t:Tm) (h:3 < (Qb t).length): (Qb t)[3]= .sl false 4 (encTs t.kids):=by simp[Q6]
mutual
theorem Oo: ∀t:Tm,gpfreeL (Qb t)=true
 | .mk k n s ks=>by simp[Qb,gpfreeL,AV.gpfree,encTs_gp ks]
theorem encTs_gp: ∀ts:List Tm,gpfreeE (encTs ts)=true
 | []=>by simp[encTs,gpfreeE]
 | t:: ts=>by simp[encTs,gpfreeE,Oo t,encTs_gp ts]
end
theorem WO (k:Int) (n:List UInt8) (s:Int) (ks:List Tm): [AV.int .i64 k,.str n,.int .i64 s,.sl false 4 (encTs ks)]=Qb (.mk k n s ks):=by simp[Qb]
theorem FI (k:Int) (n:List UInt8) (s:Int): [AV.int .i64 k,.str n,.int .i64 s,.sl false 4 []]=Qb (.mk k n s []):=by simp[Qb,encTs]
attribute [simp] YJ UQ ZY QL Qg La CE CF CG CH Gj Gk Gl Gm Oo encTs_gp
attribute [simp] Int.toNat_natCast
mutual
def Tm.nodes:Tm→Nat
 | .mk _ _ _ ks=>1+nodesL ks
def nodesL:List Tm→Nat
 | []=>0
 | t:: ts=>t.nodes+nodesL ts
end
mutual
def Tm.mass:Tm→Nat
 | .mk _ n _ ks=>1+n.length+ks.length+massL ks
def massL:List Tm→Nat
 | []=>0
 | t:: ts=>t.mass+massL ts
end
mutual
def Tm.depth:Tm→Nat
 | .mk _ _ _ ks=>depthL ks+1
def depthL:List Tm→Nat
 | []=>0
 | t:: ts=>max t.depth (depthL ts)
end
theorem Qp (t:Tm):t.mass=1+t.name.length+t.kids.length+massL t.kids:=by cases t;simp[Tm.mass]
theorem YM (t:Tm):t.nodes=1+nodesL t.kids:=by cases t;simp[Tm.nodes]
theorem RA (t:Tm):t.depth=depthL t.kids+1:=by cases t;simp[Tm.depth]
theorem QC {x:Tm}: ∀{ks:List Tm},x∈ks→x.mass≤massL ks
 | [],h=>by cases h
 | t:: ts,h=>by
  simp only[massL];rcases List.mem_cons.1 h with rfl | h
  ·omega
  ·have:=QC h;omega
theorem NN {x:Tm}: ∀{ks:List Tm},x∈ks→x.depth≤depthL ks
 | [],h=>by cases h
 | t:: ts,h=>by
  simp only[depthL];rcases List.mem_cons.1 h with rfl | h
  ·omega
  ·have:=NN h;omega
theorem XI (a b:List Tm):massL (a ++ b)=massL a+massL b:=by
 induction a with
 | nil=>simp[massL]
 | cons t ts ih=>simp[massL,ih];omega
theorem Yu (a b:List Tm):nodesL (a ++ b)=nodesL a+nodesL b:=by
 induction a with
 | nil=>simp[nodesL]
 | cons t ts ih=>simp[nodesL,ih];omega
mutual
theorem ZL: ∀t:Tm,t.nodes≤t.mass
 | .mk _ _ _ ks=>by simp only[Tm.nodes,Tm.mass];have:=nodesL_le_mass ks;omega
theorem nodesL_le_mass: ∀ts:List Tm,nodesL ts≤massL ts
 | []=>by simp[nodesL,massL]
 | t:: ts=>by simp only[nodesL,massL];have:=ZL t;have:=nodesL_le_mass ts;omega
end
mutual
theorem Re: ∀t:Tm,t.depth≤t.nodes
 | .mk _ _ _ ks=>by simp only[Tm.nodes,Tm.depth];have:=depthL_le_nodes ks;omega
theorem depthL_le_nodes: ∀ts:List Tm,depthL ts≤nodesL ts
 | []=>by simp[nodesL,depthL]
 | t:: ts=>by simp only[nodesL,depthL];have:=Re t;have:=depthL_le_nodes ts;omega
end
theorem MJ (a b:Int): (a == b)=decide (a=b):=by by_cases h:a=b <;> simp[h]
theorem MK (a b:Int): (a != b)= !decide (a=b):=by by_cases h:a=b <;> simp[h]
attribute [local simp] MJ MK
theorem Qt {α:Type} {ks pre post:List α} {x:α} (h:ks=pre ++ x:: post):ks[pre.length]? =some x:=by subst h;simp
def big:Nat:=1099511627776
def sgn (a b:Int):Int:=if a < b then -1 else if a > b then 1 else 0
def Y1 (a b:List UInt8):Int:=if Op.bytesLess a b then -1 else if a == b then 0 else 1
def or0 (c d:Int):Int:=if c=0 then d else c
theorem W6 (d:Int):or0 0 d=d:=rfl
theorem L0 (c:Int):or0 c 0=c:=by unfold or0;split <;> simp_all
theorem V0 {c:Int} (h:c≠0) (d:Int):or0 c d=c:=by simp[or0,h]
theorem Ut {a b:Int}:or0 a b=0↔a=0∧b=0:=by unfold or0;split <;> simp_all
def hdT (t u:Tm):Int:=or0 (sgn t.nodes u.nodes) (or0 (sgn t.kind u.kind) (or0 (Y1 t.name u.name) (or0 (sgn t.sort u.sort) (sgn t.kids.length u.kids.length))))
mutual
def Qh:Tm→Tm→Int
 | .mk k n s ks,u=>or0 (hdT (.mk k n s ks) u) (cmpL ks u.kids)
def cmpL:List Tm→List Tm→Int
 | [],_=>0
 | _:: _,[]=>0
 | t:: ts,u:: us=>or0 (Qh t u) (cmpL ts us)
end
theorem Uh (t u:Tm):Qh t u=or0 (hdT t u) (cmpL t.kids u.kids):=by cases t;simp[Qh]
theorem TE {a b:Int}:sgn a b=0↔a=b:=by unfold sgn;split <;> (try split) <;> omega
mutual
def JI:AV→Option (List Tm)
 | .sl _ 4 xs=>decE xs
 | _=>none
def PE:List AV→Option Tm
 | [.int .i64 k,.str n,.int .i64 s,x]=>(JI x).map fun ks=> .mk k n s ks
 | _=>none
def decE:List (List AV)→Option (List Tm)
 | []=>some []
 | x:: xs=>match PE x,decE xs with
  | some t,some ts=>some (t:: ts)
  | _,_=>none
end
mutual
theorem Qap: ∀t:Tm,PE (Qb t)=some t
 | .mk k n s ks=>by simp only[Qb,PE,JI,decE_enc ks,Option.map_some]
theorem decE_enc: ∀ts:List Tm,decE (encTs ts)=some ts
 | []=>by simp only[encTs,decE]
 | t:: ts=>by simp only[encTs,decE,Qap t,decE_enc ts]
end
def Vo (t:Tm):List Tm→List Tm
 | []=>[t]
 | x:: xs=>if Qh x t < 0 then x:: Vo t xs else t:: x:: xs
def ZB:List Tm→List Tm
 | []=>[]
 | t:: ts=>Vo t (ZB ts)
def T0:List AV→List (List AV)→Option (AV×List (List AV))
 | [.gs id o sz n,.fn 30 []],bs=>if n=0 then some (.tup [],bs)else if sz=4∧n < 4611686018427387904 then(bs[id]?).bind fun cs=>
   if o+n*4≤cs.length then(decE (Q5 cs o 4 n)).bind fun ts=>if ts.all (fun t=>decide (t.mass < big))then some (.tup [],bs.set id (put cs o (encTs (ZB ts)).flatten))else none else none
   else none
 | _,_=>none
end Go.Am
namespace Go.Am
def Mo:List AV→Option AV
 | [.str s,.str cs]=>if(cs.all (· < 128) && decide (s.length < 4294967281) && decide (cs.length < 4294967281))=true then some (.str (Lib.trimS s cs))else none
 | _=>none
def Ot (bytes sz:Nat):List AV→List (List AV)→Option (AV×List (List AV))
 | [.gs _ _ 0 0,.int .i64 n],bs=>if 0≤n∧n.toNat* bytes≤140737488355328∧n≤4611686018427387904 then some (.sl true sz [],bs)else none
 | _,_=>none
end Go.Am
