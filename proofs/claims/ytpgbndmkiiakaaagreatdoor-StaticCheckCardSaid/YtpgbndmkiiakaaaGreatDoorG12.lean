/-
  AmT, AmO.
-/
import Derived.Test.YtpgbndmkiiakaaaGreatDoorG00
import Derived.Test.YtpgbndmkiiakaaaGreatDoorG08
import Derived.Lib.SlTrimSet
set_option linter.unusedVariables false
set_option linter.unusedSimpArgs false
namespace Go.Am
set_option maxRecDepth 8000
inductive Tm where
 | mk (k:Int) (n:List UInt8) (s:Int) (kids:List Tm)
def Tm.kind:Tm→Int | .mk k _ _ _=>k
def Tm.name:Tm→List UInt8 | .mk _ n _ _=>n
def Tm.sort:Tm→Int | .mk _ _ s _=>s
def Tm.kids:Tm→List Tm | .mk _ _ _ ks=>ks
theorem XX (k:Int) (n:List UInt8) (s:Int) (ks:List Tm): (Tm.mk k n s ks).kind=k:=rfl
theorem Za (k:Int) (n:List UInt8) (s:Int) (ks:List Tm): (Tm.mk k n s ks).name=n:=rfl
theorem WK (k:Int) (n:List UInt8) (s:Int) (ks:List Tm): (Tm.mk k n s ks).sort=s:=rfl
theorem QO (k:Int) (n:List UInt8) (s:Int) (ks:List Tm): (Tm.mk k n s ks).kids=ks:=rfl
attribute [simp] XX Za WK QO
theorem Tm.eta (t:Tm):Tm.mk t.kind t.name t.sort t.kids=t:=by cases t;rfl
theorem Zd {P:Tm→Prop} (h: ∀k n s ks,(∀x∈ks,P x)→P (.mk k n s ks)): ∀t,P t:=by
 intro t
 refine Tm.rec (motive_1:=P) (motive_2:=fun ks=>∀x∈ks,P x) ?_ ?_ ?_ t
 ·intro k n s ks ih;exact h k n s ks ih
 ·intro x hx;cases hx
 ·intro t ts h1 h2 x hx
  rcases List.mem_cons.1 hx with rfl | hx
  ·exact h1
  ·exact h2 x hx
mutual
def Qb:Tm→List AV
 | .mk k n s ks=>[.int .i64 k,.str n,.int .i64 s,.sl false 4 (encTs ks)]
def encTs:List Tm→List (List AV)
 | []=>[]
 | t:: ts=>Qb t:: encTs ts
end
theorem QF (t:Tm):Qb t=[.int .i64 t.kind,.str t.name,.int .i64 t.sort,.sl false 4 (encTs t.kids)]:=by cases t;simp[Qb]
theorem XD (ts:List Tm):encTs ts=ts.map Qb:=by
 induction ts with
 | nil=>simp[encTs]
 | cons t ts ih=>simp[encTs,ih]
theorem Xj (ts:List Tm): (encTs ts).length=ts.length:=by simp[XD]
theorem P6 (ts:List Tm) (i:Nat): (encTs ts)[i]? =(ts[i]?).map Qb:=by simp[XD]
theorem QS (a b:List Tm):encTs a ++ encTs b=encTs (a ++ b):=by simp[XD]
theorem Pf (a:List Tm) (n:Nat): (encTs a).take n=encTs (a.take n):=by simp[XD]
theorem Pe (a:List Tm) (n:Nat): (encTs a).drop n=encTs (a.drop n):=by simp[XD]
theorem Q0 (t:Tm): [Qb t]=encTs [t]:=by simp[encTs]
theorem Yb (t:Tm): (Qb t).length=4:=by simp[QF]
theorem Zz (t:Tm): (Qb t).map AV.strip=Qb t:=by simp[QF,AV.strip]
theorem QD (t:Tm): (Qb t).take 4=Qb t:=by simp[QF]
theorem Ko (t:Tm): (Qb t).drop 4=[]:=by simp[QF]
theorem Ay (t:Tm): (Qb t)[0]? =some (.int .i64 t.kind):=by simp[QF]
theorem Az (t:Tm): (Qb t)[1]? =some (.str t.name):=by simp[QF]
theorem AA (t:Tm): (Qb t)[2]? =some (.int .i64 t.sort):=by simp[QF]
theorem AB (t:Tm): (Qb t)[3]? =some (.sl false 4 (encTs t.kids)):=by simp[QF]
theorem F8 (t:Tm) (h:0 < (Qb t).length): (Qb t)[0]= .int .i64 t.kind:=by simp[QF]
theorem F9 (t:Tm) (h:1 < (Qb t).length): (Qb t)[1]= .str t.name:=by simp[QF]
theorem Ea (t:Tm) (h:2 < (Qb t).length): (Qb t)[2]= .int .i64 t.sort:=by simp[QF]
theorem Eb (t:Tm) (h:3 < (Qb t).length): (Qb t)[3]= .sl false 4 (encTs t.kids):=by simp[QF]
mutual
theorem LT: ∀t:Tm,gpfreeL (Qb t)=true
 | .mk k n s ks=>by simp[Qb,gpfreeL,AV.gpfree,encTs_gp ks]
theorem encTs_gp: ∀ts:List Tm,gpfreeE (encTs ts)=true
 | []=>by simp[encTs,gpfreeE]
 | t:: ts=>by simp[encTs,gpfreeE,LT t,encTs_gp ts]
end
theorem X2 (k:Int) (n:List UInt8) (s:Int) (ks:List Tm): [AV.int .i64 k,.str n,.int .i64 s,.sl false 4 (encTs ks)]=Qb (.mk k n s ks):=by simp[Qb]
theorem Mh (k:Int) (n:List UInt8) (s:Int): [AV.int .i64 k,.str n,.int .i64 s,.sl false 4 []]=Qb (.mk k n s []):=by simp[Qb,encTs]
attribute [simp] Xj P6 Yb Zz QD Ko Ay Az AA AB F8 F9 Ea Eb LT encTs_gp
attribute [simp] Int.toNat_natCast
mutual
def Tm.nodes:Tm→Nat
 | .mk _ _ _ ks=>1+nodesL ks
def nodesL:List Tm→Nat
 | []=>0
 | t:: ts=>t.nodes+nodesL ts
end
mutual
def Tm.mass:Tm→Nat
 | .mk _ n _ ks=>1+n.length+ks.length+massL ks
def massL:List Tm→Nat
 | []=>0
 | t:: ts=>t.mass+massL ts
end
mutual
def Tm.depth:Tm→Nat
 | .mk _ _ _ ks=>depthL ks+1
def depthL:List Tm→Nat
 | []=>0
 | t:: ts=>max t.depth (depthL ts)
end
theorem Qq (t:Tm):t.mass=1+t.name.length+t.kids.length+massL t.kids:=by cases t;simp[Tm.mass]
theorem Yo (t:Tm):t.nodes=1+nodesL t.kids:=by cases t;simp[Tm.nodes]
theorem Pd (t:Tm):t.depth=depthL t.kids+1:=by cases t;simp[Tm.depth]
theorem QA {x:Tm}: ∀{ks:List Tm},x∈ks→x.mass≤massL ks
 | [],h=>by cases h
 | t:: ts,h=>by
  simp only[massL]
  rcases List.mem_cons.1 h with rfl | h
  ·omega
  ·have:=QA h;omega
theorem Me {x:Tm}: ∀{ks:List Tm},x∈ks→x.depth≤depthL ks
 | [],h=>by cases h
 | t:: ts,h=>by
  simp only[depthL]
  rcases List.mem_cons.1 h with rfl | h
  ·omega
  ·have:=Me h;omega
theorem Xl (a b:List Tm):massL (a ++ b)=massL a+massL b:=by
 induction a with
 | nil=>simp[massL]
 | cons t ts ih=>simp[massL,ih];omega
theorem ZW (a b:List Tm):nodesL (a ++ b)=nodesL a+nodesL b:=by
 induction a with
 | nil=>simp[nodesL]
 | cons t ts ih=>simp[nodesL,ih];omega
mutual
theorem Ze: ∀t:Tm,t.nodes≤t.mass
 | .mk _ _ _ ks=>by simp only[Tm.nodes,Tm.mass];have:=nodesL_le_mass ks;omega
theorem nodesL_le_mass: ∀ts:List Tm,nodesL ts≤massL ts
 | []=>by simp[nodesL,massL]
 | t:: ts=>by simp only[nodesL,massL];have:=Ze t;have:=nodesL_le_mass ts;omega
end
mutual
theorem RR: ∀t:Tm,t.depth≤t.nodes
 | .mk _ _ _ ks=>by simp only[Tm.nodes,Tm.depth];have:=depthL_le_nodes ks;omega
theorem depthL_le_nodes: ∀ts:List Tm,depthL ts≤nodesL ts
 | []=>by simp[nodesL,depthL]
 | t:: ts=>by simp only[nodesL,depthL];have:=RR t;have:=depthL_le_nodes ts;omega
end
theorem LY (a b:Int): (a == b)=decide (a=b):=by by_cases h:a=b <;> simp[h]
theorem LZ (a b:Int): (a != b)= !decide (a=b):=by by_cases h:a=b <;> simp[h]
attribute [local simp] LY LZ
theorem Qp {α:Type} {ks pre post:List α} {x:α} (h:ks=pre ++ x:: post):ks[pre.length]? =some x:=by subst h;simp
def big:Nat:=1099511627776
def sgn (a b:Int):Int:=if a < b then -1 else if a > b then 1 else 0
def YE (a b:List UInt8):Int:=if Op.bytesLess a b then -1 else if a == b then 0 else 1
def or0 (c d:Int):Int:=if c=0 then d else c
theorem WO (d:Int):or0 0 d=d:=rfl
theorem Jg (c:Int):or0 c 0=c:=by unfold or0;split <;> simp_all
theorem VK {c:Int} (h:c≠0) (d:Int):or0 c d=c:=by simp[or0,h]
theorem V1 {a b:Int}:or0 a b=0↔a=0∧b=0:=by unfold or0;split <;> simp_all
def hdT (t u:Tm):Int:=or0 (sgn t.nodes u.nodes) (or0 (sgn t.kind u.kind) (or0 (YE t.name u.name) (or0 (sgn t.sort u.sort) (sgn t.kids.length u.kids.length))))
mutual
def Qm:Tm→Tm→Int
 | .mk k n s ks,u=>or0 (hdT (.mk k n s ks) u) (cmpL ks u.kids)
def cmpL:List Tm→List Tm→Int
 | [],_=>0
 | _:: _,[]=>0
 | t:: ts,u:: us=>or0 (Qm t u) (cmpL ts us)
end
theorem VW (t u:Tm):Qm t u=or0 (hdT t u) (cmpL t.kids u.kids):=by cases t;simp[Qm]
theorem TB {a b:Int}:sgn a b=0↔a=b:=by unfold sgn;split <;> (try split) <;> omega
mutual
def Ht:AV→Option (List Tm)
 | .sl _ 4 xs=>decE xs
 | _=>none
def P4:List AV→Option Tm
 | [.int .i64 k,.str n,.int .i64 s,x]=>(Ht x).map fun ks=> .mk k n s ks
 | _=>none
def decE:List (List AV)→Option (List Tm)
 | []=>some []
 | x:: xs=>match P4 x,decE xs with
  | some t,some ts=>some (t:: ts)
  | _,_=>none
end
mutual
theorem Qbp: ∀t:Tm,P4 (Qb t)=some t
 | .mk k n s ks=>by simp only[Qb,P4,Ht,decE_enc ks,Option.map_some]
theorem decE_enc: ∀ts:List Tm,decE (encTs ts)=some ts
 | []=>by simp only[encTs,decE]
 | t:: ts=>by simp only[encTs,decE,Qbp t,decE_enc ts]
end
def Wy (t:Tm):List Tm→List Tm
 | []=>[t]
 | x:: xs=>if Qm x t < 0 then x:: Wy t xs else t:: x:: xs
def ZL:List Tm→List Tm
 | []=>[]
 | t:: ts=>Wy t (ZL ts)
def Pv:List AV→List (List AV)→Option (AV×List (List AV))
 | [.gs id o sz n,.fn 30 []],bs=>if n=0 then some (.tup [],bs)else if sz=4∧n < 4611686018427387904 then(bs[id]?).bind fun cs=>
   if o+n*4≤cs.length then(decE (ZO cs o 4 n)).bind fun ts=>if ts.all (fun t=>decide (t.mass < big))then some (.tup [],bs.set id (put cs o (encTs (ZL ts)).flatten))else none else none
   else none
 | _,_=>none
end Go.Am
namespace Go.Am
def MQ:List AV→Option AV
 | [.str s,.str cs]=>if(cs.all (· < 128) && decide (s.length < 4294967281) && decide (cs.length < 4294967281))=true then some (.str (Lib.trimS s cs))else none
 | _=>none
def OR (bytes sz:Nat):List AV→List (List AV)→Option (AV×List (List AV))
 | [.gs _ _ 0 0,.int .i64 n],bs=>if 0≤n∧n.toNat* bytes≤140737488355328∧n≤4611686018427387904 then some (.sl true sz [],bs)else none
 | _,_=>none
end Go.Am
