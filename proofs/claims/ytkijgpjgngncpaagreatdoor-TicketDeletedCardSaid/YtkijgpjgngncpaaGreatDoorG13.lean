/-
  AmT, AmO.
-/
import Derived.Test.YtkijgpjgngncpaaGreatDoorG00
import Derived.Test.YtkijgpjgngncpaaGreatDoorG09
import Derived.Lib.SlTrimSet
import Derived.Lib.Bytealg
set_option linter.all false
namespace Go.Am
set_option maxRecDepth 8000
inductive Tm where
 | mk (k:Int) (n:List UInt8) (s:Int) (kids:List Tm)
def Tm.kind:Tm→Int | .mk k _ _ _=>k
def Tm.name:Tm→List UInt8 | .mk _ n _ _=>n
def Tm.sort:Tm→Int | .mk _ _ s _=>s
def Tm.kids:Tm→List Tm | .mk _ _ _ ks=>ks
theorem Xm (k:Int) (n:List UInt8) (s:Int) (ks:List Tm): (Tm.mk k n s ks).kind=k:=rfl
theorem Zk (k:Int) (n:List UInt8) (s:Int) (ks:List Tm): (Tm.mk k n s ks).name=n:=rfl
theorem Vl (k:Int) (n:List UInt8) (s:Int) (ks:List Tm): (Tm.mk k n s ks).sort=s:=rfl
theorem QX (k:Int) (n:List UInt8) (s:Int) (ks:List Tm): (Tm.mk k n s ks).kids=ks:=rfl
attribute [simp] Xm Zk Vl QX
theorem Tm.eta (t:Tm):Tm.mk t.kind t.name t.sort t.kids=t:=by cases t;rfl
theorem ZU {P:Tm→Prop} (h: ∀k n s ks,(∀x∈ks,P x)→P (.mk k n s ks)): ∀t,P t:=by
 intro t;refine Tm.rec (motive_1:=P) (motive_2:=fun ks=>∀x∈ks,P x) ?_ ?_ ?_ t
 ·intro k n s ks ih;exact h k n s ks ih
 ·intro x hx;cases hx
 ·intro t ts h1 h2 x hx;rcases List.mem_cons.1 hx with rfl | hx
  ·exact h1
  ·exact h2 x hx
mutual
def Qb:Tm→List AV
 | .mk k n s ks=>[.int .i64 k,.str n,.int .i64 s,.sl false 4 (encTs ks)]
def encTs:List Tm→List (List AV)
 | []=>[]
 | t:: ts=>Qb t:: encTs ts
end
theorem Qz (t:Tm):Qb t=[.int .i64 t.kind,.str t.name,.int .i64 t.sort,.sl false 4 (encTs t.kids)]:=by cases t;simp[Qb]
theorem YE (ts:List Tm):encTs ts=ts.map Qb:=by
 induction ts with
 | nil=>simp[encTs]
 | cons t ts ih=>simp[encTs,ih]
theorem YO (ts:List Tm): (encTs ts).length=ts.length:=by simp[YE]
theorem Wt (ts:List Tm) (i:Nat): (encTs ts)[i]? =(ts[i]?).map Qb:=by simp[YE]
theorem Yg (a b:List Tm):encTs a ++ encTs b=encTs (a ++ b):=by simp[YE]
theorem RO (a:List Tm) (n:Nat): (encTs a).take n=encTs (a.take n):=by simp[YE]
theorem RN (a:List Tm) (n:Nat): (encTs a).drop n=encTs (a.drop n):=by simp[YE]
theorem XC (t:Tm): [Qb t]=encTs [t]:=by simp[encTs]
theorem Zw (t:Tm): (Qb t).length=4:=by simp[Qz]
theorem QJ (t:Tm): (Qb t).map AV.strip=Qb t:=by simp[Qz,AV.strip]
theorem Qj (t:Tm): (Qb t).take 4=Qb t:=by simp[Qz]
theorem PQ (t:Tm): (Qb t).drop 4=[]:=by simp[Qz]
theorem Jd (t:Tm): (Qb t)[0]? =some (.int .i64 t.kind):=by simp[Qz]
theorem Je (t:Tm): (Qb t)[1]? =some (.str t.name):=by simp[Qz]
theorem Jf (t:Tm): (Qb t)[2]? =some (.int .i64 t.sort):=by simp[Qz]
theorem Jg (t:Tm): (Qb t)[3]? =some (.sl false 4 (encTs t.kids)):=by simp[Qz]
theorem MD (t:Tm) (h:0 < (Qb t).length): (Qb t)[0]= .int .i64 t.kind:=by simp[Qz]
theorem ME (t:Tm) (h:1 < (Qb t).length): (Qb t)[1]= .str t.name:=by simp[Qz]
theorem MF (t:Tm) (h:2 < (Qb t).length): (Qb t)[2]= .int .i64 t.sort:=by simp[Qz]
theorem MG (t:Tm) (h:3 < (Qb t).length): (Qb t)[3]= .sl false 4 (encTs t.kids):=by simp[Qz]
mutual
theorem V4: ∀t:Tm,gpfreeL (Qb t)=true
 | .mk k n s ks=>by simp[Qb,gpfreeL,AV.gpfree,encTs_gp ks]
theorem encTs_gp: ∀ts:List Tm,gpfreeE (encTs ts)=true
 | []=>by simp[encTs,gpfreeE]
 | t:: ts=>by simp[encTs,gpfreeE,V4 t,encTs_gp ts]
end
theorem V3 (k:Int) (n:List UInt8) (s:Int) (ks:List Tm): [AV.int .i64 k,.str n,.int .i64 s,.sl false 4 (encTs ks)]=Qb (.mk k n s ks):=by simp[Qb]
theorem RM (k:Int) (n:List UInt8) (s:Int): [AV.int .i64 k,.str n,.int .i64 s,.sl false 4 []]=Qb (.mk k n s []):=by simp[Qb,encTs]
attribute [simp] YO Wt Zw QJ Qj PQ Jd Je Jf Jg MD ME MF MG V4 encTs_gp
attribute [simp] Int.toNat_natCast
mutual
def Tm.nodes:Tm→Nat
 | .mk _ _ _ ks=>1+nodesL ks
def nodesL:List Tm→Nat
 | []=>0
 | t:: ts=>t.nodes+nodesL ts
end
mutual
def Tm.mass:Tm→Nat
 | .mk _ n _ ks=>1+n.length+ks.length+massL ks
def massL:List Tm→Nat
 | []=>0
 | t:: ts=>t.mass+massL ts
end
mutual
def Tm.depth:Tm→Nat
 | .mk _ _ _ ks=>depthL ks+1
def depthL:List Tm→Nat
 | []=>0
 | t:: ts=>max t.depth (depthL ts)
end
theorem Qr (t:Tm):t.mass=1+t.name.length+t.kids.length+massL t.kids:=by cases t;simp[Tm.mass]
theorem ZJ (t:Tm):t.nodes=1+nodesL t.kids:=by cases t;simp[Tm.nodes]
theorem RK (t:Tm):t.depth=depthL t.kids+1:=by cases t;simp[Tm.depth]
theorem QN {x:Tm}: ∀{ks:List Tm},x∈ks→x.mass≤massL ks
 | [],h=>by cases h
 | t:: ts,h=>by
  simp only[massL];rcases List.mem_cons.1 h with rfl | h
  ·omega
  ·have:=QN h;omega
theorem NL {x:Tm}: ∀{ks:List Tm},x∈ks→x.depth≤depthL ks
 | [],h=>by cases h
 | t:: ts,h=>by
  simp only[depthL];rcases List.mem_cons.1 h with rfl | h
  ·omega
  ·have:=NL h;omega
theorem Vb (a b:List Tm):massL (a ++ b)=massL a+massL b:=by
 induction a with
 | nil=>simp[massL]
 | cons t ts ih=>simp[massL,ih];omega
theorem Yz (a b:List Tm):nodesL (a ++ b)=nodesL a+nodesL b:=by
 induction a with
 | nil=>simp[nodesL]
 | cons t ts ih=>simp[nodesL,ih];omega
mutual
theorem YA: ∀t:Tm,t.nodes≤t.mass
 | .mk _ _ _ ks=>by simp only[Tm.nodes,Tm.mass];have:=nodesL_le_mass ks;omega
theorem nodesL_le_mass: ∀ts:List Tm,nodesL ts≤massL ts
 | []=>by simp[nodesL,massL]
 | t:: ts=>by simp only[nodesL,massL];have:=YA t;have:=nodesL_le_mass ts;omega
end
mutual
theorem Rm: ∀t:Tm,t.depth≤t.nodes
 | .mk _ _ _ ks=>by simp only[Tm.nodes,Tm.depth];have:=depthL_le_nodes ks;omega
theorem depthL_le_nodes: ∀ts:List Tm,depthL ts≤nodesL ts
 | []=>by simp[nodesL,depthL]
 | t:: ts=>by simp only[nodesL,depthL];have:=Rm t;have:=depthL_le_nodes ts;omega
end
theorem Ox (a b:Int): (a == b)=decide (a=b):=by by_cases h:a=b <;> simp[h]
theorem Oy (a b:Int): (a != b)= !decide (a=b):=by by_cases h:a=b <;> simp[h]
attribute [local simp] Ox Oy
theorem QB {α:Type} {ks pre post:List α} {x:α} (h:ks=pre ++ x:: post):ks[pre.length]? =some x:=by subst h;simp
def big:Nat:=1099511627776
def sgn (a b:Int):Int:=if a < b then -1 else if a > b then 1 else 0
def Y7 (a b:List UInt8):Int:=if Op.bytesLess a b then -1 else if a == b then 0 else 1
def or0 (c d:Int):Int:=if c=0 then d else c
theorem Vr (d:Int):or0 0 d=d:=rfl
theorem Kh (c:Int):or0 c 0=c:=by unfold or0;split <;> simp_all
theorem Ut {c:Int} (h:c≠0) (d:Int):or0 c d=c:=by simp[or0,h]
theorem U2 {a b:Int}:or0 a b=0↔a=0∧b=0:=by unfold or0;split <;> simp_all
def hdT (t u:Tm):Int:=or0 (sgn t.nodes u.nodes) (or0 (sgn t.kind u.kind) (or0 (Y7 t.name u.name) (or0 (sgn t.sort u.sort) (sgn t.kids.length u.kids.length))))
mutual
def Qh:Tm→Tm→Int
 | .mk k n s ks,u=>or0 (hdT (.mk k n s ks) u) (cmpL ks u.kids)
def cmpL:List Tm→List Tm→Int
 | [],_=>0
 | _:: _,[]=>0
 | t:: ts,u:: us=>or0 (Qh t u) (cmpL ts us)
end
theorem UN (t u:Tm):Qh t u=or0 (hdT t u) (cmpL t.kids u.kids):=by cases t;simp[Qh]
theorem Sn {a b:Int}:sgn a b=0↔a=b:=by unfold sgn;split <;> (try split) <;> omega
mutual
def Ja:AV→Option (List Tm)
 | .sl _ 4 xs=>decE xs
 | _=>none
def PM:List AV→Option Tm
 | [.int .i64 k,.str n,.int .i64 s,x]=>(Ja x).map fun ks=> .mk k n s ks
 | _=>none
def decE:List (List AV)→Option (List Tm)
 | []=>some []
 | x:: xs=>match PM x,decE xs with
  | some t,some ts=>some (t:: ts)
  | _,_=>none
end
mutual
theorem BC: ∀t:Tm,PM (Qb t)=some t
 | .mk k n s ks=>by simp only[Qb,PM,Ja,decE_enc ks,Option.map_some]
theorem decE_enc: ∀ts:List Tm,decE (encTs ts)=some ts
 | []=>by simp only[encTs,decE]
 | t:: ts=>by simp only[encTs,decE,BC t,decE_enc ts]
end
def VQ (t:Tm):List Tm→List Tm
 | []=>[t]
 | x:: xs=>if Qh x t < 0 then x:: VQ t xs else t:: x:: xs
def Zt:List Tm→List Tm
 | []=>[]
 | t:: ts=>VQ t (Zt ts)
def SQ:List AV→List (List AV)→Option (AV×List (List AV))
 | [.gs id o sz n,.fn 30 []],bs=>if n=0 then some (.tup [],bs)else if sz=4∧n < 4611686018427387904 then(bs[id]?).bind fun cs=>
   if o+n*4≤cs.length then(decE (QY cs o 4 n)).bind fun ts=>if ts.all (fun t=>decide (t.mass < big))then some (.tup [],bs.set id (put cs o (encTs (Zt ts)).flatten))else none else none
   else none
 | _,_=>none
end Go.Am
namespace Go.Am
def Mo:List AV→Option AV
 | [.str s,.str cs]=>if(cs.all (· < 128) && decide (s.length < 4294967281) && decide (cs.length < 4294967281))=true then some (.str (Lib.trimS s cs))else none
 | _=>none
def Ow (bytes sz:Nat):List AV→List (List AV)→Option (AV×List (List AV))
 | [.gs _ _ 0 0,.int .i64 n],bs=>if 0≤n∧n.toNat* bytes≤140737488355328∧n≤4611686018427387904 then some (.sl true sz [],bs)else none
 | _,_=>none
end Go.Am
