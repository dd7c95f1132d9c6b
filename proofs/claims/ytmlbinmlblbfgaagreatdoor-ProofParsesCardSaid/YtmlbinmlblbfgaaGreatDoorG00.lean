/-
  Am1, Am2, Am3.
-/
import Derived.WalkKit
set_option linter.all false
namespace Go.Am
inductive AV where
 | undef
 | int (k:IntKind) (n:Int)
 | bool (b:Bool)
 | anyb
 | str (s:List UInt8)
 | agg (cs:List AV)
 | sl (own:Bool) (sz:Nat) (xs:List (List AV))
 | bx (cs:List AV)
 | gp (id off:Nat)
 | gs (id off sz n:Nat)
 | rptr (cs:List AV)
 | fn (f:Nat) (caps:List AV)
 | tup (vs:List AV)
 | err (isNil:Bool)
 | mp (id:Nat)
 | pv (sz:Nat) (cs:List AV)
 | otup (sz:Nat) (xs:List (List AV)) (vs:List AV)
 | nlp
 | gb (ty id n:Nat)
 | gt (ty id:Nat)
 | bf (f:Nat) (caps:List AV)
instance:Inhabited AV:=⟨.undef⟩
def AV.ok:AV->Bool
 | .undef=>false
 | .bx _=>false
 | .pv _ _=>false
 | _=>true
def AV.noOwn:AV->Bool
 | .sl true _ _=>false
 | .otup _ _ _=>false
 | _=>true
def AV.strip:AV->AV
 | .sl _ sz xs=> .sl false sz xs
 | .otup sz xs vs=> .tup (.sl false sz xs:: vs)
 | v=>v
def AV.one:AV->Bool
 | .undef=>false
 | .bx _=>false
 | .pv _ _=>false
 | .agg _=>false
 | .tup _=>false
 | .otup _ _ _=>false
 | _=>true
abbrev Qf:=List AV
def cellsOf:AV->Option Qf
 | .agg cs=>some cs
 | v=>if v.one then some [v.strip]else none
mutual
def AV.gpfree:AV->Bool
 | .gp _ _=>false
 | .gb _ _ _=>false
 | .gt _ _=>false
 | .gs _ _ sz n=>decide (n=0/\sz=0)
 | .mp _=>false
 | .agg cs=>QV cs
 | .bx cs=>QV cs
 | .pv _ cs=>QV cs
 | .otup _ xs vs=>Yr xs && QV vs
 | .rptr cs=>QV cs
 | .fn _ cs=>QV cs
 | .bf _ cs=>QV cs
 | .tup cs=>QV cs
 | .sl _ _ xs=>Yr xs
 | _=>true
def QV:List AV->Bool
 | []=>true
 | c:: cs=>c.gpfree && QV cs
def Yr:List (List AV)->Bool
 | []=>true
 | x:: xs=>QV x && Yr xs
end
mutual
def eqV:AV->AV->Bool
 | .undef,.undef=>true
 | .int k n,.int k' n'=>decide (k=k') && decide (n=n')
 | .bool a,.bool b=>a == b
 | .anyb,.anyb=>true
 | .str a,.str b=>decide (a=b)
 | .agg a,.agg b=>WT a b
 | .sl o z a,.sl o' z' b=>(o == o') && decide (z=z') && T6 a b
 | .bx a,.bx b=>WT a b
 | .gp i o,.gp i' o'=>decide (i=i') && decide (o=o')
 | .gs i o z n,.gs i' o' z' n'=>decide (i=i') && decide (o=o') && decide (z=z') && decide (n=n')
 | .rptr a,.rptr b=>WT a b
 | .fn f a,.fn f' b=>decide (f=f') && WT a b
 | .bf f a,.bf f' b=>decide (f=f') && WT a b
 | .tup a,.tup b=>WT a b
 | .err a,.err b=>a == b
 | .mp i,.mp i'=>decide (i=i')
 | .pv z a,.pv z' b=>decide (z=z') && WT a b
 | .otup z a b,.otup z' a' b'=>decide (z=z') && T6 a a' && WT b b'
 | .nlp,.nlp=>true
 | .gb t i n,.gb t' i' n'=>decide (t=t') && decide (i=i') && decide (n=n')
 | .gt t i,.gt t' i'=>decide (t=t') && decide (i=i')
 | _,_=>false
def WT:List AV->List AV->Bool
 | [],[]=>true
 | a:: aq,b:: bs=>eqV a b && WT aq bs
 | _,_=>false
def T6:List (List AV)->List (List AV)->Bool
 | [],[]=>true
 | a:: aq,b:: bs=>WT a b && T6 aq bs
 | _,_=>false
end
abbrev Qd:=List (List AV)
def Yc:Qd->Qd->Bool
 | [],_=>true
 | x:: xs,y:: ys=>(WT x y || QV y) && Yc xs ys
 | _:: _,[]=>false
abbrev Qq:=Nat->AV
def upd (ρ:Qq) (i:Nat) (v:AV):Qq:=fun j=>if j=i then v else ρ j
structure St where
 env:Nat->AV
 bs:List (List AV)
inductive AO where
 | t (n:Nat)
 | c (v:AV)
def val (ρ:Qq):AO->AV
 | .t n=>(ρ n).strip
 | .c v=>v
def stV:AO->Qf->Qf
 | .c (.sl true z []),vs=>vs.map fun _=> .sl true z []
 | _,vs=>vs.map AV.strip
def Uw (x:AO) (vs:Qf): (stV x vs).length=vs.length:=by
 unfold stV;split <;> simp
inductive AOp where
 | mov (x:AO)
 | mvs (n:Nat)
 | box (x:AO)
 | alloc (zs:List AV)
 | gbox (x:AO)
 | gbxn (x:AO) (zs:List AV)
 | galloc (zs:List AV)
 | fad (s off:Nat)
 | fadr (p off:Nat)
 | ldf (s off sz:Nat) (ag:Bool)
 | ldfm (s off:Nat)
 | ld (p sz:Nat) (ag:Bool)
 | ldg (p sz:Nat) (ag:Bool)
 | ldm (p:Nat)
 | stf (s off sz:Nat) (x:AO)
 | stfm (s off n:Nat)
 | st (p sz:Nat) (x:AO)
 | stm (p n:Nat)
 | bin (op:BinOp) (x y:AO)
 | eqb (ne:Bool) (x y:AO)
 | eqn (ne:Bool) (x:AO)
 | eqa (ne:Bool) (ks:List Nat) (x y:AO)
 | isn (ne:Bool) (x:AO)
 | un (op:UnOp) (x:AO)
 | conv (k:IntKind) (x:AO)
 | call (f:Nat) (args:List AO)
 | callq (f:Nat) (args:List AO)
 | callv (g:AO) (args:List AO)
 | lens (x:AO)
 | lenl (x:AO)
 | app (bytes sz:Nat) (s x:AO)
 | appg (bytes sz:Nat) (s x:AO)
 | appz (bytes sz n:Nat) (x:AO)
 | frz (n sz:Nat)
 | zlit
 | nilp
 | appzz (s x:AO)
 | clr (sz:Nat) (x:AO)
 | mx (x y:AO)
 | mn (x y:AO)
 | mksl (sz:Nat) (parts:List AO)
 | mksg (sz:Nat) (parts:List AO)
 | mkst (zs:List AV) (parts:List (Nat×Nat×AO))
 | idxa (sz:Nat) (x i:AO)
 | idx (x i:AO)
 | slcs (x:AO) (lo hi:Option AO)
 | slcl (sz:Nat) (x:AO) (lo hi:Option AO)
 | slz (sz:Nat) (x:AO)
 | slcf (sz:Nat) (x hi mx:AO)
 | pick (c a b:AO)
 | ext (x:AO) (i:Nat)
 | mkfn (f:Nat) (caps:List AO)
 | nilck (x:AO)
 | mkm
 | lkm (s ok:Bool) (x i:AO) (z:AV)
 | upm (s:Bool) (x k y:AO)
 | mpe (s:Bool) (x k:AO) (z:AV)
 | ens (x st y:AO)
 | ensf (x st:AO) (n sz:Nat)
 | fld (off sz:Nat) (ag:Bool) (x:AO)
 | mkg (bytes sz:Nat) (zs:List AV) (x:AO)
 | mkz (bytes sz:Nat) (zs:List AV) (x:AO)
 | mkp (bytes sz:Nat) (zs:List AV) (x:AO)
 | extm (n:Nat)
 | mkstP (n:Nat) (zs:List AV) (parts:List (Nat×Nat×AO))
 | bstr (x:AO)
 | ldfz (s off sz fo fz:Nat)
 | appM (bytes sz:Nat) (s x:AO)
 | stn (s off sz:Nat) (x:AO) (zs:List AV)
 | stq (p sz:Nat) (x:AO) (q:Nat)
 | stp (p sz:Nat) (x:AO) (q:Nat)
 | slcx (sz:Nat) (x:AO) (lo hi:Option AO)
 | slcc (sz:Nat) (x:AO) (lo:Option AO) (hi mx:AO)
 | apn (bytes sz:Nat) (zs:List AV) (s x:AO)
 | apps (T:Nat) (s x:AO)
 | appb (T:Nat) (s x:AO)
 | usd (x:AO)
 | ust (T q p:Nat) (x:AO)
 | galt (T:Nat) (zs:List AV)
 | lgb (k:Nat)
 | mkfb (f:Nat) (caps:List AO)
structure Qy where
 dst:Option Nat
 op:AOp
 guard:Option (Nat×Bool):=none
inductive AC where
 | bad
 | skip
 | reg (draw:Bool) (ops:List Qy)
 | seq (a b:AC)
 | cond (c:AO) (a b:AC)
 | block (id:Nat) (c:AC)
 | loop (c:AC)
 | exit (id:Nat)
 | ret
inductive Ex where
 | normal
 | exit (id:Nat)
 | ret
 deriving DecidableEq
inductive To where
 | tmp (t:Nat)
 | cell (t sz:Nat) (ag:Bool)
 | own (t:Nat)
structure Q3 where
 nparams:Nat
 ntmps:Nat
 res:List To
 body:AC
 keep:Bool:=false
inductive AFn where
 | code (f:Q3)
 | orc (g:List AV->List (List AV)->Option (AV×List (List AV)))
abbrev ZJ:=Nat->List AV->List (List AV)->Option (AV×List (List AV))
abbrev Xh:=Option AV
def Z8 (cs:Qf) (off sz:Nat) (ag:Bool):Xh:=
 if off+sz<=cs.length then
  if ag then some (.agg (((cs.drop off).take sz).map AV.strip))
  else if sz=1 then(cs[off]?).bind fun v=>if v.one then some v.strip else none
  else none
 else none
def put (cs:Qf) (off:Nat) (vs:Qf):Qf:=cs.take off ++ vs ++ cs.drop (off+vs.length)
def toI (k:IntKind) (n:Int):AV:= .int k (k.wrap n)
def Oy:BinOp->AV->AV->Xh
 | .add,.int k a,.int k' b=>if k=k' then some (toI k (a+b))else none
 | .sub,.int k a,.int k' b=>if k=k' then some (toI k (a - b))else none
 | .mul,.int k a,.int k' b=>if k=k' then some (toI k (a*b))else none
 | .quo,.int k a,.int k' b=>if k=k'/\b≠0 then some (toI k (a.tdiv b))else none
 | .rem,.int k a,.int k' b=>if k=k'/\b≠0 then some (.int k (a.tmod b))else none
 | .eql,.int k a,.int k' b=>if k=k' then some (.bool (a == b))else none
 | .neq,.int k a,.int k' b=>if k=k' then some (.bool (a != b))else none
 | .lss,.int k a,.int k' b=>if k=k' then some (.bool (decide (a < b)))else none
 | .leq,.int k a,.int k' b=>if k=k' then some (.bool (decide (a<=b)))else none
 | .gtr,.int k a,.int k' b=>if k=k' then some (.bool (decide (a > b)))else none
 | .geq,.int k a,.int k' b=>if k=k' then some (.bool (decide (a>=b)))else none
 | .shr,.int k a,.int _ b=>if 0<=b then some (.int k (a / 2 ^ min b.toNat k.bits))else none
 | .shl,.int k a,.int _ b=>if 0<=b then some (toI k (a*2 ^ min b.toNat k.bits))else none
 | .and,.int k a,.int k' b=>if k=k' then some (toI k (BitVec.ofInt k.bits a &&& BitVec.ofInt k.bits b).toNat)else none
 | .or,.int k a,.int k' b=>if k=k' then some (toI k (BitVec.ofInt k.bits a ||| BitVec.ofInt k.bits b).toNat)else none
 | .xor,.int k a,.int k' b=>if k=k' then some (toI k (BitVec.ofInt k.bits a ^^^ BitVec.ofInt k.bits b).toNat)else none
 | .andNot,.int k a,.int k' b=>if k=k' then some (toI k (BitVec.ofInt k.bits a &&& ~~~BitVec.ofInt k.bits b).toNat)else none
 | .add,.str a,.str b=>if a.length+b.length<=9223372036854775807 then some (.str (a ++ b))else none
 | .eql,.str a,.str b=>some (.bool (a == b))
 | .neq,.str a,.str b=>some (.bool !(a == b))
 | .lss,.str a,.str b=>some (.bool (Op.bytesLess a b))
 | .leq,.str a,.str b=>some (.bool (Op.bytesLess a b || a == b))
 | .gtr,.str a,.str b=>some (.bool !(Op.bytesLess a b || a == b))
 | .geq,.str a,.str b=>some (.bool !(Op.bytesLess a b))
 | _,_,_=>none
def aun:UnOp->AV->Xh
 | .not,.bool b=>some (.bool !b)
 | .neg,.int k a=>some (toI k (0 - a))
 | _,_=>none
def NB:Nat->AV->AV->Option Bool
 | 0,.int k a,.int k' b=>if k=k' then some (a == b)else none
 | 1,.bool a,.bool b=>some (a == b)
 | 2,.str a,.str b=>some (a == b)
 | _,_,_=>none
abbrev XM:=List Nat
def WN:XM->Qf->Qf->Option Bool
 | [],[],[]=>some true
 | k:: ks,c:: cs,d:: ds=>match NB k c d,WN ks cs ds with
  | some a,some b=>some (a && b)
  | _,_=>none
 | _,_,_=>none
def Yw (vs:Qf):Bool:=vs.all AV.ok
def XV (zs:Qf):List (Nat×Nat×AV)->Option Qf
 | []=>some zs
 | (off,sz,v):: r=>match cellsOf v with
  | some vs=>if vs.length=sz/\off+vs.length<=zs.length then XV (put zs off (vs.map AV.strip)) r else none
  | none=>none
def Yq (sz:Nat):Qf->Option Qd
 | []=>some []
 | v:: r=>match cellsOf v,Yq sz r with
  | some vs,some rs=>if vs.length=sz then some (vs.map AV.strip:: rs)else none
  | _,_=>none
abbrev ZU:=Option Nat
def Zb (n:Nat) (d:Nat):Xh->ZU
 | none=>some d
 | some (.int _ i)=>if 0<=i/\i<=n then some i.toNat else none
 | some _=>none
def Rx:Bool->AV->AV->Option Bool
 | false,.int k a,.int k' b=>if k=k' then some (a == b)else none
 | true,.str a,.str b=>some (a == b)
 | _,_,_=>none
def T8:Bool->AV->Bool
 | false,.int _ _=>true
 | true,.str _=>true
 | _,_=>false
def Xp (s:Bool):Qf->AV->Option Xh
 | [],q=>if T8 s q then some none else none
 | .agg [k,v]:: es,q=>match Rx s q k with
  | some true=>some (some v)
  | some false=>Xp s es q
  | none=>none
 | _,_=>none
def Sf (s:Bool):Qf->AV->AV->Option Qf
 | [],q,v=>if T8 s q then some [.agg [q,v]]else none
 | .agg [k,v']:: es,q,v=>match Rx s q k with
  | some true=>some (.agg [q,v]:: es)
  | some false=>(Sf s es q v).map (.agg [k,v']:: ·)
  | none=>none
 | _,_,_=>none
def UL (s:Bool):Qf->AV->Nat
 | .agg [k,_]:: es,q=>match Rx s q k with
  | some true=>0
  | _=>UL s es q+1
 | _,_=>0
def Nv:Qf->Option UInt8
 | [.int .u8 n]=>if 0<=n/\n < 256 then some (UInt8.ofNat n.toNat)else none
 | _=>none
abbrev Qb:=List UInt8
def Ux:Qd->Option Qb
 | []=>some []
 | x:: r=>(Nv x).bind fun b=>(Ux r).map (b:: ·)
def Yi (cs:Qf) (off sz n:Nat):Qd:=(List.range n).map fun k=>((cs.drop (off+k*sz)).take sz).map AV.strip
def XW (σ:St) (n sz:Nat):Option (AV×St):=match σ.env n with
 | .gs id o sz1 k=>if sz1=sz/\0 < sz then
   (if k=0 then some (.sl false sz [],{σ with env:=upd σ.env n .undef})
    else(σ.bs[id]?).bind fun cs=>if o+k*sz<=cs.length then some (.sl (decide (o=0)) sz (Yi cs o sz k),{env:=upd σ.env n .undef,bs:=σ.bs.set id []})else none)
   else if sz1=0/\k=0 then some (.sl true sz [],{σ with env:=upd σ.env n .undef})else none
 | _=>none
def Uh (σ:St) (x st v:AV):Option (AV×St):=match x,st with
 | .mp id,.int .i64 n=>(σ.bs[id]?).bind fun cs=>if cs=[]\/v.one=false\/n < 0 then none else
  match (cs.drop 1)[n.toNat]? with
  | some (.agg [k,_])=>some (.undef,{σ with bs:=σ.bs.set id (.undef:: (cs.drop 1).set n.toNat (.agg [k,v.strip]))})
  | _=>none
 | _,_=>none
def Tr (c z:AV):AV:=match c,z with
 | .gs _ _ 0 0,.sl true k []=> .sl true k []
 | c,_=>c.strip
def Xi:Qf->Qf->Qf
 | [],_=>[]
 | c:: cs,[]=>c.strip:: Xi cs []
 | c:: cs,z:: zs=>Tr c z:: Xi cs zs
def Xe: ∀cs zs:Qf,(Xi cs zs).length=cs.length
 | [],_=>rfl
 | c:: cs,[]=>by simp[Xi,Xe cs []]
 | c:: cs,z:: zs=>by simp[Xi,Xe cs zs]
def WF (sz:Nat) (x:AV) (bs:Qd):Option (Nat×Qf):=match x with
 | .sl _ sz2 ys=>if sz2=sz then some (ys.length,ys.flatten.map AV.strip)else none
 | .gs id o sz2 n=>if n=0 then(if sz2=sz\/sz2=0 then some (0,[])else none)
   else if sz2=sz then(bs[id]?).bind fun cs=>if o+n*sz<=cs.length then some (n,((cs.drop o).take (n*sz)).map AV.strip)else none else none
 | _=>none
def appM (bytes sz:Nat) (s x:AV) (bs:Qd):Option (AV×Qd):=match s with
 | .gs id o sz1 k=>(WF sz x bs).bind fun q=>
   if 0 < sz/\(k+q.1)*bytes<=140737488355328 then
    if q.1=0 then some (.gs id o sz1 k,bs)
    else if sz1=0/\k=0 then some (.gs bs.length 0 sz q.1,bs ++ [q.2])
    else if sz1=sz/\o=0 then(bs[id]?).bind fun cs=>
      if cs≠[]/\k*sz<=cs.length then
       (if(k+q.1)*sz<=cs.length then some (.gs id 0 sz (k+q.1),bs.set id (put cs (k*sz) q.2))
       else some (.gs bs.length 0 sz (k+q.1),bs.set id []++ [(cs.take (k*sz)).map AV.strip ++ q.2]))
      else none
    else none
   else none
 | _=>none
def VR (bytes sz:Nat) (s:AV) (q:Nat×Qf) (bs:Qd):Option (AV×Qd):=match s with
 | .gs id o sz1 k=>
   if 0 < sz/\(k+q.1)*bytes<=140737488355328 then
    if q.1=0 then some (.gs id o sz1 k,bs)
    else if sz1=0/\k=0 then some (.gs bs.length 0 sz q.1,bs ++ [q.2])
    else if sz1=sz/\o=0 then(bs[id]?).bind fun cs=>
      if cs≠[]/\k*sz<=cs.length then
       (if(k+q.1)*sz<=cs.length then some (.gs id 0 sz (k+q.1),bs.set id (put cs (k*sz) q.2))
       else some (.gs bs.length 0 sz (k+q.1),bs.set id []++ [(cs.take (k*sz)).map AV.strip ++ q.2]))
      else none
    else none
   else none
 | _=>none
def PW (T:Nat):AV->AV
 | .gs id o sz n=>if o=0/\sz=1/\0 < n then .gb T id n else .gs id o sz n
 | v=>v
def WS (T:Nat) (s:AV) (q:Nat×Qf) (bs:Qd):Option (AV×Qd):=match s with
 | .gs id o sz k=>if sz=0/\k=0 then(VR 1 1 (.gs id o sz k) q bs).map fun p=>(PW T p.1,p.2)else none
 | .gb T' id k=>if T'=T then(VR 1 1 (.gs id 0 1 k) q bs).map fun p=>(PW T p.1,p.2)else none
 | _=>none
def Oc (T:Nat) (σ:St) (q p:Nat) (x:AV):Option (AV×St):=match σ.env p with
 | .gp id2 o=>match σ.env q,x with
  | .gb T' id n,.int .i64 k=>if T'=T/\id=id2/\o=0/\k=n/\0 < n then(σ.bs[id]?).bind fun cs=>if n<=cs.length then(Ux (Yi cs 0 1 n)).map fun s=>(.str s,{σ with bs:=σ.bs.set id []})else none else none
  | _,_=>none
 | .nlp=>match x with
  | .int .i64 k=>if k=0 then some (.str [],σ)else none
  | _=>none
 | _=>none
def Hp:AV->Xh
 | .gb _ id n=>if 0 < n then some (.gp id 0)else none
 | .gs _ o sz n=>if o=1/\sz=0/\n=0 then some .nlp else none
 | _=>none
def PV:Nat->String
 | 0=> "sealring/term.words"
 | _=> ""
def SE:Qq
 | 0=> .sl false 1 [[.str [97,110,121]],[.str [97,103,101,110,116]],[.str [110,111,110,99,101]],[.str [107,101,121]],[.str [100,97,116,97]],[.str [116,97,103]]]
 | _=> .undef
def Ze (q:Qb):Qf:=q.map fun b=> .int .u8 b.toNat
def Qg (K:ZJ):AOp->St->Option (AV×St)
 | .mov x,σ=>let v:=val σ.env x;if v.ok then some (v,σ)else none
 | .mvs n,σ=>let v:=σ.env n;if v.ok then some (v,{σ with env:=upd σ.env n .undef})else none
 | .box x,σ=>(cellsOf (val σ.env x)).map fun cs=>(.bx (cs.map AV.strip),σ)
 | .alloc zs,σ=>some (.bx zs,σ)
 | .gbxn x zs,σ=>(cellsOf (val σ.env x)).map fun cs=>(.gp σ.bs.length 0,{σ with bs:=σ.bs ++ [Xi cs zs]})
 | .gbox x,σ=>(cellsOf (val σ.env x)).map fun cs=>(.gp σ.bs.length 0,{σ with bs:=σ.bs ++ [cs.map AV.strip]})
 | .galloc zs,σ=>some (.gp σ.bs.length 0,{σ with bs:=σ.bs ++ [zs]})
 | .galt T zs,σ=>if zs.length=2 then some (.gt T σ.bs.length,{σ with bs:=σ.bs ++ [zs]})else none
 | .fad s _,σ=>match σ.env s with
  | .bx _=>some (.undef,σ)
  | _=>none
 | .fadr p off,σ=>match σ.env p with
  | .gp i o=>some (.gp i (o+off),σ)
  | .gt _ i=>some (.gp i off,σ)
  | .rptr cs=>some (.rptr (cs.drop off),σ)
  | _=>none
 | .ldf s off sz ag,σ=>match σ.env s with
  | .bx cs=>(Z8 cs off sz ag).map fun v=>(v,σ)
  | _=>none
 | .ldfm s off,σ=>match σ.env s with
  | .bx cs=>(cs[off]?).bind fun v=>if v.one then some (v,{σ with env:=upd σ.env s (.bx (cs.set off .undef))})else none
  | _=>none
 | .ld p sz ag,σ=>match σ.env p with
  | .rptr cs=>(Z8 cs 0 sz ag).map fun v=>(v,σ)
  | _=>none
 | .ldg p sz ag,σ=>match σ.env p with
  | .gp i o=>(σ.bs[i]?).bind fun cs=>(Z8 cs o sz ag).map fun v=>(v,σ)
  | _=>none
 | .ldm p,σ=>match σ.env p with
  | .gp i o=>(σ.bs[i]?).bind fun cs=>(cs[o]?).bind fun v=>if v.one then some (v,{σ with bs:=σ.bs.set i (cs.set o .undef)})else none
  | _=>none
 | .stf s off sz x,σ=>match σ.env s with
  | .bx cs=>(cellsOf (val σ.env x)).bind fun vs=>
   if vs.length=sz/\off+vs.length<=cs.length then some (.undef,{σ with env:=upd σ.env s (.bx (put cs off (stV x vs)))})else none
  | _=>none
 | .stfm s off n,σ=>match σ.env s with
  | .bx cs=>if s≠n/\(σ.env n).one/\off < cs.length then some (.undef,{σ with env:=upd (upd σ.env n .undef) s (.bx (cs.set off (σ.env n)))})else none
  | _=>none
 | .st p sz x,σ=>match σ.env p with
  | .gp i o=>(σ.bs[i]?).bind fun cs=>(cellsOf (val σ.env x)).bind fun vs=>
   if vs.length=sz/\o+vs.length<=cs.length/\0 < sz then some (.undef,{σ with bs:=σ.bs.set i (put cs o (vs.map AV.strip))})else none
  | _=>none
 | .stm p n,σ=>match σ.env p with
  | .gp i o=>(σ.bs[i]?).bind fun cs=>if(σ.env n).one/\o < cs.length then some (.undef,{env:=upd σ.env n .undef,bs:=σ.bs.set i (cs.set o (σ.env n))})else none
  | _=>none
 | .bin op x y,σ=>(Oy op (val σ.env x) (val σ.env y)).map fun v=>(v,σ)
 | .eqb ne x y,σ=>match val σ.env x,val σ.env y with
  | .bool a,.bool b=>some (.bool (if ne then !(a == b)else a == b),σ)
  | _,_=>none
 | .eqn ne x,σ=>match val σ.env x with
  | .err a=>some (.bool (if ne then !a else a),σ)
  | _=>none
 | .eqa ne ks x y,σ=>match val σ.env x,val σ.env y with
  | .agg cs,.agg ds=>(WN ks cs ds).map fun b=>(.bool (if ne then !b else b),σ)
  | _,_=>none
 | .isn ne x,σ=>match val σ.env x with
  | .sl _ _ []=>some (.anyb,σ)
  | .sl _ _ (_:: _)=>some (.bool ne,σ)
  | _=>none
 | .un op x,σ=>(aun op (val σ.env x)).map fun v=>(v,σ)
 | .conv k x,σ=>match val σ.env x with
  | .int _ n=>some (toI k n,σ)
  | _=>none
 | .call f args,σ=>let vs:=args.map (val σ.env);if Yw vs then(K f vs σ.bs).map fun(r,bs)=>(r,{σ with bs})else none
 | .callq f args,σ=>let vs:=args.map (val σ.env);if Yw vs then(K f vs σ.bs).bind fun p=>if T6 p.2 σ.bs then some (p.1,σ)else none else none
 | .callv g args,σ=>match val σ.env g with
  | .fn f caps=>let vs:=args.map (val σ.env)++ caps;if Yw vs then(K f vs σ.bs).map fun(r,bs)=>(r,{σ with bs})else none
  | .bf f caps=>let vs:=caps ++ args.map (val σ.env);if Yw vs then(K f vs σ.bs).map fun(r,bs)=>(r,{σ with bs})else none
  | _=>none
 | .lens x,σ=>match val σ.env x with
  | .str s=>some (.int .i64 s.length,σ)
  | _=>none
 | .lenl x,σ=>match val σ.env x with
  | .sl _ _ xs=>some (.int .i64 xs.length,σ)
  | .gs _ _ _ n=>some (.int .i64 n,σ)
  | .gb _ _ n=>some (.int .i64 n,σ)
  | _=>none
 | .app bytes sz s x,σ=>match (match s with | .t n=>(σ.env n,upd σ.env n .undef) | .c v=>(v,σ.env)),val σ.env x with
  | (.sl true sz1 xs,ρ),.sl _ sz2 ys=>
   if sz1=sz/\sz2=sz/\(xs.length+ys.length)*bytes<=140737488355328 then some (.sl true sz (xs ++ ys),{σ with env:=ρ})else none
  | _,_=>none
 | .appg bytes sz s x,σ=>match (match s with | .t n=>(σ.env n,upd σ.env n .undef) | .c v=>(v,σ.env)),val σ.env x with
  | (.sl true sz1 [],ρ),.sl _ sz2 ys=>
   if sz1=sz/\sz2=sz/\ys.length*bytes<=140737488355328 then
    (if ys.length=0 then none else some (.gs σ.bs.length 0 sz ys.length,{env:=ρ,bs:=σ.bs ++ [ys.flatten.map AV.strip]}))
   else none
  | _,_=>none
 | .appz bytes sz n x,σ=>match XW σ n sz,val σ.env x with
  | some (.sl true _ xs,s),.sl _ sz2 ys=>
   if sz2=sz/\(xs.length+ys.length)*bytes<=140737488355328 then some (.sl true sz (xs ++ ys),s)else none
  | _,_=>none
 | .frz n sz,σ=>XW σ n sz
 | .zlit,σ=>some (.gs 0 0 0 0,σ)
 | .nilp,σ=>some (.nlp,σ)
 | .appzz s x,σ=>match val σ.env s,val σ.env x with
  | .gs _ _ 0 0,.sl _ _ []=>some (.gs 0 0 0 0,σ)
  | _,_=>none
 | .clr sz x,σ=>match val σ.env x with
  | .gs id o sz1 k=>if sz1=sz/\0 < sz then
    (if k=0 then some (.undef,σ)else(σ.bs[id]?).bind fun cs=>if o+k*sz<=cs.length then some (.undef,{σ with bs:=σ.bs.set id (put cs o (List.replicate (k*sz) .undef))})else none)
    else none
  | _=>none
 | .mx x y,σ=>match val σ.env x,val σ.env y with
  | .int k a,.int k' b=>if k=k' then some (.int k (if b > a then b else a),σ)else none
  | _,_=>none
 | .mn x y,σ=>match val σ.env x,val σ.env y with
  | .int k a,.int k' b=>if k=k' then some (.int k (if b < a then b else a),σ)else none
  | _,_=>none
 | .mksl sz parts,σ=>(Yq sz (parts.map (val σ.env))).map fun xs=>(.sl true sz xs,σ)
 | .mksg sz parts,σ=>(Yq sz (parts.map (val σ.env))).map fun xs=>(.gs σ.bs.length 0 sz xs.length,{σ with bs:=σ.bs ++ [xs.flatten.map AV.strip]})
 | .mkst zs parts,σ=>(XV zs (parts.map fun p=>(p.1,p.2.1,val σ.env p.2.2))).map fun cs=>(.agg cs,σ)
 | .idxa sz x i,σ=>match val σ.env x,val σ.env i with
  | .sl _ sz1 xs,.int _ n=>if sz1=sz/\0<=n then(xs[n.toNat]?).map fun e=>(.rptr e,σ)else none
  | .gs id o sz1 k,.int _ n=>if sz1=sz/\0<=n/\n < k then some (.gp id (o+n.toNat* sz),σ)else none
  | _,_=>none
 | .idx x i,σ=>match val σ.env x,val σ.env i with
  | .str s,.int _ n=>if 0<=n then(s[n.toNat]?).map fun b=>(.int .u8 b.toNat,σ)else none
  | _,_=>none
 | .slcs x lo hi,σ=>match val σ.env x with
  | .str s=>(Zb s.length s.length (hi.map (val σ.env))).bind fun h=>(Zb h 0 (lo.map (val σ.env))).map fun l=>(.str ((s.take h).drop l),σ)
  | _=>none
 | .slcl sz x lo hi,σ=>match val σ.env x with
  | .sl _ sz1 xs=>if sz1=sz then(Zb xs.length xs.length (hi.map (val σ.env))).bind fun h=>(Zb h 0 (lo.map (val σ.env))).map fun l=>(.sl false sz ((xs.take h).drop l),σ)else none
  | .gs id o sz1 k=>if sz1=sz/\0 < sz then(Zb k k (hi.map (val σ.env))).bind fun h=>(Zb h 0 (lo.map (val σ.env))).map fun l=>(.gs id (o+l*sz) sz (h - l),σ)
   else if sz1=0/\k=0 then(Zb 0 0 (hi.map (val σ.env))).bind fun h=>(Zb h 0 (lo.map (val σ.env))).map fun l=>(.gs 0 0 0 0,σ)else none
  | _=>none
 | .slcf sz x hi mx,σ=>match val σ.env x with
  | .sl _ sz1 xs=>if sz1=sz then(Zb xs.length 0 (some (val σ.env mx))).bind fun M=>(Zb M 0 (some (val σ.env hi))).bind fun H=>if H=M then some (.sl true sz (xs.take H),σ)else none else none
  | _=>none
 | .slz sz x,σ=>match val σ.env x with
  | .sl _ sz1 _=>if sz1=sz then some (.sl true sz [],σ)else none
  | _=>none
 | .pick c a b,σ=>match val σ.env c with
  | .bool true=>let v:=val σ.env a;if v.ok then some (v,σ)else none
  | .bool false=>let v:=val σ.env b;if v.ok then some (v,σ)else none
  | _=>none
 | .ext x i,σ=>match val σ.env x with
  | .tup vs=>(vs[i]?).bind fun v=>if v.ok then some (v.strip,σ)else none
  | _=>none
 | .mkfb f caps,σ=>let vs:=caps.map (val σ.env);if vs.all AV.one then some (.bf f vs,σ)else none
 | .mkfn f caps,σ=>let vs:=caps.map (val σ.env);if vs.all AV.one then some (.fn f vs,σ)else none
 | .nilck x,σ=>let v:=val σ.env x;match v with
  | .fn _ _=>some (v,σ)
  | .bf _ _=>some (v,σ)
  | .gp _ _=>some (v,σ)
  | .gt _ _=>some (v,σ)
  | .rptr _=>some (v,σ)
  | _=>none
 | .fld off sz ag x,σ=>match val σ.env x with
  | .agg cs=>(Z8 cs off sz ag).map fun v=>(v,σ)
  | _=>none
 | .ldfz s off sz fo fz,σ=>match σ.env s with
  | .bx cs=>match cs[fo]? with
   | some (.gs id o sz1 k)=>if sz1=fz/\0 < fz/\k≠0 then(σ.bs[id]?).bind fun c2=>if o+k*fz<=c2.length then
     (Z8 (cs.set fo (.sl false fz (Yi c2 o fz k))) off sz true).map fun v=>(v,{env:=upd σ.env s (.bx (cs.set fo .undef)),bs:=σ.bs.set id []})else none
    else if k=0 then(Z8 (cs.set fo (.sl false fz [])) off sz true).map fun v=>(v,σ)else none
   | _=>none
  | _=>none
 | .mkg bytes sz zs x,σ=>match val σ.env x with
  | .int _ n=>if 0<=n/\n.toNat* bytes<=140737488355328/\n<=4611686018427387904/\0 < sz/\zs.length=sz then some (.gs σ.bs.length 0 sz n.toNat,{σ with bs:=σ.bs ++ [(List.replicate n.toNat zs).flatten]})else none
  | _=>none
 | .mkp bytes sz zs x,σ=>match val σ.env x with
  | .int _ n=>if 0<=n/\n.toNat* bytes<=140737488355328/\n<=4611686018427387904/\0 < sz/\zs.length=sz then some (.pv sz (List.replicate n.toNat zs).flatten,σ)else none
  | _=>none
 | .extm n,σ=>match σ.env n with
  | .otup sz xs vs=>some (.sl true sz xs,{σ with env:=upd σ.env n (.tup (.sl false sz xs:: vs))})
  | _=>none
 | .mkstP n zs parts,σ=>match σ.env n with
  | .pv sz cs=>if cs.all AV.noOwn then
    (XV zs (parts.map fun p=>(p.1,p.2.1,val (upd σ.env n (.gs σ.bs.length 0 sz (cs.length / sz))) p.2.2))).map fun c=>(.agg c,{env:=upd σ.env n .undef,bs:=σ.bs ++ [cs]})
   else none
  | _=>none
 | .mkz bytes sz zs x,σ=>match val σ.env x with
  | .int _ n=>if 0<=n/\n.toNat* bytes<=140737488355328/\n<=4611686018427387904/\0 < sz/\zs.length=sz then some (.sl false sz (List.replicate n.toNat zs),σ)else none
  | _=>none
 | .bstr x,σ=>match val σ.env x with
  | .sl _ 1 xs=>(Ux xs).map fun s=>(.str s,σ)
  | _=>none
 | .appM bytes sz s x,σ=>(appM bytes sz (val σ.env s) (val σ.env x) σ.bs).map fun p=>(p.1,{σ with bs:=p.2})
 | .apn bytes sz zs s x,σ=>match val σ.env x with
  | .int .i64 n=>if 0<=n/\n.toNat* bytes<=140737488355328 then(VR bytes sz (val σ.env s) (n.toNat,(List.replicate n.toNat zs).flatten) σ.bs).map fun p=>(p.1,{σ with bs:=p.2})else none
  | _=>none
 | .stn s off sz x zs,σ=>match σ.env s with
  | .bx cs=>(cellsOf (val σ.env x)).bind fun vs=>
   if vs.length=sz/\off+vs.length<=cs.length then some (.undef,{σ with env:=upd σ.env s (.bx (put cs off (Xi vs zs)))})else none
  | _=>none
 | .stq p sz x q,σ=>match σ.env p,σ.env q with
  | .gp i o,.gp i2 _=>if i=i2 then none else(σ.bs[i]?).bind fun cs=>(cellsOf (val σ.env x)).bind fun vs=>
   if vs.length=sz/\o+vs.length<=cs.length/\0 < sz then some (.undef,{σ with bs:=σ.bs.set i (put cs o (vs.map AV.strip))})else none
  | _,_=>none
 | .stp p sz x q,σ=>match σ.env p,σ.env q with
  | .gp i o,.gp i2 o2=>if i=i2/\o < o2+sz/\o2 < o+sz then none else(σ.bs[i]?).bind fun cs=>(cellsOf (val σ.env x)).bind fun vs=>
   if vs.length=sz/\o+vs.length<=cs.length/\0 < sz then some (.undef,{σ with bs:=σ.bs.set i (put cs o (vs.map AV.strip))})else none
  | _,_=>none
 | .slcx sz x lo hi,σ=>match val σ.env x with
  | .gs id o sz1 k=>if sz1=sz/\0 < sz then(σ.bs[id]?).bind fun cs=>(Zb ((cs.length - o) / sz) k (hi.map (val σ.env))).bind fun h=>(Zb h 0 (lo.map (val σ.env))).map fun l=>(.gs id (o+l*sz) sz (h - l),σ)else none
  | _=>none
 | .slcc _ x lo hi mx,σ=>match val σ.env x with
  | .sl _ _ xs=>(Zb xs.length 0 (some (val σ.env mx))).bind fun M=>(Zb M 0 (some (val σ.env hi))).bind fun H=>(Zb H 0 (lo.map (val σ.env))).map fun _=>(.undef,σ)
  | .gs _ _ _ k=>(Zb k 0 (some (val σ.env mx))).bind fun M=>(Zb M 0 (some (val σ.env hi))).bind fun H=>(Zb H 0 (lo.map (val σ.env))).map fun _=>(.undef,σ)
  | _=>none
 | .apps T s x,σ=>match val σ.env x with
  | .str q=>(WS T (val σ.env s) (q.length,Ze q) σ.bs).map fun p=>(p.1,{σ with bs:=p.2})
  | _=>none
 | .appb T s x,σ=>(WF 1 (val σ.env x) σ.bs).bind fun q=>(WS T (val σ.env s) q σ.bs).map fun p=>(p.1,{σ with bs:=p.2})
 | .lgb k,σ=>if(SE k).one/\(SE k).noOwn then some (SE k,σ)else none
 | .usd x,σ=>(Hp (val σ.env x)).map fun u=>(u,σ)
 | .ust T q p x,σ=>Oc T σ q p (val σ.env x)
 | .mkm,σ=>some (.mp σ.bs.length,{σ with bs:=σ.bs ++ [[.undef]]})
 | .lkm s ok x i z,σ=>match val σ.env x with
  | .mp id=>(σ.bs[id]?).bind fun cs=>if cs=[]then none else(Xp s (cs.drop 1) (val σ.env i)).bind fun r=>if(r.getD z).strip.ok then some (if ok then .tup [(r.getD z).strip,.bool r.isSome]else(r.getD z).strip,σ)else none
  | _=>none
 | .upm s x k y,σ=>match val σ.env x with
  | .mp id=>(σ.bs[id]?).bind fun cs=>if cs=[]\/(val σ.env y).one=false then none else
   (Sf s (cs.drop 1) (val σ.env k) (val σ.env y).strip).map fun es=>(.undef,{σ with bs:=σ.bs.set id (.undef:: es)})
  | _=>none
 | .mpe s x k z,σ=>match val σ.env x with
  | .mp id=>(σ.bs[id]?).bind fun cs=>if cs=[]then none else(Xp s (cs.drop 1) (val σ.env k)).map fun r=>
   if r.isSome then(.tup [(r.getD z).strip,.int .i64 (UL s (cs.drop 1) (val σ.env k))],σ)
   else(.tup [z.strip,.int .i64 (cs.drop 1).length],{σ with bs:=σ.bs.set id (.undef:: (cs.drop 1 ++ [.agg [val σ.env k,z.strip]]))})
  | _=>none
 | .ens x st y,σ=>Uh σ (val σ.env x) (val σ.env st) (val σ.env y)
 | .ensf x st n sz,σ=>(XW σ n sz).bind fun p=>Uh p.2 (val p.2.env x) (val p.2.env st) p.1
def ZS (ρ:Qq) (d:ZU) (v:AV):Qq:=match d with
 | some d=>upd ρ d v
 | none=>ρ
def Zw (K:ZJ) (o:Qy) (σ:St):Option St:=
 match o.guard with
 | none=>(Qg K o.op σ).map fun(v,s)=>{s with env:=ZS s.env o.dst v}
 | some (t,b)=>match σ.env t with
  | .bool c=>if c=b then(Qg K o.op σ).map fun(v,s)=>{s with env:=ZS s.env o.dst v}
   else some {σ with env:=ZS σ.env o.dst (.tup [])}
  | .tup []=>some {σ with env:=ZS σ.env o.dst (.tup [])}
  | _=>none
abbrev ZH:=List Qy
def Zz (K:ZJ):ZH->St->Option St
 | [],σ=>some σ
 | o:: os,σ=>(Zw K o σ).bind (Zz K os)
def VB (f:St->Option (Ex×St)):Nat->St->Option (Ex×St)
 | 0,_=>none
 | n+1,σ=>match f σ with
  | some (.normal,s)=>VB f n s
  | r=>r
def Q7 (K:ZJ) (n:Nat):AC->St->Option (Ex×St)
 | .bad,_=>none
 | .skip,σ=>some (.normal,σ)
 | .reg _ ops,σ=>(Zz K ops σ).map fun s=>(.normal,s)
 | .seq a b,σ=>match Q7 K n a σ with
  | some (.normal,s)=>Q7 K n b s
  | r=>r
 | .cond c a b,σ=>match val σ.env c with
  | .bool true=>Q7 K n a σ
  | .bool false=>Q7 K n b σ
  | _=>none
 | .block id c,σ=>match Q7 K n c σ with
  | some (.exit i,s)=>some (if i=id then .normal else .exit i,s)
  | r=>r
 | .loop c,σ=>VB (Q7 K n c) n σ
 | .exit id,σ=>some (.exit id,σ)
 | .ret,σ=>some (.ret,σ)
def Ys (args:Qf):Qq:=fun i=>(args.getD i .undef).strip
def Wi (ρ:Qq):To->Xh
 | .tmp t=>let v:=ρ t;if v.ok then some v else none
 | .cell t sz ag=>match ρ t with
  | .bx cs=>Z8 cs 0 sz ag
  | _=>none
 | .own t=>match ρ t with
  | .sl true sz xs=>some (.sl true sz xs)
  | _=>none
def YB (ρ:Qq):List To->Option Qf
 | []=>some []
 | r:: rs=>match Wi ρ r,YB ρ rs with
  | some v,some vs=>some (v:: vs)
  | _,_=>none
def PO:List To->Bool
 | .own _:: _=>true
 | _=>false
@[simp] def Qja:PO []=false:=rfl
@[simp] def Qjc (t:Nat) (rs:List To):PO (.tmp t:: rs)=false:=rfl
@[simp] def Qii (t sz:Nat) (ag:Bool) (rs:List To):PO (.cell t sz ag:: rs)=false:=rfl
@[simp] def Qjb (t:Nat) (rs:List To):PO (.own t:: rs)=true:=rfl
def Yj (f:Q3) (bs:Qd) (σ:St):Option (AV×Qd):=
 if PO f.res then(match YB σ.env f.res with
  | some (.sl true sz xs:: v2:: vs)=>if f.keep then some (.otup sz xs ((v2:: vs).map AV.strip),σ.bs)else if(Yr xs && QV (v2:: vs))=true/\Yc bs (σ.bs.take bs.length)then some (.otup sz xs ((v2:: vs).map AV.strip),σ.bs.take bs.length)else none
  | _=>none)
 else match YB σ.env f.res with
 | some [v]=>if f.keep then some (v,σ.bs)else if v.gpfree/\Yc bs (σ.bs.take bs.length)then some (v,σ.bs.take bs.length)else none
 | some vs=>if f.keep then some (.tup (vs.map AV.strip),σ.bs)else if QV vs/\Yc bs (σ.bs.take bs.length)then some (.tup (vs.map AV.strip),σ.bs.take bs.length)else none
 | none=>none
abbrev Xx:=Nat->Option AFn
def ZV (T:Xx):Nat->ZJ
 | 0,_,_,_=>none
 | n+1,f,args,bs=>match T f with
  | none=>none
  | some (.orc g)=>g args bs
  | some (.code fn)=>
   if args.length=fn.nparams then
    match Q7 (ZV T n) n fn.body {env:=Ys args,bs}with
    | some (.normal,σ)=>Yj fn bs σ
    | some (.ret,σ)=>Yj fn bs σ
    | _=>none
   else none
structure Blk where
 b:Nat
 z:Nat
 mp:Bool
 ty:TypeId
abbrev TR:=Nat->Option Value
abbrev Q9:=Nat->Nat
def hg (w:World) (m:Q9) (b:Nat):TR:=fun i=>if i < m b then w.cell? ⟨b,i,none⟩else none
mutual
def Qa (num:Nat->Option Nat) (β:List Blk) (w:World) (m:Nat->Nat):AV->Value->Prop
 | .undef,u=>u.oneCell'=true
 | .int k n,u=>u= .int k n
 | .bool b,u=>u= .bool b
 | .anyb,u=>∃b,u= .bool b
 | .str s,u=>u= .string ⟨s.toArray⟩
 | .agg cs,u=>∃us:Array Value,u= .agg us/\us.size=cs.length/\Z2 num β w m cs (fun i=>us[i]?) 0
 | .sl _ sz xs,u=>∃a len cap,u= .slice a len cap/\xs.length=len/\len<=cap/\cap<=maxLen/\
   (xs=[]\/∃b o,a=some ⟨b,o,none⟩/\Z9 num β w m xs (hg w m b) o sz)
 | .bx _,_=>False
 | .gp i o,u=>∃k:Blk,(β[i]? =some k/\k.mp=false)/\u= .pointer (some ⟨k.b,o,none⟩)
 | .gs i o sz n,u=>∃a cap,u= .slice a n cap/\n<=cap/\cap<=maxLen/\((n=0/\cap=0/\((sz=0/\(o=1->a=none))\/∃k:Blk,(β[i]? =some k/\k.mp=false)/\k.z<=o/\0 < sz))\/∃k:Blk,(β[i]? =some k/\k.mp=false)/\a=some ⟨k.b,o,none⟩/\o+cap*sz=k.z/\0 < sz)
 | .rptr cs,u=>∃b o,u= .pointer (some ⟨b,o,none⟩)/\Z2 num β w m cs (hg w m b) o
 | .fn f caps,u=>∃g us,num f=some g/\u= .func (.func g) #[] us/\us.size=caps.length/\Z2 num β w m caps (fun i=>us[i]?) 0
 | .bf f caps,u=>∃g us,num f=some g/\u= .func (.func g) us #[]/\us.size=caps.length/\Z2 num β w m caps (fun i=>us[i]?) 0
 | .tup vs,u=>∃us:Array Value,u= .tuple us/\us.size=vs.length/\YI num β w m vs (fun i=>us[i]?) 0
 | .err n,u=>(n=true/\u= .nilIface)\/(n=false/\∃t x,u= .iface t x)
 | .mp i,u=>∃k:Blk,(β[i]? =some k/\k.mp=true)/\u= .map (some k.b)
 | .pv _ _,_=>False
 | .otup sz xs vs,u=>∃us:Array Value,u= .tuple us/\us.size=vs.length+1/\
   ((∃u0,us[0]? =some u0/\∃a len cap,u0= .slice a len cap/\xs.length=len/\len<=cap/\cap<=maxLen/\(xs=[]\/∃b o,a=some ⟨b,o,none⟩/\Z9 num β w m xs (hg w m b) o sz))/\
    YI num β w m vs (fun i=>us[i]?) (0+1))
 | .nlp,u=>u= .pointer none
 | .gt ty i,u=>∃k:Blk,(β[i]? =some k/\k.mp=false)/\k.ty=ty/\k.z=2/\u= .pointer (some ⟨k.b,0,none⟩)
 | .gb ty i n,u=>∃(k:Blk) (cap:Nat),(β[i]? =some k/\k.mp=false)/\k.ty=ty/\u= .slice (some ⟨k.b,0,none⟩) n cap/\cap=k.z/\n<=cap/\cap<=maxLen
def Z2 (num:Nat->Option Nat) (β:List Blk) (w:World) (m:Nat->Nat):List AV->(Nat->Option Value)->Nat->Prop
 | [],_,_=>True
 | c:: cs,g,o=>(∃u,g o=some u/\u.oneCell'=true/\Qa num β w m c u)/\Z2 num β w m cs g (o+1)
def YI (num:Nat->Option Nat) (β:List Blk) (w:World) (m:Nat->Nat):List AV->(Nat->Option Value)->Nat->Prop
 | [],_,_=>True
 | c:: cs,g,o=>(∃u,g o=some u/\Qa num β w m c u)/\YI num β w m cs g (o+1)
def Z9 (num:Nat->Option Nat) (β:List Blk) (w:World) (m:Nat->Nat):List (List AV)->(Nat->Option Value)->Nat->Nat->Prop
 | [],_,_,_=>True
 | x:: xs,g,o,sz=>x.length=sz/\Z2 num β w m x g o/\Z9 num β w m xs g (o+sz) sz
end
def Le (w:World) (m:Q9) (w':World) (m':Q9):Prop:=∀b i u,hg w m b i=some u->hg w' m' b i=some u
def Le.refl (w:World) (m:Q9):Le w m w m:=fun _ _ _ h=>h
def Le.trans {w w' w'':World} {m m' m'':Q9} (h:Le w m w' m') (k:Le w' m' w'' m''):Le w m w'' m'':=fun b i u hu=>k b i u (h b i u hu)
abbrev Ym:=List Blk
def Ge (β β':Ym):Prop:=∀(i:Nat) (b:Blk),β[i]? =some b->β'[i]? =some b
def Ge.refl (β:Ym):Ge β β:=fun _ _ h=>h
def QL:=@Nat.lt_or_ge
def QT:=@List.getElem?_eq_none
def ZO:=@List.getElem?_append_left
def Ge.append (β γ:Ym):Ge β (β ++ γ):=fun i b h=>by
 have hlt:i < β.length:=by
  rcases QL i β.length with h1 | h1
  ·exact h1
  ·rw[QT h1]at h;cases h
 rw[ZO hlt];exact h
section
variable {num:Nat->Option Nat} {β β':List Blk} {w w':World} {m m':Nat->Nat}
mutual
theorem QU (hβ:Ge β β') (hm:Le w m w' m'): ∀(c:AV) (u:Value),Qa num β w m c u->Qa num β' w' m' c u
 | .undef,u,h=>h
 | .int k n,u,h=>h
 | .bool b,u,h=>h
 | .anyb,u,h=>h
 | .nlp,u,h=>h
 | .gt ty i,u,h=>by
  simp only[Qa]at h ⊢;obtain⟨k,h1,h2⟩:=h;exact⟨k,⟨hβ i k h1.1,h1.2⟩,h2⟩
 | .gb ty i n,u,h=>by
  simp only[Qa]at h ⊢;obtain⟨k,cap,h1,h2⟩:=h;exact⟨k,cap,⟨hβ i k h1.1,h1.2⟩,h2⟩
 | .str s,u,h=>h
 | .agg cs,u,h=>by
  simp only[Qa]at h ⊢;obtain⟨us,h1,h2,h3⟩:=h;exact⟨us,h1,h2,W8 hβ hm cs _ _ 0 (fun _ _ h=>h) h3⟩
 | .sl o sz xs,u,h=>by
  simp only[Qa]at h ⊢;obtain⟨a,len,cap,h1,h2,h3,h4,h5⟩:=h;refine⟨a,len,cap,h1,h2,h3,h4,?_⟩;rcases h5 with h5 | ⟨b,o,h6,h7⟩
  ·exact .inl h5
  ·exact .inr ⟨b,o,h6,W9 hβ hm xs _ _ o sz (hm b) h7⟩
 | .bx cs,u,h=>by simp only[Qa]at h
 | .pv _ cs,u,h=>by simp only[Qa]at h
 | .otup sz xs vs,u,h=>by
  simp only[Qa]at h ⊢;obtain⟨us,h1,h2,⟨u0,h3,a,len,cap,k1,k2,k3,k4,k5⟩,h4⟩:=h;refine⟨us,h1,h2,⟨u0,h3,a,len,cap,k1,k2,k3,k4,?_⟩,RZ hβ hm vs _ _ (0+1) (fun _ _ h=>h) h4⟩;rcases k5 with h5 | ⟨b,o,h6,h7⟩
  ·exact .inl h5
  ·exact .inr ⟨b,o,h6,W9 hβ hm xs _ _ o sz (hm b) h7⟩
 | .gp i o,u,h=>by
  simp only[Qa]at h ⊢;obtain⟨b,h1,h2⟩:=h;exact⟨b,⟨hβ i b h1.1,h1.2⟩,h2⟩
 | .gs i o sz n,u,h=>by
  simp only[Qa]at h ⊢;obtain⟨a,cap,h1,h2,h3,h4⟩:=h;refine⟨a,cap,h1,h2,h3,?_⟩;rcases h4 with⟨h4,h5,h6⟩ | ⟨k,h5,h6⟩
  ·refine .inl ⟨h4,h5,?_⟩;rcases h6 with h6 | ⟨k,h6,h7⟩
   ·exact .inl h6
   ·exact .inr ⟨k,⟨hβ i k h6.1,h6.2⟩,h7⟩
  ·exact .inr ⟨k,⟨hβ i k h5.1,h5.2⟩,h6⟩
 | .rptr cs,u,h=>by
  simp only[Qa]at h ⊢;obtain⟨b,o,h1,h2⟩:=h;exact⟨b,o,h1,W8 hβ hm cs _ _ o (hm b) h2⟩
 | .fn f caps,u,h=>by
  simp only[Qa]at h ⊢;obtain⟨g,us,h0,h1,h2,h3⟩:=h;exact⟨g,us,h0,h1,h2,W8 hβ hm caps _ _ 0 (fun _ _ h=>h) h3⟩
 | .bf f caps,u,h=>by
  simp only[Qa]at h ⊢;obtain⟨g,us,h0,h1,h2,h3⟩:=h;exact⟨g,us,h0,h1,h2,W8 hβ hm caps _ _ 0 (fun _ _ h=>h) h3⟩
 | .tup vs,u,h=>by
  simp only[Qa]at h ⊢;obtain⟨us,h1,h2,h3⟩:=h;exact⟨us,h1,h2,RZ hβ hm vs _ _ 0 (fun _ _ h=>h) h3⟩
 | .err n,u,h=>h
 | .mp i,u,h=>by
  simp only[Qa]at h ⊢;obtain⟨b,h1,h2⟩:=h;exact⟨b,⟨hβ i b h1.1,h1.2⟩,h2⟩
theorem W8 (hβ:Ge β β') (hm:Le w m w' m'): ∀(cs:List AV) (g g':Nat->Option Value) (o:Nat),(∀i u,g i=some u->g' i=some u)->
  Z2 num β w m cs g o->Z2 num β' w' m' cs g' o
 | [],_,_,_,_,_=>by simp only[Z2]
 | c:: cs,g,g',o,hg,h=>by
  simp only[Z2]at h ⊢;obtain⟨⟨u,h1,h2,h3⟩,h4⟩:=h;exact⟨⟨u,hg o u h1,h2,QU hβ hm c u h3⟩,W8 hβ hm cs g g' (o+1) hg h4⟩
theorem RZ (hβ:Ge β β') (hm:Le w m w' m'): ∀(cs:List AV) (g g':Nat->Option Value) (o:Nat),(∀i u,g i=some u->g' i=some u)->
  YI num β w m cs g o->YI num β' w' m' cs g' o
 | [],_,_,_,_,_=>by simp only[YI]
 | c:: cs,g,g',o,hg,h=>by
  simp only[YI]at h ⊢;obtain⟨⟨u,h1,h3⟩,h4⟩:=h;exact⟨⟨u,hg o u h1,QU hβ hm c u h3⟩,RZ hβ hm cs g g' (o+1) hg h4⟩
theorem W9 (hβ:Ge β β') (hm:Le w m w' m'): ∀(xs:List (List AV)) (g g':Nat->Option Value) (o sz:Nat),(∀i u,g i=some u->g' i=some u)->
  Z9 num β w m xs g o sz->Z9 num β' w' m' xs g' o sz
 | [],_,_,_,_,_,_=>by simp only[Z9]
 | x:: xs,g,g',o,sz,hg,h=>by
  simp only[Z9]at h ⊢;obtain⟨h1,h2,h3⟩:=h;exact⟨h1,W8 hβ hm x g g' o hg h2,W9 hβ hm xs g g' (o+sz) sz hg h3⟩
end
mutual
theorem U8 {w0:World} {m0:Nat->Nat} (hβ:Ge β β'): ∀(c:AV) (u0 u:Value),Qa num β w0 m0 c u0->Qa num β' w m c u->Qa num β w m c u
 | .undef,_,u,_,h=>h
 | .int k n,_,u,_,h=>h
 | .bool b,_,u,_,h=>h
 | .anyb,_,u,_,h=>h
 | .nlp,_,u,_,h=>h
 | .gt ty i,u0,u,h0,h=>by
  simp only[Qa]at h0 h ⊢;obtain⟨k0,h1,_⟩:=h0;obtain⟨k,h2,h3⟩:=h;have e:=hβ i k0 h1.1;rw[h2.1]at e;injection e with e
  subst e;exact⟨k,h1,h3⟩
 | .gb ty i n,u0,u,h0,h=>by
  simp only[Qa]at h0 h ⊢;obtain⟨k0,_,h1,_⟩:=h0;obtain⟨k,cap,h2,h3⟩:=h;have e:=hβ i k0 h1.1;rw[h2.1]at e;injection e with e
  subst e;exact⟨k,cap,h1,h3⟩
 | .str s,_,u,_,h=>h
 | .agg cs,u0,u,h0,h=>by
  simp only[Qa]at h0 h ⊢;obtain⟨us0,_,_,h03⟩:=h0;obtain⟨us,h1,h2,h3⟩:=h;exact⟨us,h1,h2,VU hβ cs _ _ 0 0 h03 h3⟩
 | .sl o sz xs,u0,u,h0,h=>by
  simp only[Qa]at h0 h ⊢;obtain⟨_,_,_,_,_,_,_,h05⟩:=h0;obtain⟨a,len,cap,h1,h2,h3,h4,h5⟩:=h;refine⟨a,len,cap,h1,h2,h3,h4,?_⟩;rcases h5 with h5 | ⟨b,o,h6,h7⟩
  ·exact .inl h5
  ·rcases h05 with h05 | ⟨b0,o0,h06,h07⟩
   ·exact .inl h05
   ·exact .inr ⟨b,o,h6,RU hβ xs _ _ o0 o sz h07 h7⟩
 | .bx cs,_,u,_,h=>by simp only[Qa]at h
 | .pv _ cs,_,u,_,h=>by simp only[Qa]at h
 | .otup sz xs vs,u0,u,h0,h=>by
  simp only[Qa]at h0 h ⊢;obtain⟨_,_,_,⟨_,_,_,_,_,_,_,_,_,h05⟩,h04⟩:=h0;obtain⟨us,h1,h2,⟨u0,h3,a,len,cap,k1,k2,k3,k4,k5⟩,h4⟩:=h;refine⟨us,h1,h2,⟨u0,h3,a,len,cap,k1,k2,k3,k4,?_⟩,RX hβ vs _ _ (0+1) (0+1) h04 h4⟩;rcases k5 with h5 | ⟨b,o,h6,h7⟩
  ·exact .inl h5
  ·rcases h05 with h05 | ⟨b0,o0,h06,h07⟩
   ·exact .inl h05
   ·exact .inr ⟨b,o,h6,RU hβ xs _ _ o0 o sz h07 h7⟩
 | .gp i o,u0,u,h0,h=>by
  simp only[Qa]at h0 h ⊢;obtain⟨k0,h1,_⟩:=h0;obtain⟨k,h2,h3⟩:=h;have e:=hβ i k0 h1.1;rw[h2.1]at e;injection e with e
  subst e;exact⟨k,h1,h3⟩
 | .gs i o sz n,u0,u,h0,h=>by
  simp only[Qa]at h0 h ⊢;obtain⟨_,cap0,_,q1,_,h04⟩:=h0;obtain⟨a,cap,h1,h2,h3,h4⟩:=h;refine⟨a,cap,h1,h2,h3,?_⟩;have hk:sz=0\/∃k:Blk,β[i]? =some k/\k.mp=false:=by
   rcases h04 with h04 | ⟨k0,h05,_⟩
   ·exact h04.2.2.imp (·.1) fun⟨k,h,_⟩=>⟨k,h⟩
   ·exact .inr ⟨k0,h05⟩
  rcases h4 with h4 | ⟨k,h5,h6,h7,h8⟩
  ·refine .inl ⟨h4.1,h4.2.1,?_⟩;rcases hk with hk | ⟨k0,h05⟩
   ·rcases h4.2.2 with h6 | ⟨_,_,_,h7⟩
    ·exact .inl h6
    ·omega
   ·rcases h4.2.2 with h6 | ⟨k,h6,h7⟩
    ·exact .inl h6
    ·have e:=hβ i k0 h05.1;rw[h6.1]at e;injection e with e
     subst e;exact .inr ⟨k,h05,h7⟩
  ·rcases hk with hk | ⟨k0,h05⟩
   ·omega
   ·have e:=hβ i k0 h05.1;rw[h5.1]at e;injection e with e
    subst e;exact .inr ⟨k,h05,h6,h7,h8⟩
 | .rptr cs,u0,u,h0,h=>by
  simp only[Qa]at h0 h ⊢;obtain⟨_,o0,_,h02⟩:=h0;obtain⟨b,o,h1,h2⟩:=h;exact⟨b,o,h1,VU hβ cs _ _ o0 o h02 h2⟩
 | .fn f caps,u0,u,h0,h=>by
  simp only[Qa]at h0 h ⊢;obtain⟨_,_,_,_,_,h03⟩:=h0;obtain⟨g,us,e,h1,h2,h3⟩:=h;exact⟨g,us,e,h1,h2,VU hβ caps _ _ 0 0 h03 h3⟩
 | .bf f caps,u0,u,h0,h=>by
  simp only[Qa]at h0 h ⊢;obtain⟨_,_,_,_,_,h03⟩:=h0;obtain⟨g,us,e,h1,h2,h3⟩:=h;exact⟨g,us,e,h1,h2,VU hβ caps _ _ 0 0 h03 h3⟩
 | .tup vs,u0,u,h0,h=>by
  simp only[Qa]at h0 h ⊢;obtain⟨_,_,_,h03⟩:=h0;obtain⟨us,h1,h2,h3⟩:=h;exact⟨us,h1,h2,RX hβ vs _ _ 0 0 h03 h3⟩
 | .err n,_,u,_,h=>h
 | .mp i,u0,u,h0,h=>by
  simp only[Qa]at h0 h ⊢;obtain⟨k0,h1,_⟩:=h0;obtain⟨k,h2,h3⟩:=h;have e:=hβ i k0 h1.1;rw[h2.1]at e;injection e with e
  subst e;exact⟨k,h1,h3⟩
theorem VU {w0:World} {m0:Nat->Nat} (hβ:Ge β β'): ∀(cs:List AV) (g0 g:Nat->Option Value) (o0 o:Nat),Z2 num β w0 m0 cs g0 o0->Z2 num β' w m cs g o->Z2 num β w m cs g o
 | [],_,_,_,_,_,_=>by simp only[Z2]
 | c:: cs,g0,g,o0,o,h0,h=>by
  simp only[Z2]at h0 h ⊢;obtain⟨⟨u0,_,_,h03⟩,h04⟩:=h0;obtain⟨⟨u,h1,h2,h3⟩,h4⟩:=h;exact⟨⟨u,h1,h2,U8 hβ c u0 u h03 h3⟩,VU hβ cs g0 g (o0+1) (o+1) h04 h4⟩
theorem RX {w0:World} {m0:Nat->Nat} (hβ:Ge β β'): ∀(cs:List AV) (g0 g:Nat->Option Value) (o0 o:Nat),YI num β w0 m0 cs g0 o0->YI num β' w m cs g o->YI num β w m cs g o
 | [],_,_,_,_,_,_=>by simp only[YI]
 | c:: cs,g0,g,o0,o,h0,h=>by
  simp only[YI]at h0 h ⊢;obtain⟨⟨u0,_,h03⟩,h04⟩:=h0;obtain⟨⟨u,h1,h3⟩,h4⟩:=h;exact⟨⟨u,h1,U8 hβ c u0 u h03 h3⟩,RX hβ cs g0 g (o0+1) (o+1) h04 h4⟩
theorem RU {w0:World} {m0:Nat->Nat} (hβ:Ge β β'): ∀(xs:List (List AV)) (g0 g:Nat->Option Value) (o0 o sz:Nat),Z9 num β w0 m0 xs g0 o0 sz->Z9 num β' w m xs g o sz->Z9 num β w m xs g o sz
 | [],_,_,_,_,_,_,_=>by simp only[Z9]
 | x:: xs,g0,g,o0,o,sz,h0,h=>by
  simp only[Z9]at h0 h ⊢;obtain⟨_,h02,h03⟩:=h0;obtain⟨h1,h2,h3⟩:=h;exact⟨h1,VU hβ x g0 g o0 o h02 h2,RU hβ xs g0 g (o0+sz) (o+sz) sz h03 h3⟩
end
end
end Go.Am
namespace Go.Am
section
variable {num:Nat->Option Nat} {β β':List Blk} {w w':World} {m m':Nat->Nat}
def Zp: ∀(cs:Qf) (g:TR) (o:Nat),Z2 num β w m cs g o↔
  ∀i c,cs[i]? =some c->∃u,g (o+i)=some u/\u.oneCell'=true/\Qa num β w m c u
 | [],g,o=>by simp[Z2]
 | c:: cs,g,o=>by
  simp only[Z2,Zp cs g (o+1)];constructor
  ·rintro⟨h0,h1⟩ i d hd
   cases i with
   | zero=>simp at hd;subst hd;simpa using h0
   | succ i=>simp at hd;have:=h1 i d hd;rwa[show o+ (i+1)=o+1+i by omega]
  ·intro h;refine⟨by simpa using h 0 c rfl,fun i d hd=> ?_⟩;have:=h (i+1) d (by simpa using hd);rwa[show o+ (i+1)=o+1+i by omega]at this
def TQ: ∀(cs:Qf) (g:TR) (o:Nat),YI num β w m cs g o↔
  ∀i c,cs[i]? =some c->∃u,g (o+i)=some u/\Qa num β w m c u
 | [],g,o=>by simp[YI]
 | c:: cs,g,o=>by
  simp only[YI,TQ cs g (o+1)];constructor
  ·rintro⟨h0,h1⟩ i d hd
   cases i with
   | zero=>simp at hd;subst hd;simpa using h0
   | succ i=>simp at hd;have:=h1 i d hd;rwa[show o+ (i+1)=o+1+i by omega]
  ·intro h;refine⟨by simpa using h 0 c rfl,fun i d hd=> ?_⟩;have:=h (i+1) d (by simpa using hd);rwa[show o+ (i+1)=o+1+i by omega]at this
def WI:=@Nat.succ_mul
def Yk: ∀(xs:Qd) (g:TR) (o sz:Nat),Z9 num β w m xs g o sz↔
  ∀i x,xs[i]? =some x->x.length=sz/\Z2 num β w m x g (o+i*sz)
 | [],g,o,sz=>by simp[Z9]
 | x:: xs,g,o,sz=>by
  simp only[Z9,Yk xs g (o+sz) sz];constructor
  ·rintro⟨h0,h1,h2⟩ i d hd
   cases i with
   | zero=>simp at hd;subst hd;exact⟨h0,by simpa using h1⟩
   | succ i=>
    simp at hd;have:=h2 i d hd;rwa[show o+ (i+1)*sz=o+sz+i*sz by rw[WI];omega]
  ·intro h;have h0:=h 0 x rfl;refine⟨h0.1,by simpa using h0.2,fun i d hd=> ?_⟩;have:=h (i+1) d (by simpa using hd);rwa[show o+ (i+1)*sz=o+sz+i*sz by rw[WI];omega]at this
def Qi:=@Bool.and_eq_true
def Qm:=@decide_eq_true_eq
mutual
theorem Wm: ∀(c:AV) (u:Value),c.gpfree=true->Qa num β w m c u->Qa num β' w m c u
 | .undef,u,_,h=>h
 | .int k n,u,_,h=>h
 | .bool b,u,_,h=>h
 | .anyb,u,_,h=>h
 | .nlp,u,_,h=>h
 | .gt ty i,u,hf,h=>by simp[AV.gpfree]at hf
 | .gb ty i n,u,hf,h=>by simp[AV.gpfree]at hf
 | .str s,u,_,h=>h
 | .agg cs,u,hf,h=>by
  simp only[Qa,AV.gpfree]at h hf ⊢;obtain⟨us,h1,h2,h3⟩:=h;exact⟨us,h1,h2,VV cs _ 0 hf h3⟩
 | .sl o sz xs,u,hf,h=>by
  simp only[Qa,AV.gpfree]at h hf ⊢;obtain⟨a,len,cap,h1,h2,h3,h4,h5⟩:=h;refine⟨a,len,cap,h1,h2,h3,h4,?_⟩;rcases h5 with h5 | ⟨b,o,h6,h7⟩
  ·exact .inl h5
  ·exact .inr ⟨b,o,h6,RV xs _ o sz hf h7⟩
 | .bx cs,u,_,h=>by simp only[Qa]at h
 | .pv _ cs,u,_,h=>by simp only[Qa]at h
 | .otup sz xs vs,u,hf,h=>by
  simp only[Qa,AV.gpfree,Qi]at h hf ⊢;obtain⟨us,h1,h2,⟨u0,h3,a,len,cap,k1,k2,k3,k4,k5⟩,h4⟩:=h;refine⟨us,h1,h2,⟨u0,h3,a,len,cap,k1,k2,k3,k4,?_⟩,RY vs _ (0+1) hf.2 h4⟩;rcases k5 with h5 | ⟨b,o,h6,h7⟩
  ·exact .inl h5
  ·exact .inr ⟨b,o,h6,RV xs _ o sz hf.1 h7⟩
 | .gp i o,u,hf,h=>by simp[AV.gpfree]at hf
 | .gs i o sz n,u,hf,h=>by
  simp only[Qa,AV.gpfree,Qm]at h hf ⊢;obtain⟨a,cap,h1,h2,h3,h4⟩:=h;rcases h4 with h4 | ⟨_,_,_,_,h5⟩
  ·rcases h4.2.2 with h6 | ⟨_,_,_,h6⟩
   ·exact⟨a,cap,h1,h2,h3,.inl ⟨hf.1,h4.2.1,.inl h6⟩⟩
   ·omega
  ·omega
 | .rptr cs,u,hf,h=>by
  simp only[Qa,AV.gpfree]at h hf ⊢;obtain⟨b,o,h1,h2⟩:=h;exact⟨b,o,h1,VV cs _ o hf h2⟩
 | .fn f caps,u,hf,h=>by
  simp only[Qa,AV.gpfree]at h hf ⊢;obtain⟨g,us,h0,h1,h2,h3⟩:=h;exact⟨g,us,h0,h1,h2,VV caps _ 0 hf h3⟩
 | .bf f caps,u,hf,h=>by
  simp only[Qa,AV.gpfree]at h hf ⊢;obtain⟨g,us,h0,h1,h2,h3⟩:=h;exact⟨g,us,h0,h1,h2,VV caps _ 0 hf h3⟩
 | .tup vs,u,hf,h=>by
  simp only[Qa,AV.gpfree]at h hf ⊢;obtain⟨us,h1,h2,h3⟩:=h;exact⟨us,h1,h2,RY vs _ 0 hf h3⟩
 | .err n,u,_,h=>h
 | .mp i,u,hf,h=>by simp[AV.gpfree]at hf
theorem VV: ∀(cs:List AV) (g:Nat->Option Value) (o:Nat),QV cs=true->Z2 num β w m cs g o->Z2 num β' w m cs g o
 | [],_,_,_,_=>by simp only[Z2]
 | c:: cs,g,o,hf,h=>by
  simp only[Z2,QV,Qi]at h hf ⊢;obtain⟨⟨u,h1,h2,h3⟩,h4⟩:=h;exact⟨⟨u,h1,h2,Wm c u hf.1 h3⟩,VV cs g (o+1) hf.2 h4⟩
theorem RY: ∀(cs:List AV) (g:Nat->Option Value) (o:Nat),QV cs=true->YI num β w m cs g o->YI num β' w m cs g o
 | [],_,_,_,_=>by simp only[YI]
 | c:: cs,g,o,hf,h=>by
  simp only[YI,QV,Qi]at h hf ⊢;obtain⟨⟨u,h1,h3⟩,h4⟩:=h;exact⟨⟨u,h1,Wm c u hf.1 h3⟩,RY cs g (o+1) hf.2 h4⟩
theorem RV: ∀(xs:List (List AV)) (g:Nat->Option Value) (o sz:Nat),Yr xs=true->Z9 num β w m xs g o sz->Z9 num β' w m xs g o sz
 | [],_,_,_,_,_=>by simp only[Z9]
 | x:: xs,g,o,sz,hf,h=>by
  simp only[Z9,Yr,Qi]at h hf ⊢;obtain⟨h1,h2,h3⟩:=h;exact⟨h1,VV x g o hf.1 h2,RV xs g (o+sz) sz hf.2 h3⟩
end
def UZ: ∀(cs:Qf),QV cs=true↔∀(i:Nat) (c:AV),cs[i]? =some c->c.gpfree=true
 | []=>by simp[QV]
 | c:: cs=>by
  simp only[QV,Qi,UZ cs];constructor
  ·rintro⟨h0,h1⟩ i d hd
   cases i with
   | zero=>simp at hd;subst hd;exact h0
   | succ i=>exact h1 i d (by simpa using hd)
  ·intro h;exact⟨h 0 c rfl,fun i d hd=>h (i+1) d (by simpa using hd)⟩
def QO:=@List.length_cons
@[simp] def QE (c:AV) (u:Value):Qa num β w m c.strip u↔Qa num β w m c u:=by
 cases c <;> first | exact Iff.rfl | (simp only[AV.strip,Qa,YI,QO];done) | (simp only[AV.strip,Qa,YI,QO];exact Iff.rfl)
@[simp] def Is (c:AV):c.strip.gpfree=c.gpfree:=by cases c <;> simp[AV.strip,AV.gpfree,QV]
def Um {c:AV} {u:Value} (h1:c.one=true) (h:Qa num β w m c u):u.oneCell'=true:=by
 cases c <;> simp only[AV.one,Qa]at h1 h <;> try cases h1
 case int=>subst h;rfl
 case bool=>subst h;rfl
 case anyb=>obtain⟨b,rfl⟩:=h;rfl
 case nlp=>subst h;rfl
 case gt=>obtain⟨k,_,_,_,rfl⟩:=h;rfl
 case gb=>obtain⟨k,cap,_,_,rfl,_⟩:=h;rfl
 case str=>subst h;rfl
 case sl=>obtain⟨a,l,c,rfl,_⟩:=h;rfl
 case gp=>obtain⟨b,_,rfl⟩:=h;rfl
 case gs=>obtain⟨a,c,rfl,_⟩:=h;rfl
 case rptr=>obtain⟨b,o,rfl,_⟩:=h;rfl
 case fn=>obtain⟨g,us,_,rfl,_⟩:=h;rfl
 case bf=>obtain⟨g,us,_,rfl,_⟩:=h;rfl
 case err n=>
  rcases h with⟨_,rfl⟩ | ⟨_,t,x,rfl⟩ <;> rfl
 case mp i=>obtain⟨b,_,rfl⟩:=h;rfl
end
inductive Pl where
 | f
 | fc (i:Nat)
 | s (t:Nat)
 | c (t i:Nat)
 | g (i:Nat)
 | gc (i j:Nat)
 deriving DecidableEq
abbrev Own:=Nat->Option Pl
abbrev QW:=Array Value
def Q6 (w:World) (m:Q9) (ν:Own) (p:Pl):AV->Value->Prop
 | .sl true sz xs,u=>(∃a n,u= .slice a n n)\/∃b cap cur e,u= .slice (some ⟨b,0,none⟩) xs.length cap/\w.heap[b]? =some (.cells cur e (0,0))/\
   cur.size=cap*sz/\m b=xs.length*sz/\ν b=some p
 | .otup sz xs _,u=>∃(us:QW) (u0:Value),u= .tuple us/\us[0]? =some u0/\((∃a n,u0= .slice a n n)\/∃b cap cur e,u0= .slice (some ⟨b,0,none⟩) xs.length cap/\w.heap[b]? =some (.cells cur e (0,0))/\
   cur.size=cap*sz/\m b=xs.length*sz/\ν b=some p)
 | _,_=>True
abbrev Z3:=Nat->Option Nat
def LR (num:Z3) (β:Ym) (w:World) (m:Q9) (ν:Own) (pl:Pl) (cp:Nat->Pl) (b z:Nat) (cs:Qf):Prop:=
 ∃cur e,w.heap[b]? =some (.cells cur e (0,0))/\(cur.size=z/\cs.length<=z)/\m b=0/\ν b=some pl/\
  ∀i c,cs[i]? =some c->∃u,cur[i]? =some u/\u.oneCell'=true/\Qa num β w m c u/\Q6 w m ν (cp i) c u
abbrev UB:=Array MapEntry
def UA (es:UB) (clock:Nat):Prop:=clock=es.size/\∀(i:Nat) (e:MapEntry),es[i]? =some e->e.born=i
def Af (num:Z3) (β:Ym) (w:World) (m:Q9) (ν:Own) (pl:Pl) (b:Nat) (cs:Qf):Prop:=
 ∃(es:UB) (clock:Nat) (xs:Qf),w.heap[b]? =some (.map es clock)/\m b=0/\ν b=some pl/\cs= .undef:: xs/\(xs.length=es.size/\UA es clock)/\
  ∀(i:Nat) (c:AV),xs[i]? =some c->∃(e:MapEntry) (k v:AV),es[i]? =some e/\c= .agg [k,v]/\Qa num β w m k e.key/\Qa num β w m v e.val
def TyV (w:World) (k:Blk):Prop:=∃cur,w.heap[k.b]? =some (.cells cur k.ty (0,0))
def Sz (num:Z3) (β:Ym) (w:World) (m:Q9) (ν:Own) (i:Nat) (k:Blk) (cs:Qf):Prop:=
 (k.mp=false->LR num β w m ν (.g i) (fun j=> .gc i j) k.b k.z cs)/\(k.mp=true->Af num β w m ν (.g i) k.b cs)/\(k.mp=false->TyV w k)
def Wo (num:Z3) (β:Ym) (w:World) (m:Q9) (ν:Own) (pl:Pl) (cp:Nat->Pl):AV->Value->Prop
 | .undef,_=>True
 | .bx cs,u=>∃b,u= .pointer (some ⟨b,0,none⟩)/\LR num β w m ν pl cp b cs.length cs
 | .pv sz cs,u=>∃b k,u= .slice (some ⟨b,0,none⟩) k k/\(k<=maxLen/\0 < sz/\k*sz=cs.length)/\LR num β w m ν pl cp b cs.length cs
 | c,u=>Qa num β w m c u/\Q6 w m ν pl c u
section
variable {num:Nat->Option Nat} {β β':List Blk} {w w':World} {m m':Nat->Nat} {ν ν':Own}
def QD {pl:Pl} {cp:Nat->Pl} {c:AV} {u:Value} (hc:c.ok=true):Wo num β w m ν pl cp c u↔Qa num β w m c u/\Q6 w m ν pl c u:=by
 cases c <;> simp[AV.ok]at hc <;> rfl
def TP (w:World) (m:Q9) (ν:Own) (w':World) (m':Q9) (ν':Own) (θ:Pl->Pl) (p:Pl):Prop:=
 ∀b,ν b=some p->w'.heap[b]? =w.heap[b]? /\m' b=m b/\ν' b=some (θ p)
def YV {θ:Pl->Pl} {p:Pl} (k:TP w m ν w' m' ν' θ p) {c:AV} {u:Value} (h:Q6 w m ν p c u):Q6 w' m' ν' (θ p) c u:=by
 cases c <;> try exact trivial
 case sl o sz xs=>
  cases o
  ·exact trivial
  ·rcases h with h | ⟨b,cap,cur,e,h1,h2,h3,h4,h5⟩
   ·exact .inl h
   ·obtain⟨k1,k2,k3⟩:=k b h5;exact .inr ⟨b,cap,cur,e,h1,by rw[k1];exact h2,h3,by rw[k2];exact h4,k3⟩
 case otup sz xs vs=>
  obtain⟨us,u0,g1,g2,h⟩:=h;refine⟨us,u0,g1,g2,?_⟩;rcases h with h | ⟨b,cap,cur,e,h1,h2,h3,h4,h5⟩
  ·exact .inl h
  ·obtain⟨k1,k2,k3⟩:=k b h5;exact .inr ⟨b,cap,cur,e,h1,by rw[k1];exact h2,h3,by rw[k2];exact h4,k3⟩
def RQ {θ:Pl->Pl} {pl:Pl} {cp:Nat->Pl} (hβ:Ge β β') (hm:Le w m w' m') (k:TP w m ν w' m' ν' θ pl) (kc: ∀i,TP w m ν w' m' ν' θ (cp i))
  {b z:Nat} {cs:Qf} (h:LR num β w m ν pl cp b z cs):LR num β' w' m' ν' (θ pl) (fun i=>θ (cp i)) b z cs:=by
 obtain⟨cur,e,h1,h2,h3,h4,h5⟩:=h;obtain⟨k1,k2,k3⟩:=k b h4;refine⟨cur,e,by rw[k1];exact h1,h2,by rw[k2];exact h3,k3,fun i c hc=> ?_⟩;obtain⟨u,g1,g2,g3,g4⟩:=h5 i c hc;exact⟨u,g1,g2,QU hβ hm c u g3,YV (kc i) g4⟩
def EF {pl:Pl} (hβ:Ge β β') (hm:Le w m w' m') (k:TP w m ν w' m' ν' id pl) {b:Nat} {cs:Qf} (h:Af num β w m ν pl b cs):Af num β' w' m' ν' pl b cs:=by
 obtain⟨es,clock,xs,h1,h2,h3,h4,h5,h6⟩:=h;obtain⟨k1,k2,k3⟩:=k b h3;refine⟨es,clock,xs,by rw[k1];exact h1,by rw[k2];exact h2,k3,h4,h5,fun i c hc=> ?_⟩;obtain⟨e,x,v,g1,g2,g3,g4⟩:=h6 i c hc;exact⟨e,x,v,g1,g2,QU hβ hm x _ g3,QU hβ hm v _ g4⟩
def YU {i:Nat} {k:Blk} {cs:Qf} (hβ:Ge β β') (hm:Le w m w' m') (k1:TP w m ν w' m' ν' id (.g i)) (k2: ∀j,TP w m ν w' m' ν' id (.gc i j)) (h:Sz num β w m ν i k cs):
  Sz num β' w' m' ν' i k cs:=
 ⟨fun e=>RQ (θ:=id) hβ hm k1 k2 (h.1 e),fun e=>EF hβ hm k1 (h.2.1 e),fun e=>by
  obtain⟨cur,hc⟩:=h.2.2 e;obtain⟨_,_,_,_,_,hv,_⟩:=h.1 e;exact⟨cur,by rw[(k1 k.b hv).1];exact hc⟩⟩
def QdY {i:Nat} {k:Blk} {cs:Qf} (h:Sz num β w m ν i k cs):ν k.b=some (.g i)/\m k.b=0:=by
 cases hk:k.mp
 ·obtain⟨_,_,_,_,h2,h1,_⟩:=h.1 hk;exact⟨h1,h2⟩
 ·obtain⟨_,_,_,_,h2,h1,_⟩:=h.2.1 hk;exact⟨h1,h2⟩
def Ra {θ:Pl->Pl} {pl:Pl} {cp:Nat->Pl} (hβ:Ge β β') (hm:Le w m w' m') (k:TP w m ν w' m' ν' θ pl) (kc: ∀i,TP w m ν w' m' ν' θ (cp i))
  {c:AV} {u:Value} (h:Wo num β w m ν pl cp c u):Wo num β' w' m' ν' (θ pl) (fun i=>θ (cp i)) c u:=by
 cases c
 case undef=>exact trivial
 case bx cs=>
  obtain⟨b,h1,h2⟩:=h;exact⟨b,h1,RQ hβ hm k kc h2⟩
 case pv sz cs=>
  obtain⟨b,n,h1,h2,h3⟩:=h;exact⟨b,n,h1,h2,RQ hβ hm k kc h3⟩
 all_goals exact⟨QU hβ hm _ u h.1,YV k h.2⟩
class Dr where
 d:Prop
structure Zm [Dr] (X:Nat->Prop) (w:World) (m:Nat->Nat) (w':World) (m':Nat->Nat):Prop where
 os:w'.os=w.os
 tape:w'.tape=w.tape
 output:w'.output=w.output
 size:w.heap.size<=w'.heap.size
 same: ∀b,b < w.heap.size->¬X b->w'.heap[b]? =w.heap[b]? /\m' b=m b
 le:Le w m w' m'
 drawn:Dr.d->w.drawn<=w'.drawn
def Za:=@Nat.le_refl
def Zm.refl [Dr] (X:Nat->Prop) (w:World) (m:Q9):Zm X w m w m:=⟨rfl,rfl,rfl,Za _,fun _ _ _=>⟨rfl,rfl⟩,Le.refl w m,fun _=>Za _⟩
def Vb:=@Nat.le_trans
def TV:=@Nat.lt_of_lt_of_le
def Zm.trans [Dr] {X Y:Nat->Prop} {w w' w'':World} {m m' m'':Q9} (h:Zm X w m w' m') (k:Zm Y w' m' w'' m'')
  (hY: ∀b,b < w.heap.size->Y b->X b):Zm X w m w'' m'':=
 ⟨k.os.trans h.os,k.tape.trans h.tape,k.output.trans h.output,Vb h.size k.size,
  fun b hb hx=>by
   have h1:=h.same b hb hx;have h2:=k.same b (TV hb h.size) (fun hy=>hx (hY b hb hy));exact⟨h2.1.trans h1.1,h2.2.trans h1.2⟩,
  h.le.trans k.le,fun hd=>Vb (h.drawn hd) (k.drawn hd)⟩
structure Inv [Dr] (num:Nat->Option Nat) (N:Nat) (w0:World) (m0:Nat->Nat) (T:Nat->Prop) (β0:List Blk) (σ:St) (a:Act) (w:World) (m:Nat->Nat) (β:List Blk) (ν:Own):Prop where
 defers:a.defers=[]
 size:a.tmps.size=N
 out: ∀t,N<=t->σ.env t= .undef
 slots: ∀(t:Nat) (v:Value),a.tmps[t]? =some v->Wo num β w m ν (.s t) (fun i=> .c t i) (σ.env t) v
 blen:β.length=σ.bs.length
 boxes: ∀(i:Nat) (cs:List AV) (k:Blk),σ.bs[i]? =some cs->β[i]? =some k->cs≠[]->Sz num β w m ν i k cs
 lt: ∀b p,ν b=some p->b < w.heap.size/\(w0.heap.size<=b\/T b)
 step:Zm T w0 m0 w m
 ge:Ge β0 β
end
end Go.Am
