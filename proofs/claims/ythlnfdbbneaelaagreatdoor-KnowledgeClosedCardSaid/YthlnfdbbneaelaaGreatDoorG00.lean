/-
  Am1, Am2, Am3.
-/
import Derived.WalkKit
set_option linter.all false
namespace Go.Am
inductive AV where
 | undef
 | int (k:IntKind) (n:Int)
 | bool (b:Bool)
 | anyb
 | str (s:List UInt8)
 | agg (cs:List AV)
 | sl (own:Bool) (sz:Nat) (xs:List (List AV))
 | bx (cs:List AV)
 | gp (id off:Nat)
 | gs (id off sz n:Nat)
 | rptr (cs:List AV)
 | fn (f:Nat) (caps:List AV)
 | tup (vs:List AV)
 | err (isNil:Bool)
 | mp (id:Nat)
 | pv (sz:Nat) (cs:List AV)
 | otup (sz:Nat) (xs:List (List AV)) (vs:List AV)
 | nlp
instance:Inhabited AV:=⟨.undef⟩
def AV.ok:AV->Bool
 | .undef=>false
 | .bx _=>false
 | .pv _ _=>false
 | _=>true
def AV.noOwn:AV->Bool
 | .sl true _ _=>false
 | .otup _ _ _=>false
 | _=>true
def AV.strip:AV->AV
 | .sl _ sz xs=> .sl false sz xs
 | .otup sz xs vs=> .tup (.sl false sz xs:: vs)
 | v=>v
def AV.one:AV->Bool
 | .undef=>false
 | .bx _=>false
 | .pv _ _=>false
 | .agg _=>false
 | .tup _=>false
 | .otup _ _ _=>false
 | _=>true
abbrev Qx:=List AV
def cellsOf:AV->Option Qx
 | .agg cs=>some cs
 | v=>if v.one then some [v.strip]else none
mutual
def AV.gpfree:AV->Bool
 | .gp _ _=>false
 | .gs _ _ sz n=>decide (n=0/\sz=0)
 | .mp _=>false
 | .agg cs=>Q3 cs
 | .bx cs=>Q3 cs
 | .pv _ cs=>Q3 cs
 | .otup _ xs vs=>ZL xs && Q3 vs
 | .rptr cs=>Q3 cs
 | .fn _ cs=>Q3 cs
 | .tup cs=>Q3 cs
 | .sl _ _ xs=>ZL xs
 | _=>true
def Q3:List AV->Bool
 | []=>true
 | c:: cs=>c.gpfree && Q3 cs
def ZL:List (List AV)->Bool
 | []=>true
 | x:: xs=>Q3 x && ZL xs
end
mutual
def eqV:AV->AV->Bool
 | .undef,.undef=>true
 | .int k n,.int k' n'=>decide (k=k') && decide (n=n')
 | .bool a,.bool b=>a == b
 | .anyb,.anyb=>true
 | .str a,.str b=>decide (a=b)
 | .agg a,.agg b=>Si a b
 | .sl o z a,.sl o' z' b=>(o == o') && decide (z=z') && Mq a b
 | .bx a,.bx b=>Si a b
 | .gp i o,.gp i' o'=>decide (i=i') && decide (o=o')
 | .gs i o z n,.gs i' o' z' n'=>decide (i=i') && decide (o=o') && decide (z=z') && decide (n=n')
 | .rptr a,.rptr b=>Si a b
 | .fn f a,.fn f' b=>decide (f=f') && Si a b
 | .tup a,.tup b=>Si a b
 | .err a,.err b=>a == b
 | .mp i,.mp i'=>decide (i=i')
 | .pv z a,.pv z' b=>decide (z=z') && Si a b
 | .otup z a b,.otup z' a' b'=>decide (z=z') && Mq a a' && Si b b'
 | .nlp,.nlp=>true
 | _,_=>false
def Si:List AV->List AV->Bool
 | [],[]=>true
 | a:: aq,b:: bs=>eqV a b && Si aq bs
 | _,_=>false
def Mq:List (List AV)->List (List AV)->Bool
 | [],[]=>true
 | a:: aq,b:: bs=>Si a b && Mq aq bs
 | _,_=>false
end
abbrev Qp:=List (List AV)
def X4:Qp->Qp->Bool
 | [],_=>true
 | x:: xs,y:: ys=>(Si x y || Q3 y) && X4 xs ys
 | _:: _,[]=>false
abbrev Yd:=Nat->AV
def upd (ρ:Yd) (i:Nat) (v:AV):Yd:=fun j=>if j=i then v else ρ j
structure St where
 env:Nat->AV
 bs:List (List AV)
inductive AO where
 | t (n:Nat)
 | c (v:AV)
def val (ρ:Yd):AO->AV
 | .t n=>(ρ n).strip
 | .c v=>v
def stV:AO->Qx->Qx
 | .c (.sl true z []),vs=>vs.map fun _=> .sl true z []
 | _,vs=>vs.map AV.strip
def PQ (x a): (stV x a).length=a.length:=by
 unfold stV;grind
inductive AOp where
 | mov (x:AO)
 | mvs (n:Nat)
 | box (x:AO)
 | alloc (zs:List AV)
 | gbox (x:AO)
 | galloc (zs:List AV)
 | fad (s off:Nat)
 | fadr (p off:Nat)
 | ldf (s off sz:Nat) (ag:Bool)
 | ldfm (s off:Nat)
 | ld (p sz:Nat) (ag:Bool)
 | ldg (p sz:Nat) (ag:Bool)
 | ldm (p:Nat)
 | stf (s off sz:Nat) (x:AO)
 | stfm (s off n:Nat)
 | st (p sz:Nat) (x:AO)
 | stm (p n:Nat)
 | bin (op:BinOp) (x y:AO)
 | eqb (ne:Bool) (x y:AO)
 | isn (ne:Bool) (x:AO)
 | un (op:UnOp) (x:AO)
 | conv (k:IntKind) (x:AO)
 | call (f:Nat) (args:List AO)
 | callq (f:Nat) (args:List AO)
 | callv (g:AO) (args:List AO)
 | lens (x:AO)
 | lenl (x:AO)
 | app (bytes sz:Nat) (s x:AO)
 | appg (bytes sz:Nat) (s x:AO)
 | frz (n sz:Nat)
 | zlit
 | nilp
 | appzz (s x:AO)
 | clr (sz:Nat) (x:AO)
 | mx (x y:AO)
 | mn (x y:AO)
 | mksl (sz:Nat) (parts:List AO)
 | mksg (sz:Nat) (parts:List AO)
 | mkst (zs:List AV) (parts:List (Nat×Nat×AO))
 | idxa (sz:Nat) (x i:AO)
 | idx (x i:AO)
 | slcs (x:AO) (lo hi:Option AO)
 | slcl (sz:Nat) (x:AO) (lo hi:Option AO)
 | pick (c a b:AO)
 | ext (x:AO) (i:Nat)
 | mkfn (f:Nat) (caps:List AO)
 | nilck (x:AO)
 | mkm
 | lkm (s ok:Bool) (x i:AO) (z:AV)
 | upm (s:Bool) (x k y:AO)
 | mpe (s:Bool) (x k:AO) (z:AV)
 | ensf (x st:AO) (n sz:Nat)
 | fld (off sz:Nat) (ag:Bool) (x:AO)
 | mkg (bytes sz:Nat) (zs:List AV) (x:AO)
 | mkp (bytes sz:Nat) (zs:List AV) (x:AO)
 | extm (n:Nat)
 | mkstP (n:Nat) (zs:List AV) (parts:List (Nat×Nat×AO))
 | bstr (x:AO)
 | ldfz (s off sz fo fz:Nat)
 | appM (bytes sz:Nat) (s x:AO)
 | stn (s off sz:Nat) (x:AO) (zs:List AV)
 | stq (p sz:Nat) (x:AO) (q:Nat)
 | stp (p sz:Nat) (x:AO) (q:Nat)
 | slcx (sz:Nat) (x:AO) (lo hi:Option AO)
 | slcc (sz:Nat) (x:AO) (lo:Option AO) (hi mx:AO)
structure QZ where
 dst:Option Nat
 op:AOp
 guard:Option (Nat×Bool):=none
inductive AC where
 | bad
 | skip
 | reg (draw:Bool) (ops:List QZ)
 | seq (a b:AC)
 | cond (c:AO) (a b:AC)
 | block (id:Nat) (c:AC)
 | loop (c:AC)
 | exit (id:Nat)
 | ret
inductive Ex where
 | normal
 | exit (id:Nat)
 | ret
 deriving DecidableEq
inductive Hd where
 | tmp (t:Nat)
 | cell (t sz:Nat) (ag:Bool)
 | own (t:Nat)
structure ZQ where
 nparams:Nat
 ntmps:Nat
 res:List Hd
 body:AC
 keep:Bool:=false
inductive AFn where
 | code (f:ZQ)
 | orc (g:List AV->List (List AV)->Option (AV×List (List AV)))
abbrev Vd:=Nat->List AV->List (List AV)->Option (AV×List (List AV))
def XF (cs:Qx) (off sz:Nat) (ag:Bool):Option AV:=
 if off+sz<=cs.length then
  if ag then some (.agg (((cs.drop off).take sz).map AV.strip))
  else if sz=1 then(cs[off]?).bind fun v=>if v.one then some v.strip else none
  else none
 else none
def put (cs:Qx) (off:Nat) (vs:Qx):Qx:=cs.take off ++ vs ++ cs.drop (off+vs.length)
def toI (k:IntKind) (n:Int):AV:= .int k (k.wrap n)
def Qn:BinOp->AV->AV->Option AV
 | .add,.int k a,.int k' b=>if k=k' then some (toI k (a+b))else none
 | .sub,.int k a,.int k' b=>if k=k' then some (toI k (a - b))else none
 | .mul,.int k a,.int k' b=>if k=k' then some (toI k (a*b))else none
 | .quo,.int k a,.int k' b=>if k=k'/\b≠0 then some (toI k (a.tdiv b))else none
 | .rem,.int k a,.int k' b=>if k=k'/\b≠0 then some (.int k (a.tmod b))else none
 | .eql,.int k a,.int k' b=>if k=k' then some (.bool (a == b))else none
 | .neq,.int k a,.int k' b=>if k=k' then some (.bool (a != b))else none
 | .lss,.int k a,.int k' b=>if k=k' then some (.bool (decide (a < b)))else none
 | .leq,.int k a,.int k' b=>if k=k' then some (.bool (decide (a<=b)))else none
 | .gtr,.int k a,.int k' b=>if k=k' then some (.bool (decide (a > b)))else none
 | .geq,.int k a,.int k' b=>if k=k' then some (.bool (decide (a>=b)))else none
 | .shr,.int k a,.int _ b=>if 0<=b then some (.int k (a / 2 ^ min b.toNat k.bits))else none
 | .shl,.int k a,.int _ b=>if 0<=b then some (toI k (a*2 ^ min b.toNat k.bits))else none
 | .and,.int k a,.int k' b=>if k=k' then some (toI k (BitVec.ofInt k.bits a &&& BitVec.ofInt k.bits b).toNat)else none
 | .or,.int k a,.int k' b=>if k=k' then some (toI k (BitVec.ofInt k.bits a ||| BitVec.ofInt k.bits b).toNat)else none
 | .xor,.int k a,.int k' b=>if k=k' then some (toI k (BitVec.ofInt k.bits a ^^^ BitVec.ofInt k.bits b).toNat)else none
 | .andNot,.int k a,.int k' b=>if k=k' then some (toI k (BitVec.ofInt k.bits a &&& ~~~BitVec.ofInt k.bits b).toNat)else none
 | .add,.str a,.str b=>if a.length+b.length<=9223372036854775807 then some (.str (a ++ b))else none
 | .eql,.str a,.str b=>some (.bool (a == b))
 | .neq,.str a,.str b=>some (.bool !(a == b))
 | .lss,.str a,.str b=>some (.bool (Op.bytesLess a b))
 | .leq,.str a,.str b=>some (.bool (Op.bytesLess a b || a == b))
 | .gtr,.str a,.str b=>some (.bool !(Op.bytesLess a b || a == b))
 | .geq,.str a,.str b=>some (.bool !(Op.bytesLess a b))
 | _,_,_=>none
def aun:UnOp->AV->Option AV
 | .not,.bool b=>some (.bool !b)
 | .neg,.int k a=>some (toI k (0 - a))
 | _,_=>none
def VD (vs:Qx):Bool:=vs.all AV.ok
def UM (zs:Qx):List (Nat×Nat×AV)->Option Qx
 | []=>some zs
 | (off,sz,v):: r=>match cellsOf v with
  | some vs=>if vs.length=sz/\off+vs.length<=zs.length then UM (put zs off (vs.map AV.strip)) r else none
  | none=>none
def Wl (sz:Nat):Qx->Option Qp
 | []=>some []
 | v:: r=>match cellsOf v,Wl sz r with
  | some vs,some rs=>if vs.length=sz then some (vs.map AV.strip:: rs)else none
  | _,_=>none
abbrev Rc:=Option Nat
def Yh (n:Nat) (d:Nat):Option AV->Rc
 | none=>some d
 | some (.int _ i)=>if 0<=i/\i<=n then some i.toNat else none
 | some _=>none
def Ny:Bool->AV->AV->Option Bool
 | false,.int k a,.int k' b=>if k=k' then some (a == b)else none
 | true,.str a,.str b=>some (a == b)
 | _,_,_=>none
def Oi:Bool->AV->Bool
 | false,.int _ _=>true
 | true,.str _=>true
 | _,_=>false
def Wu (s:Bool):Qx->AV->Option (Option AV)
 | [],q=>if Oi s q then some none else none
 | .agg [k,v]:: es,q=>match Ny s q k with
  | some true=>some (some v)
  | some false=>Wu s es q
  | none=>none
 | _,_=>none
def MG (s:Bool):Qx->AV->AV->Option Qx
 | [],q,v=>if Oi s q then some [.agg [q,v]]else none
 | .agg [k,v']:: es,q,v=>match Ny s q k with
  | some true=>some (.agg [q,v]:: es)
  | some false=>(MG s es q v).map (.agg [k,v']:: ·)
  | none=>none
 | _,_,_=>none
def Oh (s:Bool):Qx->AV->Nat
 | .agg [k,_]:: es,q=>match Ny s q k with
  | some true=>0
  | _=>Oh s es q+1
 | _,_=>0
def Qh4:Qx->Option UInt8
 | [.int .u8 n]=>if 0<=n/\n < 256 then some (UInt8.ofNat n.toNat)else none
 | _=>none
abbrev Zq:=List UInt8
def KS:Qp->Option Zq
 | []=>some []
 | x:: r=>(Qh4 x).bind fun b=>(KS r).map (b:: ·)
def ZW (cs:Qx) (off sz n:Nat):Qp:=(List.range n).map fun k=>((cs.drop (off+k*sz)).take sz).map AV.strip
def Z8 (σ:St) (n sz:Nat):Option (AV×St):=match σ.env n with
 | .gs id o sz1 k=>if sz1=sz/\0 < sz then
   (if k=0 then some (.sl false sz [],{σ with env:=upd σ.env n .undef})
    else(σ.bs[id]?).bind fun cs=>if o+k*sz<=cs.length then some (.sl (decide (o=0)) sz (ZW cs o sz k),{env:=upd σ.env n .undef,bs:=σ.bs.set id []})else none)
   else if sz1=0/\k=0 then some (.sl true sz [],{σ with env:=upd σ.env n .undef})else none
 | _=>none
def OC (σ:St) (x st v:AV):Option (AV×St):=match x,st with
 | .mp id,.int .i64 n=>(σ.bs[id]?).bind fun cs=>if cs=[]\/v.one=false\/n < 0 then none else
  match (cs.drop 1)[n.toNat]? with
  | some (.agg [k,_])=>some (.undef,{σ with bs:=σ.bs.set id (.undef:: (cs.drop 1).set n.toNat (.agg [k,v.strip]))})
  | _=>none
 | _,_=>none
def Ll (c z:AV):AV:=match c,z with
 | .gs _ _ 0 0,.sl true k []=> .sl true k []
 | c,_=>c.strip
def UQ:Qx->Qx->Qx
 | [],_=>[]
 | c:: cs,[]=>c.strip:: UQ cs []
 | c:: cs,z:: zs=>Ll c z:: UQ cs zs
def Ul: ∀a b:Qx,(UQ a b).length=a.length
 | [],_=>rfl
 | c:: a,[]=>by simp[UQ,Ul a []]
 | c:: a,z:: b=>by simp[UQ,Ul a b]
def XR (sz:Nat) (x:AV) (bs:Qp):Option (Nat×Qx):=match x with
 | .sl _ sz2 ys=>if sz2=sz then some (ys.length,ys.flatten.map AV.strip)else none
 | .gs id o sz2 n=>if n=0 then(if sz2=sz\/sz2=0 then some (0,[])else none)
   else if sz2=sz then(bs[id]?).bind fun cs=>if o+n*sz<=cs.length then some (n,((cs.drop o).take (n*sz)).map AV.strip)else none else none
 | _=>none
def appM (bytes sz:Nat) (s x:AV) (bs:Qp):Option (AV×Qp):=match s with
 | .gs id o sz1 k=>(XR sz x bs).bind fun q=>
   if 0 < sz/\(k+q.1)*bytes<=140737488355328 then
    if q.1=0 then some (.gs id o sz1 k,bs)
    else if sz1=0/\k=0 then some (.gs bs.length 0 sz q.1,bs ++ [q.2])
    else if sz1=sz/\o=0 then(bs[id]?).bind fun cs=>
      if cs≠[]/\k*sz<=cs.length then
       (if(k+q.1)*sz<=cs.length then some (.gs id 0 sz (k+q.1),bs.set id (put cs (k*sz) q.2))
       else some (.gs bs.length 0 sz (k+q.1),bs.set id []++ [(cs.take (k*sz)).map AV.strip ++ q.2]))
      else none
    else none
   else none
 | _=>none
def Qe1 (bytes sz:Nat) (s:AV) (q:Nat×Qx) (bs:Qp):Option (AV×Qp):=match s with
 | .gs id o sz1 k=>
   if 0 < sz/\(k+q.1)*bytes<=140737488355328 then
    if q.1=0 then some (.gs id o sz1 k,bs)
    else if sz1=0/\k=0 then some (.gs bs.length 0 sz q.1,bs ++ [q.2])
    else if sz1=sz/\o=0 then(bs[id]?).bind fun cs=>
      if cs≠[]/\k*sz<=cs.length then
       (if(k+q.1)*sz<=cs.length then some (.gs id 0 sz (k+q.1),bs.set id (put cs (k*sz) q.2))
       else some (.gs bs.length 0 sz (k+q.1),bs.set id []++ [(cs.take (k*sz)).map AV.strip ++ q.2]))
      else none
    else none
   else none
 | _=>none
def Qk (K:Vd):AOp->St->Option (AV×St)
 | .mov x,σ=>let v:=val σ.env x;if v.ok then some (v,σ)else none
 | .mvs n,σ=>let v:=σ.env n;if v.ok then some (v,{σ with env:=upd σ.env n .undef})else none
 | .box x,σ=>(cellsOf (val σ.env x)).map fun cs=>(.bx (cs.map AV.strip),σ)
 | .alloc zs,σ=>some (.bx zs,σ)
 | .gbox x,σ=>(cellsOf (val σ.env x)).map fun cs=>(.gp σ.bs.length 0,{σ with bs:=σ.bs ++ [cs.map AV.strip]})
 | .galloc zs,σ=>some (.gp σ.bs.length 0,{σ with bs:=σ.bs ++ [zs]})
 | .fad s _,σ=>match σ.env s with
  | .bx _=>some (.undef,σ)
  | _=>none
 | .fadr p off,σ=>match σ.env p with
  | .gp i o=>some (.gp i (o+off),σ)
  | .rptr cs=>some (.rptr (cs.drop off),σ)
  | _=>none
 | .ldf s off sz ag,σ=>match σ.env s with
  | .bx cs=>(XF cs off sz ag).map fun v=>(v,σ)
  | _=>none
 | .ldfm s off,σ=>match σ.env s with
  | .bx cs=>(cs[off]?).bind fun v=>if v.one then some (v,{σ with env:=upd σ.env s (.bx (cs.set off .undef))})else none
  | _=>none
 | .ld p sz ag,σ=>match σ.env p with
  | .rptr cs=>(XF cs 0 sz ag).map fun v=>(v,σ)
  | _=>none
 | .ldg p sz ag,σ=>match σ.env p with
  | .gp i o=>(σ.bs[i]?).bind fun cs=>(XF cs o sz ag).map fun v=>(v,σ)
  | _=>none
 | .ldm p,σ=>match σ.env p with
  | .gp i o=>(σ.bs[i]?).bind fun cs=>(cs[o]?).bind fun v=>if v.one then some (v,{σ with bs:=σ.bs.set i (cs.set o .undef)})else none
  | _=>none
 | .stf s off sz x,σ=>match σ.env s with
  | .bx cs=>(cellsOf (val σ.env x)).bind fun vs=>
   if vs.length=sz/\off+vs.length<=cs.length then some (.undef,{σ with env:=upd σ.env s (.bx (put cs off (stV x vs)))})else none
  | _=>none
 | .stfm s off n,σ=>match σ.env s with
  | .bx cs=>if s≠n/\(σ.env n).one/\off < cs.length then some (.undef,{σ with env:=upd (upd σ.env n .undef) s (.bx (cs.set off (σ.env n)))})else none
  | _=>none
 | .st p sz x,σ=>match σ.env p with
  | .gp i o=>(σ.bs[i]?).bind fun cs=>(cellsOf (val σ.env x)).bind fun vs=>
   if vs.length=sz/\o+vs.length<=cs.length/\0 < sz then some (.undef,{σ with bs:=σ.bs.set i (put cs o (vs.map AV.strip))})else none
  | _=>none
 | .stm p n,σ=>match σ.env p with
  | .gp i o=>(σ.bs[i]?).bind fun cs=>if(σ.env n).one/\o < cs.length then some (.undef,{env:=upd σ.env n .undef,bs:=σ.bs.set i (cs.set o (σ.env n))})else none
  | _=>none
 | .bin op x y,σ=>(Qn op (val σ.env x) (val σ.env y)).map fun v=>(v,σ)
 | .eqb ne x y,σ=>match val σ.env x,val σ.env y with
  | .bool a,.bool b=>some (.bool (if ne then !(a == b)else a == b),σ)
  | _,_=>none
 | .isn ne x,σ=>match val σ.env x with
  | .sl _ _ []=>some (.anyb,σ)
  | .sl _ _ (_:: _)=>some (.bool ne,σ)
  | _=>none
 | .un op x,σ=>(aun op (val σ.env x)).map fun v=>(v,σ)
 | .conv k x,σ=>match val σ.env x with
  | .int _ n=>some (toI k n,σ)
  | _=>none
 | .call f args,σ=>let vs:=args.map (val σ.env);if VD vs then(K f vs σ.bs).map fun(r,bs)=>(r,{σ with bs})else none
 | .callq f args,σ=>let vs:=args.map (val σ.env);if VD vs then(K f vs σ.bs).bind fun p=>if Mq p.2 σ.bs then some (p.1,σ)else none else none
 | .callv g args,σ=>match val σ.env g with
  | .fn f caps=>let vs:=args.map (val σ.env)++ caps;if VD vs then(K f vs σ.bs).map fun(r,bs)=>(r,{σ with bs})else none
  | _=>none
 | .lens x,σ=>match val σ.env x with
  | .str s=>some (.int .i64 s.length,σ)
  | _=>none
 | .lenl x,σ=>match val σ.env x with
  | .sl _ _ xs=>some (.int .i64 xs.length,σ)
  | .gs _ _ _ n=>some (.int .i64 n,σ)
  | _=>none
 | .app bytes sz s x,σ=>match (match s with | .t n=>(σ.env n,upd σ.env n .undef) | .c v=>(v,σ.env)),val σ.env x with
  | (.sl true sz1 xs,ρ),.sl _ sz2 ys=>
   if sz1=sz/\sz2=sz/\(xs.length+ys.length)*bytes<=140737488355328 then some (.sl true sz (xs ++ ys),{σ with env:=ρ})else none
  | _,_=>none
 | .appg bytes sz s x,σ=>match (match s with | .t n=>(σ.env n,upd σ.env n .undef) | .c v=>(v,σ.env)),val σ.env x with
  | (.sl true sz1 [],ρ),.sl _ sz2 ys=>
   if sz1=sz/\sz2=sz/\ys.length*bytes<=140737488355328 then
    (if ys.length=0 then none else some (.gs σ.bs.length 0 sz ys.length,{env:=ρ,bs:=σ.bs ++ [ys.flatten.map AV.strip]}))
   else none
  | _,_=>none
 | .frz n sz,σ=>Z8 σ n sz
 | .zlit,σ=>some (.gs 0 0 0 0,σ)
 | .nilp,σ=>some (.nlp,σ)
 | .appzz s x,σ=>match val σ.env s,val σ.env x with
  | .gs _ _ 0 0,.sl _ _ []=>some (.gs 0 0 0 0,σ)
  | _,_=>none
 | .clr sz x,σ=>match val σ.env x with
  | .gs id o sz1 k=>if sz1=sz/\0 < sz then
    (if k=0 then some (.undef,σ)else(σ.bs[id]?).bind fun cs=>if o+k*sz<=cs.length then some (.undef,{σ with bs:=σ.bs.set id (put cs o (List.replicate (k*sz) .undef))})else none)
    else none
  | _=>none
 | .mx x y,σ=>match val σ.env x,val σ.env y with
  | .int k a,.int k' b=>if k=k' then some (.int k (if b > a then b else a),σ)else none
  | _,_=>none
 | .mn x y,σ=>match val σ.env x,val σ.env y with
  | .int k a,.int k' b=>if k=k' then some (.int k (if b < a then b else a),σ)else none
  | _,_=>none
 | .mksl sz parts,σ=>(Wl sz (parts.map (val σ.env))).map fun xs=>(.sl true sz xs,σ)
 | .mksg sz parts,σ=>(Wl sz (parts.map (val σ.env))).map fun xs=>(.gs σ.bs.length 0 sz xs.length,{σ with bs:=σ.bs ++ [xs.flatten.map AV.strip]})
 | .mkst zs parts,σ=>(UM zs (parts.map fun p=>(p.1,p.2.1,val σ.env p.2.2))).map fun cs=>(.agg cs,σ)
 | .idxa sz x i,σ=>match val σ.env x,val σ.env i with
  | .sl _ sz1 xs,.int _ n=>if sz1=sz/\0<=n then(xs[n.toNat]?).map fun e=>(.rptr e,σ)else none
  | .gs id o sz1 k,.int _ n=>if sz1=sz/\0<=n/\n < k then some (.gp id (o+n.toNat* sz),σ)else none
  | _,_=>none
 | .idx x i,σ=>match val σ.env x,val σ.env i with
  | .str s,.int _ n=>if 0<=n then(s[n.toNat]?).map fun b=>(.int .u8 b.toNat,σ)else none
  | _,_=>none
 | .slcs x lo hi,σ=>match val σ.env x with
  | .str s=>(Yh s.length s.length (hi.map (val σ.env))).bind fun h=>(Yh h 0 (lo.map (val σ.env))).map fun l=>(.str ((s.take h).drop l),σ)
  | _=>none
 | .slcl sz x lo hi,σ=>match val σ.env x with
  | .sl _ sz1 xs=>if sz1=sz then(Yh xs.length xs.length (hi.map (val σ.env))).bind fun h=>(Yh h 0 (lo.map (val σ.env))).map fun l=>(.sl false sz ((xs.take h).drop l),σ)else none
  | .gs id o sz1 k=>if sz1=sz/\0 < sz then(Yh k k (hi.map (val σ.env))).bind fun h=>(Yh h 0 (lo.map (val σ.env))).map fun l=>(.gs id (o+l*sz) sz (h - l),σ)
   else if sz1=0/\k=0 then(Yh 0 0 (hi.map (val σ.env))).bind fun h=>(Yh h 0 (lo.map (val σ.env))).map fun l=>(.gs 0 0 0 0,σ)else none
  | _=>none
 | .pick c a b,σ=>match val σ.env c with
  | .bool true=>let v:=val σ.env a;if v.ok then some (v,σ)else none
  | .bool false=>let v:=val σ.env b;if v.ok then some (v,σ)else none
  | _=>none
 | .ext x i,σ=>match val σ.env x with
  | .tup vs=>(vs[i]?).bind fun v=>if v.ok then some (v.strip,σ)else none
  | _=>none
 | .mkfn f caps,σ=>let vs:=caps.map (val σ.env);if vs.all AV.one then some (.fn f vs,σ)else none
 | .nilck x,σ=>let v:=val σ.env x;match v with
  | .fn _ _=>some (v,σ)
  | .gp _ _=>some (v,σ)
  | .rptr _=>some (v,σ)
  | _=>none
 | .fld off sz ag x,σ=>match val σ.env x with
  | .agg cs=>(XF cs off sz ag).map fun v=>(v,σ)
  | _=>none
 | .ldfz s off sz fo fz,σ=>match σ.env s with
  | .bx cs=>match cs[fo]? with
   | some (.gs id o sz1 k)=>if sz1=fz/\0 < fz/\k≠0 then(σ.bs[id]?).bind fun c2=>if o+k*fz<=c2.length then
     (XF (cs.set fo (.sl false fz (ZW c2 o fz k))) off sz true).map fun v=>(v,{env:=upd σ.env s (.bx (cs.set fo .undef)),bs:=σ.bs.set id []})else none
    else if k=0 then(XF (cs.set fo (.sl false fz [])) off sz true).map fun v=>(v,σ)else none
   | _=>none
  | _=>none
 | .mkg bytes sz zs x,σ=>match val σ.env x with
  | .int _ n=>if 0<=n/\n.toNat* bytes<=140737488355328/\n<=4611686018427387904/\0 < sz/\zs.length=sz then some (.gs σ.bs.length 0 sz n.toNat,{σ with bs:=σ.bs ++ [(List.replicate n.toNat zs).flatten]})else none
  | _=>none
 | .mkp bytes sz zs x,σ=>match val σ.env x with
  | .int _ n=>if 0<=n/\n.toNat* bytes<=140737488355328/\n<=4611686018427387904/\0 < sz/\zs.length=sz then some (.pv sz (List.replicate n.toNat zs).flatten,σ)else none
  | _=>none
 | .extm n,σ=>match σ.env n with
  | .otup sz xs vs=>some (.sl true sz xs,{σ with env:=upd σ.env n (.tup (.sl false sz xs:: vs))})
  | _=>none
 | .mkstP n zs parts,σ=>match σ.env n with
  | .pv sz cs=>if cs.all AV.noOwn then
    (UM zs (parts.map fun p=>(p.1,p.2.1,val (upd σ.env n (.gs σ.bs.length 0 sz (cs.length / sz))) p.2.2))).map fun c=>(.agg c,{env:=upd σ.env n .undef,bs:=σ.bs ++ [cs]})
   else none
  | _=>none
 | .bstr x,σ=>match val σ.env x with
  | .sl _ 1 xs=>(KS xs).map fun s=>(.str s,σ)
  | _=>none
 | .appM bytes sz s x,σ=>(appM bytes sz (val σ.env s) (val σ.env x) σ.bs).map fun p=>(p.1,{σ with bs:=p.2})
 | .stn s off sz x zs,σ=>match σ.env s with
  | .bx cs=>(cellsOf (val σ.env x)).bind fun vs=>
   if vs.length=sz/\off+vs.length<=cs.length then some (.undef,{σ with env:=upd σ.env s (.bx (put cs off (UQ vs zs)))})else none
  | _=>none
 | .stq p sz x q,σ=>match σ.env p,σ.env q with
  | .gp i o,.gp i2 _=>if i=i2 then none else(σ.bs[i]?).bind fun cs=>(cellsOf (val σ.env x)).bind fun vs=>
   if vs.length=sz/\o+vs.length<=cs.length/\0 < sz then some (.undef,{σ with bs:=σ.bs.set i (put cs o (vs.map AV.strip))})else none
  | _,_=>none
 | .stp p sz x q,σ=>match σ.env p,σ.env q with
  | .gp i o,.gp i2 o2=>if i=i2/\o < o2+sz/\o2 < o+sz then none else(σ.bs[i]?).bind fun cs=>(cellsOf (val σ.env x)).bind fun vs=>
   if vs.length=sz/\o+vs.length<=cs.length/\0 < sz then some (.undef,{σ with bs:=σ.bs.set i (put cs o (vs.map AV.strip))})else none
  | _,_=>none
 | .slcx sz x lo hi,σ=>match val σ.env x with
  | .gs id o sz1 k=>if sz1=sz/\0 < sz then(σ.bs[id]?).bind fun cs=>(Yh ((cs.length - o) / sz) k (hi.map (val σ.env))).bind fun h=>(Yh h 0 (lo.map (val σ.env))).map fun l=>(.gs id (o+l*sz) sz (h - l),σ)else none
  | _=>none
 | .slcc _ x lo hi mx,σ=>match val σ.env x with
  | .sl _ _ xs=>(Yh xs.length 0 (some (val σ.env mx))).bind fun M=>(Yh M 0 (some (val σ.env hi))).bind fun H=>(Yh H 0 (lo.map (val σ.env))).map fun _=>(.undef,σ)
  | .gs _ _ _ k=>(Yh k 0 (some (val σ.env mx))).bind fun M=>(Yh M 0 (some (val σ.env hi))).bind fun H=>(Yh H 0 (lo.map (val σ.env))).map fun _=>(.undef,σ)
  | _=>none
 | .mkm,σ=>some (.mp σ.bs.length,{σ with bs:=σ.bs ++ [[.undef]]})
 | .lkm s ok x i z,σ=>match val σ.env x with
  | .mp id=>(σ.bs[id]?).bind fun cs=>if cs=[]then none else(Wu s (cs.drop 1) (val σ.env i)).bind fun r=>if(r.getD z).strip.ok then some (if ok then .tup [(r.getD z).strip,.bool r.isSome]else(r.getD z).strip,σ)else none
  | _=>none
 | .upm s x k y,σ=>match val σ.env x with
  | .mp id=>(σ.bs[id]?).bind fun cs=>if cs=[]\/(val σ.env y).one=false then none else
   (MG s (cs.drop 1) (val σ.env k) (val σ.env y).strip).map fun es=>(.undef,{σ with bs:=σ.bs.set id (.undef:: es)})
  | _=>none
 | .mpe s x k z,σ=>match val σ.env x with
  | .mp id=>(σ.bs[id]?).bind fun cs=>if cs=[]then none else(Wu s (cs.drop 1) (val σ.env k)).map fun r=>
   if r.isSome then(.tup [(r.getD z).strip,.int .i64 (Oh s (cs.drop 1) (val σ.env k))],σ)
   else(.tup [z.strip,.int .i64 (cs.drop 1).length],{σ with bs:=σ.bs.set id (.undef:: (cs.drop 1 ++ [.agg [val σ.env k,z.strip]]))})
  | _=>none
 | .ensf x st n sz,σ=>(Z8 σ n sz).bind fun p=>OC p.2 (val p.2.env x) (val p.2.env st) p.1
def Xl (ρ:Yd) (d:Rc) (v:AV):Yd:=match d with
 | some d=>upd ρ d v
 | none=>ρ
def YL (K:Vd) (o:QZ) (σ:St):Option St:=
 match o.guard with
 | none=>(Qk K o.op σ).map fun(v,s)=>{s with env:=Xl s.env o.dst v}
 | some (t,b)=>match σ.env t with
  | .bool c=>if c=b then(Qk K o.op σ).map fun(v,s)=>{s with env:=Xl s.env o.dst v}
   else some {σ with env:=Xl σ.env o.dst (.tup [])}
  | .tup []=>some {σ with env:=Xl σ.env o.dst (.tup [])}
  | _=>none
abbrev T1:=List QZ
def YP (K:Vd):T1->St->Option St
 | [],σ=>some σ
 | o:: os,σ=>(YL K o σ).bind (YP K os)
def SZ (f:St->Option (Ex×St)):Nat->St->Option (Ex×St)
 | 0,_=>none
 | n+1,σ=>match f σ with
  | some (.normal,s)=>SZ f n s
  | r=>r
def Z5 (K:Vd) (n:Nat):AC->St->Option (Ex×St)
 | .bad,_=>none
 | .skip,σ=>some (.normal,σ)
 | .reg _ ops,σ=>(YP K ops σ).map fun s=>(.normal,s)
 | .seq a b,σ=>match Z5 K n a σ with
  | some (.normal,s)=>Z5 K n b s
  | r=>r
 | .cond c a b,σ=>match val σ.env c with
  | .bool true=>Z5 K n a σ
  | .bool false=>Z5 K n b σ
  | _=>none
 | .block id c,σ=>match Z5 K n c σ with
  | some (.exit i,s)=>some (if i=id then .normal else .exit i,s)
  | r=>r
 | .loop c,σ=>SZ (Z5 K n c) n σ
 | .exit id,σ=>some (.exit id,σ)
 | .ret,σ=>some (.ret,σ)
def Wm (args:Qx):Yd:=fun i=>(args.getD i .undef).strip
def Te (ρ:Yd):Hd->Option AV
 | .tmp t=>let v:=ρ t;if v.ok then some v else none
 | .cell t sz ag=>match ρ t with
  | .bx cs=>XF cs 0 sz ag
  | _=>none
 | .own t=>match ρ t with
  | .sl true sz xs=>some (.sl true sz xs)
  | _=>none
def WG (ρ:Yd):List Hd->Option Qx
 | []=>some []
 | r:: rs=>match Te ρ r,WG ρ rs with
  | some v,some vs=>some (v:: vs)
  | _,_=>none
def Im:List Hd->Bool
 | .own _:: _=>true
 | _=>false
@[simp] def Qwd:Im []=false:=rfl
@[simp] def Qwf (t a):Im (.tmp t:: a)=false:=rfl
@[simp] def Qvb (t c a b):Im (.cell t c a:: b)=false:=rfl
@[simp] def Qwe (t a):Im (.own t:: a)=true:=rfl
def We (f:ZQ) (bs:Qp) (σ:St):Option (AV×Qp):=
 if Im f.res then(match WG σ.env f.res with
  | some (.sl true sz xs:: v2:: vs)=>if f.keep then some (.otup sz xs ((v2:: vs).map AV.strip),σ.bs)else if(ZL xs && Q3 (v2:: vs))=true/\X4 bs (σ.bs.take bs.length)then some (.otup sz xs ((v2:: vs).map AV.strip),σ.bs.take bs.length)else none
  | _=>none)
 else match WG σ.env f.res with
 | some [v]=>if f.keep then some (v,σ.bs)else if v.gpfree/\X4 bs (σ.bs.take bs.length)then some (v,σ.bs.take bs.length)else none
 | some vs=>if f.keep then some (.tup (vs.map AV.strip),σ.bs)else if Q3 vs/\X4 bs (σ.bs.take bs.length)then some (.tup (vs.map AV.strip),σ.bs.take bs.length)else none
 | none=>none
abbrev Sc:=Nat->Option AFn
def Xu (T:Sc):Nat->Vd
 | 0,_,_,_=>none
 | n+1,f,args,bs=>match T f with
  | none=>none
  | some (.orc g)=>g args bs
  | some (.code fn)=>
   if args.length=fn.nparams then
    match Z5 (Xu T n) n fn.body {env:=Wm args,bs}with
    | some (.normal,σ)=>We fn bs σ
    | some (.ret,σ)=>We fn bs σ
    | _=>none
   else none
structure Blk where
 b:Nat
 z:Nat
 mp:Bool:=false
abbrev QkG:=Nat->Option Value
abbrev Xs:=Nat->Nat
def hg (w:World) (m:Xs) (b:Nat):QkG:=fun i=>if i < m b then w.cell? ⟨b,i,none⟩else none
mutual
def Qh (num:Nat->Option Nat) (β:List Blk) (w:World) (m:Nat->Nat):AV->Value->Prop
 | .undef,u=>u.oneCell'=true
 | .int k n,u=>u= .int k n
 | .bool b,u=>u= .bool b
 | .anyb,u=>∃b,u= .bool b
 | .str s,u=>u= .string ⟨s.toArray⟩
 | .agg cs,u=>∃us:Array Value,u= .agg us/\us.size=cs.length/\XM num β w m cs (fun i=>us[i]?) 0
 | .sl _ sz xs,u=>∃a len cap,u= .slice a len cap/\xs.length=len/\len<=cap/\cap<=maxLen/\
   (xs=[]\/∃b o,a=some ⟨b,o,none⟩/\XN num β w m xs (hg w m b) o sz)
 | .bx _,_=>False
 | .gp i o,u=>∃k:Blk,(β[i]? =some k/\k.mp=false)/\u= .pointer (some ⟨k.b,o,none⟩)
 | .gs i o sz n,u=>∃a cap,u= .slice a n cap/\n<=cap/\cap<=maxLen/\((n=0/\cap=0/\(sz=0\/∃k:Blk,(β[i]? =some k/\k.mp=false)/\k.z<=o))\/∃k:Blk,(β[i]? =some k/\k.mp=false)/\a=some ⟨k.b,o,none⟩/\o+cap*sz=k.z/\0 < sz)
 | .rptr cs,u=>∃b o,u= .pointer (some ⟨b,o,none⟩)/\XM num β w m cs (hg w m b) o
 | .fn f caps,u=>∃g us,num f=some g/\u= .func (.func g) #[] us/\us.size=caps.length/\XM num β w m caps (fun i=>us[i]?) 0
 | .tup vs,u=>∃us:Array Value,u= .tuple us/\us.size=vs.length/\VK num β w m vs (fun i=>us[i]?) 0
 | .err n,u=>(n=true/\u= .nilIface)\/(n=false/\∃t x,u= .iface t x)
 | .mp i,u=>∃k:Blk,(β[i]? =some k/\k.mp=true)/\u= .map (some k.b)
 | .pv _ _,_=>False
 | .otup sz xs vs,u=>∃us:Array Value,u= .tuple us/\us.size=vs.length+1/\
   ((∃u0,us[0]? =some u0/\∃a len cap,u0= .slice a len cap/\xs.length=len/\len<=cap/\cap<=maxLen/\(xs=[]\/∃b o,a=some ⟨b,o,none⟩/\XN num β w m xs (hg w m b) o sz))/\
    VK num β w m vs (fun i=>us[i]?) (0+1))
 | .nlp,u=>u= .pointer none
def XM (num:Nat->Option Nat) (β:List Blk) (w:World) (m:Nat->Nat):List AV->(Nat->Option Value)->Nat->Prop
 | [],_,_=>True
 | c:: cs,g,o=>(∃u,g o=some u/\u.oneCell'=true/\Qh num β w m c u)/\XM num β w m cs g (o+1)
def VK (num:Nat->Option Nat) (β:List Blk) (w:World) (m:Nat->Nat):List AV->(Nat->Option Value)->Nat->Prop
 | [],_,_=>True
 | c:: cs,g,o=>(∃u,g o=some u/\Qh num β w m c u)/\VK num β w m cs g (o+1)
def XN (num:Nat->Option Nat) (β:List Blk) (w:World) (m:Nat->Nat):List (List AV)->(Nat->Option Value)->Nat->Nat->Prop
 | [],_,_,_=>True
 | x:: xs,g,o,sz=>x.length=sz/\XM num β w m x g o/\XN num β w m xs g (o+sz) sz
end
def Le (w:World) (m:Xs) (w':World) (m':Xs):Prop:=∀b i u,hg w m b i=some u->hg w' m' b i=some u
def Le.refl (w m):Le w m w m:=fun _ _ _ h=>h
def Le.trans {w w' d m m' e} (h:Le w m w' m') (k:Le w' m' d e):Le w m d e:=fun b i u f=>k b i u (h b i u f)
abbrev UH:=List Blk
def Ge (β β':UH):Prop:=∀(i:Nat) (b:Blk),β[i]? =some b->β'[i]? =some b
def Ge.refl (β):Ge β β:=fun _ _ h=>h
def Y3:=@List.getElem?_append_left
def Zt:=@Nat.lt_or_ge
def ZF:=@List.getElem?_eq_none
def Ge.append (β c):Ge β (β ++ c):=fun i b h=>by
 rwa[Y3 (by rcases Zt i β.length with a | a;exact a;rw[ZF a]at h;cases h)]
section
variable {num:Nat->Option Nat} {β β':List Blk} {w w':World} {m m':Nat->Nat}
mutual
theorem ZU (hβ:Ge β β') (hm:Le w m w' m'): ∀(c:AV) (u:Value),Qh num β w m c u->Qh num β' w' m' c u
 | .undef,u,h=>h
 | .int k n,u,h=>h
 | .bool b,u,h=>h
 | .anyb,u,h=>h
 | .nlp,u,h=>h
 | .str s,u,h=>h
 | .agg cs,u,h=>by
  simp only[Qh]at h ⊢;obtain⟨us,h1,h2,h3⟩:=h;exact⟨us,h1,h2,RA hβ hm cs _ _ 0 (fun _ _ h=>h) h3⟩
 | .sl o sz xs,u,h=>by
  simp only[Qh]at h ⊢;obtain⟨a,len,cap,h1,h2,h3,h4,h5⟩:=h;refine⟨a,len,cap,h1,h2,h3,h4,?_⟩;rcases h5 with h5 | ⟨b,o,h6,h7⟩
  ·exact .inl h5
  ·exact .inr ⟨b,o,h6,T7 hβ hm xs _ _ o sz (hm b) h7⟩
 | .bx cs,u,h=>by simp only[Qh]at h
 | .pv _ cs,u,h=>by simp only[Qh]at h
 | .otup sz xs vs,u,h=>by
  simp only[Qh]at h ⊢;obtain⟨us,h1,h2,⟨u0,h3,a,len,cap,k1,k2,k3,k4,k5⟩,h4⟩:=h;refine⟨us,h1,h2,⟨u0,h3,a,len,cap,k1,k2,k3,k4,?_⟩,Jk hβ hm vs _ _ (0+1) (fun _ _ h=>h) h4⟩;rcases k5 with h5 | ⟨b,o,h6,h7⟩
  ·exact .inl h5
  ·exact .inr ⟨b,o,h6,T7 hβ hm xs _ _ o sz (hm b) h7⟩
 | .gp i o,u,h=>by
  simp only[Qh]at h ⊢;obtain⟨b,h1,h2⟩:=h;exact⟨b,⟨hβ i b h1.1,h1.2⟩,h2⟩
 | .gs i o sz n,u,h=>by
  simp only[Qh]at h ⊢;obtain⟨a,cap,h1,h2,h3,h4⟩:=h;refine⟨a,cap,h1,h2,h3,?_⟩;rcases h4 with⟨h4,h5,h6⟩ | ⟨k,h5,h6⟩
  ·refine .inl ⟨h4,h5,?_⟩;rcases h6 with h6 | ⟨k,h6,h7⟩
   ·exact .inl h6
   ·exact .inr ⟨k,⟨hβ i k h6.1,h6.2⟩,h7⟩
  ·exact .inr ⟨k,⟨hβ i k h5.1,h5.2⟩,h6⟩
 | .rptr cs,u,h=>by
  simp only[Qh]at h ⊢;obtain⟨b,o,h1,h2⟩:=h;exact⟨b,o,h1,RA hβ hm cs _ _ o (hm b) h2⟩
 | .fn f caps,u,h=>by
  simp only[Qh]at h ⊢;obtain⟨g,us,h0,h1,h2,h3⟩:=h;exact⟨g,us,h0,h1,h2,RA hβ hm caps _ _ 0 (fun _ _ h=>h) h3⟩
 | .tup vs,u,h=>by
  simp only[Qh]at h ⊢;obtain⟨us,h1,h2,h3⟩:=h;exact⟨us,h1,h2,Jk hβ hm vs _ _ 0 (fun _ _ h=>h) h3⟩
 | .err n,u,h=>h
 | .mp i,u,h=>by
  simp only[Qh]at h ⊢;obtain⟨b,h1,h2⟩:=h;exact⟨b,⟨hβ i b h1.1,h1.2⟩,h2⟩
theorem RA (hβ:Ge β β') (hm:Le w m w' m'): ∀(cs:List AV) (g g':Nat->Option Value) (o:Nat),(∀i u,g i=some u->g' i=some u)->
  XM num β w m cs g o->XM num β' w' m' cs g' o
 | [],_,_,_,_,_=>by simp only[XM]
 | c:: cs,g,g',o,hg,h=>by
  simp only[XM]at h ⊢;obtain⟨⟨u,h1,h2,h3⟩,h4⟩:=h;exact⟨⟨u,hg o u h1,h2,ZU hβ hm c u h3⟩,RA hβ hm cs g g' (o+1) hg h4⟩
theorem Jk (hβ:Ge β β') (hm:Le w m w' m'): ∀(cs:List AV) (g g':Nat->Option Value) (o:Nat),(∀i u,g i=some u->g' i=some u)->
  VK num β w m cs g o->VK num β' w' m' cs g' o
 | [],_,_,_,_,_=>by simp only[VK]
 | c:: cs,g,g',o,hg,h=>by
  simp only[VK]at h ⊢;obtain⟨⟨u,h1,h3⟩,h4⟩:=h;exact⟨⟨u,hg o u h1,ZU hβ hm c u h3⟩,Jk hβ hm cs g g' (o+1) hg h4⟩
theorem T7 (hβ:Ge β β') (hm:Le w m w' m'): ∀(xs:List (List AV)) (g g':Nat->Option Value) (o sz:Nat),(∀i u,g i=some u->g' i=some u)->
  XN num β w m xs g o sz->XN num β' w' m' xs g' o sz
 | [],_,_,_,_,_,_=>by simp only[XN]
 | x:: xs,g,g',o,sz,hg,h=>by
  simp only[XN]at h ⊢;obtain⟨h1,h2,h3⟩:=h;exact⟨h1,RA hβ hm x g g' o hg h2,T7 hβ hm xs g g' (o+sz) sz hg h3⟩
end
mutual
theorem OX {w0:World} {m0:Nat->Nat} (hβ:Ge β β'): ∀(c:AV) (u0 u:Value),Qh num β w0 m0 c u0->Qh num β' w m c u->Qh num β w m c u
 | .undef,_,u,_,h=>h
 | .int k n,_,u,_,h=>h
 | .bool b,_,u,_,h=>h
 | .anyb,_,u,_,h=>h
 | .nlp,_,u,_,h=>h
 | .str s,_,u,_,h=>h
 | .agg cs,u0,u,h0,h=>by
  simp only[Qh]at h0 h ⊢;obtain⟨us0,_,_,h03⟩:=h0;obtain⟨us,h1,h2,h3⟩:=h;exact⟨us,h1,h2,OU hβ cs _ _ 0 0 h03 h3⟩
 | .sl o sz xs,u0,u,h0,h=>by
  simp only[Qh]at h0 h ⊢;obtain⟨_,_,_,_,_,_,_,h05⟩:=h0;obtain⟨a,len,cap,h1,h2,h3,h4,h5⟩:=h;refine⟨a,len,cap,h1,h2,h3,h4,?_⟩;rcases h5 with h5 | ⟨b,o,h6,h7⟩
  ·exact .inl h5
  ·rcases h05 with h05 | ⟨b0,o0,h06,h07⟩
   ·exact .inl h05
   ·exact .inr ⟨b,o,h6,Jf hβ xs _ _ o0 o sz h07 h7⟩
 | .bx cs,_,u,_,h=>by simp only[Qh]at h
 | .pv _ cs,_,u,_,h=>by simp only[Qh]at h
 | .otup sz xs vs,u0,u,h0,h=>by
  simp only[Qh]at h0 h ⊢;obtain⟨_,_,_,⟨_,_,_,_,_,_,_,_,_,h05⟩,h04⟩:=h0;obtain⟨us,h1,h2,⟨u0,h3,a,len,cap,k1,k2,k3,k4,k5⟩,h4⟩:=h;refine⟨us,h1,h2,⟨u0,h3,a,len,cap,k1,k2,k3,k4,?_⟩,Ji hβ vs _ _ (0+1) (0+1) h04 h4⟩;rcases k5 with h5 | ⟨b,o,h6,h7⟩
  ·exact .inl h5
  ·rcases h05 with h05 | ⟨b0,o0,h06,h07⟩
   ·exact .inl h05
   ·exact .inr ⟨b,o,h6,Jf hβ xs _ _ o0 o sz h07 h7⟩
 | .gp i o,u0,u,h0,h=>by
  simp only[Qh]at h0 h ⊢;obtain⟨k0,h1,_⟩:=h0;obtain⟨k,h2,h3⟩:=h;have e:=hβ i k0 h1.1;rw[h2.1]at e;injection e with e
  subst e;exact⟨k,h1,h3⟩
 | .gs i o sz n,u0,u,h0,h=>by
  simp only[Qh]at h0 h ⊢;obtain⟨_,cap0,_,q1,_,h04⟩:=h0;obtain⟨a,cap,h1,h2,h3,h4⟩:=h;refine⟨a,cap,h1,h2,h3,?_⟩;have hk:sz=0\/∃k:Blk,β[i]? =some k/\k.mp=false:=by
   rcases h04 with h04 | ⟨k0,h05,_⟩
   ·exact h04.2.2.imp id fun⟨k,h,_⟩=>⟨k,h⟩
   ·exact .inr ⟨k0,h05⟩
  rcases h4 with h4 | ⟨k,h5,h6,h7,h8⟩
  ·refine .inl ⟨h4.1,h4.2.1,?_⟩;rcases hk with hk | ⟨k0,h05⟩
   ·exact .inl hk
   ·rcases h4.2.2 with h6 | ⟨k,h6,h7⟩
    ·exact .inl h6
    ·have e:=hβ i k0 h05.1;rw[h6.1]at e;injection e with e
     subst e;exact .inr ⟨k,h05,h7⟩
  ·rcases hk with hk | ⟨k0,h05⟩
   ·omega
   ·have e:=hβ i k0 h05.1;rw[h5.1]at e;injection e with e
    subst e;exact .inr ⟨k,h05,h6,h7,h8⟩
 | .rptr cs,u0,u,h0,h=>by
  simp only[Qh]at h0 h ⊢;obtain⟨_,o0,_,h02⟩:=h0;obtain⟨b,o,h1,h2⟩:=h;exact⟨b,o,h1,OU hβ cs _ _ o0 o h02 h2⟩
 | .fn f caps,u0,u,h0,h=>by
  simp only[Qh]at h0 h ⊢;obtain⟨_,_,_,_,_,h03⟩:=h0;obtain⟨g,us,e,h1,h2,h3⟩:=h;exact⟨g,us,e,h1,h2,OU hβ caps _ _ 0 0 h03 h3⟩
 | .tup vs,u0,u,h0,h=>by
  simp only[Qh]at h0 h ⊢;obtain⟨_,_,_,h03⟩:=h0;obtain⟨us,h1,h2,h3⟩:=h;exact⟨us,h1,h2,Ji hβ vs _ _ 0 0 h03 h3⟩
 | .err n,_,u,_,h=>h
 | .mp i,u0,u,h0,h=>by
  simp only[Qh]at h0 h ⊢;obtain⟨k0,h1,_⟩:=h0;obtain⟨k,h2,h3⟩:=h;have e:=hβ i k0 h1.1;rw[h2.1]at e;injection e with e
  subst e;exact⟨k,h1,h3⟩
theorem OU {w0:World} {m0:Nat->Nat} (hβ:Ge β β'): ∀(cs:List AV) (g0 g:Nat->Option Value) (o0 o:Nat),XM num β w0 m0 cs g0 o0->XM num β' w m cs g o->XM num β w m cs g o
 | [],_,_,_,_,_,_=>by simp only[XM]
 | c:: cs,g0,g,o0,o,h0,h=>by
  simp only[XM]at h0 h ⊢;obtain⟨⟨u0,_,_,h03⟩,h04⟩:=h0;obtain⟨⟨u,h1,h2,h3⟩,h4⟩:=h;exact⟨⟨u,h1,h2,OX hβ c u0 u h03 h3⟩,OU hβ cs g0 g (o0+1) (o+1) h04 h4⟩
theorem Ji {w0:World} {m0:Nat->Nat} (hβ:Ge β β'): ∀(cs:List AV) (g0 g:Nat->Option Value) (o0 o:Nat),VK num β w0 m0 cs g0 o0->VK num β' w m cs g o->VK num β w m cs g o
 | [],_,_,_,_,_,_=>by simp only[VK]
 | c:: cs,g0,g,o0,o,h0,h=>by
  simp only[VK]at h0 h ⊢;obtain⟨⟨u0,_,h03⟩,h04⟩:=h0;obtain⟨⟨u,h1,h3⟩,h4⟩:=h;exact⟨⟨u,h1,OX hβ c u0 u h03 h3⟩,Ji hβ cs g0 g (o0+1) (o+1) h04 h4⟩
theorem Jf {w0:World} {m0:Nat->Nat} (hβ:Ge β β'): ∀(xs:List (List AV)) (g0 g:Nat->Option Value) (o0 o sz:Nat),XN num β w0 m0 xs g0 o0 sz->XN num β' w m xs g o sz->XN num β w m xs g o sz
 | [],_,_,_,_,_,_,_=>by simp only[XN]
 | x:: xs,g0,g,o0,o,sz,h0,h=>by
  simp only[XN]at h0 h ⊢;obtain⟨_,h02,h03⟩:=h0;obtain⟨h1,h2,h3⟩:=h;exact⟨h1,OU hβ x g0 g o0 o h02 h2,Jf hβ xs g0 g (o0+sz) (o+sz) sz h03 h3⟩
end
end
end Go.Am
namespace Go.Am
section
variable {num:Nat->Option Nat} {β β':List Blk} {w w':World} {m m':Nat->Nat}
def Y1: ∀e g o,XM num β w m e g o↔
  ∀i c,e[i]? =some c->∃u,g (o+i)=some u/\u.oneCell'=true/\Qh num β w m c u
 | [],g,o=>by simp[XM]
 | c:: e,g,o=>by
  simp only[XM,Y1 e g (o+1)];constructor;rintro⟨j,f⟩ i d a;cases i with | zero=>simp at a;subst a;simpa using j | succ i=>simp at a;have:=f i d a;rwa[show o+ (i+1)=o+1+i by omega]
  intro h;refine⟨by simpa using h 0 c rfl,fun i d a=> ?_⟩;have:=h (i+1) d (by simpa using a);rwa[show o+ (i+1)=o+1+i by omega]at this
def N5: ∀b g o,VK num β w m b g o↔
  ∀i c,b[i]? =some c->∃u,g (o+i)=some u/\Qh num β w m c u
 | [],g,o=>by simp[VK]
 | c:: b,g,o=>by
  simp only[VK,N5 b g (o+1)];constructor;rintro⟨f,e⟩ i d a;cases i with | zero=>simp at a;subst a;simpa using f | succ i=>simp at a;have:=e i d a;rwa[show o+ (i+1)=o+1+i by omega]
  intro h;refine⟨by simpa using h 0 c rfl,fun i d a=> ?_⟩;have:=h (i+1) d (by simpa using a);rwa[show o+ (i+1)=o+1+i by omega]at this
def U6:=@Nat.succ_mul
def Vk: ∀c g o a,XN num β w m c g o a↔
  ∀i x,c[i]? =some x->x.length=a/\XM num β w m x g (o+i*a)
 | [],g,o,a=>by simp[XN]
 | x:: c,g,o,a=>by
  simp only[XN,Vk c g (o+a) a];constructor;rintro⟨e,j,f⟩ i d b;cases i with | zero=>simp at b;subst b;exact⟨e,by simpa using j⟩ | succ i=>simp at b;have:=f i d b;rwa[show o+ (i+1)*a=o+a+i*a by rw[U6];omega]
  intro h;have e:=h 0 x rfl;refine⟨e.1,by simpa using e.2,fun i d b=> ?_⟩;have:=h (i+1) d (by simpa using b);rwa[show o+ (i+1)*a=o+a+i*a by rw[U6];omega]at this
def Qr:=@Bool.and_eq_true
def QM:=@decide_eq_true_eq
mutual
theorem Tj: ∀(c:AV) (u:Value),c.gpfree=true->Qh num β w m c u->Qh num β' w m c u
 | .undef,u,_,h=>h
 | .int k n,u,_,h=>h
 | .bool b,u,_,h=>h
 | .anyb,u,_,h=>h
 | .nlp,u,_,h=>h
 | .str s,u,_,h=>h
 | .agg cs,u,hf,h=>by
  simp only[Qh,AV.gpfree]at h hf ⊢;obtain⟨us,h1,h2,h3⟩:=h;exact⟨us,h1,h2,OV cs _ 0 hf h3⟩
 | .sl o sz xs,u,hf,h=>by
  simp only[Qh,AV.gpfree]at h hf ⊢;obtain⟨a,len,cap,h1,h2,h3,h4,h5⟩:=h;refine⟨a,len,cap,h1,h2,h3,h4,?_⟩;rcases h5 with h5 | ⟨b,o,h6,h7⟩
  ·exact .inl h5
  ·exact .inr ⟨b,o,h6,Jg xs _ o sz hf h7⟩
 | .bx cs,u,_,h=>by simp only[Qh]at h
 | .pv _ cs,u,_,h=>by simp only[Qh]at h
 | .otup sz xs vs,u,hf,h=>by
  simp only[Qh,AV.gpfree,Qr]at h hf ⊢;obtain⟨us,h1,h2,⟨u0,h3,a,len,cap,k1,k2,k3,k4,k5⟩,h4⟩:=h;refine⟨us,h1,h2,⟨u0,h3,a,len,cap,k1,k2,k3,k4,?_⟩,Jj vs _ (0+1) hf.2 h4⟩;rcases k5 with h5 | ⟨b,o,h6,h7⟩
  ·exact .inl h5
  ·exact .inr ⟨b,o,h6,Jg xs _ o sz hf.1 h7⟩
 | .gp i o,u,hf,h=>by simp[AV.gpfree]at hf
 | .gs i o sz n,u,hf,h=>by
  simp only[Qh,AV.gpfree,QM]at h hf ⊢;obtain⟨a,cap,h1,h2,h3,h4⟩:=h;refine⟨a,cap,h1,h2,h3,.inl ⟨hf.1,?_,.inl hf.2⟩⟩;rcases h4 with h4 | ⟨_,_,_,_,h5⟩
  ·exact h4.2.1
  ·omega
 | .rptr cs,u,hf,h=>by
  simp only[Qh,AV.gpfree]at h hf ⊢;obtain⟨b,o,h1,h2⟩:=h;exact⟨b,o,h1,OV cs _ o hf h2⟩
 | .fn f caps,u,hf,h=>by
  simp only[Qh,AV.gpfree]at h hf ⊢;obtain⟨g,us,h0,h1,h2,h3⟩:=h;exact⟨g,us,h0,h1,h2,OV caps _ 0 hf h3⟩
 | .tup vs,u,hf,h=>by
  simp only[Qh,AV.gpfree]at h hf ⊢;obtain⟨us,h1,h2,h3⟩:=h;exact⟨us,h1,h2,Jj vs _ 0 hf h3⟩
 | .err n,u,_,h=>h
 | .mp i,u,hf,h=>by simp[AV.gpfree]at hf
theorem OV: ∀(cs:List AV) (g:Nat->Option Value) (o:Nat),Q3 cs=true->XM num β w m cs g o->XM num β' w m cs g o
 | [],_,_,_,_=>by simp only[XM]
 | c:: cs,g,o,hf,h=>by
  simp only[XM,Q3,Qr]at h hf ⊢;obtain⟨⟨u,h1,h2,h3⟩,h4⟩:=h;exact⟨⟨u,h1,h2,Tj c u hf.1 h3⟩,OV cs g (o+1) hf.2 h4⟩
theorem Jj: ∀(cs:List AV) (g:Nat->Option Value) (o:Nat),Q3 cs=true->VK num β w m cs g o->VK num β' w m cs g o
 | [],_,_,_,_=>by simp only[VK]
 | c:: cs,g,o,hf,h=>by
  simp only[VK,Q3,Qr]at h hf ⊢;obtain⟨⟨u,h1,h3⟩,h4⟩:=h;exact⟨⟨u,h1,Tj c u hf.1 h3⟩,Jj cs g (o+1) hf.2 h4⟩
theorem Jg: ∀(xs:List (List AV)) (g:Nat->Option Value) (o sz:Nat),ZL xs=true->XN num β w m xs g o sz->XN num β' w m xs g o sz
 | [],_,_,_,_,_=>by simp only[XN]
 | x:: xs,g,o,sz,hf,h=>by
  simp only[XN,ZL,Qr]at h hf ⊢;obtain⟨h1,h2,h3⟩:=h;exact⟨h1,OV x g o hf.1 h2,Jg xs g (o+sz) sz hf.2 h3⟩
end
def OG: ∀b,Q3 b=true↔∀(i:Nat) c,b[i]? =some c->c.gpfree=true
 | []=>by simp[Q3]
 | c:: b=>by
  simp only[Q3,Qr,OG b];constructor;rintro⟨f,e⟩ i d a;cases i with | zero=>simp at a;subst a;exact f | succ i=>exact e i d (by simpa using a)
  intro h;exact⟨h 0 c rfl,fun i d a=>h (i+1) d (by simpa using a)⟩
def ZH:=@List.length_cons
@[simp] def Zg (c u):Qh num β w m c.strip u↔Qh num β w m c u:=by
 cases c <;> first | exact Iff.rfl | simp only[AV.strip,Qh,VK,ZH];done | simp only[AV.strip,Qh,VK,ZH];exact Iff.rfl
@[simp] def A3 (c:AV):c.strip.gpfree=c.gpfree:=by cases c <;> simp[AV.strip,AV.gpfree,Q3]
def NB {c u} (d:c.one=true) (h:Qh num β w m c u):u.oneCell'=true:=by
 cases c <;> simp only[AV.one,Qh]at d h <;> try cases d
 case int=>subst h;rfl
 case bool=>subst h;rfl
 case anyb=>obtain⟨b,rfl⟩:=h;rfl
 case nlp=>subst h;rfl
 case str=>subst h;rfl
 case sl=>obtain⟨a,l,c,rfl,_⟩:=h;rfl
 case gp=>obtain⟨b,_,rfl⟩:=h;rfl
 case gs=>obtain⟨a,c,rfl,_⟩:=h;rfl
 case rptr=>obtain⟨b,o,rfl,_⟩:=h;rfl
 case fn=>obtain⟨g,e,_,rfl,_⟩:=h;rfl
 case err n=>rcases h with⟨_,rfl⟩ | ⟨_,t,x,rfl⟩ <;> rfl
 case mp i=>obtain⟨b,_,rfl⟩:=h;rfl
end
inductive Pl where
 | f
 | fc (i:Nat)
 | s (t:Nat)
 | c (t i:Nat)
 | g (i:Nat)
 | gc (i j:Nat)
 deriving DecidableEq
abbrev Own:=Nat->Option Pl
abbrev Vw:=Array Value
def Yr (w:World) (m:Xs) (ν:Own) (p:Pl):AV->Value->Prop
 | .sl true sz xs,u=>(∃a,u= .slice a 0 0)\/∃b cap cur e,u= .slice (some ⟨b,0,none⟩) xs.length cap/\w.heap[b]? =some (.cells cur e (0,0))/\
   cur.size=cap*sz/\m b=xs.length*sz/\ν b=some p
 | .otup sz xs _,u=>∃(us:Vw) (u0:Value),u= .tuple us/\us[0]? =some u0/\((∃a,u0= .slice a 0 0)\/∃b cap cur e,u0= .slice (some ⟨b,0,none⟩) xs.length cap/\w.heap[b]? =some (.cells cur e (0,0))/\
   cur.size=cap*sz/\m b=xs.length*sz/\ν b=some p)
 | _,_=>True
abbrev WL:=Nat->Option Nat
def Ce (num:WL) (β:UH) (w:World) (m:Xs) (ν:Own) (pl:Pl) (cp:Nat->Pl) (b z:Nat) (cs:Qx):Prop:=
 ∃cur e,w.heap[b]? =some (.cells cur e (0,0))/\(cur.size=z/\cs.length<=z)/\m b=0/\ν b=some pl/\
  ∀i c,cs[i]? =some c->∃u,cur[i]? =some u/\u.oneCell'=true/\Qh num β w m c u/\Yr w m ν (cp i) c u
def PU (es:Array MapEntry) (clock:Nat):Prop:=clock=es.size/\∀(i:Nat) (e:MapEntry),es[i]? =some e->e.born=i
def Qkx (num:WL) (β:UH) (w:World) (m:Xs) (ν:Own) (pl:Pl) (b:Nat) (cs:Qx):Prop:=
 ∃(es:Array MapEntry) (clock:Nat) (xs:Qx),w.heap[b]? =some (.map es clock)/\m b=0/\ν b=some pl/\cs= .undef:: xs/\(xs.length=es.size/\PU es clock)/\
  ∀(i:Nat) (c:AV),xs[i]? =some c->∃(e:MapEntry) (k v:AV),es[i]? =some e/\c= .agg [k,v]/\Qh num β w m k e.key/\Qh num β w m v e.val
def La (num:WL) (β:UH) (w:World) (m:Xs) (ν:Own) (i:Nat) (k:Blk) (cs:Qx):Prop:=
 (k.mp=false->Ce num β w m ν (.g i) (fun j=> .gc i j) k.b k.z cs)/\(k.mp=true->Qkx num β w m ν (.g i) k.b cs)
def Pb (num:WL) (β:UH) (w:World) (m:Xs) (ν:Own) (pl:Pl) (cp:Nat->Pl):AV->Value->Prop
 | .undef,_=>True
 | .bx cs,u=>∃b,u= .pointer (some ⟨b,0,none⟩)/\Ce num β w m ν pl cp b cs.length cs
 | .pv sz cs,u=>∃b k,u= .slice (some ⟨b,0,none⟩) k k/\(k<=maxLen/\0 < sz/\k*sz=cs.length)/\Ce num β w m ν pl cp b cs.length cs
 | c,u=>Qh num β w m c u/\Yr w m ν pl c u
section
variable {num:Nat->Option Nat} {β β':List Blk} {w w':World} {m m':Nat->Nat} {ν ν':Own}
def Zr {a d c u} (e:c.ok=true):Pb num β w m ν a d c u↔Qh num β w m c u/\Yr w m ν a c u:=by
 cases c <;> simp[AV.ok]at e <;> rfl
def Lb (w:World) (m:Xs) (ν:Own) (w':World) (m':Xs) (ν':Own) (θ:Pl->Pl) (p:Pl):Prop:=
 ∀b,ν b=some p->w'.heap[b]? =w.heap[b]? /\m' b=m b/\ν' b=some (θ p)
def V4 {θ p} (k:Lb w m ν w' m' ν' θ p) {c u} (h:Yr w m ν p c u):Yr w' m' ν' (θ p) c u:=by
 cases c <;> try exact trivial
 case sl o s t=>cases o;exact trivial;rcases h with h | ⟨b,d,a,e,g,y,l,z,f⟩;exact .inl h;obtain⟨n,i,j⟩:=k b f;exact .inr ⟨b,d,a,e,g,by rwa[n],l,by rwa[i],j⟩
 case otup s t B=>obtain⟨v,A,x,r,h⟩:=h;refine⟨v,A,x,r,?_⟩;rcases h with h | ⟨b,d,a,e,g,y,l,z,f⟩;exact .inl h;obtain⟨n,i,j⟩:=k b f;exact .inr ⟨b,d,a,e,g,by rwa[n],l,by rwa[i],j⟩
def Jb {θ d a} (g:Ge β β') (l:Le w m w' m') (k:Lb w m ν w' m' ν' θ d) (B: ∀i,Lb w m ν w' m' ν' θ (a i))
  {b z j} (h:Ce num β w m ν d a b z j):Ce num β' w' m' ν' (θ d) (fun i=>θ (a i)) b z j:=by
 obtain⟨f,e,D,y,C,x,A⟩:=h;obtain⟨p,t,n⟩:=k b x;refine⟨f,e,by rwa[p],y,by rwa[t],n,fun i c o=> ?_⟩;obtain⟨u,v,q,r,s⟩:=A i c o;exact⟨u,v,q,ZU g l c u r,V4 (B i) s⟩
def QhE {f} (d:Ge β β') (j:Le w m w' m') (k:Lb w m ν w' m' ν' id f) {b g} (h:Qkx num β w m ν f b g):Qkx num β' w' m' ν' f b g:=by
 obtain⟨A,a,o,E,D,r,n,C,z⟩:=h;obtain⟨q,l,p⟩:=k b r;refine⟨A,a,o,by rwa[q],by rwa[l],p,n,C,fun i c y=> ?_⟩;obtain⟨e,x,v,B,u,s,t⟩:=z i c y;exact⟨e,x,v,B,u,ZU d j x _ s,ZU d j v _ t⟩
def V3 {i k c} (a:Ge β β') (b:Le w m w' m') (d:Lb w m ν w' m' ν' id (.g i)) (f: ∀j,Lb w m ν w' m' ν' id (.gc i j)) (h:La num β w m ν i k c):
  La num β' w' m' ν' i k c:=
 ⟨fun e=>Jb (θ:=id) a b d f (h.1 e),fun e=>QhE a b d (h.2 e)⟩
def Qrt {i k d} (h:La num β w m ν i k d):ν k.b=some (.g i)/\m k.b=0:=by
 cases c:k.mp;obtain⟨_,_,_,_,b,a,_⟩:=h.1 c;exact⟨a,b⟩;obtain⟨_,_,_,_,b,a,_⟩:=h.2 c;exact⟨a,b⟩
def L6 {θ pl cp} (a:Ge β β') (d:Le w m w' m') (k:Lb w m ν w' m' ν' θ pl) (g: ∀i,Lb w m ν w' m' ν' θ (cp i))
  {c u} (h:Pb num β w m ν pl cp c u):Pb num β' w' m' ν' (θ pl) (fun i=>θ (cp i)) c u:=by
 cases c;case undef=>exact trivial
 case bx j=>obtain⟨b,e,f⟩:=h;exact⟨b,e,Jb a d k g f⟩
 case pv o j=>obtain⟨b,n,e,f,l⟩:=h;exact⟨b,n,e,f,Jb a d k g l⟩
 all_goals exact⟨ZU a d _ u h.1,V4 k h.2⟩
class Dr where
 d:Prop
structure Y2 [Dr] (X:Nat->Prop) (w:World) (m:Nat->Nat) (w':World) (m':Nat->Nat):Prop where
 os:w'.os=w.os
 tape:w'.tape=w.tape
 output:w'.output=w.output
 size:w.heap.size<=w'.heap.size
 same: ∀b,b < w.heap.size->¬X b->w'.heap[b]? =w.heap[b]? /\m' b=m b
 le:Le w m w' m'
 drawn:Dr.d->w.drawn<=w'.drawn
def QX:=@Nat.le_refl
def Y2.refl [Dr] (X w m):Y2 X w m w m:=⟨rfl,rfl,rfl,QX _,fun _ _ _=>⟨rfl,rfl⟩,Le.refl w m,fun _=>QX _⟩
def Y8:=@Nat.le_trans
def Lz:=@Nat.lt_of_lt_of_le
def Y2.trans [Dr] {X Y w w' d m m' e} (h:Y2 X w m w' m') (k:Y2 Y w' m' d e)
  (o: ∀b,b < w.heap.size->Y b->X b):Y2 X w m d e:=
 ⟨k.os.trans h.os,k.tape.trans h.tape,k.output.trans h.output,Y8 h.size k.size,
  fun b f g=>by
   have j:=h.same b f g;have l:=k.same b (Lz f h.size) (fun n=>g (o b f n));exact⟨l.1.trans j.1,l.2.trans j.2⟩,
  h.le.trans k.le,fun i=>Y8 (h.drawn i) (k.drawn i)⟩
structure Inv [Dr] (num:Nat->Option Nat) (N:Nat) (w0:World) (m0:Nat->Nat) (T:Nat->Prop) (β0:List Blk) (σ:St) (a:Act) (w:World) (m:Nat->Nat) (β:List Blk) (ν:Own):Prop where
 defers:a.defers=[]
 size:a.tmps.size=N
 out: ∀t,N<=t->σ.env t= .undef
 slots: ∀(t:Nat) (v:Value),a.tmps[t]? =some v->Pb num β w m ν (.s t) (fun i=> .c t i) (σ.env t) v
 blen:β.length=σ.bs.length
 boxes: ∀(i:Nat) (cs:List AV) (k:Blk),σ.bs[i]? =some cs->β[i]? =some k->cs≠[]->La num β w m ν i k cs
 lt: ∀b p,ν b=some p->b < w.heap.size/\(w0.heap.size<=b\/T b)
 step:Y2 T w0 m0 w m
 ge:Ge β0 β
end
end Go.Am
