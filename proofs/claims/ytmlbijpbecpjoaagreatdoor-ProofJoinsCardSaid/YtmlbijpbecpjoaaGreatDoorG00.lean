/-
  Am1, Am2, Am3.
-/
import Derived.WalkKit
set_option linter.all false
namespace Go.Am
inductive AV where
 | undef
 | int (k:IntKind) (n:Int)
 | bool (b:Bool)
 | anyb
 | str (s:List UInt8)
 | agg (cs:List AV)
 | sl (own:Bool) (sz:Nat) (xs:List (List AV))
 | bx (cs:List AV)
 | gp (id off:Nat)
 | gs (id off sz n:Nat)
 | rptr (cs:List AV)
 | fn (f:Nat) (caps:List AV)
 | tup (vs:List AV)
 | err (isNil:Bool)
 | mp (id:Nat)
 | pv (sz:Nat) (cs:List AV)
 | otup (sz:Nat) (xs:List (List AV)) (vs:List AV)
 | nlp
 | gb (ty id n:Nat)
 | gt (ty id:Nat)
 | bf (f:Nat) (caps:List AV)
instance:Inhabited AV:=⟨.undef⟩
def AV.ok:AV->Bool
 | .undef=>false
 | .bx _=>false
 | .pv _ _=>false
 | _=>true
def AV.noOwn:AV->Bool
 | .sl true _ _=>false
 | .otup _ _ _=>false
 | _=>true
def AV.strip:AV->AV
 | .sl _ sz xs=> .sl false sz xs
 | .otup sz xs vs=> .tup (.sl false sz xs:: vs)
 | v=>v
def AV.one:AV->Bool
 | .undef=>false
 | .bx _=>false
 | .pv _ _=>false
 | .agg _=>false
 | .tup _=>false
 | .otup _ _ _=>false
 | _=>true
abbrev Qh:=List AV
def cellsOf:AV->Option Qh
 | .agg cs=>some cs
 | v=>if v.one then some [v.strip]else none
mutual
def AV.gpfree:AV->Bool
 | .gp _ _=>false
 | .gb _ _ _=>false
 | .gt _ _=>false
 | .gs _ _ sz n=>decide (n=0/\sz=0)
 | .mp _=>false
 | .agg cs=>QY cs
 | .bx cs=>QY cs
 | .pv _ cs=>QY cs
 | .otup _ xs vs=>Zw xs && QY vs
 | .rptr cs=>QY cs
 | .fn _ cs=>QY cs
 | .bf _ cs=>QY cs
 | .tup cs=>QY cs
 | .sl _ _ xs=>Zw xs
 | _=>true
def QY:List AV->Bool
 | []=>true
 | c:: cs=>c.gpfree && QY cs
def Zw:List (List AV)->Bool
 | []=>true
 | x:: xs=>QY x && Zw xs
end
mutual
def eqV:AV->AV->Bool
 | .undef,.undef=>true
 | .int k n,.int k' n'=>decide (k=k') && decide (n=n')
 | .bool a,.bool b=>a == b
 | .anyb,.anyb=>true
 | .str a,.str b=>decide (a=b)
 | .agg a,.agg b=>UF a b
 | .sl o z a,.sl o' z' b=>(o == o') && decide (z=z') && PB a b
 | .bx a,.bx b=>UF a b
 | .gp i o,.gp i' o'=>decide (i=i') && decide (o=o')
 | .gs i o z n,.gs i' o' z' n'=>decide (i=i') && decide (o=o') && decide (z=z') && decide (n=n')
 | .rptr a,.rptr b=>UF a b
 | .fn f a,.fn f' b=>decide (f=f') && UF a b
 | .bf f a,.bf f' b=>decide (f=f') && UF a b
 | .tup a,.tup b=>UF a b
 | .err a,.err b=>a == b
 | .mp i,.mp i'=>decide (i=i')
 | .pv z a,.pv z' b=>decide (z=z') && UF a b
 | .otup z a b,.otup z' a' b'=>decide (z=z') && PB a a' && UF b b'
 | .nlp,.nlp=>true
 | .gb t i n,.gb t' i' n'=>decide (t=t') && decide (i=i') && decide (n=n')
 | .gt t i,.gt t' i'=>decide (t=t') && decide (i=i')
 | _,_=>false
def UF:List AV->List AV->Bool
 | [],[]=>true
 | a:: aq,b:: bs=>eqV a b && UF aq bs
 | _,_=>false
def PB:List (List AV)->List (List AV)->Bool
 | [],[]=>true
 | a:: aq,b:: bs=>UF a b && PB aq bs
 | _,_=>false
end
abbrev Qa:=List (List AV)
def X6:Qa->Qa->Bool
 | [],_=>true
 | x:: xs,y:: ys=>(UF x y || QY y) && X6 xs ys
 | _:: _,[]=>false
abbrev Ql:=Nat->AV
def upd (ρ:Ql) (i:Nat) (v:AV):Ql:=fun j=>if j=i then v else ρ j
structure St where
 env:Nat->AV
 bs:List (List AV)
inductive AO where
 | t (n:Nat)
 | c (v:AV)
def val (ρ:Ql):AO->AV
 | .t n=>(ρ n).strip
 | .c v=>v
def stV:AO->Qh->Qh
 | .c (.sl true z []),vs=>vs.map fun _=> .sl true z []
 | _,vs=>vs.map AV.strip
def SF (x:AO) (vs:Qh): (stV x vs).length=vs.length:=by
 unfold stV;split <;> simp
inductive AOp where
 | mov (x:AO)
 | mvs (n:Nat)
 | box (x:AO)
 | alloc (zs:List AV)
 | gbox (x:AO)
 | gbxn (x:AO) (zs:List AV)
 | galloc (zs:List AV)
 | fad (s off:Nat)
 | fadr (p off:Nat)
 | ldf (s off sz:Nat) (ag:Bool)
 | ldfm (s off:Nat)
 | ld (p sz:Nat) (ag:Bool)
 | ldg (p sz:Nat) (ag:Bool)
 | ldm (p:Nat)
 | stf (s off sz:Nat) (x:AO)
 | stfm (s off n:Nat)
 | st (p sz:Nat) (x:AO)
 | stm (p n:Nat)
 | bin (op:BinOp) (x y:AO)
 | eqb (ne:Bool) (x y:AO)
 | eqn (ne:Bool) (x:AO)
 | eqa (ne:Bool) (ks:List Nat) (x y:AO)
 | isn (ne:Bool) (x:AO)
 | un (op:UnOp) (x:AO)
 | conv (k:IntKind) (x:AO)
 | call (f:Nat) (args:List AO)
 | callq (f:Nat) (args:List AO)
 | callv (g:AO) (args:List AO)
 | lens (x:AO)
 | lenl (x:AO)
 | app (bytes sz:Nat) (s x:AO)
 | appg (bytes sz:Nat) (s x:AO)
 | appz (bytes sz n:Nat) (x:AO)
 | frz (n sz:Nat)
 | zlit
 | nilp
 | appzz (s x:AO)
 | clr (sz:Nat) (x:AO)
 | mx (x y:AO)
 | mn (x y:AO)
 | mksl (sz:Nat) (parts:List AO)
 | mksg (sz:Nat) (parts:List AO)
 | mkst (zs:List AV) (parts:List (Nat×Nat×AO))
 | idxa (sz:Nat) (x i:AO)
 | idx (x i:AO)
 | slcs (x:AO) (lo hi:Option AO)
 | slcl (sz:Nat) (x:AO) (lo hi:Option AO)
 | slz (sz:Nat) (x:AO)
 | slcf (sz:Nat) (x hi mx:AO)
 | pick (c a b:AO)
 | ext (x:AO) (i:Nat)
 | mkfn (f:Nat) (caps:List AO)
 | nilck (x:AO)
 | mkm
 | lkm (s ok:Bool) (x i:AO) (z:AV)
 | upm (s:Bool) (x k y:AO)
 | mpe (s:Bool) (x k:AO) (z:AV)
 | ens (x st y:AO)
 | ensf (x st:AO) (n sz:Nat)
 | fld (off sz:Nat) (ag:Bool) (x:AO)
 | mkg (bytes sz:Nat) (zs:List AV) (x:AO)
 | mkz (bytes sz:Nat) (zs:List AV) (x:AO)
 | mkp (bytes sz:Nat) (zs:List AV) (x:AO)
 | extm (n:Nat)
 | mkstP (n:Nat) (zs:List AV) (parts:List (Nat×Nat×AO))
 | bstr (x:AO)
 | ldfz (s off sz fo fz:Nat)
 | appM (bytes sz:Nat) (s x:AO)
 | stn (s off sz:Nat) (x:AO) (zs:List AV)
 | stq (p sz:Nat) (x:AO) (q:Nat)
 | stp (p sz:Nat) (x:AO) (q:Nat)
 | slcx (sz:Nat) (x:AO) (lo hi:Option AO)
 | slcc (sz:Nat) (x:AO) (lo:Option AO) (hi mx:AO)
 | apn (bytes sz:Nat) (zs:List AV) (s x:AO)
 | apps (T:Nat) (s x:AO)
 | appb (T:Nat) (s x:AO)
 | usd (x:AO)
 | ust (T q p:Nat) (x:AO)
 | galt (T:Nat) (zs:List AV)
 | lgb (k:Nat)
 | mkfb (f:Nat) (caps:List AO)
structure QM where
 dst:Option Nat
 op:AOp
 guard:Option (Nat×Bool):=none
inductive AC where
 | bad
 | skip
 | reg (draw:Bool) (ops:List QM)
 | seq (a b:AC)
 | cond (c:AO) (a b:AC)
 | block (id:Nat) (c:AC)
 | loop (c:AC)
 | exit (id:Nat)
 | ret
inductive Ex where
 | normal
 | exit (id:Nat)
 | ret
 deriving DecidableEq
inductive Rx where
 | tmp (t:Nat)
 | cell (t sz:Nat) (ag:Bool)
 | own (t:Nat)
structure Zi where
 nparams:Nat
 ntmps:Nat
 res:List Rx
 body:AC
 keep:Bool:=false
inductive AFn where
 | code (f:Zi)
 | orc (g:List AV->List (List AV)->Option (AV×List (List AV)))
abbrev Yo:=Nat->List AV->List (List AV)->Option (AV×List (List AV))
abbrev WU:=Option AV
def YY (cs:Qh) (off sz:Nat) (ag:Bool):WU:=
 if off+sz<=cs.length then
  if ag then some (.agg (((cs.drop off).take sz).map AV.strip))
  else if sz=1 then(cs[off]?).bind fun v=>if v.one then some v.strip else none
  else none
 else none
def put (cs:Qh) (off:Nat) (vs:Qh):Qh:=cs.take off ++ vs ++ cs.drop (off+vs.length)
def toI (k:IntKind) (n:Int):AV:= .int k (k.wrap n)
def LW:BinOp->AV->AV->WU
 | .add,.int k a,.int k' b=>if k=k' then some (toI k (a+b))else none
 | .sub,.int k a,.int k' b=>if k=k' then some (toI k (a - b))else none
 | .mul,.int k a,.int k' b=>if k=k' then some (toI k (a*b))else none
 | .quo,.int k a,.int k' b=>if k=k'/\b≠0 then some (toI k (a.tdiv b))else none
 | .rem,.int k a,.int k' b=>if k=k'/\b≠0 then some (.int k (a.tmod b))else none
 | .eql,.int k a,.int k' b=>if k=k' then some (.bool (a == b))else none
 | .neq,.int k a,.int k' b=>if k=k' then some (.bool (a != b))else none
 | .lss,.int k a,.int k' b=>if k=k' then some (.bool (decide (a < b)))else none
 | .leq,.int k a,.int k' b=>if k=k' then some (.bool (decide (a<=b)))else none
 | .gtr,.int k a,.int k' b=>if k=k' then some (.bool (decide (a > b)))else none
 | .geq,.int k a,.int k' b=>if k=k' then some (.bool (decide (a>=b)))else none
 | .shr,.int k a,.int _ b=>if 0<=b then some (.int k (a / 2 ^ min b.toNat k.bits))else none
 | .shl,.int k a,.int _ b=>if 0<=b then some (toI k (a*2 ^ min b.toNat k.bits))else none
 | .and,.int k a,.int k' b=>if k=k' then some (toI k (BitVec.ofInt k.bits a &&& BitVec.ofInt k.bits b).toNat)else none
 | .or,.int k a,.int k' b=>if k=k' then some (toI k (BitVec.ofInt k.bits a ||| BitVec.ofInt k.bits b).toNat)else none
 | .xor,.int k a,.int k' b=>if k=k' then some (toI k (BitVec.ofInt k.bits a ^^^ BitVec.ofInt k.bits b).toNat)else none
 | .andNot,.int k a,.int k' b=>if k=k' then some (toI k (BitVec.ofInt k.bits a &&& ~~~BitVec.ofInt k.bits b).toNat)else none
 | .add,.str a,.str b=>if a.length+b.length<=9223372036854775807 then some (.str (a ++ b))else none
 | .eql,.str a,.str b=>some (.bool (a == b))
 | .neq,.str a,.str b=>some (.bool !(a == b))
 | .lss,.str a,.str b=>some (.bool (Op.bytesLess a b))
 | .leq,.str a,.str b=>some (.bool (Op.bytesLess a b || a == b))
 | .gtr,.str a,.str b=>some (.bool !(Op.bytesLess a b || a == b))
 | .geq,.str a,.str b=>some (.bool !(Op.bytesLess a b))
 | _,_,_=>none
def aun:UnOp->AV->WU
 | .not,.bool b=>some (.bool !b)
 | .neg,.int k a=>some (toI k (0 - a))
 | _,_=>none
def Jk:Nat->AV->AV->Option Bool
 | 0,.int k a,.int k' b=>if k=k' then some (a == b)else none
 | 1,.bool a,.bool b=>some (a == b)
 | 2,.str a,.str b=>some (a == b)
 | _,_,_=>none
abbrev VH:=List Nat
def UA:VH->Qh->Qh->Option Bool
 | [],[],[]=>some true
 | k:: ks,c:: cs,d:: ds=>match Jk k c d,UA ks cs ds with
  | some a,some b=>some (a && b)
  | _,_=>none
 | _,_,_=>none
def XH (vs:Qh):Bool:=vs.all AV.ok
def VQ (zs:Qh):List (Nat×Nat×AV)->Option Qh
 | []=>some zs
 | (off,sz,v):: r=>match cellsOf v with
  | some vs=>if vs.length=sz/\off+vs.length<=zs.length then VQ (put zs off (vs.map AV.strip)) r else none
  | none=>none
def Xy (sz:Nat):Qh->Option Qa
 | []=>some []
 | v:: r=>match cellsOf v,Xy sz r with
  | some vs,some rs=>if vs.length=sz then some (vs.map AV.strip:: rs)else none
  | _,_=>none
abbrev YI:=Option Nat
def ZG (n:Nat) (d:Nat):WU->YI
 | none=>some d
 | some (.int _ i)=>if 0<=i/\i<=n then some i.toNat else none
 | some _=>none
def Nw:Bool->AV->AV->Option Bool
 | false,.int k a,.int k' b=>if k=k' then some (a == b)else none
 | true,.str a,.str b=>some (a == b)
 | _,_,_=>none
def PF:Bool->AV->Bool
 | false,.int _ _=>true
 | true,.str _=>true
 | _,_=>false
def Vc (s:Bool):Qh->AV->Option WU
 | [],q=>if PF s q then some none else none
 | .agg [k,v]:: es,q=>match Nw s q k with
  | some true=>some (some v)
  | some false=>Vc s es q
  | none=>none
 | _,_=>none
def PW (s:Bool):Qh->AV->AV->Option Qh
 | [],q,v=>if PF s q then some [.agg [q,v]]else none
 | .agg [k,v']:: es,q,v=>match Nw s q k with
  | some true=>some (.agg [q,v]:: es)
  | some false=>(PW s es q v).map (.agg [k,v']:: ·)
  | none=>none
 | _,_,_=>none
def SX (s:Bool):Qh->AV->Nat
 | .agg [k,_]:: es,q=>match Nw s q k with
  | some true=>0
  | _=>SX s es q+1
 | _,_=>0
def QcI:Qh->Option UInt8
 | [.int .u8 n]=>if 0<=n/\n < 256 then some (UInt8.ofNat n.toNat)else none
 | _=>none
abbrev Qu:=List UInt8
def Oh:Qa->Option Qu
 | []=>some []
 | x:: r=>(QcI x).bind fun b=>(Oh r).map (b:: ·)
def ZX (cs:Qh) (off sz n:Nat):Qa:=(List.range n).map fun k=>((cs.drop (off+k*sz)).take sz).map AV.strip
def Yk (σ:St) (n sz:Nat):Option (AV×St):=match σ.env n with
 | .gs id o sz1 k=>if sz1=sz/\0 < sz then
   (if k=0 then some (.sl false sz [],{σ with env:=upd σ.env n .undef})
    else(σ.bs[id]?).bind fun cs=>if o+k*sz<=cs.length then some (.sl (decide (o=0)) sz (ZX cs o sz k),{env:=upd σ.env n .undef,bs:=σ.bs.set id []})else none)
   else if sz1=0/\k=0 then some (.sl true sz [],{σ with env:=upd σ.env n .undef})else none
 | _=>none
def Sq (σ:St) (x st v:AV):Option (AV×St):=match x,st with
 | .mp id,.int .i64 n=>(σ.bs[id]?).bind fun cs=>if cs=[]\/v.one=false\/n < 0 then none else
  match (cs.drop 1)[n.toNat]? with
  | some (.agg [k,_])=>some (.undef,{σ with bs:=σ.bs.set id (.undef:: (cs.drop 1).set n.toNat (.agg [k,v.strip]))})
  | _=>none
 | _,_=>none
def RA (c z:AV):AV:=match c,z with
 | .gs _ _ 0 0,.sl true k []=> .sl true k []
 | c,_=>c.strip
def WZ:Qh->Qh->Qh
 | [],_=>[]
 | c:: cs,[]=>c.strip:: WZ cs []
 | c:: cs,z:: zs=>RA c z:: WZ cs zs
def WS: ∀cs zs:Qh,(WZ cs zs).length=cs.length
 | [],_=>rfl
 | c:: cs,[]=>by simp[WZ,WS cs []]
 | c:: cs,z:: zs=>by simp[WZ,WS cs zs]
def Wt (sz:Nat) (x:AV) (bs:Qa):Option (Nat×Qh):=match x with
 | .sl _ sz2 ys=>if sz2=sz then some (ys.length,ys.flatten.map AV.strip)else none
 | .gs id o sz2 n=>if n=0 then(if sz2=sz\/sz2=0 then some (0,[])else none)
   else if sz2=sz then(bs[id]?).bind fun cs=>if o+n*sz<=cs.length then some (n,((cs.drop o).take (n*sz)).map AV.strip)else none else none
 | _=>none
def appM (bytes sz:Nat) (s x:AV) (bs:Qa):Option (AV×Qa):=match s with
 | .gs id o sz1 k=>(Wt sz x bs).bind fun q=>
   if 0 < sz/\(k+q.1)*bytes<=140737488355328 then
    if q.1=0 then some (.gs id o sz1 k,bs)
    else if sz1=0/\k=0 then some (.gs bs.length 0 sz q.1,bs ++ [q.2])
    else if sz1=sz/\o=0 then(bs[id]?).bind fun cs=>
      if cs≠[]/\k*sz<=cs.length then
       (if(k+q.1)*sz<=cs.length then some (.gs id 0 sz (k+q.1),bs.set id (put cs (k*sz) q.2))
       else some (.gs bs.length 0 sz (k+q.1),bs.set id []++ [(cs.take (k*sz)).map AV.strip ++ q.2]))
      else none
    else none
   else none
 | _=>none
def Pu (bytes sz:Nat) (s:AV) (q:Nat×Qh) (bs:Qa):Option (AV×Qa):=match s with
 | .gs id o sz1 k=>
   if 0 < sz/\(k+q.1)*bytes<=140737488355328 then
    if q.1=0 then some (.gs id o sz1 k,bs)
    else if sz1=0/\k=0 then some (.gs bs.length 0 sz q.1,bs ++ [q.2])
    else if sz1=sz/\o=0 then(bs[id]?).bind fun cs=>
      if cs≠[]/\k*sz<=cs.length then
       (if(k+q.1)*sz<=cs.length then some (.gs id 0 sz (k+q.1),bs.set id (put cs (k*sz) q.2))
       else some (.gs bs.length 0 sz (k+q.1),bs.set id []++ [(cs.take (k*sz)).map AV.strip ++ q.2]))
      else none
    else none
   else none
 | _=>none
def QaK (T:Nat):AV->AV
 | .gs id o sz n=>if o=0/\sz=1/\0 < n then .gb T id n else .gs id o sz n
 | v=>v
def O9 (T:Nat) (s:AV) (q:Nat×Qh) (bs:Qa):Option (AV×Qa):=match s with
 | .gs id o sz k=>if sz=0/\k=0 then(Pu 1 1 (.gs id o sz k) q bs).map fun p=>(QaK T p.1,p.2)else none
 | .gb T' id k=>if T'=T then(Pu 1 1 (.gs id 0 1 k) q bs).map fun p=>(QaK T p.1,p.2)else none
 | _=>none
def HT (T:Nat) (σ:St) (q p:Nat) (x:AV):Option (AV×St):=match σ.env p with
 | .gp id2 o=>match σ.env q,x with
  | .gb T' id n,.int .i64 k=>if T'=T/\id=id2/\o=0/\k=n/\0 < n then(σ.bs[id]?).bind fun cs=>if n<=cs.length then(Oh (ZX cs 0 1 n)).map fun s=>(.str s,{σ with bs:=σ.bs.set id []})else none else none
  | _,_=>none
 | .nlp=>match x with
  | .int .i64 k=>if k=0 then some (.str [],σ)else none
  | _=>none
 | _=>none
def Qgj:AV->WU
 | .gb _ id n=>if 0 < n then some (.gp id 0)else none
 | .gs _ o sz n=>if o=1/\sz=0/\n=0 then some .nlp else none
 | _=>none
def Lj:Nat->String
 | 0=> "sealring/term.words"
 | _=> ""
def Kv:Ql
 | 0=> .sl false 1 [[.str [97,110,121]],[.str [97,103,101,110,116]],[.str [110,111,110,99,101]],[.str [107,101,121]],[.str [100,97,116,97]],[.str [116,97,103]]]
 | _=> .undef
def Px (q:Qu):Qh:=q.map fun b=> .int .u8 b.toNat
def Qi (K:Yo):AOp->St->Option (AV×St)
 | .mov x,σ=>let v:=val σ.env x;if v.ok then some (v,σ)else none
 | .mvs n,σ=>let v:=σ.env n;if v.ok then some (v,{σ with env:=upd σ.env n .undef})else none
 | .box x,σ=>(cellsOf (val σ.env x)).map fun cs=>(.bx (cs.map AV.strip),σ)
 | .alloc zs,σ=>some (.bx zs,σ)
 | .gbxn x zs,σ=>(cellsOf (val σ.env x)).map fun cs=>(.gp σ.bs.length 0,{σ with bs:=σ.bs ++ [WZ cs zs]})
 | .gbox x,σ=>(cellsOf (val σ.env x)).map fun cs=>(.gp σ.bs.length 0,{σ with bs:=σ.bs ++ [cs.map AV.strip]})
 | .galloc zs,σ=>some (.gp σ.bs.length 0,{σ with bs:=σ.bs ++ [zs]})
 | .galt T zs,σ=>if zs.length=2 then some (.gt T σ.bs.length,{σ with bs:=σ.bs ++ [zs]})else none
 | .fad s _,σ=>match σ.env s with
  | .bx _=>some (.undef,σ)
  | _=>none
 | .fadr p off,σ=>match σ.env p with
  | .gp i o=>some (.gp i (o+off),σ)
  | .gt _ i=>some (.gp i off,σ)
  | .rptr cs=>some (.rptr (cs.drop off),σ)
  | _=>none
 | .ldf s off sz ag,σ=>match σ.env s with
  | .bx cs=>(YY cs off sz ag).map fun v=>(v,σ)
  | _=>none
 | .ldfm s off,σ=>match σ.env s with
  | .bx cs=>(cs[off]?).bind fun v=>if v.one then some (v,{σ with env:=upd σ.env s (.bx (cs.set off .undef))})else none
  | _=>none
 | .ld p sz ag,σ=>match σ.env p with
  | .rptr cs=>(YY cs 0 sz ag).map fun v=>(v,σ)
  | _=>none
 | .ldg p sz ag,σ=>match σ.env p with
  | .gp i o=>(σ.bs[i]?).bind fun cs=>(YY cs o sz ag).map fun v=>(v,σ)
  | _=>none
 | .ldm p,σ=>match σ.env p with
  | .gp i o=>(σ.bs[i]?).bind fun cs=>(cs[o]?).bind fun v=>if v.one then some (v,{σ with bs:=σ.bs.set i (cs.set o .undef)})else none
  | _=>none
 | .stf s off sz x,σ=>match σ.env s with
  | .bx cs=>(cellsOf (val σ.env x)).bind fun vs=>
   if vs.length=sz/\off+vs.length<=cs.length then some (.undef,{σ with env:=upd σ.env s (.bx (put cs off (stV x vs)))})else none
  | _=>none
 | .stfm s off n,σ=>match σ.env s with
  | .bx cs=>if s≠n/\(σ.env n).one/\off < cs.length then some (.undef,{σ with env:=upd (upd σ.env n .undef) s (.bx (cs.set off (σ.env n)))})else none
  | _=>none
 | .st p sz x,σ=>match σ.env p with
  | .gp i o=>(σ.bs[i]?).bind fun cs=>(cellsOf (val σ.env x)).bind fun vs=>
   if vs.length=sz/\o+vs.length<=cs.length/\0 < sz then some (.undef,{σ with bs:=σ.bs.set i (put cs o (vs.map AV.strip))})else none
  | _=>none
 | .stm p n,σ=>match σ.env p with
  | .gp i o=>(σ.bs[i]?).bind fun cs=>if(σ.env n).one/\o < cs.length then some (.undef,{env:=upd σ.env n .undef,bs:=σ.bs.set i (cs.set o (σ.env n))})else none
  | _=>none
 | .bin op x y,σ=>(LW op (val σ.env x) (val σ.env y)).map fun v=>(v,σ)
 | .eqb ne x y,σ=>match val σ.env x,val σ.env y with
  | .bool a,.bool b=>some (.bool (if ne then !(a == b)else a == b),σ)
  | _,_=>none
 | .eqn ne x,σ=>match val σ.env x with
  | .err a=>some (.bool (if ne then !a else a),σ)
  | _=>none
 | .eqa ne ks x y,σ=>match val σ.env x,val σ.env y with
  | .agg cs,.agg ds=>(UA ks cs ds).map fun b=>(.bool (if ne then !b else b),σ)
  | _,_=>none
 | .isn ne x,σ=>match val σ.env x with
  | .sl _ _ []=>some (.anyb,σ)
  | .sl _ _ (_:: _)=>some (.bool ne,σ)
  | _=>none
 | .un op x,σ=>(aun op (val σ.env x)).map fun v=>(v,σ)
 | .conv k x,σ=>match val σ.env x with
  | .int _ n=>some (toI k n,σ)
  | _=>none
 | .call f args,σ=>let vs:=args.map (val σ.env);if XH vs then(K f vs σ.bs).map fun(r,bs)=>(r,{σ with bs})else none
 | .callq f args,σ=>let vs:=args.map (val σ.env);if XH vs then(K f vs σ.bs).bind fun p=>if PB p.2 σ.bs then some (p.1,σ)else none else none
 | .callv g args,σ=>match val σ.env g with
  | .fn f caps=>let vs:=args.map (val σ.env)++ caps;if XH vs then(K f vs σ.bs).map fun(r,bs)=>(r,{σ with bs})else none
  | .bf f caps=>let vs:=caps ++ args.map (val σ.env);if XH vs then(K f vs σ.bs).map fun(r,bs)=>(r,{σ with bs})else none
  | _=>none
 | .lens x,σ=>match val σ.env x with
  | .str s=>some (.int .i64 s.length,σ)
  | _=>none
 | .lenl x,σ=>match val σ.env x with
  | .sl _ _ xs=>some (.int .i64 xs.length,σ)
  | .gs _ _ _ n=>some (.int .i64 n,σ)
  | .gb _ _ n=>some (.int .i64 n,σ)
  | _=>none
 | .app bytes sz s x,σ=>match (match s with | .t n=>(σ.env n,upd σ.env n .undef) | .c v=>(v,σ.env)),val σ.env x with
  | (.sl true sz1 xs,ρ),.sl _ sz2 ys=>
   if sz1=sz/\sz2=sz/\(xs.length+ys.length)*bytes<=140737488355328 then some (.sl true sz (xs ++ ys),{σ with env:=ρ})else none
  | _,_=>none
 | .appg bytes sz s x,σ=>match (match s with | .t n=>(σ.env n,upd σ.env n .undef) | .c v=>(v,σ.env)),val σ.env x with
  | (.sl true sz1 [],ρ),.sl _ sz2 ys=>
   if sz1=sz/\sz2=sz/\ys.length*bytes<=140737488355328 then
    (if ys.length=0 then none else some (.gs σ.bs.length 0 sz ys.length,{env:=ρ,bs:=σ.bs ++ [ys.flatten.map AV.strip]}))
   else none
  | _,_=>none
 | .appz bytes sz n x,σ=>match Yk σ n sz,val σ.env x with
  | some (.sl true _ xs,s),.sl _ sz2 ys=>
   if sz2=sz/\(xs.length+ys.length)*bytes<=140737488355328 then some (.sl true sz (xs ++ ys),s)else none
  | _,_=>none
 | .frz n sz,σ=>Yk σ n sz
 | .zlit,σ=>some (.gs 0 0 0 0,σ)
 | .nilp,σ=>some (.nlp,σ)
 | .appzz s x,σ=>match val σ.env s,val σ.env x with
  | .gs _ _ 0 0,.sl _ _ []=>some (.gs 0 0 0 0,σ)
  | _,_=>none
 | .clr sz x,σ=>match val σ.env x with
  | .gs id o sz1 k=>if sz1=sz/\0 < sz then
    (if k=0 then some (.undef,σ)else(σ.bs[id]?).bind fun cs=>if o+k*sz<=cs.length then some (.undef,{σ with bs:=σ.bs.set id (put cs o (List.replicate (k*sz) .undef))})else none)
    else none
  | _=>none
 | .mx x y,σ=>match val σ.env x,val σ.env y with
  | .int k a,.int k' b=>if k=k' then some (.int k (if b > a then b else a),σ)else none
  | _,_=>none
 | .mn x y,σ=>match val σ.env x,val σ.env y with
  | .int k a,.int k' b=>if k=k' then some (.int k (if b < a then b else a),σ)else none
  | _,_=>none
 | .mksl sz parts,σ=>(Xy sz (parts.map (val σ.env))).map fun xs=>(.sl true sz xs,σ)
 | .mksg sz parts,σ=>(Xy sz (parts.map (val σ.env))).map fun xs=>(.gs σ.bs.length 0 sz xs.length,{σ with bs:=σ.bs ++ [xs.flatten.map AV.strip]})
 | .mkst zs parts,σ=>(VQ zs (parts.map fun p=>(p.1,p.2.1,val σ.env p.2.2))).map fun cs=>(.agg cs,σ)
 | .idxa sz x i,σ=>match val σ.env x,val σ.env i with
  | .sl _ sz1 xs,.int _ n=>if sz1=sz/\0<=n then(xs[n.toNat]?).map fun e=>(.rptr e,σ)else none
  | .gs id o sz1 k,.int _ n=>if sz1=sz/\0<=n/\n < k then some (.gp id (o+n.toNat* sz),σ)else none
  | _,_=>none
 | .idx x i,σ=>match val σ.env x,val σ.env i with
  | .str s,.int _ n=>if 0<=n then(s[n.toNat]?).map fun b=>(.int .u8 b.toNat,σ)else none
  | _,_=>none
 | .slcs x lo hi,σ=>match val σ.env x with
  | .str s=>(ZG s.length s.length (hi.map (val σ.env))).bind fun h=>(ZG h 0 (lo.map (val σ.env))).map fun l=>(.str ((s.take h).drop l),σ)
  | _=>none
 | .slcl sz x lo hi,σ=>match val σ.env x with
  | .sl _ sz1 xs=>if sz1=sz then(ZG xs.length xs.length (hi.map (val σ.env))).bind fun h=>(ZG h 0 (lo.map (val σ.env))).map fun l=>(.sl false sz ((xs.take h).drop l),σ)else none
  | .gs id o sz1 k=>if sz1=sz/\0 < sz then(ZG k k (hi.map (val σ.env))).bind fun h=>(ZG h 0 (lo.map (val σ.env))).map fun l=>(.gs id (o+l*sz) sz (h - l),σ)
   else if sz1=0/\k=0 then(ZG 0 0 (hi.map (val σ.env))).bind fun h=>(ZG h 0 (lo.map (val σ.env))).map fun l=>(.gs 0 0 0 0,σ)else none
  | _=>none
 | .slcf sz x hi mx,σ=>match val σ.env x with
  | .sl _ sz1 xs=>if sz1=sz then(ZG xs.length 0 (some (val σ.env mx))).bind fun M=>(ZG M 0 (some (val σ.env hi))).bind fun H=>if H=M then some (.sl true sz (xs.take H),σ)else none else none
  | _=>none
 | .slz sz x,σ=>match val σ.env x with
  | .sl _ sz1 _=>if sz1=sz then some (.sl true sz [],σ)else none
  | _=>none
 | .pick c a b,σ=>match val σ.env c with
  | .bool true=>let v:=val σ.env a;if v.ok then some (v,σ)else none
  | .bool false=>let v:=val σ.env b;if v.ok then some (v,σ)else none
  | _=>none
 | .ext x i,σ=>match val σ.env x with
  | .tup vs=>(vs[i]?).bind fun v=>if v.ok then some (v.strip,σ)else none
  | _=>none
 | .mkfb f caps,σ=>let vs:=caps.map (val σ.env);if vs.all AV.one then some (.bf f vs,σ)else none
 | .mkfn f caps,σ=>let vs:=caps.map (val σ.env);if vs.all AV.one then some (.fn f vs,σ)else none
 | .nilck x,σ=>let v:=val σ.env x;match v with
  | .fn _ _=>some (v,σ)
  | .bf _ _=>some (v,σ)
  | .gp _ _=>some (v,σ)
  | .gt _ _=>some (v,σ)
  | .rptr _=>some (v,σ)
  | _=>none
 | .fld off sz ag x,σ=>match val σ.env x with
  | .agg cs=>(YY cs off sz ag).map fun v=>(v,σ)
  | _=>none
 | .ldfz s off sz fo fz,σ=>match σ.env s with
  | .bx cs=>match cs[fo]? with
   | some (.gs id o sz1 k)=>if sz1=fz/\0 < fz/\k≠0 then(σ.bs[id]?).bind fun c2=>if o+k*fz<=c2.length then
     (YY (cs.set fo (.sl false fz (ZX c2 o fz k))) off sz true).map fun v=>(v,{env:=upd σ.env s (.bx (cs.set fo .undef)),bs:=σ.bs.set id []})else none
    else if k=0 then(YY (cs.set fo (.sl false fz [])) off sz true).map fun v=>(v,σ)else none
   | _=>none
  | _=>none
 | .mkg bytes sz zs x,σ=>match val σ.env x with
  | .int _ n=>if 0<=n/\n.toNat* bytes<=140737488355328/\n<=4611686018427387904/\0 < sz/\zs.length=sz then some (.gs σ.bs.length 0 sz n.toNat,{σ with bs:=σ.bs ++ [(List.replicate n.toNat zs).flatten]})else none
  | _=>none
 | .mkp bytes sz zs x,σ=>match val σ.env x with
  | .int _ n=>if 0<=n/\n.toNat* bytes<=140737488355328/\n<=4611686018427387904/\0 < sz/\zs.length=sz then some (.pv sz (List.replicate n.toNat zs).flatten,σ)else none
  | _=>none
 | .extm n,σ=>match σ.env n with
  | .otup sz xs vs=>some (.sl true sz xs,{σ with env:=upd σ.env n (.tup (.sl false sz xs:: vs))})
  | _=>none
 | .mkstP n zs parts,σ=>match σ.env n with
  | .pv sz cs=>if cs.all AV.noOwn then
    (VQ zs (parts.map fun p=>(p.1,p.2.1,val (upd σ.env n (.gs σ.bs.length 0 sz (cs.length / sz))) p.2.2))).map fun c=>(.agg c,{env:=upd σ.env n .undef,bs:=σ.bs ++ [cs]})
   else none
  | _=>none
 | .mkz bytes sz zs x,σ=>match val σ.env x with
  | .int _ n=>if 0<=n/\n.toNat* bytes<=140737488355328/\n<=4611686018427387904/\0 < sz/\zs.length=sz then some (.sl false sz (List.replicate n.toNat zs),σ)else none
  | _=>none
 | .bstr x,σ=>match val σ.env x with
  | .sl _ 1 xs=>(Oh xs).map fun s=>(.str s,σ)
  | _=>none
 | .appM bytes sz s x,σ=>(appM bytes sz (val σ.env s) (val σ.env x) σ.bs).map fun p=>(p.1,{σ with bs:=p.2})
 | .apn bytes sz zs s x,σ=>match val σ.env x with
  | .int .i64 n=>if 0<=n/\n.toNat* bytes<=140737488355328 then(Pu bytes sz (val σ.env s) (n.toNat,(List.replicate n.toNat zs).flatten) σ.bs).map fun p=>(p.1,{σ with bs:=p.2})else none
  | _=>none
 | .stn s off sz x zs,σ=>match σ.env s with
  | .bx cs=>(cellsOf (val σ.env x)).bind fun vs=>
   if vs.length=sz/\off+vs.length<=cs.length then some (.undef,{σ with env:=upd σ.env s (.bx (put cs off (WZ vs zs)))})else none
  | _=>none
 | .stq p sz x q,σ=>match σ.env p,σ.env q with
  | .gp i o,.gp i2 _=>if i=i2 then none else(σ.bs[i]?).bind fun cs=>(cellsOf (val σ.env x)).bind fun vs=>
   if vs.length=sz/\o+vs.length<=cs.length/\0 < sz then some (.undef,{σ with bs:=σ.bs.set i (put cs o (vs.map AV.strip))})else none
  | _,_=>none
 | .stp p sz x q,σ=>match σ.env p,σ.env q with
  | .gp i o,.gp i2 o2=>if i=i2/\o < o2+sz/\o2 < o+sz then none else(σ.bs[i]?).bind fun cs=>(cellsOf (val σ.env x)).bind fun vs=>
   if vs.length=sz/\o+vs.length<=cs.length/\0 < sz then some (.undef,{σ with bs:=σ.bs.set i (put cs o (vs.map AV.strip))})else none
  | _,_=>none
 | .slcx sz x lo hi,σ=>match val σ.env x with
  | .gs id o sz1 k=>if sz1=sz/\0 < sz then(σ.bs[id]?).bind fun cs=>(ZG ((cs.length - o) / sz) k (hi.map (val σ.env))).bind fun h=>(ZG h 0 (lo.map (val σ.env))).map fun l=>(.gs id (o+l*sz) sz (h - l),σ)else none
  | _=>none
 | .slcc _ x lo hi mx,σ=>match val σ.env x with
  | .sl _ _ xs=>(ZG xs.length 0 (some (val σ.env mx))).bind fun M=>(ZG M 0 (some (val σ.env hi))).bind fun H=>(ZG H 0 (lo.map (val σ.env))).map fun _=>(.undef,σ)
  | .gs _ _ _ k=>(ZG k 0 (some (val σ.env mx))).bind fun M=>(ZG M 0 (some (val σ.env hi))).bind fun H=>(ZG H 0 (lo.map (val σ.env))).map fun _=>(.undef,σ)
  | _=>none
 | .apps T s x,σ=>match val σ.env x with
  | .str q=>(O9 T (val σ.env s) (q.length,Px q) σ.bs).map fun p=>(p.1,{σ with bs:=p.2})
  | _=>none
 | .appb T s x,σ=>(Wt 1 (val σ.env x) σ.bs).bind fun q=>(O9 T (val σ.env s) q σ.bs).map fun p=>(p.1,{σ with bs:=p.2})
 | .lgb k,σ=>if(Kv k).one/\(Kv k).noOwn then some (Kv k,σ)else none
 | .usd x,σ=>(Qgj (val σ.env x)).map fun u=>(u,σ)
 | .ust T q p x,σ=>HT T σ q p (val σ.env x)
 | .mkm,σ=>some (.mp σ.bs.length,{σ with bs:=σ.bs ++ [[.undef]]})
 | .lkm s ok x i z,σ=>match val σ.env x with
  | .mp id=>(σ.bs[id]?).bind fun cs=>if cs=[]then none else(Vc s (cs.drop 1) (val σ.env i)).bind fun r=>if(r.getD z).strip.ok then some (if ok then .tup [(r.getD z).strip,.bool r.isSome]else(r.getD z).strip,σ)else none
  | _=>none
 | .upm s x k y,σ=>match val σ.env x with
  | .mp id=>(σ.bs[id]?).bind fun cs=>if cs=[]\/(val σ.env y).one=false then none else
   (PW s (cs.drop 1) (val σ.env k) (val σ.env y).strip).map fun es=>(.undef,{σ with bs:=σ.bs.set id (.undef:: es)})
  | _=>none
 | .mpe s x k z,σ=>match val σ.env x with
  | .mp id=>(σ.bs[id]?).bind fun cs=>if cs=[]then none else(Vc s (cs.drop 1) (val σ.env k)).map fun r=>
   if r.isSome then(.tup [(r.getD z).strip,.int .i64 (SX s (cs.drop 1) (val σ.env k))],σ)
   else(.tup [z.strip,.int .i64 (cs.drop 1).length],{σ with bs:=σ.bs.set id (.undef:: (cs.drop 1 ++ [.agg [val σ.env k,z.strip]]))})
  | _=>none
 | .ens x st y,σ=>Sq σ (val σ.env x) (val σ.env st) (val σ.env y)
 | .ensf x st n sz,σ=>(Yk σ n sz).bind fun p=>Sq p.2 (val p.2.env x) (val p.2.env st) p.1
def YC (ρ:Ql) (d:YI) (v:AV):Ql:=match d with
 | some d=>upd ρ d v
 | none=>ρ
def Z4 (K:Yo) (o:QM) (σ:St):Option St:=
 match o.guard with
 | none=>(Qi K o.op σ).map fun(v,s)=>{s with env:=YC s.env o.dst v}
 | some (t,b)=>match σ.env t with
  | .bool c=>if c=b then(Qi K o.op σ).map fun(v,s)=>{s with env:=YC s.env o.dst v}
   else some {σ with env:=YC σ.env o.dst (.tup [])}
  | .tup []=>some {σ with env:=YC σ.env o.dst (.tup [])}
  | _=>none
abbrev Yj:=List QM
def Z9 (K:Yo):Yj->St->Option St
 | [],σ=>some σ
 | o:: os,σ=>(Z4 K o σ).bind (Z9 K os)
def Ts (f:St->Option (Ex×St)):Nat->St->Option (Ex×St)
 | 0,_=>none
 | n+1,σ=>match f σ with
  | some (.normal,s)=>Ts f n s
  | r=>r
def ZD (K:Yo) (n:Nat):AC->St->Option (Ex×St)
 | .bad,_=>none
 | .skip,σ=>some (.normal,σ)
 | .reg _ ops,σ=>(Z9 K ops σ).map fun s=>(.normal,s)
 | .seq a b,σ=>match ZD K n a σ with
  | some (.normal,s)=>ZD K n b s
  | r=>r
 | .cond c a b,σ=>match val σ.env c with
  | .bool true=>ZD K n a σ
  | .bool false=>ZD K n b σ
  | _=>none
 | .block id c,σ=>match ZD K n c σ with
  | some (.exit i,s)=>some (if i=id then .normal else .exit i,s)
  | r=>r
 | .loop c,σ=>Ts (ZD K n c) n σ
 | .exit id,σ=>some (.exit id,σ)
 | .ret,σ=>some (.ret,σ)
def XB (args:Qh):Ql:=fun i=>(args.getD i .undef).strip
def V9 (ρ:Ql):Rx->WU
 | .tmp t=>let v:=ρ t;if v.ok then some v else none
 | .cell t sz ag=>match ρ t with
  | .bx cs=>YY cs 0 sz ag
  | _=>none
 | .own t=>match ρ t with
  | .sl true sz xs=>some (.sl true sz xs)
  | _=>none
def X0 (ρ:Ql):List Rx->Option Qh
 | []=>some []
 | r:: rs=>match V9 ρ r,X0 ρ rs with
  | some v,some vs=>some (v:: vs)
  | _,_=>none
def M8:List Rx->Bool
 | .own _:: _=>true
 | _=>false
@[simp] def QoZ:M8 []=false:=rfl
@[simp] def Qo1 (t:Nat) (rs:List Rx):M8 (.tmp t:: rs)=false:=rfl
@[simp] def QnW (t sz:Nat) (ag:Bool) (rs:List Rx):M8 (.cell t sz ag:: rs)=false:=rfl
@[simp] def Qo0 (t:Nat) (rs:List Rx):M8 (.own t:: rs)=true:=rfl
def Xq (f:Zi) (bs:Qa) (σ:St):Option (AV×Qa):=
 if M8 f.res then(match X0 σ.env f.res with
  | some (.sl true sz xs:: v2:: vs)=>if f.keep then some (.otup sz xs ((v2:: vs).map AV.strip),σ.bs)else if(Zw xs && QY (v2:: vs))=true/\X6 bs (σ.bs.take bs.length)then some (.otup sz xs ((v2:: vs).map AV.strip),σ.bs.take bs.length)else none
  | _=>none)
 else match X0 σ.env f.res with
 | some [v]=>if f.keep then some (v,σ.bs)else if v.gpfree/\X6 bs (σ.bs.take bs.length)then some (v,σ.bs.take bs.length)else none
 | some vs=>if f.keep then some (.tup (vs.map AV.strip),σ.bs)else if QY vs/\X6 bs (σ.bs.take bs.length)then some (.tup (vs.map AV.strip),σ.bs.take bs.length)else none
 | none=>none
abbrev Vm:=Nat->Option AFn
def YJ (T:Vm):Nat->Yo
 | 0,_,_,_=>none
 | n+1,f,args,bs=>match T f with
  | none=>none
  | some (.orc g)=>g args bs
  | some (.code fn)=>
   if args.length=fn.nparams then
    match ZD (YJ T n) n fn.body {env:=XB args,bs}with
    | some (.normal,σ)=>Xq fn bs σ
    | some (.ret,σ)=>Xq fn bs σ
    | _=>none
   else none
structure Blk where
 b:Nat
 z:Nat
 mp:Bool
 ty:TypeId
abbrev R9:=Nat->Option Value
abbrev ZF:=Nat->Nat
def hg (w:World) (m:ZF) (b:Nat):R9:=fun i=>if i < m b then w.cell? ⟨b,i,none⟩else none
mutual
def Qd (num:Nat->Option Nat) (β:List Blk) (w:World) (m:Nat->Nat):AV->Value->Prop
 | .undef,u=>u.oneCell'=true
 | .int k n,u=>u= .int k n
 | .bool b,u=>u= .bool b
 | .anyb,u=>∃b,u= .bool b
 | .str s,u=>u= .string ⟨s.toArray⟩
 | .agg cs,u=>∃us:Array Value,u= .agg us/\us.size=cs.length/\YV num β w m cs (fun i=>us[i]?) 0
 | .sl _ sz xs,u=>∃a len cap,u= .slice a len cap/\xs.length=len/\len<=cap/\cap<=maxLen/\
   (xs=[]\/∃b o,a=some ⟨b,o,none⟩/\Y5 num β w m xs (hg w m b) o sz)
 | .bx _,_=>False
 | .gp i o,u=>∃k:Blk,(β[i]? =some k/\k.mp=false)/\u= .pointer (some ⟨k.b,o,none⟩)
 | .gs i o sz n,u=>∃a cap,u= .slice a n cap/\n<=cap/\cap<=maxLen/\((n=0/\cap=0/\((sz=0/\(o=1->a=none))\/∃k:Blk,(β[i]? =some k/\k.mp=false)/\k.z<=o/\0 < sz))\/∃k:Blk,(β[i]? =some k/\k.mp=false)/\a=some ⟨k.b,o,none⟩/\o+cap*sz=k.z/\0 < sz)
 | .rptr cs,u=>∃b o,u= .pointer (some ⟨b,o,none⟩)/\YV num β w m cs (hg w m b) o
 | .fn f caps,u=>∃g us,num f=some g/\u= .func (.func g) #[] us/\us.size=caps.length/\YV num β w m caps (fun i=>us[i]?) 0
 | .bf f caps,u=>∃g us,num f=some g/\u= .func (.func g) us #[]/\us.size=caps.length/\YV num β w m caps (fun i=>us[i]?) 0
 | .tup vs,u=>∃us:Array Value,u= .tuple us/\us.size=vs.length/\X5 num β w m vs (fun i=>us[i]?) 0
 | .err n,u=>(n=true/\u= .nilIface)\/(n=false/\∃t x,u= .iface t x)
 | .mp i,u=>∃k:Blk,(β[i]? =some k/\k.mp=true)/\u= .map (some k.b)
 | .pv _ _,_=>False
 | .otup sz xs vs,u=>∃us:Array Value,u= .tuple us/\us.size=vs.length+1/\
   ((∃u0,us[0]? =some u0/\∃a len cap,u0= .slice a len cap/\xs.length=len/\len<=cap/\cap<=maxLen/\(xs=[]\/∃b o,a=some ⟨b,o,none⟩/\Y5 num β w m xs (hg w m b) o sz))/\
    X5 num β w m vs (fun i=>us[i]?) (0+1))
 | .nlp,u=>u= .pointer none
 | .gt ty i,u=>∃k:Blk,(β[i]? =some k/\k.mp=false)/\k.ty=ty/\k.z=2/\u= .pointer (some ⟨k.b,0,none⟩)
 | .gb ty i n,u=>∃(k:Blk) (cap:Nat),(β[i]? =some k/\k.mp=false)/\k.ty=ty/\u= .slice (some ⟨k.b,0,none⟩) n cap/\cap=k.z/\n<=cap/\cap<=maxLen
def YV (num:Nat->Option Nat) (β:List Blk) (w:World) (m:Nat->Nat):List AV->(Nat->Option Value)->Nat->Prop
 | [],_,_=>True
 | c:: cs,g,o=>(∃u,g o=some u/\u.oneCell'=true/\Qd num β w m c u)/\YV num β w m cs g (o+1)
def X5 (num:Nat->Option Nat) (β:List Blk) (w:World) (m:Nat->Nat):List AV->(Nat->Option Value)->Nat->Prop
 | [],_,_=>True
 | c:: cs,g,o=>(∃u,g o=some u/\Qd num β w m c u)/\X5 num β w m cs g (o+1)
def Y5 (num:Nat->Option Nat) (β:List Blk) (w:World) (m:Nat->Nat):List (List AV)->(Nat->Option Value)->Nat->Nat->Prop
 | [],_,_,_=>True
 | x:: xs,g,o,sz=>x.length=sz/\YV num β w m x g o/\Y5 num β w m xs g (o+sz) sz
end
def Le (w:World) (m:ZF) (w':World) (m':ZF):Prop:=∀b i u,hg w m b i=some u->hg w' m' b i=some u
def Le.refl (w:World) (m:ZF):Le w m w m:=fun _ _ _ h=>h
def Le.trans {w w' w'':World} {m m' m'':ZF} (h:Le w m w' m') (k:Le w' m' w'' m''):Le w m w'' m'':=fun b i u hu=>k b i u (h b i u hu)
abbrev Xv:=List Blk
def Ge (β β':Xv):Prop:=∀(i:Nat) (b:Blk),β[i]? =some b->β'[i]? =some b
def Ge.refl (β:Xv):Ge β β:=fun _ _ h=>h
def QR:=@Nat.lt_or_ge
def Q3:=@List.getElem?_eq_none
def ZM:=@List.getElem?_append_left
def Ge.append (β γ:Xv):Ge β (β ++ γ):=fun i b h=>by
 have hlt:i < β.length:=by
  rcases QR i β.length with h1 | h1
  ·exact h1
  ·rw[Q3 h1]at h;cases h
 rw[ZM hlt];exact h
section
variable {num:Nat->Option Nat} {β β':List Blk} {w w':World} {m m':Nat->Nat}
mutual
theorem Zc (hβ:Ge β β') (hm:Le w m w' m'): ∀(c:AV) (u:Value),Qd num β w m c u->Qd num β' w' m' c u
 | .undef,u,h=>h
 | .int k n,u,h=>h
 | .bool b,u,h=>h
 | .anyb,u,h=>h
 | .nlp,u,h=>h
 | .gt ty i,u,h=>by
  simp only[Qd]at h ⊢;obtain⟨k,h1,h2⟩:=h;exact⟨k,⟨hβ i k h1.1,h1.2⟩,h2⟩
 | .gb ty i n,u,h=>by
  simp only[Qd]at h ⊢;obtain⟨k,cap,h1,h2⟩:=h;exact⟨k,cap,⟨hβ i k h1.1,h1.2⟩,h2⟩
 | .str s,u,h=>h
 | .agg cs,u,h=>by
  simp only[Qd]at h ⊢;obtain⟨us,h1,h2,h3⟩:=h;exact⟨us,h1,h2,UO hβ hm cs _ _ 0 (fun _ _ h=>h) h3⟩
 | .sl o sz xs,u,h=>by
  simp only[Qd]at h ⊢;obtain⟨a,len,cap,h1,h2,h3,h4,h5⟩:=h;refine⟨a,len,cap,h1,h2,h3,h4,?_⟩;rcases h5 with h5 | ⟨b,o,h6,h7⟩
  ·exact .inl h5
  ·exact .inr ⟨b,o,h6,UP hβ hm xs _ _ o sz (hm b) h7⟩
 | .bx cs,u,h=>by simp only[Qd]at h
 | .pv _ cs,u,h=>by simp only[Qd]at h
 | .otup sz xs vs,u,h=>by
  simp only[Qd]at h ⊢;obtain⟨us,h1,h2,⟨u0,h3,a,len,cap,k1,k2,k3,k4,k5⟩,h4⟩:=h;refine⟨us,h1,h2,⟨u0,h3,a,len,cap,k1,k2,k3,k4,?_⟩,Md hβ hm vs _ _ (0+1) (fun _ _ h=>h) h4⟩;rcases k5 with h5 | ⟨b,o,h6,h7⟩
  ·exact .inl h5
  ·exact .inr ⟨b,o,h6,UP hβ hm xs _ _ o sz (hm b) h7⟩
 | .gp i o,u,h=>by
  simp only[Qd]at h ⊢;obtain⟨b,h1,h2⟩:=h;exact⟨b,⟨hβ i b h1.1,h1.2⟩,h2⟩
 | .gs i o sz n,u,h=>by
  simp only[Qd]at h ⊢;obtain⟨a,cap,h1,h2,h3,h4⟩:=h;refine⟨a,cap,h1,h2,h3,?_⟩;rcases h4 with⟨h4,h5,h6⟩ | ⟨k,h5,h6⟩
  ·refine .inl ⟨h4,h5,?_⟩;rcases h6 with h6 | ⟨k,h6,h7⟩
   ·exact .inl h6
   ·exact .inr ⟨k,⟨hβ i k h6.1,h6.2⟩,h7⟩
  ·exact .inr ⟨k,⟨hβ i k h5.1,h5.2⟩,h6⟩
 | .rptr cs,u,h=>by
  simp only[Qd]at h ⊢;obtain⟨b,o,h1,h2⟩:=h;exact⟨b,o,h1,UO hβ hm cs _ _ o (hm b) h2⟩
 | .fn f caps,u,h=>by
  simp only[Qd]at h ⊢;obtain⟨g,us,h0,h1,h2,h3⟩:=h;exact⟨g,us,h0,h1,h2,UO hβ hm caps _ _ 0 (fun _ _ h=>h) h3⟩
 | .bf f caps,u,h=>by
  simp only[Qd]at h ⊢;obtain⟨g,us,h0,h1,h2,h3⟩:=h;exact⟨g,us,h0,h1,h2,UO hβ hm caps _ _ 0 (fun _ _ h=>h) h3⟩
 | .tup vs,u,h=>by
  simp only[Qd]at h ⊢;obtain⟨us,h1,h2,h3⟩:=h;exact⟨us,h1,h2,Md hβ hm vs _ _ 0 (fun _ _ h=>h) h3⟩
 | .err n,u,h=>h
 | .mp i,u,h=>by
  simp only[Qd]at h ⊢;obtain⟨b,h1,h2⟩:=h;exact⟨b,⟨hβ i b h1.1,h1.2⟩,h2⟩
theorem UO (hβ:Ge β β') (hm:Le w m w' m'): ∀(cs:List AV) (g g':Nat->Option Value) (o:Nat),(∀i u,g i=some u->g' i=some u)->
  YV num β w m cs g o->YV num β' w' m' cs g' o
 | [],_,_,_,_,_=>by simp only[YV]
 | c:: cs,g,g',o,hg,h=>by
  simp only[YV]at h ⊢;obtain⟨⟨u,h1,h2,h3⟩,h4⟩:=h;exact⟨⟨u,hg o u h1,h2,Zc hβ hm c u h3⟩,UO hβ hm cs g g' (o+1) hg h4⟩
theorem Md (hβ:Ge β β') (hm:Le w m w' m'): ∀(cs:List AV) (g g':Nat->Option Value) (o:Nat),(∀i u,g i=some u->g' i=some u)->
  X5 num β w m cs g o->X5 num β' w' m' cs g' o
 | [],_,_,_,_,_=>by simp only[X5]
 | c:: cs,g,g',o,hg,h=>by
  simp only[X5]at h ⊢;obtain⟨⟨u,h1,h3⟩,h4⟩:=h;exact⟨⟨u,hg o u h1,Zc hβ hm c u h3⟩,Md hβ hm cs g g' (o+1) hg h4⟩
theorem UP (hβ:Ge β β') (hm:Le w m w' m'): ∀(xs:List (List AV)) (g g':Nat->Option Value) (o sz:Nat),(∀i u,g i=some u->g' i=some u)->
  Y5 num β w m xs g o sz->Y5 num β' w' m' xs g' o sz
 | [],_,_,_,_,_,_=>by simp only[Y5]
 | x:: xs,g,g',o,sz,hg,h=>by
  simp only[Y5]at h ⊢;obtain⟨h1,h2,h3⟩:=h;exact⟨h1,UO hβ hm x g g' o hg h2,UP hβ hm xs g g' (o+sz) sz hg h3⟩
end
mutual
theorem Rl {w0:World} {m0:Nat->Nat} (hβ:Ge β β'): ∀(c:AV) (u0 u:Value),Qd num β w0 m0 c u0->Qd num β' w m c u->Qd num β w m c u
 | .undef,_,u,_,h=>h
 | .int k n,_,u,_,h=>h
 | .bool b,_,u,_,h=>h
 | .anyb,_,u,_,h=>h
 | .nlp,_,u,_,h=>h
 | .gt ty i,u0,u,h0,h=>by
  simp only[Qd]at h0 h ⊢;obtain⟨k0,h1,_⟩:=h0;obtain⟨k,h2,h3⟩:=h;have e:=hβ i k0 h1.1;rw[h2.1]at e;injection e with e
  subst e;exact⟨k,h1,h3⟩
 | .gb ty i n,u0,u,h0,h=>by
  simp only[Qd]at h0 h ⊢;obtain⟨k0,_,h1,_⟩:=h0;obtain⟨k,cap,h2,h3⟩:=h;have e:=hβ i k0 h1.1;rw[h2.1]at e;injection e with e
  subst e;exact⟨k,cap,h1,h3⟩
 | .str s,_,u,_,h=>h
 | .agg cs,u0,u,h0,h=>by
  simp only[Qd]at h0 h ⊢;obtain⟨us0,_,_,h03⟩:=h0;obtain⟨us,h1,h2,h3⟩:=h;exact⟨us,h1,h2,TT hβ cs _ _ 0 0 h03 h3⟩
 | .sl o sz xs,u0,u,h0,h=>by
  simp only[Qd]at h0 h ⊢;obtain⟨_,_,_,_,_,_,_,h05⟩:=h0;obtain⟨a,len,cap,h1,h2,h3,h4,h5⟩:=h;refine⟨a,len,cap,h1,h2,h3,h4,?_⟩;rcases h5 with h5 | ⟨b,o,h6,h7⟩
  ·exact .inl h5
  ·rcases h05 with h05 | ⟨b0,o0,h06,h07⟩
   ·exact .inl h05
   ·exact .inr ⟨b,o,h6,N8 hβ xs _ _ o0 o sz h07 h7⟩
 | .bx cs,_,u,_,h=>by simp only[Qd]at h
 | .pv _ cs,_,u,_,h=>by simp only[Qd]at h
 | .otup sz xs vs,u0,u,h0,h=>by
  simp only[Qd]at h0 h ⊢;obtain⟨_,_,_,⟨_,_,_,_,_,_,_,_,_,h05⟩,h04⟩:=h0;obtain⟨us,h1,h2,⟨u0,h3,a,len,cap,k1,k2,k3,k4,k5⟩,h4⟩:=h;refine⟨us,h1,h2,⟨u0,h3,a,len,cap,k1,k2,k3,k4,?_⟩,Mb hβ vs _ _ (0+1) (0+1) h04 h4⟩;rcases k5 with h5 | ⟨b,o,h6,h7⟩
  ·exact .inl h5
  ·rcases h05 with h05 | ⟨b0,o0,h06,h07⟩
   ·exact .inl h05
   ·exact .inr ⟨b,o,h6,N8 hβ xs _ _ o0 o sz h07 h7⟩
 | .gp i o,u0,u,h0,h=>by
  simp only[Qd]at h0 h ⊢;obtain⟨k0,h1,_⟩:=h0;obtain⟨k,h2,h3⟩:=h;have e:=hβ i k0 h1.1;rw[h2.1]at e;injection e with e
  subst e;exact⟨k,h1,h3⟩
 | .gs i o sz n,u0,u,h0,h=>by
  simp only[Qd]at h0 h ⊢;obtain⟨_,cap0,_,q1,_,h04⟩:=h0;obtain⟨a,cap,h1,h2,h3,h4⟩:=h;refine⟨a,cap,h1,h2,h3,?_⟩;have hk:sz=0\/∃k:Blk,β[i]? =some k/\k.mp=false:=by
   rcases h04 with h04 | ⟨k0,h05,_⟩
   ·exact h04.2.2.imp (·.1) fun⟨k,h,_⟩=>⟨k,h⟩
   ·exact .inr ⟨k0,h05⟩
  rcases h4 with h4 | ⟨k,h5,h6,h7,h8⟩
  ·refine .inl ⟨h4.1,h4.2.1,?_⟩;rcases hk with hk | ⟨k0,h05⟩
   ·rcases h4.2.2 with h6 | ⟨_,_,_,h7⟩
    ·exact .inl h6
    ·omega
   ·rcases h4.2.2 with h6 | ⟨k,h6,h7⟩
    ·exact .inl h6
    ·have e:=hβ i k0 h05.1;rw[h6.1]at e;injection e with e
     subst e;exact .inr ⟨k,h05,h7⟩
  ·rcases hk with hk | ⟨k0,h05⟩
   ·omega
   ·have e:=hβ i k0 h05.1;rw[h5.1]at e;injection e with e
    subst e;exact .inr ⟨k,h05,h6,h7,h8⟩
 | .rptr cs,u0,u,h0,h=>by
  simp only[Qd]at h0 h ⊢;obtain⟨_,o0,_,h02⟩:=h0;obtain⟨b,o,h1,h2⟩:=h;exact⟨b,o,h1,TT hβ cs _ _ o0 o h02 h2⟩
 | .fn f caps,u0,u,h0,h=>by
  simp only[Qd]at h0 h ⊢;obtain⟨_,_,_,_,_,h03⟩:=h0;obtain⟨g,us,e,h1,h2,h3⟩:=h;exact⟨g,us,e,h1,h2,TT hβ caps _ _ 0 0 h03 h3⟩
 | .bf f caps,u0,u,h0,h=>by
  simp only[Qd]at h0 h ⊢;obtain⟨_,_,_,_,_,h03⟩:=h0;obtain⟨g,us,e,h1,h2,h3⟩:=h;exact⟨g,us,e,h1,h2,TT hβ caps _ _ 0 0 h03 h3⟩
 | .tup vs,u0,u,h0,h=>by
  simp only[Qd]at h0 h ⊢;obtain⟨_,_,_,h03⟩:=h0;obtain⟨us,h1,h2,h3⟩:=h;exact⟨us,h1,h2,Mb hβ vs _ _ 0 0 h03 h3⟩
 | .err n,_,u,_,h=>h
 | .mp i,u0,u,h0,h=>by
  simp only[Qd]at h0 h ⊢;obtain⟨k0,h1,_⟩:=h0;obtain⟨k,h2,h3⟩:=h;have e:=hβ i k0 h1.1;rw[h2.1]at e;injection e with e
  subst e;exact⟨k,h1,h3⟩
theorem TT {w0:World} {m0:Nat->Nat} (hβ:Ge β β'): ∀(cs:List AV) (g0 g:Nat->Option Value) (o0 o:Nat),YV num β w0 m0 cs g0 o0->YV num β' w m cs g o->YV num β w m cs g o
 | [],_,_,_,_,_,_=>by simp only[YV]
 | c:: cs,g0,g,o0,o,h0,h=>by
  simp only[YV]at h0 h ⊢;obtain⟨⟨u0,_,_,h03⟩,h04⟩:=h0;obtain⟨⟨u,h1,h2,h3⟩,h4⟩:=h;exact⟨⟨u,h1,h2,Rl hβ c u0 u h03 h3⟩,TT hβ cs g0 g (o0+1) (o+1) h04 h4⟩
theorem Mb {w0:World} {m0:Nat->Nat} (hβ:Ge β β'): ∀(cs:List AV) (g0 g:Nat->Option Value) (o0 o:Nat),X5 num β w0 m0 cs g0 o0->X5 num β' w m cs g o->X5 num β w m cs g o
 | [],_,_,_,_,_,_=>by simp only[X5]
 | c:: cs,g0,g,o0,o,h0,h=>by
  simp only[X5]at h0 h ⊢;obtain⟨⟨u0,_,h03⟩,h04⟩:=h0;obtain⟨⟨u,h1,h3⟩,h4⟩:=h;exact⟨⟨u,h1,Rl hβ c u0 u h03 h3⟩,Mb hβ cs g0 g (o0+1) (o+1) h04 h4⟩
theorem N8 {w0:World} {m0:Nat->Nat} (hβ:Ge β β'): ∀(xs:List (List AV)) (g0 g:Nat->Option Value) (o0 o sz:Nat),Y5 num β w0 m0 xs g0 o0 sz->Y5 num β' w m xs g o sz->Y5 num β w m xs g o sz
 | [],_,_,_,_,_,_,_=>by simp only[Y5]
 | x:: xs,g0,g,o0,o,sz,h0,h=>by
  simp only[Y5]at h0 h ⊢;obtain⟨_,h02,h03⟩:=h0;obtain⟨h1,h2,h3⟩:=h;exact⟨h1,TT hβ x g0 g o0 o h02 h2,N8 hβ xs g0 g (o0+sz) (o+sz) sz h03 h3⟩
end
end
end Go.Am
namespace Go.Am
section
variable {num:Nat->Option Nat} {β β':List Blk} {w w':World} {m m':Nat->Nat}
def ZQ: ∀(cs:Qh) (g:R9) (o:Nat),YV num β w m cs g o↔
  ∀i c,cs[i]? =some c->∃u,g (o+i)=some u/\u.oneCell'=true/\Qd num β w m c u
 | [],g,o=>by simp[YV]
 | c:: cs,g,o=>by
  simp only[YV,ZQ cs g (o+1)];constructor
  ·rintro⟨h0,h1⟩ i d hd
   cases i with
   | zero=>simp at hd;subst hd;simpa using h0
   | succ i=>simp at hd;have:=h1 i d hd;rwa[show o+ (i+1)=o+1+i by omega]
  ·intro h;refine⟨by simpa using h 0 c rfl,fun i d hd=> ?_⟩;have:=h (i+1) d (by simpa using hd);rwa[show o+ (i+1)=o+1+i by omega]at this
def R8: ∀(cs:Qh) (g:R9) (o:Nat),X5 num β w m cs g o↔
  ∀i c,cs[i]? =some c->∃u,g (o+i)=some u/\Qd num β w m c u
 | [],g,o=>by simp[X5]
 | c:: cs,g,o=>by
  simp only[X5,R8 cs g (o+1)];constructor
  ·rintro⟨h0,h1⟩ i d hd
   cases i with
   | zero=>simp at hd;subst hd;simpa using h0
   | succ i=>simp at hd;have:=h1 i d hd;rwa[show o+ (i+1)=o+1+i by omega]
  ·intro h;refine⟨by simpa using h 0 c rfl,fun i d hd=> ?_⟩;have:=h (i+1) d (by simpa using hd);rwa[show o+ (i+1)=o+1+i by omega]at this
def Vw:=@Nat.succ_mul
def Xr: ∀(xs:Qa) (g:R9) (o sz:Nat),Y5 num β w m xs g o sz↔
  ∀i x,xs[i]? =some x->x.length=sz/\YV num β w m x g (o+i*sz)
 | [],g,o,sz=>by simp[Y5]
 | x:: xs,g,o,sz=>by
  simp only[Y5,Xr xs g (o+sz) sz];constructor
  ·rintro⟨h0,h1,h2⟩ i d hd
   cases i with
   | zero=>simp at hd;subst hd;exact⟨h0,by simpa using h1⟩
   | succ i=>
    simp at hd;have:=h2 i d hd;rwa[show o+ (i+1)*sz=o+sz+i*sz by rw[Vw];omega]
  ·intro h;have h0:=h 0 x rfl;refine⟨h0.1,by simpa using h0.2,fun i d hd=> ?_⟩;have:=h (i+1) d (by simpa using hd);rwa[show o+ (i+1)*sz=o+sz+i*sz by rw[Vw];omega]at this
def Qo:=@Bool.and_eq_true
def Qv:=@decide_eq_true_eq
mutual
theorem Ud: ∀(c:AV) (u:Value),c.gpfree=true->Qd num β w m c u->Qd num β' w m c u
 | .undef,u,_,h=>h
 | .int k n,u,_,h=>h
 | .bool b,u,_,h=>h
 | .anyb,u,_,h=>h
 | .nlp,u,_,h=>h
 | .gt ty i,u,hf,h=>by simp[AV.gpfree]at hf
 | .gb ty i n,u,hf,h=>by simp[AV.gpfree]at hf
 | .str s,u,_,h=>h
 | .agg cs,u,hf,h=>by
  simp only[Qd,AV.gpfree]at h hf ⊢;obtain⟨us,h1,h2,h3⟩:=h;exact⟨us,h1,h2,TU cs _ 0 hf h3⟩
 | .sl o sz xs,u,hf,h=>by
  simp only[Qd,AV.gpfree]at h hf ⊢;obtain⟨a,len,cap,h1,h2,h3,h4,h5⟩:=h;refine⟨a,len,cap,h1,h2,h3,h4,?_⟩;rcases h5 with h5 | ⟨b,o,h6,h7⟩
  ·exact .inl h5
  ·exact .inr ⟨b,o,h6,N9 xs _ o sz hf h7⟩
 | .bx cs,u,_,h=>by simp only[Qd]at h
 | .pv _ cs,u,_,h=>by simp only[Qd]at h
 | .otup sz xs vs,u,hf,h=>by
  simp only[Qd,AV.gpfree,Qo]at h hf ⊢;obtain⟨us,h1,h2,⟨u0,h3,a,len,cap,k1,k2,k3,k4,k5⟩,h4⟩:=h;refine⟨us,h1,h2,⟨u0,h3,a,len,cap,k1,k2,k3,k4,?_⟩,Mc vs _ (0+1) hf.2 h4⟩;rcases k5 with h5 | ⟨b,o,h6,h7⟩
  ·exact .inl h5
  ·exact .inr ⟨b,o,h6,N9 xs _ o sz hf.1 h7⟩
 | .gp i o,u,hf,h=>by simp[AV.gpfree]at hf
 | .gs i o sz n,u,hf,h=>by
  simp only[Qd,AV.gpfree,Qv]at h hf ⊢;obtain⟨a,cap,h1,h2,h3,h4⟩:=h;rcases h4 with h4 | ⟨_,_,_,_,h5⟩
  ·rcases h4.2.2 with h6 | ⟨_,_,_,h6⟩
   ·exact⟨a,cap,h1,h2,h3,.inl ⟨hf.1,h4.2.1,.inl h6⟩⟩
   ·omega
  ·omega
 | .rptr cs,u,hf,h=>by
  simp only[Qd,AV.gpfree]at h hf ⊢;obtain⟨b,o,h1,h2⟩:=h;exact⟨b,o,h1,TU cs _ o hf h2⟩
 | .fn f caps,u,hf,h=>by
  simp only[Qd,AV.gpfree]at h hf ⊢;obtain⟨g,us,h0,h1,h2,h3⟩:=h;exact⟨g,us,h0,h1,h2,TU caps _ 0 hf h3⟩
 | .bf f caps,u,hf,h=>by
  simp only[Qd,AV.gpfree]at h hf ⊢;obtain⟨g,us,h0,h1,h2,h3⟩:=h;exact⟨g,us,h0,h1,h2,TU caps _ 0 hf h3⟩
 | .tup vs,u,hf,h=>by
  simp only[Qd,AV.gpfree]at h hf ⊢;obtain⟨us,h1,h2,h3⟩:=h;exact⟨us,h1,h2,Mc vs _ 0 hf h3⟩
 | .err n,u,_,h=>h
 | .mp i,u,hf,h=>by simp[AV.gpfree]at hf
theorem TU: ∀(cs:List AV) (g:Nat->Option Value) (o:Nat),QY cs=true->YV num β w m cs g o->YV num β' w m cs g o
 | [],_,_,_,_=>by simp only[YV]
 | c:: cs,g,o,hf,h=>by
  simp only[YV,QY,Qo]at h hf ⊢;obtain⟨⟨u,h1,h2,h3⟩,h4⟩:=h;exact⟨⟨u,h1,h2,Ud c u hf.1 h3⟩,TU cs g (o+1) hf.2 h4⟩
theorem Mc: ∀(cs:List AV) (g:Nat->Option Value) (o:Nat),QY cs=true->X5 num β w m cs g o->X5 num β' w m cs g o
 | [],_,_,_,_=>by simp only[X5]
 | c:: cs,g,o,hf,h=>by
  simp only[X5,QY,Qo]at h hf ⊢;obtain⟨⟨u,h1,h3⟩,h4⟩:=h;exact⟨⟨u,h1,Ud c u hf.1 h3⟩,Mc cs g (o+1) hf.2 h4⟩
theorem N9: ∀(xs:List (List AV)) (g:Nat->Option Value) (o sz:Nat),Zw xs=true->Y5 num β w m xs g o sz->Y5 num β' w m xs g o sz
 | [],_,_,_,_,_=>by simp only[Y5]
 | x:: xs,g,o,sz,hf,h=>by
  simp only[Y5,Zw,Qo]at h hf ⊢;obtain⟨h1,h2,h3⟩:=h;exact⟨h1,TU x g o hf.1 h2,N9 xs g (o+sz) sz hf.2 h3⟩
end
def Rb: ∀(cs:Qh),QY cs=true↔∀(i:Nat) (c:AV),cs[i]? =some c->c.gpfree=true
 | []=>by simp[QY]
 | c:: cs=>by
  simp only[QY,Qo,Rb cs];constructor
  ·rintro⟨h0,h1⟩ i d hd
   cases i with
   | zero=>simp at hd;subst hd;exact h0
   | succ i=>exact h1 i d (by simpa using hd)
  ·intro h;exact⟨h 0 c rfl,fun i d hd=>h (i+1) d (by simpa using hd)⟩
def ZL:=@List.length_cons
@[simp] def QU (c:AV) (u:Value):Qd num β w m c.strip u↔Qd num β w m c u:=by
 cases c <;> first | exact Iff.rfl | (simp only[AV.strip,Qd,X5,ZL];done) | (simp only[AV.strip,Qd,X5,ZL];exact Iff.rfl)
@[simp] def EZ (c:AV):c.strip.gpfree=c.gpfree:=by cases c <;> simp[AV.strip,AV.gpfree,QY]
def Su {c:AV} {u:Value} (h1:c.one=true) (h:Qd num β w m c u):u.oneCell'=true:=by
 cases c <;> simp only[AV.one,Qd]at h1 h <;> try cases h1
 case int=>subst h;rfl
 case bool=>subst h;rfl
 case anyb=>obtain⟨b,rfl⟩:=h;rfl
 case nlp=>subst h;rfl
 case gt=>obtain⟨k,_,_,_,rfl⟩:=h;rfl
 case gb=>obtain⟨k,cap,_,_,rfl,_⟩:=h;rfl
 case str=>subst h;rfl
 case sl=>obtain⟨a,l,c,rfl,_⟩:=h;rfl
 case gp=>obtain⟨b,_,rfl⟩:=h;rfl
 case gs=>obtain⟨a,c,rfl,_⟩:=h;rfl
 case rptr=>obtain⟨b,o,rfl,_⟩:=h;rfl
 case fn=>obtain⟨g,us,_,rfl,_⟩:=h;rfl
 case bf=>obtain⟨g,us,_,rfl,_⟩:=h;rfl
 case err n=>
  rcases h with⟨_,rfl⟩ | ⟨_,t,x,rfl⟩ <;> rfl
 case mp i=>obtain⟨b,_,rfl⟩:=h;rfl
end
inductive Pl where
 | f
 | fc (i:Nat)
 | s (t:Nat)
 | c (t i:Nat)
 | g (i:Nat)
 | gc (i j:Nat)
 deriving DecidableEq
abbrev Own:=Nat->Option Pl
abbrev Ze:=Array Value
def Zz (w:World) (m:ZF) (ν:Own) (p:Pl):AV->Value->Prop
 | .sl true sz xs,u=>(∃a n,u= .slice a n n)\/∃b cap cur e,u= .slice (some ⟨b,0,none⟩) xs.length cap/\w.heap[b]? =some (.cells cur e (0,0))/\
   cur.size=cap*sz/\m b=xs.length*sz/\ν b=some p
 | .otup sz xs _,u=>∃(us:Ze) (u0:Value),u= .tuple us/\us[0]? =some u0/\((∃a n,u0= .slice a n n)\/∃b cap cur e,u0= .slice (some ⟨b,0,none⟩) xs.length cap/\w.heap[b]? =some (.cells cur e (0,0))/\
   cur.size=cap*sz/\m b=xs.length*sz/\ν b=some p)
 | _,_=>True
abbrev Y0:=Nat->Option Nat
def HU (num:Y0) (β:Xv) (w:World) (m:ZF) (ν:Own) (pl:Pl) (cp:Nat->Pl) (b z:Nat) (cs:Qh):Prop:=
 ∃cur e,w.heap[b]? =some (.cells cur e (0,0))/\(cur.size=z/\cs.length<=z)/\m b=0/\ν b=some pl/\
  ∀i c,cs[i]? =some c->∃u,cur[i]? =some u/\u.oneCell'=true/\Qd num β w m c u/\Zz w m ν (cp i) c u
abbrev SM:=Array MapEntry
def SJ (es:SM) (clock:Nat):Prop:=clock=es.size/\∀(i:Nat) (e:MapEntry),es[i]? =some e->e.born=i
def Qeo (num:Y0) (β:Xv) (w:World) (m:ZF) (ν:Own) (pl:Pl) (b:Nat) (cs:Qh):Prop:=
 ∃(es:SM) (clock:Nat) (xs:Qh),w.heap[b]? =some (.map es clock)/\m b=0/\ν b=some pl/\cs= .undef:: xs/\(xs.length=es.size/\SJ es clock)/\
  ∀(i:Nat) (c:AV),xs[i]? =some c->∃(e:MapEntry) (k v:AV),es[i]? =some e/\c= .agg [k,v]/\Qd num β w m k e.key/\Qd num β w m v e.val
def TyV (w:World) (k:Blk):Prop:=∃cur,w.heap[k.b]? =some (.cells cur k.ty (0,0))
def Oi (num:Y0) (β:Xv) (w:World) (m:ZF) (ν:Own) (i:Nat) (k:Blk) (cs:Qh):Prop:=
 (k.mp=false->HU num β w m ν (.g i) (fun j=> .gc i j) k.b k.z cs)/\(k.mp=true->Qeo num β w m ν (.g i) k.b cs)/\(k.mp=false->TyV w k)
def Uf (num:Y0) (β:Xv) (w:World) (m:ZF) (ν:Own) (pl:Pl) (cp:Nat->Pl):AV->Value->Prop
 | .undef,_=>True
 | .bx cs,u=>∃b,u= .pointer (some ⟨b,0,none⟩)/\HU num β w m ν pl cp b cs.length cs
 | .pv sz cs,u=>∃b k,u= .slice (some ⟨b,0,none⟩) k k/\(k<=maxLen/\0 < sz/\k*sz=cs.length)/\HU num β w m ν pl cp b cs.length cs
 | c,u=>Qd num β w m c u/\Zz w m ν pl c u
section
variable {num:Nat->Option Nat} {β β':List Blk} {w w':World} {m m':Nat->Nat} {ν ν':Own}
def QT {pl:Pl} {cp:Nat->Pl} {c:AV} {u:Value} (hc:c.ok=true):Uf num β w m ν pl cp c u↔Qd num β w m c u/\Zz w m ν pl c u:=by
 cases c <;> simp[AV.ok]at hc <;> rfl
def R7 (w:World) (m:ZF) (ν:Own) (w':World) (m':ZF) (ν':Own) (θ:Pl->Pl) (p:Pl):Prop:=
 ∀b,ν b=some p->w'.heap[b]? =w.heap[b]? /\m' b=m b/\ν' b=some (θ p)
def Wn {θ:Pl->Pl} {p:Pl} (k:R7 w m ν w' m' ν' θ p) {c:AV} {u:Value} (h:Zz w m ν p c u):Zz w' m' ν' (θ p) c u:=by
 cases c <;> try exact trivial
 case sl o sz xs=>
  cases o
  ·exact trivial
  ·rcases h with h | ⟨b,cap,cur,e,h1,h2,h3,h4,h5⟩
   ·exact .inl h
   ·obtain⟨k1,k2,k3⟩:=k b h5;exact .inr ⟨b,cap,cur,e,h1,by rw[k1];exact h2,h3,by rw[k2];exact h4,k3⟩
 case otup sz xs vs=>
  obtain⟨us,u0,g1,g2,h⟩:=h;refine⟨us,u0,g1,g2,?_⟩;rcases h with h | ⟨b,cap,cur,e,h1,h2,h3,h4,h5⟩
  ·exact .inl h
  ·obtain⟨k1,k2,k3⟩:=k b h5;exact .inr ⟨b,cap,cur,e,h1,by rw[k1];exact h2,h3,by rw[k2];exact h4,k3⟩
def N4 {θ:Pl->Pl} {pl:Pl} {cp:Nat->Pl} (hβ:Ge β β') (hm:Le w m w' m') (k:R7 w m ν w' m' ν' θ pl) (kc: ∀i,R7 w m ν w' m' ν' θ (cp i))
  {b z:Nat} {cs:Qh} (h:HU num β w m ν pl cp b z cs):HU num β' w' m' ν' (θ pl) (fun i=>θ (cp i)) b z cs:=by
 obtain⟨cur,e,h1,h2,h3,h4,h5⟩:=h;obtain⟨k1,k2,k3⟩:=k b h4;refine⟨cur,e,by rw[k1];exact h1,h2,by rw[k2];exact h3,k3,fun i c hc=> ?_⟩;obtain⟨u,g1,g2,g3,g4⟩:=h5 i c hc;exact⟨u,g1,g2,Zc hβ hm c u g3,Wn (kc i) g4⟩
def QaR {pl:Pl} (hβ:Ge β β') (hm:Le w m w' m') (k:R7 w m ν w' m' ν' id pl) {b:Nat} {cs:Qh} (h:Qeo num β w m ν pl b cs):Qeo num β' w' m' ν' pl b cs:=by
 obtain⟨es,clock,xs,h1,h2,h3,h4,h5,h6⟩:=h;obtain⟨k1,k2,k3⟩:=k b h3;refine⟨es,clock,xs,by rw[k1];exact h1,by rw[k2];exact h2,k3,h4,h5,fun i c hc=> ?_⟩;obtain⟨e,x,v,g1,g2,g3,g4⟩:=h6 i c hc;exact⟨e,x,v,g1,g2,Zc hβ hm x _ g3,Zc hβ hm v _ g4⟩
def Wm {i:Nat} {k:Blk} {cs:Qh} (hβ:Ge β β') (hm:Le w m w' m') (k1:R7 w m ν w' m' ν' id (.g i)) (k2: ∀j,R7 w m ν w' m' ν' id (.gc i j)) (h:Oi num β w m ν i k cs):
  Oi num β' w' m' ν' i k cs:=
 ⟨fun e=>N4 (θ:=id) hβ hm k1 k2 (h.1 e),fun e=>QaR hβ hm k1 (h.2.1 e),fun e=>by
  obtain⟨cur,hc⟩:=h.2.2 e;obtain⟨_,_,_,_,_,hv,_⟩:=h.1 e;exact⟨cur,by rw[(k1 k.b hv).1];exact hc⟩⟩
def QjJ {i:Nat} {k:Blk} {cs:Qh} (h:Oi num β w m ν i k cs):ν k.b=some (.g i)/\m k.b=0:=by
 cases hk:k.mp
 ·obtain⟨_,_,_,_,h2,h1,_⟩:=h.1 hk;exact⟨h1,h2⟩
 ·obtain⟨_,_,_,_,h2,h1,_⟩:=h.2.1 hk;exact⟨h1,h2⟩
def O5 {θ:Pl->Pl} {pl:Pl} {cp:Nat->Pl} (hβ:Ge β β') (hm:Le w m w' m') (k:R7 w m ν w' m' ν' θ pl) (kc: ∀i,R7 w m ν w' m' ν' θ (cp i))
  {c:AV} {u:Value} (h:Uf num β w m ν pl cp c u):Uf num β' w' m' ν' (θ pl) (fun i=>θ (cp i)) c u:=by
 cases c
 case undef=>exact trivial
 case bx cs=>
  obtain⟨b,h1,h2⟩:=h;exact⟨b,h1,N4 hβ hm k kc h2⟩
 case pv sz cs=>
  obtain⟨b,n,h1,h2,h3⟩:=h;exact⟨b,n,h1,h2,N4 hβ hm k kc h3⟩
 all_goals exact⟨Zc hβ hm _ u h.1,Wn k h.2⟩
class Dr where
 d:Prop
structure ZO [Dr] (X:Nat->Prop) (w:World) (m:Nat->Nat) (w':World) (m':Nat->Nat):Prop where
 os:w'.os=w.os
 tape:w'.tape=w.tape
 output:w'.output=w.output
 size:w.heap.size<=w'.heap.size
 same: ∀b,b < w.heap.size->¬X b->w'.heap[b]? =w.heap[b]? /\m' b=m b
 le:Le w m w' m'
 drawn:Dr.d->w.drawn<=w'.drawn
def ZJ:=@Nat.le_refl
def ZO.refl [Dr] (X:Nat->Prop) (w:World) (m:ZF):ZO X w m w m:=⟨rfl,rfl,rfl,ZJ _,fun _ _ _=>⟨rfl,rfl⟩,Le.refl w m,fun _=>ZJ _⟩
def Uu:=@Nat.le_trans
def Pj:=@Nat.lt_of_lt_of_le
def ZO.trans [Dr] {X Y:Nat->Prop} {w w' w'':World} {m m' m'':ZF} (h:ZO X w m w' m') (k:ZO Y w' m' w'' m'')
  (hY: ∀b,b < w.heap.size->Y b->X b):ZO X w m w'' m'':=
 ⟨k.os.trans h.os,k.tape.trans h.tape,k.output.trans h.output,Uu h.size k.size,
  fun b hb hx=>by
   have h1:=h.same b hb hx;have h2:=k.same b (Pj hb h.size) (fun hy=>hx (hY b hb hy));exact⟨h2.1.trans h1.1,h2.2.trans h1.2⟩,
  h.le.trans k.le,fun hd=>Uu (h.drawn hd) (k.drawn hd)⟩
structure Inv [Dr] (num:Nat->Option Nat) (N:Nat) (w0:World) (m0:Nat->Nat) (T:Nat->Prop) (β0:List Blk) (σ:St) (a:Act) (w:World) (m:Nat->Nat) (β:List Blk) (ν:Own):Prop where
 defers:a.defers=[]
 size:a.tmps.size=N
 out: ∀t,N<=t->σ.env t= .undef
 slots: ∀(t:Nat) (v:Value),a.tmps[t]? =some v->Uf num β w m ν (.s t) (fun i=> .c t i) (σ.env t) v
 blen:β.length=σ.bs.length
 boxes: ∀(i:Nat) (cs:List AV) (k:Blk),σ.bs[i]? =some cs->β[i]? =some k->cs≠[]->Oi num β w m ν i k cs
 lt: ∀b p,ν b=some p->b < w.heap.size/\(w0.heap.size<=b\/T b)
 step:ZO T w0 m0 w m
 ge:Ge β0 β
end
end Go.Am
