/-
  AM, part 1: abstract values without addresses, the code of the abstract machine, its interpreter.
-/
import Derived.WalkKit
set_option linter.unusedVariables false
set_option linter.unusedSimpArgs false

namespace Go.Am

inductive AV where
  | undef
  | int (k : IntKind) (n : Int)
  | bool (b : Bool)
  | anyb
  | str (s : List UInt8)
  | agg (cs : List AV)
  | sl (own : Bool) (sz : Nat) (xs : List (List AV))
  | bx (cs : List AV)
  | gp (id off : Nat)
  | gs (id off sz n : Nat)
  | rptr (cs : List AV)
  | fn (f : Nat) (caps : List AV)
  | tup (vs : List AV)
  | err (isNil : Bool)
  | mp (id : Nat)

instance : Inhabited AV := ⟨.undef⟩

def AV.ok : AV → Bool
  | .undef => false
  | .bx _ => false
  | _ => true

/-- A copy: it owns nothing. -/
def AV.strip : AV → AV
  | .sl _ sz xs => .sl false sz xs
  | v => v

def AV.one : AV → Bool
  | .undef => false
  | .bx _ => false
  | .agg _ => false
  | .tup _ => false
  | _ => true

/-- The cells of a value. -/
def cellsOf : AV → Option (List AV)
  | .agg cs => some cs
  | v => if v.one then some [v.strip] else none

mutual
/-- No pointer to a box of the machine's. -/
def AV.gpfree : AV → Bool
  | .gp _ _ => false
  | .gs _ _ sz n => decide (n = 0 ∧ sz = 0)
  | .mp _ => false
  | .agg cs => gpfreeL cs
  | .bx cs => gpfreeL cs
  | .rptr cs => gpfreeL cs
  | .fn _ cs => gpfreeL cs
  | .tup cs => gpfreeL cs
  | .sl _ _ xs => gpfreeE xs
  | _ => true
def gpfreeL : List AV → Bool
  | [] => true
  | c :: cs => c.gpfree && gpfreeL cs
def gpfreeE : List (List AV) → Bool
  | [] => true
  | x :: xs => gpfreeL x && gpfreeE xs
end

def upd (ρ : Nat → AV) (i : Nat) (v : AV) : Nat → AV := fun j => if j = i then v else ρ j

structure St where
  env : Nat → AV
  bs : List (List AV)

inductive AO where
  | t (n : Nat)
  | c (v : AV)

/-- The value of an operand: a copy. -/
def val (ρ : Nat → AV) : AO → AV
  | .t n => (ρ n).strip
  | .c v => v

/-- What a store to a box's field leaves there: a constant nil slice stays one's own. -/
def stV : AO → List AV → List AV
  | .c (.sl true z []), vs => vs.map fun _ => .sl true z []
  | _, vs => vs.map AV.strip

theorem stV_length (x : AO) (vs : List AV) : (stV x vs).length = vs.length := by
  unfold stV
  split <;> simp

inductive AOp where
  | mov (x : AO)
  | mvs (n : Nat)
  | box (x : AO)
  | alloc (zs : List AV)
  | gbox (x : AO)
  | galloc (zs : List AV)
  | fad (s off : Nat)
  | fadr (p off : Nat)
  | ldf (s off sz : Nat) (ag : Bool)
  | ldfm (s off : Nat)
  | ld (p sz : Nat) (ag : Bool)
  | ldg (p sz : Nat) (ag : Bool)
  | ldm (p : Nat)
  | stf (s off sz : Nat) (x : AO)
  | stfm (s off n : Nat)
  | st (p sz : Nat) (x : AO)
  | stm (p n : Nat)
  | bin (op : BinOp) (x y : AO)
  | eqb (ne : Bool) (x y : AO)
  | eqn (ne : Bool) (x : AO)
  | eqa (ne : Bool) (ks : List Nat) (x y : AO)
  | isn (ne : Bool) (x : AO)
  | un (op : UnOp) (x : AO)
  | conv (k : IntKind) (x : AO)
  | call (f : Nat) (args : List AO)
  | callv (g : AO) (args : List AO)
  | lens (x : AO)
  | lenl (x : AO)
  | app (bytes sz : Nat) (s x : AO)
  | appg (bytes sz : Nat) (s x : AO)
  | appz (bytes sz n : Nat) (x : AO)
  | frz (n sz : Nat)
  | zlit
  | appzz (s x : AO)
  | clr (sz : Nat) (x : AO)
  | mx (x y : AO)
  | mn (x y : AO)
  | mksl (sz : Nat) (parts : List AO)
  | mkst (zs : List AV) (parts : List (Nat × Nat × AO))
  | idxa (sz : Nat) (x i : AO)
  | idx (x i : AO)
  | slcs (x : AO) (lo hi : Option AO)
  | slcl (sz : Nat) (x : AO) (lo hi : Option AO)
  | slz (sz : Nat) (x : AO)
  | pick (c a b : AO)
  | ext (x : AO) (i : Nat)
  | mkfn (f : Nat) (caps : List AO)
  | nilck (x : AO)
  | mkm
  | lkm (s ok : Bool) (x i : AO) (z : AV)
  | upm (s : Bool) (x k y : AO)

structure AOper where
  dst : Option Nat
  op : AOp
  guard : Option (Nat × Bool) := none

inductive AC where
  | bad
  | skip
  | reg (draw : Bool) (ops : List AOper)
  | seq (a b : AC)
  | cond (c : AO) (a b : AC)
  | block (id : Nat) (c : AC)
  | loop (c : AC)
  | exit (id : Nat)
  | ret

inductive Ex where
  | normal
  | exit (id : Nat)
  | ret
  deriving DecidableEq

inductive ARes where
  | tmp (t : Nat)
  | cell (t sz : Nat) (ag : Bool)

structure AFun where
  nparams : Nat
  ntmps : Nat
  res : List ARes
  body : AC
  keep : Bool := false

inductive AFn where
  | code (f : AFun)
  | orc (g : List AV → List (List AV) → Option (AV × List (List AV)))

abbrev CallF := Nat → List AV → List (List AV) → Option (AV × List (List AV))

/-- sz cells from off on, as a value. -/
def rdCells (cs : List AV) (off sz : Nat) (ag : Bool) : Option AV :=
  if off + sz ≤ cs.length then
    if ag then some (.agg (((cs.drop off).take sz).map AV.strip))
    else if sz = 1 then (cs[off]?).bind fun v => if v.one then some v.strip else none
    else none
  else none

def put (cs : List AV) (off : Nat) (vs : List AV) : List AV := cs.take off ++ vs ++ cs.drop (off + vs.length)

def toI (k : IntKind) (n : Int) : AV := .int k (k.wrap n)

def abin : BinOp → AV → AV → Option AV
  | .add, .int k a, .int k' b => if k = k' then some (toI k (a + b)) else none
  | .sub, .int k a, .int k' b => if k = k' then some (toI k (a - b)) else none
  | .mul, .int k a, .int k' b => if k = k' then some (toI k (a * b)) else none
  | .quo, .int k a, .int k' b => if k = k' ∧ b ≠ 0 then some (toI k (a.tdiv b)) else none
  | .rem, .int k a, .int k' b => if k = k' ∧ b ≠ 0 then some (.int k (a.tmod b)) else none
  | .eql, .int k a, .int k' b => if k = k' then some (.bool (a == b)) else none
  | .neq, .int k a, .int k' b => if k = k' then some (.bool (a != b)) else none
  | .lss, .int k a, .int k' b => if k = k' then some (.bool (decide (a < b))) else none
  | .leq, .int k a, .int k' b => if k = k' then some (.bool (decide (a ≤ b))) else none
  | .gtr, .int k a, .int k' b => if k = k' then some (.bool (decide (a > b))) else none
  | .geq, .int k a, .int k' b => if k = k' then some (.bool (decide (a ≥ b))) else none
  | .shr, .int k a, .int _ b => if 0 ≤ b then some (.int k (a / 2 ^ min b.toNat k.bits)) else none
  | .shl, .int k a, .int _ b => if 0 ≤ b then some (toI k (a * 2 ^ min b.toNat k.bits)) else none
  | .add, .str a, .str b => if a.length + b.length ≤ 9223372036854775807 then some (.str (a ++ b)) else none
  | .eql, .str a, .str b => some (.bool (a == b))
  | .neq, .str a, .str b => some (.bool !(a == b))
  | .lss, .str a, .str b => some (.bool (Op.bytesLess a b))
  | .leq, .str a, .str b => some (.bool (Op.bytesLess a b || a == b))
  | .gtr, .str a, .str b => some (.bool !(Op.bytesLess a b || a == b))
  | .geq, .str a, .str b => some (.bool !(Op.bytesLess a b))
  | _, _, _ => none

def aun : UnOp → AV → Option AV
  | .not, .bool b => some (.bool !b)
  | .neg, .int k a => some (toI k (0 - a))
  | _, _ => none

/-- Equality of two cells of a kind: 0 a number, 1 a truth value, 2 a string. -/
def eqCell : Nat → AV → AV → Option Bool
  | 0, .int k a, .int k' b => if k = k' then some (a == b) else none
  | 1, .bool a, .bool b => some (a == b)
  | 2, .str a, .str b => some (a == b)
  | _, _, _ => none

def eqCells : List Nat → List AV → List AV → Option Bool
  | [], [], [] => some true
  | k :: ks, c :: cs, d :: ds => match eqCell k c d, eqCells ks cs ds with
    | some a, some b => some (a && b)
    | _, _ => none
  | _, _, _ => none

def okVals (vs : List AV) : Bool := vs.all AV.ok

def fillSt (zs : List AV) : List (Nat × Nat × AV) → Option (List AV)
  | [] => some zs
  | (off, sz, v) :: r => match cellsOf v with
    | some vs => if vs.length = sz ∧ off + vs.length ≤ zs.length then fillSt (put zs off (vs.map AV.strip)) r else none
    | none => none

def elemsOf (sz : Nat) : List AV → Option (List (List AV))
  | [] => some []
  | v :: r => match cellsOf v, elemsOf sz r with
    | some vs, some rs => if vs.length = sz then some (vs.map AV.strip :: rs) else none
    | _, _ => none

def bound (n : Nat) (d : Nat) : Option AV → Option Nat
  | none => some d
  | some (.int _ i) => if 0 ≤ i ∧ i ≤ n then some i.toNat else none
  | some _ => none

/-- Equality of two keys: s says that they are strings, and not numbers. -/
def keyEq : Bool → AV → AV → Option Bool
  | false, .int k a, .int k' b => if k = k' then some (a == b) else none
  | true, .str a, .str b => some (a == b)
  | _, _, _ => none
def keyB : Bool → AV → Bool
  | false, .int _ _ => true
  | true, .str _ => true
  | _, _ => false
/-- The value of a key in a map's entries. -/
def findM (s : Bool) : List AV → AV → Option (Option AV)
  | [], q => if keyB s q then some none else none
  | .agg [k, v] :: es, q => match keyEq s q k with
    | some true => some (some v)
    | some false => findM s es q
    | none => none
  | _, _ => none
def updM (s : Bool) : List AV → AV → AV → Option (List AV)
  | [], q, v => if keyB s q then some [.agg [q, v]] else none
  | .agg [k, v'] :: es, q, v => match keyEq s q k with
    | some true => some (.agg [q, v] :: es)
    | some false => (updM s es q v).map (.agg [k, v'] :: ·)
    | none => none
  | _, _, _ => none

/-- n elements of sz cells from off on. -/
def chunks (cs : List AV) (off sz n : Nat) : List (List AV) := (List.range n).map fun k => ((cs.drop (off + k * sz)).take sz).map AV.strip

/-- A mutable slice is published, and its box is dead. -/
def frzAt (σ : St) (n sz : Nat) : Option (AV × St) := match σ.env n with
  | .gs id o sz1 k => if sz1 = sz ∧ 0 < sz then
      (if k = 0 then some (.sl false sz [], { σ with env := upd σ.env n .undef })
        else (σ.bs[id]?).bind fun cs => if o + k * sz ≤ cs.length then some (.sl (decide (o = 0)) sz (chunks cs o sz k), { env := upd σ.env n .undef, bs := σ.bs.set id [] }) else none)
      else if sz1 = 0 ∧ k = 0 then some (.sl true sz [], { σ with env := upd σ.env n .undef }) else none
  | _ => none

/-- One operation: the value, and the state behind its effects. -/
def exec (K : CallF) : AOp → St → Option (AV × St)
  | .mov x, σ => let v := val σ.env x; if v.ok then some (v, σ) else none
  | .mvs n, σ => let v := σ.env n; if v.ok then some (v, { σ with env := upd σ.env n .undef }) else none
  | .box x, σ => (cellsOf (val σ.env x)).map fun cs => (.bx (cs.map AV.strip), σ)
  | .alloc zs, σ => some (.bx zs, σ)
  | .gbox x, σ => (cellsOf (val σ.env x)).bind fun cs => if gpfreeL cs then some (.gp σ.bs.length 0, { σ with bs := σ.bs ++ [cs.map AV.strip] }) else none
  | .galloc zs, σ => if gpfreeL zs then some (.gp σ.bs.length 0, { σ with bs := σ.bs ++ [zs] }) else none
  | .fad s _, σ => match σ.env s with
    | .bx _ => some (.undef, σ)
    | _ => none
  | .fadr p off, σ => match σ.env p with
    | .gp i o => some (.gp i (o + off), σ)
    | .rptr cs => some (.rptr (cs.drop off), σ)
    | _ => none
  | .ldf s off sz ag, σ => match σ.env s with
    | .bx cs => (rdCells cs off sz ag).map fun v => (v, σ)
    | _ => none
  | .ldfm s off, σ => match σ.env s with
    | .bx cs => (cs[off]?).bind fun v => if v.one then some (v, { σ with env := upd σ.env s (.bx (cs.set off .undef)) }) else none
    | _ => none
  | .ld p sz ag, σ => match σ.env p with
    | .rptr cs => (rdCells cs 0 sz ag).map fun v => (v, σ)
    | _ => none
  | .ldg p sz ag, σ => match σ.env p with
    | .gp i o => (σ.bs[i]?).bind fun cs => (rdCells cs o sz ag).map fun v => (v, σ)
    | _ => none
  | .ldm p, σ => match σ.env p with
    | .gp i o => (σ.bs[i]?).bind fun cs => (cs[o]?).bind fun v => if v.one then some (v, { σ with bs := σ.bs.set i (cs.set o .undef) }) else none
    | _ => none
  | .stf s off sz x, σ => match σ.env s with
    | .bx cs => (cellsOf (val σ.env x)).bind fun vs =>
      if vs.length = sz ∧ off + vs.length ≤ cs.length then some (.undef, { σ with env := upd σ.env s (.bx (put cs off (stV x vs))) }) else none
    | _ => none
  | .stfm s off n, σ => match σ.env s with
    | .bx cs => if s ≠ n ∧ (σ.env n).one ∧ off < cs.length then some (.undef, { σ with env := upd (upd σ.env n .undef) s (.bx (cs.set off (σ.env n))) }) else none
    | _ => none
  | .st p sz x, σ => match σ.env p with
    | .gp i o => (σ.bs[i]?).bind fun cs => (cellsOf (val σ.env x)).bind fun vs =>
      if vs.length = sz ∧ o + vs.length ≤ cs.length ∧ gpfreeL vs ∧ 0 < sz then some (.undef, { σ with bs := σ.bs.set i (put cs o (vs.map AV.strip)) }) else none
    | _ => none
  | .stm p n, σ => match σ.env p with
    | .gp i o => (σ.bs[i]?).bind fun cs => if (σ.env n).one ∧ (σ.env n).gpfree ∧ o < cs.length then some (.undef, { env := upd σ.env n .undef, bs := σ.bs.set i (cs.set o (σ.env n)) }) else none
    | _ => none
  | .bin op x y, σ => (abin op (val σ.env x) (val σ.env y)).map fun v => (v, σ)
  | .eqb ne x y, σ => match val σ.env x, val σ.env y with
    | .bool a, .bool b => some (.bool (if ne then !(a == b) else a == b), σ)
    | _, _ => none
  | .eqn ne x, σ => match val σ.env x with
    | .err a => some (.bool (if ne then !a else a), σ)
    | _ => none
  | .eqa ne ks x y, σ => match val σ.env x, val σ.env y with
    | .agg cs, .agg ds => (eqCells ks cs ds).map fun b => (.bool (if ne then !b else b), σ)
    | _, _ => none
  | .isn ne x, σ => match val σ.env x with
    | .sl _ _ [] => some (.anyb, σ)
    | .sl _ _ (_ :: _) => some (.bool ne, σ)
    | _ => none
  | .un op x, σ => (aun op (val σ.env x)).map fun v => (v, σ)
  | .conv k x, σ => match val σ.env x with
    | .int _ n => some (toI k n, σ)
    | _ => none
  | .call f args, σ => let vs := args.map (val σ.env); if okVals vs then (K f vs σ.bs).map fun (r, bs) => (r, { σ with bs }) else none
  | .callv g args, σ => match val σ.env g with
    | .fn f caps => let vs := args.map (val σ.env) ++ caps; if okVals vs then (K f vs σ.bs).map fun (r, bs) => (r, { σ with bs }) else none
    | _ => none
  | .lens x, σ => match val σ.env x with
    | .str s => some (.int .i64 s.length, σ)
    | _ => none
  | .lenl x, σ => match val σ.env x with
    | .sl _ _ xs => some (.int .i64 xs.length, σ)
    | .gs _ _ _ n => some (.int .i64 n, σ)
    | _ => none
  | .app bytes sz s x, σ => match (match s with | .t n => (σ.env n, upd σ.env n .undef) | .c v => (v, σ.env)), val σ.env x with
    | (.sl true sz1 xs, ρ), .sl _ sz2 ys =>
      if sz1 = sz ∧ sz2 = sz ∧ (xs.length + ys.length) * bytes ≤ 140737488355328 then some (.sl true sz (xs ++ ys), { σ with env := ρ }) else none
    | _, _ => none
  | .appg bytes sz s x, σ => match (match s with | .t n => (σ.env n, upd σ.env n .undef) | .c v => (v, σ.env)), val σ.env x with
    | (.sl true sz1 [], ρ), .sl _ sz2 ys =>
      if sz1 = sz ∧ sz2 = sz ∧ ys.length * bytes ≤ 140737488355328 then
        (if ys.length = 0 then none else if gpfreeE ys then some (.gs σ.bs.length 0 sz ys.length, { env := ρ, bs := σ.bs ++ [ys.flatten.map AV.strip] }) else none)
      else none
    | _, _ => none
  | .appz bytes sz n x, σ => match frzAt σ n sz, val σ.env x with
    | some (.sl true _ xs, s), .sl _ sz2 ys =>
      if sz2 = sz ∧ (xs.length + ys.length) * bytes ≤ 140737488355328 then some (.sl true sz (xs ++ ys), s) else none
    | _, _ => none
  | .frz n sz, σ => frzAt σ n sz
  | .zlit, σ => some (.gs 0 0 0 0, σ)
  | .appzz s x, σ => match val σ.env s, val σ.env x with
    | .gs _ _ 0 0, .sl _ _ [] => some (.gs 0 0 0 0, σ)
    | _, _ => none
  | .clr sz x, σ => match val σ.env x with
    | .gs id o sz1 k => if sz1 = sz ∧ 0 < sz then
        (if k = 0 then some (.undef, σ) else (σ.bs[id]?).bind fun cs => if o + k * sz ≤ cs.length then some (.undef, { σ with bs := σ.bs.set id (put cs o (List.replicate (k * sz) .undef)) }) else none)
        else none
    | _ => none
  | .mx x y, σ => match val σ.env x, val σ.env y with
    | .int k a, .int k' b => if k = k' then some (.int k (if b > a then b else a), σ) else none
    | _, _ => none
  | .mn x y, σ => match val σ.env x, val σ.env y with
    | .int k a, .int k' b => if k = k' then some (.int k (if b < a then b else a), σ) else none
    | _, _ => none
  | .mksl sz parts, σ => (elemsOf sz (parts.map (val σ.env))).map fun xs => (.sl true sz xs, σ)
  | .mkst zs parts, σ => (fillSt zs (parts.map fun p => (p.1, p.2.1, val σ.env p.2.2))).map fun cs => (.agg cs, σ)
  | .idxa sz x i, σ => match val σ.env x, val σ.env i with
    | .sl _ sz1 xs, .int _ n => if sz1 = sz ∧ 0 ≤ n then (xs[n.toNat]?).map fun e => (.rptr e, σ) else none
    | .gs id o sz1 k, .int _ n => if sz1 = sz ∧ 0 ≤ n ∧ n < k then some (.gp id (o + n.toNat * sz), σ) else none
    | _, _ => none
  | .idx x i, σ => match val σ.env x, val σ.env i with
    | .str s, .int _ n => if 0 ≤ n then (s[n.toNat]?).map fun b => (.int .u8 b.toNat, σ) else none
    | _, _ => none
  | .slcs x lo hi, σ => match val σ.env x with
    | .str s => (bound s.length s.length (hi.map (val σ.env))).bind fun h => (bound h 0 (lo.map (val σ.env))).map fun l => (.str ((s.take h).drop l), σ)
    | _ => none
  | .slcl sz x lo hi, σ => match val σ.env x with
    | .sl _ sz1 xs => if sz1 = sz then (bound xs.length xs.length (hi.map (val σ.env))).bind fun h => (bound h 0 (lo.map (val σ.env))).map fun l => (.sl false sz ((xs.take h).drop l), σ) else none
    | .gs id o sz1 k => if sz1 = sz ∧ 0 < sz then (bound k k (hi.map (val σ.env))).bind fun h => (bound h 0 (lo.map (val σ.env))).map fun l => (.gs id (o + l * sz) sz (h - l), σ)
      else if sz1 = 0 ∧ k = 0 then (bound 0 0 (hi.map (val σ.env))).bind fun h => (bound h 0 (lo.map (val σ.env))).map fun l => (.gs 0 0 0 0, σ) else none
    | _ => none
  | .slz sz x, σ => match val σ.env x with
    | .sl _ sz1 _ => if sz1 = sz then some (.sl true sz [], σ) else none
    | _ => none
  | .pick c a b, σ => match val σ.env c with
    | .bool true => let v := val σ.env a; if v.ok then some (v, σ) else none
    | .bool false => let v := val σ.env b; if v.ok then some (v, σ) else none
    | _ => none
  | .ext x i, σ => match val σ.env x with
    | .tup vs => (vs[i]?).bind fun v => if v.ok then some (v.strip, σ) else none
    | _ => none
  | .mkfn f caps, σ => let vs := caps.map (val σ.env); if vs.all AV.one then some (.fn f vs, σ) else none
  | .nilck x, σ => let v := val σ.env x; match v with
    | .fn _ _ => some (v, σ)
    | .gp _ _ => some (v, σ)
    | .rptr _ => some (v, σ)
    | _ => none
  | .mkm, σ => some (.mp σ.bs.length, { σ with bs := σ.bs ++ [[.undef]] })
  | .lkm s ok x i z, σ => match val σ.env x with
    | .mp id => (σ.bs[id]?).bind fun cs => if cs = [] then none else (findM s (cs.drop 1) (val σ.env i)).bind fun r => if (r.getD z).strip.ok then some (if ok then .tup [(r.getD z).strip, .bool r.isSome] else (r.getD z).strip, σ) else none
    | _ => none
  | .upm s x k y, σ => match val σ.env x with
    | .mp id => (σ.bs[id]?).bind fun cs => if cs = [] ∨ (val σ.env y).one = false ∨ (val σ.env y).gpfree = false then none else
      (updM s (cs.drop 1) (val σ.env k) (val σ.env y).strip).map fun es => (.undef, { σ with bs := σ.bs.set id (.undef :: es) })
    | _ => none

def setD (ρ : Nat → AV) (d : Option Nat) (v : AV) : Nat → AV := match d with
  | some d => upd ρ d v
  | none => ρ

def runOp (K : CallF) (o : AOper) (σ : St) : Option St :=
  match o.guard with
  | none => (exec K o.op σ).map fun (v, s) => { s with env := setD s.env o.dst v }
  | some (t, b) => match σ.env t with
    | .bool c => if c = b then (exec K o.op σ).map fun (v, s) => { s with env := setD s.env o.dst v }
      else some { σ with env := setD σ.env o.dst (.tup []) }
    | .tup [] => some { σ with env := setD σ.env o.dst (.tup []) }
    | _ => none

def runOps (K : CallF) : List AOper → St → Option St
  | [], σ => some σ
  | o :: os, σ => (runOp K o σ).bind (runOps K os)

def iter (f : St → Option (Ex × St)) : Nat → St → Option (Ex × St)
  | 0, _ => none
  | n + 1, σ => match f σ with
    | some (.normal, s) => iter f n s
    | r => r

def runC (K : CallF) (n : Nat) : AC → St → Option (Ex × St)
  | .bad, _ => none
  | .skip, σ => some (.normal, σ)
  | .reg _ ops, σ => (runOps K ops σ).map fun s => (.normal, s)
  | .seq a b, σ => match runC K n a σ with
    | some (.normal, s) => runC K n b s
    | r => r
  | .cond c a b, σ => match val σ.env c with
    | .bool true => runC K n a σ
    | .bool false => runC K n b σ
    | _ => none
  | .block id c, σ => match runC K n c σ with
    | some (.exit i, s) => some (if i = id then .normal else .exit i, s)
    | r => r
  | .loop c, σ => iter (runC K n c) n σ
  | .exit id, σ => some (.exit id, σ)
  | .ret, σ => some (.ret, σ)

def argEnv (args : List AV) : Nat → AV := fun i => (args.getD i .undef).strip

def readRes (ρ : Nat → AV) : ARes → Option AV
  | .tmp t => let v := ρ t; if v.ok then some v else none
  | .cell t sz ag => match ρ t with
    | .bx cs => rdCells cs 0 sz ag
    | _ => none

def readAll (ρ : Nat → AV) : List ARes → Option (List AV)
  | [] => some []
  | r :: rs => match readRes ρ r, readAll ρ rs with
    | some v, some vs => some (v :: vs)
    | _, _ => none

def finish (f : AFun) (k : Nat) (σ : St) : Option (AV × List (List AV)) :=
  match readAll σ.env f.res with
  | some [v] => if f.keep then some (v, σ.bs) else if v.gpfree then some (v, σ.bs.take k) else none
  | some vs => if f.keep then some (.tup (vs.map AV.strip), σ.bs) else if gpfreeL vs then some (.tup (vs.map AV.strip), σ.bs.take k) else none
  | none => none

def callN (T : Nat → Option AFn) : Nat → CallF
  | 0, _, _, _ => none
  | n + 1, f, args, bs => match T f with
    | none => none
    | some (.orc g) => g args bs
    | some (.code fn) =>
      if args.length = fn.nparams then
        match runC (callN T n) n fn.body { env := argEnv args, bs } with
        | some (.normal, σ) => finish fn bs.length σ
        | some (.ret, σ) => finish fn bs.length σ
        | _ => none
      else none

end Go.Am

namespace Go.Am

/-- The block of a box of the machine's, and its size. -/
structure Blk where
  b : Nat
  z : Nat
  mp : Bool := false

/-- The published cells of block b. -/
def hg (w : World) (m : Nat → Nat) (b : Nat) : Nat → Option Value := fun i => if i < m b then w.cell? ⟨b, i, none⟩ else none

mutual
def RepV (num : Nat → Option Nat) (β : List Blk) (w : World) (m : Nat → Nat) : AV → Value → Prop
  | .undef, u => u.oneCell' = true
  | .int k n, u => u = .int k n
  | .bool b, u => u = .bool b
  | .anyb, u => ∃ b, u = .bool b
  | .str s, u => u = .string ⟨s.toArray⟩
  | .agg cs, u => ∃ us : Array Value, u = .agg us ∧ us.size = cs.length ∧ RepC num β w m cs (fun i => us[i]?) 0
  | .sl _ sz xs, u => ∃ a len cap, u = .slice a len cap ∧ xs.length = len ∧ len ≤ cap ∧ cap ≤ maxLen ∧
      (xs = [] ∨ ∃ b o, a = some ⟨b, o, none⟩ ∧ RepE num β w m xs (hg w m b) o sz)
  | .bx _, _ => False
  | .gp i o, u => ∃ k : Blk, (β[i]? = some k ∧ k.mp = false) ∧ u = .pointer (some ⟨k.b, o, none⟩)
  | .gs i o sz n, u => ∃ a cap, u = .slice a n cap ∧ n ≤ cap ∧ cap ≤ maxLen ∧ ((n = 0 ∧ cap = 0) ∨ ∃ k : Blk, (β[i]? = some k ∧ k.mp = false) ∧ a = some ⟨k.b, o, none⟩ ∧ o + cap * sz = k.z ∧ 0 < sz)
  | .rptr cs, u => ∃ b o, u = .pointer (some ⟨b, o, none⟩) ∧ RepC num β w m cs (hg w m b) o
  | .fn f caps, u => ∃ g us, num f = some g ∧ u = .func (.func g) #[] us ∧ us.size = caps.length ∧ RepC num β w m caps (fun i => us[i]?) 0
  | .tup vs, u => ∃ us : Array Value, u = .tuple us ∧ us.size = vs.length ∧ RepT num β w m vs (fun i => us[i]?) 0
  | .err n, u => (n = true ∧ u = .nilIface) ∨ (n = false ∧ ∃ t x, u = .iface t x)
  | .mp i, u => ∃ k : Blk, (β[i]? = some k ∧ k.mp = true) ∧ u = .map (some k.b)
def RepC (num : Nat → Option Nat) (β : List Blk) (w : World) (m : Nat → Nat) : List AV → (Nat → Option Value) → Nat → Prop
  | [], _, _ => True
  | c :: cs, g, o => (∃ u, g o = some u ∧ u.oneCell' = true ∧ RepV num β w m c u) ∧ RepC num β w m cs g (o + 1)
def RepT (num : Nat → Option Nat) (β : List Blk) (w : World) (m : Nat → Nat) : List AV → (Nat → Option Value) → Nat → Prop
  | [], _, _ => True
  | c :: cs, g, o => (∃ u, g o = some u ∧ RepV num β w m c u) ∧ RepT num β w m cs g (o + 1)
def RepE (num : Nat → Option Nat) (β : List Blk) (w : World) (m : Nat → Nat) : List (List AV) → (Nat → Option Value) → Nat → Nat → Prop
  | [], _, _, _ => True
  | x :: xs, g, o, sz => x.length = sz ∧ RepC num β w m x g o ∧ RepE num β w m xs g (o + sz) sz
end

/-- What was published stays. -/
def Le (w : World) (m : Nat → Nat) (w' : World) (m' : Nat → Nat) : Prop := ∀ b i u, hg w m b i = some u → hg w' m' b i = some u

theorem Le.refl (w : World) (m : Nat → Nat) : Le w m w m := fun _ _ _ h => h
theorem Le.trans {w w' w'' : World} {m m' m'' : Nat → Nat} (h : Le w m w' m') (k : Le w' m' w'' m'') : Le w m w'' m'' := fun b i u hu => k b i u (h b i u hu)

def Ge (β β' : List Blk) : Prop := ∀ (i : Nat) (b : Blk), β[i]? = some b → β'[i]? = some b
theorem Ge.refl (β : List Blk) : Ge β β := fun _ _ h => h
theorem Ge.append (β γ : List Blk) : Ge β (β ++ γ) := fun i b h => by
  have hlt : i < β.length := by
    rcases Nat.lt_or_ge i β.length with h1 | h1
    · exact h1
    · rw [List.getElem?_eq_none h1] at h; cases h
  rw [List.getElem?_append_left hlt]; exact h

section
variable {num : Nat → Option Nat} {β β' : List Blk} {w w' : World} {m m' : Nat → Nat}

mutual
theorem RepV_mono (hβ : Ge β β') (hm : Le w m w' m') : ∀ (c : AV) (u : Value), RepV num β w m c u → RepV num β' w' m' c u
  | .undef, u, h => h
  | .int k n, u, h => h
  | .bool b, u, h => h
  | .anyb, u, h => h
  | .str s, u, h => h
  | .agg cs, u, h => by
    simp only [RepV] at h ⊢
    obtain ⟨us, h1, h2, h3⟩ := h
    exact ⟨us, h1, h2, RepC_mono hβ hm cs _ _ 0 (fun _ _ h => h) h3⟩
  | .sl o sz xs, u, h => by
    simp only [RepV] at h ⊢
    obtain ⟨a, len, cap, h1, h2, h3, h4, h5⟩ := h
    refine ⟨a, len, cap, h1, h2, h3, h4, ?_⟩
    rcases h5 with h5 | ⟨b, o, h6, h7⟩
    · exact .inl h5
    · exact .inr ⟨b, o, h6, RepE_mono hβ hm xs _ _ o sz (hm b) h7⟩
  | .bx cs, u, h => by simp only [RepV] at h
  | .gp i o, u, h => by
    simp only [RepV] at h ⊢
    obtain ⟨b, h1, h2⟩ := h
    exact ⟨b, ⟨hβ i b h1.1, h1.2⟩, h2⟩
  | .gs i o sz n, u, h => by
    simp only [RepV] at h ⊢
    obtain ⟨a, cap, h1, h2, h3, h4⟩ := h
    refine ⟨a, cap, h1, h2, h3, ?_⟩
    rcases h4 with h4 | ⟨k, h5, h6⟩
    · exact .inl h4
    · exact .inr ⟨k, ⟨hβ i k h5.1, h5.2⟩, h6⟩
  | .rptr cs, u, h => by
    simp only [RepV] at h ⊢
    obtain ⟨b, o, h1, h2⟩ := h
    exact ⟨b, o, h1, RepC_mono hβ hm cs _ _ o (hm b) h2⟩
  | .fn f caps, u, h => by
    simp only [RepV] at h ⊢
    obtain ⟨g, us, h0, h1, h2, h3⟩ := h
    exact ⟨g, us, h0, h1, h2, RepC_mono hβ hm caps _ _ 0 (fun _ _ h => h) h3⟩
  | .tup vs, u, h => by
    simp only [RepV] at h ⊢
    obtain ⟨us, h1, h2, h3⟩ := h
    exact ⟨us, h1, h2, RepT_mono hβ hm vs _ _ 0 (fun _ _ h => h) h3⟩
  | .err n, u, h => h
  | .mp i, u, h => by
    simp only [RepV] at h ⊢
    obtain ⟨b, h1, h2⟩ := h
    exact ⟨b, ⟨hβ i b h1.1, h1.2⟩, h2⟩
theorem RepC_mono (hβ : Ge β β') (hm : Le w m w' m') : ∀ (cs : List AV) (g g' : Nat → Option Value) (o : Nat), (∀ i u, g i = some u → g' i = some u) →
    RepC num β w m cs g o → RepC num β' w' m' cs g' o
  | [], _, _, _, _, _ => by simp only [RepC]
  | c :: cs, g, g', o, hg, h => by
    simp only [RepC] at h ⊢
    obtain ⟨⟨u, h1, h2, h3⟩, h4⟩ := h
    exact ⟨⟨u, hg o u h1, h2, RepV_mono hβ hm c u h3⟩, RepC_mono hβ hm cs g g' (o + 1) hg h4⟩
theorem RepT_mono (hβ : Ge β β') (hm : Le w m w' m') : ∀ (cs : List AV) (g g' : Nat → Option Value) (o : Nat), (∀ i u, g i = some u → g' i = some u) →
    RepT num β w m cs g o → RepT num β' w' m' cs g' o
  | [], _, _, _, _, _ => by simp only [RepT]
  | c :: cs, g, g', o, hg, h => by
    simp only [RepT] at h ⊢
    obtain ⟨⟨u, h1, h3⟩, h4⟩ := h
    exact ⟨⟨u, hg o u h1, RepV_mono hβ hm c u h3⟩, RepT_mono hβ hm cs g g' (o + 1) hg h4⟩
theorem RepE_mono (hβ : Ge β β') (hm : Le w m w' m') : ∀ (xs : List (List AV)) (g g' : Nat → Option Value) (o sz : Nat), (∀ i u, g i = some u → g' i = some u) →
    RepE num β w m xs g o sz → RepE num β' w' m' xs g' o sz
  | [], _, _, _, _, _, _ => by simp only [RepE]
  | x :: xs, g, g', o, sz, hg, h => by
    simp only [RepE] at h ⊢
    obtain ⟨h1, h2, h3⟩ := h
    exact ⟨h1, RepC_mono hβ hm x g g' o hg h2, RepE_mono hβ hm xs g g' (o + sz) sz hg h3⟩
end
end
end Go.Am

namespace Go.Am

section
variable {num : Nat → Option Nat} {β β' : List Blk} {w w' : World} {m m' : Nat → Nat}

theorem RepC_get : ∀ (cs : List AV) (g : Nat → Option Value) (o : Nat), RepC num β w m cs g o ↔
    ∀ i c, cs[i]? = some c → ∃ u, g (o + i) = some u ∧ u.oneCell' = true ∧ RepV num β w m c u
  | [], g, o => by simp [RepC]
  | c :: cs, g, o => by
    simp only [RepC, RepC_get cs g (o + 1)]
    constructor
    · rintro ⟨h0, h1⟩ i d hd
      cases i with
      | zero => simp at hd; subst hd; simpa using h0
      | succ i => simp at hd; have := h1 i d hd; rwa [show o + (i + 1) = o + 1 + i by omega]
    · intro h
      refine ⟨by simpa using h 0 c rfl, fun i d hd => ?_⟩
      have := h (i + 1) d (by simpa using hd)
      rwa [show o + (i + 1) = o + 1 + i by omega] at this

theorem RepT_get : ∀ (cs : List AV) (g : Nat → Option Value) (o : Nat), RepT num β w m cs g o ↔
    ∀ i c, cs[i]? = some c → ∃ u, g (o + i) = some u ∧ RepV num β w m c u
  | [], g, o => by simp [RepT]
  | c :: cs, g, o => by
    simp only [RepT, RepT_get cs g (o + 1)]
    constructor
    · rintro ⟨h0, h1⟩ i d hd
      cases i with
      | zero => simp at hd; subst hd; simpa using h0
      | succ i => simp at hd; have := h1 i d hd; rwa [show o + (i + 1) = o + 1 + i by omega]
    · intro h
      refine ⟨by simpa using h 0 c rfl, fun i d hd => ?_⟩
      have := h (i + 1) d (by simpa using hd)
      rwa [show o + (i + 1) = o + 1 + i by omega] at this

theorem RepE_get : ∀ (xs : List (List AV)) (g : Nat → Option Value) (o sz : Nat), RepE num β w m xs g o sz ↔
    ∀ i x, xs[i]? = some x → x.length = sz ∧ RepC num β w m x g (o + i * sz)
  | [], g, o, sz => by simp [RepE]
  | x :: xs, g, o, sz => by
    simp only [RepE, RepE_get xs g (o + sz) sz]
    constructor
    · rintro ⟨h0, h1, h2⟩ i d hd
      cases i with
      | zero => simp at hd; subst hd; exact ⟨h0, by simpa using h1⟩
      | succ i =>
        simp at hd
        have := h2 i d hd
        rwa [show o + (i + 1) * sz = o + sz + i * sz by rw [Nat.succ_mul]; omega]
    · intro h
      have h0 := h 0 x rfl
      refine ⟨h0.1, by simpa using h0.2, fun i d hd => ?_⟩
      have := h (i + 1) d (by simpa using hd)
      rwa [show o + (i + 1) * sz = o + sz + i * sz by rw [Nat.succ_mul]; omega] at this

mutual
theorem RepV_free : ∀ (c : AV) (u : Value), c.gpfree = true → RepV num β w m c u → RepV num β' w m c u
  | .undef, u, _, h => h
  | .int k n, u, _, h => h
  | .bool b, u, _, h => h
  | .anyb, u, _, h => h
  | .str s, u, _, h => h
  | .agg cs, u, hf, h => by
    simp only [RepV, AV.gpfree] at h hf ⊢
    obtain ⟨us, h1, h2, h3⟩ := h
    exact ⟨us, h1, h2, RepC_free cs _ 0 hf h3⟩
  | .sl o sz xs, u, hf, h => by
    simp only [RepV, AV.gpfree] at h hf ⊢
    obtain ⟨a, len, cap, h1, h2, h3, h4, h5⟩ := h
    refine ⟨a, len, cap, h1, h2, h3, h4, ?_⟩
    rcases h5 with h5 | ⟨b, o, h6, h7⟩
    · exact .inl h5
    · exact .inr ⟨b, o, h6, RepE_free xs _ o sz hf h7⟩
  | .bx cs, u, _, h => by simp only [RepV] at h
  | .gp i o, u, hf, h => by simp [AV.gpfree] at hf
  | .gs i o sz n, u, hf, h => by
    simp only [RepV, AV.gpfree, decide_eq_true_eq] at h hf ⊢
    obtain ⟨a, cap, h1, h2, h3, h4⟩ := h
    refine ⟨a, cap, h1, h2, h3, .inl ⟨hf.1, ?_⟩⟩
    rcases h4 with h4 | ⟨_, _, _, _, h5⟩
    · exact h4.2
    · omega
  | .rptr cs, u, hf, h => by
    simp only [RepV, AV.gpfree] at h hf ⊢
    obtain ⟨b, o, h1, h2⟩ := h
    exact ⟨b, o, h1, RepC_free cs _ o hf h2⟩
  | .fn f caps, u, hf, h => by
    simp only [RepV, AV.gpfree] at h hf ⊢
    obtain ⟨g, us, h0, h1, h2, h3⟩ := h
    exact ⟨g, us, h0, h1, h2, RepC_free caps _ 0 hf h3⟩
  | .tup vs, u, hf, h => by
    simp only [RepV, AV.gpfree] at h hf ⊢
    obtain ⟨us, h1, h2, h3⟩ := h
    exact ⟨us, h1, h2, RepT_free vs _ 0 hf h3⟩
  | .err n, u, _, h => h
  | .mp i, u, hf, h => by simp [AV.gpfree] at hf
theorem RepC_free : ∀ (cs : List AV) (g : Nat → Option Value) (o : Nat), gpfreeL cs = true → RepC num β w m cs g o → RepC num β' w m cs g o
  | [], _, _, _, _ => by simp only [RepC]
  | c :: cs, g, o, hf, h => by
    simp only [RepC, gpfreeL, Bool.and_eq_true] at h hf ⊢
    obtain ⟨⟨u, h1, h2, h3⟩, h4⟩ := h
    exact ⟨⟨u, h1, h2, RepV_free c u hf.1 h3⟩, RepC_free cs g (o + 1) hf.2 h4⟩
theorem RepT_free : ∀ (cs : List AV) (g : Nat → Option Value) (o : Nat), gpfreeL cs = true → RepT num β w m cs g o → RepT num β' w m cs g o
  | [], _, _, _, _ => by simp only [RepT]
  | c :: cs, g, o, hf, h => by
    simp only [RepT, gpfreeL, Bool.and_eq_true] at h hf ⊢
    obtain ⟨⟨u, h1, h3⟩, h4⟩ := h
    exact ⟨⟨u, h1, RepV_free c u hf.1 h3⟩, RepT_free cs g (o + 1) hf.2 h4⟩
theorem RepE_free : ∀ (xs : List (List AV)) (g : Nat → Option Value) (o sz : Nat), gpfreeE xs = true → RepE num β w m xs g o sz → RepE num β' w m xs g o sz
  | [], _, _, _, _, _ => by simp only [RepE]
  | x :: xs, g, o, sz, hf, h => by
    simp only [RepE, gpfreeE, Bool.and_eq_true] at h hf ⊢
    obtain ⟨h1, h2, h3⟩ := h
    exact ⟨h1, RepC_free x g o hf.1 h2, RepE_free xs g (o + sz) sz hf.2 h3⟩
end

theorem gpfreeL_get : ∀ (cs : List AV), gpfreeL cs = true ↔ ∀ (i : Nat) (c : AV), cs[i]? = some c → c.gpfree = true
  | [] => by simp [gpfreeL]
  | c :: cs => by
    simp only [gpfreeL, Bool.and_eq_true, gpfreeL_get cs]
    constructor
    · rintro ⟨h0, h1⟩ i d hd
      cases i with
      | zero => simp at hd; subst hd; exact h0
      | succ i => exact h1 i d (by simpa using hd)
    · intro h
      exact ⟨h 0 c rfl, fun i d hd => h (i + 1) d (by simpa using hd)⟩

@[simp] theorem RepV_strip (c : AV) (u : Value) : RepV num β w m c.strip u ↔ RepV num β w m c u := by
  cases c <;> first | exact Iff.rfl | simp only [AV.strip, RepV]

@[simp] theorem gpfree_strip (c : AV) : c.strip.gpfree = c.gpfree := by cases c <;> simp [AV.strip, AV.gpfree]

/-- A value that is one cell. -/
theorem oneCell_of {c : AV} {u : Value} (h1 : c.one = true) (h : RepV num β w m c u) : u.oneCell' = true := by
  cases c <;> simp only [AV.one, RepV] at h1 h <;> try cases h1
  case int => subst h; rfl
  case bool => subst h; rfl
  case anyb => obtain ⟨b, rfl⟩ := h; rfl
  case str => subst h; rfl
  case sl => obtain ⟨a, l, c, rfl, _⟩ := h; rfl
  case gp => obtain ⟨b, _, rfl⟩ := h; rfl
  case gs => obtain ⟨a, c, rfl, _⟩ := h; rfl
  case rptr => obtain ⟨b, o, rfl, _⟩ := h; rfl
  case fn => obtain ⟨g, us, _, rfl, _⟩ := h; rfl
  case err n =>
    rcases h with ⟨_, rfl⟩ | ⟨_, t, x, rfl⟩ <;> rfl
  case mp i => obtain ⟨b, _, rfl⟩ := h; rfl
end

inductive Pl where
  | f
  | fc (i : Nat)
  | s (t : Nat)
  | c (t i : Nat)
  | g (i : Nat)
  | gc (i j : Nat)
  deriving DecidableEq

abbrev Own := Nat → Option Pl

/-- The slice of a place that may be appended to in place. -/
def OwnV (w : World) (m : Nat → Nat) (ν : Own) (p : Pl) : AV → Value → Prop
  | .sl true sz xs, u => (∃ a, u = .slice a 0 0) ∨ ∃ b cap cur e, u = .slice (some ⟨b, 0, none⟩) xs.length cap ∧ w.heap[b]? = some (.cells cur e (0, 0)) ∧
      cur.size = cap * sz ∧ m b = xs.length * sz ∧ ν b = some p
  | _, _ => True

def BoxV (num : Nat → Option Nat) (β : List Blk) (w : World) (m : Nat → Nat) (ν : Own) (pl : Pl) (cp : Nat → Pl) (b z : Nat) (cs : List AV) : Prop :=
  ∃ cur e, w.heap[b]? = some (.cells cur e (0, 0)) ∧ (cur.size = z ∧ cs.length ≤ z) ∧ m b = 0 ∧ ν b = some pl ∧
    ∀ i c, cs[i]? = some c → ∃ u, cur[i]? = some u ∧ u.oneCell' = true ∧ RepV num β w m c u ∧ OwnV w m ν (cp i) c u

/-- A map. -/
def MapV (num : Nat → Option Nat) (β : List Blk) (w : World) (m : Nat → Nat) (ν : Own) (pl : Pl) (b : Nat) (cs : List AV) : Prop :=
  ∃ (es : Array MapEntry) (clock : Nat) (xs : List AV), w.heap[b]? = some (.map es clock) ∧ m b = 0 ∧ ν b = some pl ∧ cs = .undef :: xs ∧ xs.length = es.size ∧
    ∀ (i : Nat) (c : AV), xs[i]? = some c → ∃ (e : MapEntry) (k v : AV), es[i]? = some e ∧ c = .agg [k, v] ∧ RepV num β w m k e.key ∧ RepV num β w m v e.val

/-- A box of the machine's: cells, or a map. -/
def BoxK (num : Nat → Option Nat) (β : List Blk) (w : World) (m : Nat → Nat) (ν : Own) (i : Nat) (k : Blk) (cs : List AV) : Prop :=
  (k.mp = false → BoxV num β w m ν (.g i) (fun j => .gc i j) k.b k.z cs) ∧ (k.mp = true → MapV num β w m ν (.g i) k.b cs)

def SlotV (num : Nat → Option Nat) (β : List Blk) (w : World) (m : Nat → Nat) (ν : Own) (pl : Pl) (cp : Nat → Pl) : AV → Value → Prop
  | .undef, _ => True
  | .bx cs, u => ∃ b, u = .pointer (some ⟨b, 0, none⟩) ∧ BoxV num β w m ν pl cp b cs.length cs
  | c, u => RepV num β w m c u ∧ OwnV w m ν pl c u

section
variable {num : Nat → Option Nat} {β β' : List Blk} {w w' : World} {m m' : Nat → Nat} {ν ν' : Own}

theorem SlotV_ok {pl : Pl} {cp : Nat → Pl} {c : AV} {u : Value} (hc : c.ok = true) : SlotV num β w m ν pl cp c u ↔ RepV num β w m c u ∧ OwnV w m ν pl c u := by
  cases c <;> simp [AV.ok] at hc <;> rfl

/-- A block that a place owns is as it was. -/
def Keep (w : World) (m : Nat → Nat) (ν : Own) (w' : World) (m' : Nat → Nat) (ν' : Own) (θ : Pl → Pl) (p : Pl) : Prop :=
  ∀ b, ν b = some p → w'.heap[b]? = w.heap[b]? ∧ m' b = m b ∧ ν' b = some (θ p)

theorem OwnV_keep {θ : Pl → Pl} {p : Pl} (k : Keep w m ν w' m' ν' θ p) {c : AV} {u : Value} (h : OwnV w m ν p c u) : OwnV w' m' ν' (θ p) c u := by
  cases c <;> try exact trivial
  case sl o sz xs =>
    cases o
    · exact trivial
    · rcases h with h | ⟨b, cap, cur, e, h1, h2, h3, h4, h5⟩
      · exact .inl h
      · obtain ⟨k1, k2, k3⟩ := k b h5
        exact .inr ⟨b, cap, cur, e, h1, by rw [k1]; exact h2, h3, by rw [k2]; exact h4, k3⟩

theorem BoxV_keep {θ : Pl → Pl} {pl : Pl} {cp : Nat → Pl} (hβ : Ge β β') (hm : Le w m w' m') (k : Keep w m ν w' m' ν' θ pl) (kc : ∀ i, Keep w m ν w' m' ν' θ (cp i))
    {b z : Nat} {cs : List AV} (h : BoxV num β w m ν pl cp b z cs) : BoxV num β' w' m' ν' (θ pl) (fun i => θ (cp i)) b z cs := by
  obtain ⟨cur, e, h1, h2, h3, h4, h5⟩ := h
  obtain ⟨k1, k2, k3⟩ := k b h4
  refine ⟨cur, e, by rw [k1]; exact h1, h2, by rw [k2]; exact h3, k3, fun i c hc => ?_⟩
  obtain ⟨u, g1, g2, g3, g4⟩ := h5 i c hc
  exact ⟨u, g1, g2, RepV_mono hβ hm c u g3, OwnV_keep (kc i) g4⟩

theorem MapV_keep {pl : Pl} (hβ : Ge β β') (hm : Le w m w' m') (k : Keep w m ν w' m' ν' id pl) {b : Nat} {cs : List AV} (h : MapV num β w m ν pl b cs) : MapV num β' w' m' ν' pl b cs := by
  obtain ⟨es, clock, xs, h1, h2, h3, h4, h5, h6⟩ := h
  obtain ⟨k1, k2, k3⟩ := k b h3
  refine ⟨es, clock, xs, by rw [k1]; exact h1, by rw [k2]; exact h2, k3, h4, h5, fun i c hc => ?_⟩
  obtain ⟨e, x, v, g1, g2, g3, g4⟩ := h6 i c hc
  exact ⟨e, x, v, g1, g2, RepV_mono hβ hm x _ g3, RepV_mono hβ hm v _ g4⟩

theorem BoxK_keep {i : Nat} {k : Blk} {cs : List AV} (hβ : Ge β β') (hm : Le w m w' m') (k1 : Keep w m ν w' m' ν' id (.g i)) (k2 : ∀ j, Keep w m ν w' m' ν' id (.gc i j)) (h : BoxK num β w m ν i k cs) :
    BoxK num β' w' m' ν' i k cs :=
  ⟨fun e => BoxV_keep (θ := id) hβ hm k1 k2 (h.1 e), fun e => MapV_keep hβ hm k1 (h.2 e)⟩

theorem BoxK_ν {i : Nat} {k : Blk} {cs : List AV} (h : BoxK num β w m ν i k cs) : ν k.b = some (.g i) ∧ m k.b = 0 := by
  cases hk : k.mp
  · obtain ⟨_, _, _, _, h2, h1, _⟩ := h.1 hk; exact ⟨h1, h2⟩
  · obtain ⟨_, _, _, _, h2, h1, _⟩ := h.2 hk; exact ⟨h1, h2⟩

theorem SlotV_keep {θ : Pl → Pl} {pl : Pl} {cp : Nat → Pl} (hβ : Ge β β') (hm : Le w m w' m') (k : Keep w m ν w' m' ν' θ pl) (kc : ∀ i, Keep w m ν w' m' ν' θ (cp i))
    {c : AV} {u : Value} (h : SlotV num β w m ν pl cp c u) : SlotV num β' w' m' ν' (θ pl) (fun i => θ (cp i)) c u := by
  cases c
  case undef => exact trivial
  case bx cs =>
    obtain ⟨b, h1, h2⟩ := h
    exact ⟨b, h1, BoxV_keep hβ hm k kc h2⟩
  all_goals exact ⟨RepV_mono hβ hm _ u h.1, OwnV_keep k h.2⟩

/-- The world has moved on: outside X everything that was there is as it was. -/
structure Step (X : Nat → Prop) (w : World) (m : Nat → Nat) (w' : World) (m' : Nat → Nat) : Prop where
  os : w'.os = w.os
  tape : w'.tape = w.tape
  output : w'.output = w.output
  size : w.heap.size ≤ w'.heap.size
  same : ∀ b, b < w.heap.size → ¬ X b → w'.heap[b]? = w.heap[b]? ∧ m' b = m b
  le : Le w m w' m'

theorem Step.refl (X : Nat → Prop) (w : World) (m : Nat → Nat) : Step X w m w m := ⟨rfl, rfl, rfl, Nat.le_refl _, fun _ _ _ => ⟨rfl, rfl⟩, Le.refl w m⟩

theorem Step.trans {X Y : Nat → Prop} {w w' w'' : World} {m m' m'' : Nat → Nat} (h : Step X w m w' m') (k : Step Y w' m' w'' m'')
    (hY : ∀ b, b < w.heap.size → Y b → X b) : Step X w m w'' m'' :=
  ⟨k.os.trans h.os, k.tape.trans h.tape, k.output.trans h.output, Nat.le_trans h.size k.size,
    fun b hb hx => by
      have h1 := h.same b hb hx
      have h2 := k.same b (Nat.lt_of_lt_of_le hb h.size) (fun hy => hx (hY b hb hy))
      exact ⟨h2.1.trans h1.1, h2.2.trans h1.2⟩,
    h.le.trans k.le⟩

/-- The frame of a call and its abstract state. -/
structure Inv (num : Nat → Option Nat) (N : Nat) (w0 : World) (m0 : Nat → Nat) (T : Nat → Prop) (β0 : List Blk) (σ : St) (a : Act) (w : World) (m : Nat → Nat) (β : List Blk) (ν : Own) : Prop where
  defers : a.defers = []
  size : a.tmps.size = N
  out : ∀ t, N ≤ t → σ.env t = .undef
  slots : ∀ (t : Nat) (v : Value), a.tmps[t]? = some v → SlotV num β w m ν (.s t) (fun i => .c t i) (σ.env t) v
  blen : β.length = σ.bs.length
  boxes : ∀ (i : Nat) (cs : List AV) (k : Blk), σ.bs[i]? = some cs → β[i]? = some k → cs ≠ [] → BoxK num β w m ν i k cs
  gpf : ∀ (i : Nat) (cs : List AV), σ.bs[i]? = some cs → gpfreeL cs = true
  lt : ∀ b p, ν b = some p → b < w.heap.size ∧ (w0.heap.size ≤ b ∨ T b)
  step : Step T w0 m0 w m
  ge : Ge β0 β
end
end Go.Am

namespace Go.Am

section
variable {num : Nat → Option Nat} {β β' : List Blk} {w w' : World} {m m' : Nat → Nat} {ν ν' : Own} {N : Nat} {w0 : World} {m0 : Nat → Nat} {T : Nat → Prop} {β0 : List Blk} {σ σ' : St} {a : Act}

def m1 (m : Nat → Nat) (b k : Nat) : Nat → Nat := fun x => if x = b then k else m x
def own1 (ν : Own) (b : Nat) (p : Pl) : Own := fun x => if x = b then some p else ν x
def ownMap (ν : Own) (θ : Pl → Pl) : Own := fun b => (ν b).map θ

theorem hg_some {b i : Nat} {u : Value} (h : hg w m b i = some u) : i < m b ∧ w.cell? ⟨b, i, none⟩ = some u ∧ b < w.heap.size := by
  unfold hg at h
  split at h
  · rename_i hi
    exact ⟨hi, h, block_lt_of_cell (a := ⟨b, i, none⟩) h⟩
  · cases h

theorem Step.allocO (X : Nat → Prop) (w : World) (m : Nat → Nat) (ob : Obj) (k : Nat) : Step X w m (w.alloc ob) (m1 m w.heap.size k) := by
  refine ⟨rfl, rfl, rfl, by simp, fun b hb _ => ⟨Go.RowKit.Below.heap_alloc w _ b hb, by unfold m1; rw [if_neg (by omega)]⟩, fun b i u h => ?_⟩
  obtain ⟨h1, h2, h3⟩ := hg_some h
  unfold hg m1
  rw [if_neg (show ¬ b = w.heap.size by omega), if_pos h1, World.cell?_alloc_lt w _ ⟨b, i, none⟩ h3]
  exact h2

theorem Step.alloc (X : Nat → Prop) (w : World) (m : Nat → Nat) (cur : Array Value) (e : TypeId) (k : Nat) : Step X w m (w.alloc (.cells cur e)) (m1 m w.heap.size k) := Step.allocO X w m _ k

theorem Step.drew (X : Nat → Prop) (w : World) (m : Nat → Nat) : Step X w m w.drew m :=
  ⟨rfl, rfl, rfl, Nat.le_refl _, fun _ _ _ => ⟨rfl, rfl⟩, fun _ _ _ h => h⟩

theorem Step.setRow {b : Nat} {cur cur' : Array Value} {e : TypeId} {k : Nat} (hb : w.heap[b]? = some (.cells cur e (0, 0)))
    (hs : ∀ (i : Nat) (u : Value), i < m b → cur[i]? = some u → cur'[i]? = some u) (hk : m b ≤ k) : Step (· = b) w m (w.setRow b cur') (m1 m b k) := by
  refine ⟨rfl, rfl, rfl, by simp, fun x _ hx => ⟨setRow_other w b x cur' hx, by unfold m1; rw [if_neg hx]⟩, fun x i u h => ?_⟩
  obtain ⟨h1, h2, h3⟩ := hg_some h
  unfold hg m1
  by_cases hx : x = b
  · subst hx
    rw [if_pos rfl, if_pos (by omega), cell_setRow_same w x i cur cur' e (0, 0) hb]
    rw [cell_of_row w x i cur e (0, 0) hb] at h2
    exact hs i u h1 h2
  · rw [if_neg hx, if_pos h1, cell_setRow_other w b cur' ⟨x, i, none⟩ hx]
    exact h2

/-- The general step of the invariant: θ moves places, X are the blocks that have been written; the slots and boxes in E are shown apart. -/
theorem Inv.next {X : Nat → Prop} (hI : Inv num N w0 m0 T β0 σ a w m β ν) (hS : Step X w m w' m') (hX : ∀ b, b < w.heap.size → X b → w0.heap.size ≤ b ∨ T b) (hβ : Ge β β')
    (Es Eg : Nat → Prop)
    (hs : ∀ b t, ν b = some (.s t) → ¬ Es t → ¬ X b ∧ ν' b = some (.s t)) (hc : ∀ b t i, ν b = some (.c t i) → ¬ Es t → ¬ X b ∧ ν' b = some (.c t i))
    (hg : ∀ b t, ν b = some (.g t) → ¬ Eg t → ¬ X b ∧ ν' b = some (.g t)) (hgc : ∀ b t i, ν b = some (.gc t i) → ¬ Eg t → ¬ X b ∧ ν' b = some (.gc t i))
    (hlt : ∀ b p, ν' b = some p → b < w'.heap.size ∧ (w0.heap.size ≤ b ∨ T b))
    (henv : ∀ t, ¬ Es t → σ'.env t = σ.env t ∨ σ'.env t = .undef) (hout : ∀ t, N ≤ t → σ'.env t = .undef)
    (hEs : ∀ t v, Es t → a.tmps[t]? = some v → SlotV num β' w' m' ν' (.s t) (fun i => .c t i) (σ'.env t) v)
    (hbl : β'.length = σ'.bs.length) (hbs : ∀ (i : Nat), ¬ Eg i → σ'.bs[i]? = σ.bs[i]?)
    (hEg : ∀ (i : Nat) (cs : List AV) (k : Blk), Eg i → σ'.bs[i]? = some cs → β'[i]? = some k → (cs ≠ [] → BoxK num β' w' m' ν' i k cs) ∧ gpfreeL cs = true) :
    Inv num N w0 m0 T β0 σ' a w' m' β' ν' := by
  have hkeep : ∀ b, b < w.heap.size → ¬ X b → w'.heap[b]? = w.heap[b]? ∧ m' b = m b := fun b hb hx => hS.same b hb hx
  refine ⟨hI.defers, hI.size, hout, fun t v hv => ?_, hbl, fun i cs b h1 h2 hne => ?_, fun i cs h1 => ?_, hlt, hI.step.trans hS fun b hb hx => ?_, fun i b hb => hβ i b (hI.ge i b hb)⟩
  · by_cases hE : Es t
    · exact hEs t v hE hv
    · rcases henv t hE with h | h
      · rw [h]
        refine SlotV_keep (θ := id) hβ hS.le ?_ ?_ (hI.slots t v hv)
        · intro b hb
          have := hs b t hb hE
          have h2 := hkeep b (hI.lt b _ hb).1 this.1
          exact ⟨h2.1, h2.2, this.2⟩
        · intro i b hb
          have := hc b t i hb hE
          have h2 := hkeep b (hI.lt b _ hb).1 this.1
          exact ⟨h2.1, h2.2, this.2⟩
      · rw [h]; exact trivial
  · by_cases hE : Eg i
    · exact (hEg i cs b hE h1 h2).1 hne
    · rw [hbs i hE] at h1
      have hlt : i < σ.bs.length := by
        rcases Nat.lt_or_ge i σ.bs.length with h | h
        · exact h
        · rw [List.getElem?_eq_none h] at h1; cases h1
      have hb0 : ∃ b0, β[i]? = some b0 := ⟨β[i]'(by rw [hI.blen]; exact hlt), List.getElem?_eq_getElem _⟩
      obtain ⟨b0, hb0⟩ := hb0
      have : b0 = b := by have := hβ i b0 hb0; rw [h2] at this; injection this with this; exact this.symm
      subst this
      refine BoxK_keep hβ hS.le ?_ ?_ (hI.boxes i cs b0 h1 hb0 hne)
      · intro b hb
        have := hg b i hb hE
        have h2 := hkeep b (hI.lt b _ hb).1 this.1
        exact ⟨h2.1, h2.2, this.2⟩
      · intro j b hb
        have := hgc b i j hb hE
        have h2 := hkeep b (hI.lt b _ hb).1 this.1
        exact ⟨h2.1, h2.2, this.2⟩
  · by_cases hE : Eg i
    · have hlt : i < β'.length := by
        rcases Nat.lt_or_ge i σ'.bs.length with h | h
        · rw [hbl]; exact h
        · rw [List.getElem?_eq_none h] at h1; cases h1
      exact (hEg i cs _ hE h1 (List.getElem?_eq_getElem hlt)).2
    · rw [hbs i hE] at h1
      exact hI.gpf i cs h1
  · rcases hX b (Nat.lt_of_lt_of_le hb hI.step.size) hx with h | h
    · omega
    · exact h

/-- Nothing but the world's draws has changed. -/
theorem Inv.drew (hI : Inv num N w0 m0 T β0 σ a w m β ν) : Inv num N w0 m0 T β0 σ a w.drew m β ν :=
  hI.next (X := fun _ => False) (Step.drew _ w m) (fun _ _ h => h.elim) (Ge.refl β) (fun _ => False) (fun _ => False)
    (fun _ _ h _ => ⟨id, h⟩) (fun _ _ _ h _ => ⟨id, h⟩) (fun _ _ h _ => ⟨id, h⟩) (fun _ _ _ h _ => ⟨id, h⟩) hI.lt (fun _ _ => .inl rfl) hI.out (fun _ _ h => h.elim) hI.blen (fun _ _ => rfl) (fun _ _ _ h => h.elim)

theorem own1_other {x : Nat} {p q : Pl} (hI : Inv num N w0 m0 T β0 σ a w m β ν) (hx : ν x = some p) : own1 ν w.heap.size q x = some p := by
  unfold own1
  rw [if_neg (by have := (hI.lt x p hx).1; omega)]
  exact hx

/-- A new block, which nobody owns yet but the value at hand. -/
theorem Inv.freshO (hI : Inv num N w0 m0 T β0 σ a w m β ν) (ob : Obj) (k : Nat) (q : Pl) :
    Inv num N w0 m0 T β0 σ a (w.alloc ob) (m1 m w.heap.size k) β (own1 ν w.heap.size q) :=
  hI.next (X := fun _ => False) (Step.allocO _ w m ob k) (fun _ _ h => h.elim) (Ge.refl β) (fun _ => False) (fun _ => False)
    (fun _ _ h _ => ⟨id, own1_other hI h⟩) (fun _ _ _ h _ => ⟨id, own1_other hI h⟩) (fun _ _ h _ => ⟨id, own1_other hI h⟩) (fun _ _ _ h _ => ⟨id, own1_other hI h⟩)
    (fun b p h => by
      unfold own1 at h
      split at h
      · rename_i hb; subst hb; exact ⟨by simp, .inl hI.step.size⟩
      · have := hI.lt b p h; exact ⟨by simp; omega, this.2⟩)
    (fun _ _ => .inl rfl) hI.out (fun _ _ h => h.elim) hI.blen (fun _ _ => rfl) (fun _ _ _ h => h.elim)

theorem Inv.fresh (hI : Inv num N w0 m0 T β0 σ a w m β ν) (cur : Array Value) (e : TypeId) (k : Nat) (q : Pl) :
    Inv num N w0 m0 T β0 σ a (w.alloc (.cells cur e)) (m1 m w.heap.size k) β (own1 ν w.heap.size q) := hI.freshO _ k q

/-- place p becomes place q -/
def mv (p q : Pl) : Pl → Pl := fun x => if x = p then q else x

theorem ownMap_mv {p q r : Pl} {b : Nat} (h : ν b = some r) (hr : r ≠ p) : ownMap ν (mv p q) b = some r := by
  unfold ownMap mv; rw [h]; simp [hr]

theorem ownMap_lt {θ : Pl → Pl} (hI : Inv num N w0 m0 T β0 σ a w m β ν) (b : Nat) (p : Pl) (h : ownMap ν θ b = some p) : b < w.heap.size ∧ (w0.heap.size ≤ b ∨ T b) := by
  unfold ownMap at h
  cases hb : ν b with
  | none => rw [hb] at h; cases h
  | some q => exact hI.lt b q hb

/-- The slice of slot n is taken out of it. -/
theorem Inv.takeSlot (hI : Inv num N w0 m0 T β0 σ a w m β ν) (n : Nat) :
    Inv num N w0 m0 T β0 { σ with env := upd σ.env n .undef } a w m β (ownMap ν (mv (.s n) .f)) :=
  hI.next (X := fun _ => False) (Step.refl _ w m) (fun _ _ h => h.elim) (Ge.refl β) (fun t => t = n) (fun _ => False)
    (fun _ t h hn => ⟨id, ownMap_mv h (by simpa using hn)⟩) (fun _ _ _ h _ => ⟨id, ownMap_mv h (by simp)⟩) (fun _ _ h _ => ⟨id, ownMap_mv h (by simp)⟩) (fun _ _ _ h _ => ⟨id, ownMap_mv h (by simp)⟩)
    (ownMap_lt hI) (fun t hn => .inl (by simp only [upd]; rw [if_neg hn])) (fun t ht => by simp only [upd]; split <;> first | rfl | exact hI.out t ht)
    (fun t v hE _ => by subst hE; simp only [upd, if_true]; exact trivial) hI.blen (fun _ _ => rfl) (fun _ _ _ h => h.elim)

theorem OwnV_map {θ : Pl → Pl} {p : Pl} {c : AV} {u : Value} (h : OwnV w m ν p c u) : OwnV w m (ownMap ν θ) (θ p) c u :=
  OwnV_keep (θ := θ) (fun b hb => ⟨rfl, rfl, by unfold ownMap; rw [hb]; rfl⟩) h

/-- The value goes into its slot. -/
def home (d : Nat) : Pl → Pl
  | .f => .s d
  | .fc i => .c d i
  | p => p

theorem ownMap_home {d b : Nat} {p : Pl} (h : ν b = some p) (h1 : p ≠ .f) (h2 : ∀ i, p ≠ .fc i) : ownMap ν (home d) b = some p := by
  unfold ownMap; rw [h]
  cases p <;> first | rfl | exact absurd rfl h1 | exact absurd rfl (h2 _)

theorem Inv.put (hI : Inv num N w0 m0 T β0 σ a w m β ν) {v : AV} {u : Value} (hv : SlotV num β w m ν .f (fun i => .fc i) v u) (d : Nat) (hd : d < N) :
    Inv num N w0 m0 T β0 { σ with env := upd σ.env d v } (a.put (some d) u) w m β (ownMap ν (home d)) := by
  have hI2 : Inv num N w0 m0 T β0 { σ with env := upd σ.env d .undef } a w m β (ownMap ν (home d)) :=
    hI.next (X := fun _ => False) (Step.refl _ w m) (fun _ _ h => h.elim) (Ge.refl β) (fun t => t = d) (fun _ => False)
      (fun _ t h hn => ⟨id, ownMap_home h (by simp) (by simp)⟩) (fun _ _ _ h _ => ⟨id, ownMap_home h (by simp) (by simp)⟩) (fun _ _ h _ => ⟨id, ownMap_home h (by simp) (by simp)⟩) (fun _ _ _ h _ => ⟨id, ownMap_home h (by simp) (by simp)⟩)
      (ownMap_lt hI) (fun t hn => .inl (by simp only [upd]; rw [if_neg hn])) (fun t ht => by simp only [upd]; split <;> first | rfl | exact hI.out t ht)
      (fun t v hE _ => by subst hE; simp only [upd, if_true]; exact trivial) hI.blen (fun _ _ => rfl) (fun _ _ _ h => h.elim)
  refine ⟨hI2.defers, by simpa [Act.put] using hI.size, fun t ht => ?_, fun t x hx => ?_, hI2.blen, hI2.boxes, hI2.gpf, hI2.lt, hI2.step, hI2.ge⟩
  · simp only [upd]; rw [if_neg (by omega)]; exact hI.out t ht
  · simp only [Act.put, upd] at hx ⊢
    by_cases ht : t = d
    · subst ht
      rw [Array.getElem?_setIfInBounds_self_of_lt (by rw [hI.size]; exact hd)] at hx
      injection hx with hx
      subst hx
      rw [if_pos rfl]
      exact SlotV_keep (θ := home t) (pl := .f) (cp := fun i => .fc i) (Ge.refl β) (Le.refl w m) (fun b hb => ⟨rfl, rfl, by unfold ownMap; rw [hb]; rfl⟩) (fun i b hb => ⟨rfl, rfl, by unfold ownMap; rw [hb]; rfl⟩) hv
    · rw [Array.getElem?_setIfInBounds_ne (fun e => ht e.symm)] at hx
      rw [if_neg ht]
      have := hI2.slots t x hx
      simp only [upd] at this
      rw [if_neg ht] at this
      exact this

theorem m1_self {b : Nat} (h : m b = 0) : m1 m b 0 = m := by
  funext x
  unfold m1
  split
  · rename_i hx; rw [hx, h]
  · rfl

theorem OwnV_row {b : Nat} {cur' : Array Value} {k : Nat} {p : Pl} {θ : Pl → Pl} (hp : ν b ≠ some p) {c : AV} {u : Value} (h : OwnV w m ν p c u) : OwnV (w.setRow b cur') (m1 m b k) (ownMap ν θ) (θ p) c u := by
  refine OwnV_keep (θ := θ) (fun x hx => ?_) h
  have hne : x ≠ b := fun e => by subst e; exact hp hx
  exact ⟨setRow_other w b x cur' hne, by unfold m1; rw [if_neg hne], by unfold ownMap; rw [hx]; rfl⟩

/-- Cells of a slot's box are written. -/
theorem Inv.setBox (hI : Inv num N w0 m0 T β0 σ a w m β ν) (s : Nat) {cs cs' : List AV} {x : Value} (hs : σ.env s = .bx cs) (hx : a.tmps[s]? = some x) :
    ∃ b cur e, x = .pointer (some ⟨b, 0, none⟩) ∧ w.heap[b]? = some (.cells cur e (0, 0)) ∧ cur.size = cs.length ∧
      (∀ (i : Nat) (c : AV), cs[i]? = some c → ∃ u, cur[i]? = some u ∧ u.oneCell' = true ∧ RepV num β w m c u ∧ OwnV w m ν (.c s i) c u) ∧
      ∀ (θ : Pl → Pl) (cur' : Array Value), (∀ t, θ (.s t) = .s t) → (∀ t i, θ (.c t i) = .c t i) → (∀ i, θ (.g i) = .g i) → (∀ i j, θ (.gc i j) = .gc i j) →
        cur'.size = cs'.length →
        (∀ (i : Nat) (c : AV), cs'[i]? = some c → ∃ u, cur'[i]? = some u ∧ u.oneCell' = true ∧ RepV num β w m c u ∧ ∃ p, OwnV w m ν p c u ∧ θ p = .c s i ∧ ν b ≠ some p) →
        Inv num N w0 m0 T β0 { σ with env := upd σ.env s (.bx cs') } a (w.setRow b cur') m β (ownMap ν θ) := by
  have h0 := hI.slots s x hx
  rw [hs] at h0
  obtain ⟨b, hxb, cur, e, h1, h2, h3, h4, h5⟩ := h0
  refine ⟨b, cur, e, hxb, h1, h2.1, h5, fun θ cur' t1 t2 t3 t4 hsz hcs => ?_⟩
  have hN : s < N := by
    rcases Nat.lt_or_ge s N with h | h
    · exact h
    · have := hI.out s h; rw [hs] at this; cases this
  have hS := Step.setRow (cur' := cur') (k := 0) h1 (m := m) (fun i u hi _ => by omega) (by omega)
  rw [m1_self h3] at hS
  have hmp : ∀ {x : Nat} {p : Pl}, ν x = some p → θ p = p → ownMap ν θ x = some p := fun {x p} h ht => by unfold ownMap; rw [h]; simp [ht]
  refine hI.next hS (fun x hx hxb => by subst hxb; exact (hI.lt x _ h4).2) (Ge.refl β) (fun t => t = s) (fun _ => False)
    (fun x t h hn => ⟨fun e => ?_, hmp h (t1 t)⟩) (fun x t i h hn => ⟨fun e => ?_, hmp h (t2 t i)⟩) (fun x t h _ => ⟨fun e => ?_, hmp h (t3 t)⟩) (fun x t i h _ => ⟨fun e => ?_, hmp h (t4 t i)⟩)
    (fun x p h => by simpa using ownMap_lt hI x p h) (fun t hn => .inl (by simp only [upd]; rw [if_neg hn])) (fun t ht => ?_)
    (fun t v hE hv => ?_) hI.blen (fun _ _ => rfl) (fun _ _ _ h => h.elim)
  · subst e; rw [h4] at h; injection h with h; injection h with h; exact hn h.symm
  · subst e; rw [h4] at h; injection h with h; cases h
  · subst e; rw [h4] at h; injection h with h; cases h
  · subst e; rw [h4] at h; injection h with h; cases h
  · simp only [upd]
    split
    · omega
    · exact hI.out t ht
  · subst hE
    rw [hx] at hv
    injection hv with hv
    subst hv
    simp only [upd, if_true]
    refine ⟨b, hxb, cur', e, setRow_heap w b cur cur' e (0, 0) h1, ⟨hsz, Nat.le_refl _⟩, h3, hmp h4 (t1 t), fun i c hc => ?_⟩
    obtain ⟨u, g1, g2, g3, p, g4, g5, g6⟩ := hcs i c hc
    refine ⟨u, g1, g2, RepV_mono (Ge.refl β) hS.le c u g3, ?_⟩
    have := OwnV_row (cur' := cur') (k := 0) (θ := θ) g6 g4
    rw [m1_self h3, g5] at this
    exact this

/-- Cells of a box of the machine's are written. -/
theorem Inv.setG (hI : Inv num N w0 m0 T β0 σ a w m β ν) (s : Nat) {cs cs' : List AV} {k : Blk} (hs : σ.bs[s]? = some cs) (hbm : β[s]? = some k ∧ k.mp = false) (hne : cs ≠ []) :
    ∃ cur e, w.heap[k.b]? = some (.cells cur e (0, 0)) ∧ (cur.size = k.z ∧ cs.length ≤ k.z) ∧
      (∀ (i : Nat) (c : AV), cs[i]? = some c → ∃ u, cur[i]? = some u ∧ u.oneCell' = true ∧ RepV num β w m c u ∧ OwnV w m ν (.gc s i) c u) ∧
      ∀ (θ : Pl → Pl) (cur' : Array Value), (∀ t, θ (.s t) = .s t) → (∀ t i, θ (.c t i) = .c t i) → (∀ i, θ (.g i) = .g i) → (∀ i j, θ (.gc i j) = .gc i j) →
        cur'.size = k.z → cs'.length ≤ k.z → gpfreeL cs' = true →
        (∀ (i : Nat) (c : AV), cs'[i]? = some c → ∃ u, cur'[i]? = some u ∧ u.oneCell' = true ∧ RepV num β w m c u ∧ ∃ p, OwnV w m ν p c u ∧ θ p = .gc s i ∧ ν k.b ≠ some p) →
        Inv num N w0 m0 T β0 { σ with bs := σ.bs.set s cs' } a (w.setRow k.b cur') m β (ownMap ν θ) := by
  obtain ⟨hb, hmp0⟩ := hbm
  obtain ⟨b, z, mp⟩ := k
  obtain ⟨cur, e, h1, h2, h3, h4, h5⟩ := (hI.boxes s cs _ hs hb hne).1 hmp0
  refine ⟨cur, e, h1, h2, h5, fun θ cur' t1 t2 t3 t4 hsz hsl hgp hcs => ?_⟩
  simp only at hmp0 h1 h2 h3 h4 h5 hsz hsl ⊢
  have hlt : s < σ.bs.length := by
    rcases Nat.lt_or_ge s σ.bs.length with h | h
    · exact h
    · rw [List.getElem?_eq_none h] at hs; cases hs
  have hS := Step.setRow (cur' := cur') (k := 0) h1 (m := m) (fun i u hi _ => by omega) (by omega)
  rw [m1_self h3] at hS
  have hmp : ∀ {x : Nat} {p : Pl}, ν x = some p → θ p = p → ownMap ν θ x = some p := fun {x p} h ht => by unfold ownMap; rw [h]; simp [ht]
  refine hI.next hS (fun x hx hxb => by subst hxb; exact (hI.lt x _ h4).2) (Ge.refl β) (fun _ => False) (fun t => t = s)
    (fun x t h _ => ⟨fun e => ?_, hmp h (t1 t)⟩) (fun x t i h _ => ⟨fun e => ?_, hmp h (t2 t i)⟩) (fun x t h hn => ⟨fun e => ?_, hmp h (t3 t)⟩) (fun x t i h hn => ⟨fun e => ?_, hmp h (t4 t i)⟩)
    (fun x p h => by simpa using ownMap_lt hI x p h) (fun t hn => .inl rfl) hI.out
    (fun t v hE hv => hE.elim) (by simpa using hI.blen) (fun i hn => by simp [List.getElem?_set_ne (fun e => hn e.symm)]) (fun i cs2 b2 hE h6 h7 => ?_)
  · subst e; rw [h4] at h; injection h with h; cases h
  · subst e; rw [h4] at h; injection h with h; cases h
  · subst e; rw [h4] at h; injection h with h; injection h with h; exact hn h.symm
  · subst e; rw [h4] at h; injection h with h; cases h
  · subst hE
    rw [hb] at h7
    injection h7 with h7
    subst h7
    simp only [List.getElem?_set_self hlt] at h6
    injection h6 with h6
    subst h6
    refine ⟨fun _ => ⟨fun _ => ⟨cur', e, setRow_heap w b cur cur' e (0, 0) h1, ⟨hsz, hsl⟩, h3, hmp h4 (t3 i), fun j c hc => ?_⟩, fun q => by rw [hmp0] at q; cases q⟩, hgp⟩
    obtain ⟨u, g1, g2, g3, p, g4, g5, g6⟩ := hcs j c hc
    refine ⟨u, g1, g2, RepV_mono (Ge.refl β) hS.le c u g3, ?_⟩
    have := OwnV_row (cur' := cur') (k := 0) (θ := θ) g6 g4
    rw [m1_self h3, g5] at this
    exact this

/-- The slice of a box's cell is taken out of it. -/
theorem Inv.takeCell (hI : Inv num N w0 m0 T β0 σ a w m β ν) (s off : Nat) {cs : List AV} (hs : σ.env s = .bx cs) :
    Inv num N w0 m0 T β0 { σ with env := upd σ.env s (.bx (cs.set off .undef)) } a w m β (ownMap ν (mv (.c s off) .f)) := by
  have hmp : ∀ {x : Nat} {p : Pl}, ν x = some p → p ≠ .c s off → ownMap ν (mv (.c s off) .f) x = some p := fun {x p} h ht => ownMap_mv h ht
  have hN : s < N := by
    rcases Nat.lt_or_ge s N with h | h
    · exact h
    · have := hI.out s h; rw [hs] at this; cases this
  refine hI.next (X := fun _ => False) (Step.refl _ w m) (fun _ _ h => h.elim) (Ge.refl β) (fun t => t = s) (fun _ => False)
    (fun _ t h _ => ⟨id, hmp h (by simp)⟩) (fun _ t i h hn => ⟨id, hmp h (fun e => by injection e with e; exact hn e)⟩) (fun _ _ h _ => ⟨id, hmp h (by simp)⟩) (fun _ _ _ h _ => ⟨id, hmp h (by simp)⟩)
    (ownMap_lt hI) (fun t hn => .inl (by simp only [upd]; rw [if_neg hn])) (fun t ht => ?_)
    (fun t v hE hv => ?_) hI.blen (fun _ _ => rfl) (fun _ _ _ h => h.elim)
  · simp only [upd]
    split
    · omega
    · exact hI.out t ht
  · subst hE
    simp only [upd, if_true]
    have h0 := hI.slots t v hv
    rw [hs] at h0
    obtain ⟨b, hxb, cur, e, h1, h2, h3, h4, h5⟩ := h0
    refine ⟨b, hxb, cur, e, h1, ⟨by simpa using h2.1, Nat.le_refl _⟩, h3, hmp h4 (by simp), fun i c hc => ?_⟩
    rw [List.getElem?_set] at hc
    split at hc
    · rename_i hi
      subst hi
      split at hc
      · rename_i hlt
        injection hc with hc
        subst hc
        obtain ⟨u, g1, g2, _, _⟩ := h5 off _ (List.getElem?_eq_getElem hlt)
        exact ⟨u, g1, g2, by simpa only [RepV] using g2, trivial⟩
      · cases hc
    · rename_i hi
      obtain ⟨u, g1, g2, g3, g4⟩ := h5 i c hc
      refine ⟨u, g1, g2, g3, ?_⟩
      have := OwnV_map (θ := mv (.c t off) .f) g4
      rwa [show mv (.c t off) .f (.c t i) = .c t i by unfold mv; rw [if_neg (fun e => by injection e with _ e; exact hi e.symm)]] at this

theorem Inv.takeG (hI : Inv num N w0 m0 T β0 σ a w m β ν) (s off : Nat) {cs : List AV} {k : Blk} (hs : σ.bs[s]? = some cs) (hbm : β[s]? = some k ∧ k.mp = false) :
    Inv num N w0 m0 T β0 { σ with bs := σ.bs.set s (cs.set off .undef) } a w m β (ownMap ν (mv (.gc s off) .f)) := by
  have hmp : ∀ {x : Nat} {p : Pl}, ν x = some p → p ≠ .gc s off → ownMap ν (mv (.gc s off) .f) x = some p := fun {x p} h ht => ownMap_mv h ht
  have hlt : s < σ.bs.length := by
    rcases Nat.lt_or_ge s σ.bs.length with h | h
    · exact h
    · rw [List.getElem?_eq_none h] at hs; cases hs
  refine hI.next (X := fun _ => False) (Step.refl _ w m) (fun _ _ h => h.elim) (Ge.refl β) (fun _ => False) (fun t => t = s)
    (fun _ t h _ => ⟨id, hmp h (by simp)⟩) (fun _ t i h _ => ⟨id, hmp h (by simp)⟩) (fun _ _ h _ => ⟨id, hmp h (by simp)⟩) (fun _ t i h hn => ⟨id, hmp h (fun e => by injection e with e; exact hn e)⟩)
    (ownMap_lt hI) (fun t hn => .inl rfl) hI.out
    (fun t v hE hv => hE.elim) (by simpa using hI.blen) (fun i hn => by simp [List.getElem?_set_ne (fun e => hn e.symm)]) (fun i cs2 b2 hE h6 h7 => ?_)
  subst hE
  simp only [List.getElem?_set_self hlt] at h6
  injection h6 with h6
  subst h6
  have hgp := hI.gpf i cs hs
  have hmp0 : b2.mp = false := by rw [hbm.1] at h7; injection h7 with h7; rw [← h7]; exact hbm.2
  refine ⟨fun hne => ⟨fun _ => ?_, fun q => by rw [hmp0] at q; cases q⟩, ?_⟩
  · obtain ⟨cur, e, h1, h2, h3, h4, h5⟩ := (hI.boxes i cs b2 hs h7 (fun e => by simp [e] at hne)).1 hmp0
    refine ⟨cur, e, h1, by simpa using h2, h3, hmp h4 (by simp), fun j c hc => ?_⟩
    rw [List.getElem?_set] at hc
    split at hc
    · rename_i hi
      subst hi
      split at hc
      · rename_i hlt
        injection hc with hc
        subst hc
        obtain ⟨u, g1, g2, _, _⟩ := h5 off _ (List.getElem?_eq_getElem hlt)
        exact ⟨u, g1, g2, by simpa only [RepV] using g2, trivial⟩
      · cases hc
    · rename_i hi
      obtain ⟨u, g1, g2, g3, g4⟩ := h5 j c hc
      refine ⟨u, g1, g2, g3, ?_⟩
      have := OwnV_map (θ := mv (.gc i off) .f) g4
      rwa [show mv (.gc i off) .f (.gc i j) = .gc i j by unfold mv; rw [if_neg (fun e => by injection e with _ e; exact hi e.symm)]] at this
  · rw [gpfreeL_get] at hgp ⊢
    intro j c hc
    rw [List.getElem?_set] at hc
    split at hc
    · split at hc
      · injection hc with hc; subst hc; rfl
      · cases hc
    · exact hgp j c hc

/-- The row of the value at hand is written behind its published cells. -/
theorem Inv.setFloat (hI : Inv num N w0 m0 T β0 σ a w m β ν) {b k : Nat} {cur cur' : Array Value} {e : TypeId} (hb : w.heap[b]? = some (.cells cur e (0, 0))) (hν : ν b = some .f)
    (hs : ∀ (i : Nat) (u : Value), i < m b → cur[i]? = some u → cur'[i]? = some u) (hk : m b ≤ k) : Inv num N w0 m0 T β0 σ a (w.setRow b cur') (m1 m b k) β ν := by
  have hne : ∀ {x : Nat} {p : Pl}, ν x = some p → p ≠ .f → ¬ x = b := fun {x p} h hp e => by subst e; rw [hν] at h; injection h with h; exact hp h.symm
  exact hI.next (Step.setRow hb hs hk) (fun x hx hxb => by subst hxb; exact (hI.lt x _ hν).2) (Ge.refl β) (fun _ => False) (fun _ => False)
    (fun x t h _ => ⟨hne h (by simp), h⟩) (fun x t i h _ => ⟨hne h (by simp), h⟩) (fun x t h _ => ⟨hne h (by simp), h⟩) (fun x t i h _ => ⟨hne h (by simp), h⟩)
    (fun x p h => by simpa using hI.lt x p h) (fun t hn => .inl rfl) hI.out (fun t v hE hv => hE.elim) hI.blen (fun _ _ => rfl) (fun _ _ _ h => h.elim)
end
end Go.Am
