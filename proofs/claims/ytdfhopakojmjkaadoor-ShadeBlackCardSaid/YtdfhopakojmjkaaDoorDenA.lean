/- The pure evaluator 'den' of the model's code: its words and its definition. Own work; nothing of the program in it. -/
import Derived.Test.YtdfhopakojmjkaaDoorDenGl
namespace Go.Proofs.YtdfhopakojmjkaaDoor.Den
open Go
set_option linter.unusedVariables false

/-- Codes of Go's types whose values are told as plain data. -/
inductive U where
  | int (k : IntKind)
  | bool
  | sl (u : U)
  | arr (n : Nat) (u : U)
  | nil
  | cons (a b : U)
  deriving DecidableEq

@[reducible] def U.T : U → Type
  | .int _ => Int
  | .bool => Bool
  | .sl u => List u.T
  | .arr _ u => List u.T
  | .nil => Unit
  | .cons a b => a.T × b.T

def U.size : U → Nat
  | .int _ => 1
  | .bool => 1
  | .sl _ => 1
  | .arr n u => n * u.size
  | .nil => 0
  | .cons a b => a.size + b.size

def U.agg : U → Bool
  | .arr _ _ => true
  | .nil => true
  | .cons _ _ => true
  | _ => false

def U.zero : (u : U) → u.T
  | .int _ => (0 : Int)
  | .bool => false
  | .sl _ => []
  | .arr n u => List.replicate n u.zero
  | .nil => ()
  | .cons a b => (a.zero, b.zero)

/-- '==' of two values of one code, as the machine has it (slices aren't compared). -/
def U.eq : (u : U) → u.T → u.T → Bool
  | .int _, x, y => (x == y : Bool)
  | .bool, x, y => (x == y : Bool)
  | .sl _, _, _ => false
  | .arr _ u, xs, ys => (xs.zip ys).all fun p => u.eq p.1 p.2
  | .nil, _, _ => true
  | .cons a b, x, y => a.eq x.1 y.1 && b.eq x.2 y.2
def U.eqok : U → Bool
  | .int _ => true
  | .bool => true
  | .sl _ => false
  | .arr _ u => u.eqok
  | .nil => true
  | .cons a b => a.eqok && b.eqok

def castT {u : U} (v : U) (x : u.T) : Option v.T := if h : u = v then some (h ▸ x) else none

inductive Step where
  | fld (i : Nat)
  | idx (i : Nat)
  deriving DecidableEq

/-- Values, as the evaluator has them. -/
inductive V where
  | d (u : U) (x : u.T)
  | cons (a b : V)
  | nil
  | nilsl
  | dfull (u : U) (xs : List u.T)
  | row (k : Nat)
  | rsub (k o n : Nat)
  | pvar (k : Nat) (p : List Step)
  | prow (k i : Nat) (p : List Step)
  | pdeep (u : U) (x : u.T)
  | fn (f : FuncId) (first caps : V)
  | tup (vs : V)
  | undef

/-- The numbers in a value. -/
def V.keys : V → List Nat
  | .cons a b => a.keys ++ b.keys
  | .row k => [k]
  | .rsub k _ _ => [k]
  | .pvar k _ => [k]
  | .prow k _ _ => [k]
  | .fn _ a b => a.keys ++ b.keys
  | .tup v => v.keys
  | _ => []

structure Row where
  u : U
  xs : List u.T
  w : Bool

/-- The call's own memory: variables and rows by their numbers; the next number. -/
structure HF where
  var : Nat → Option V
  row : Nat → Option Row
  nx : Nat

abbrev TF := Nat → V

def upd (T : TF) (d : Nat) (v : V) : TF := fun i => bif Nat.beq i d then v else T i
def putT (nt : Nat) (T : TF) : Option Nat → V → TF
  | some d, v => bif Nat.blt d nt then upd T d v else T
  | none, _ => T
def HF.setVar (H : HF) (k : Nat) (v : V) : HF := { H with var := fun i => bif Nat.beq i k then some v else H.var i }
def HF.setRow (H : HF) (k : Nat) (r : Row) : HF := { H with row := fun i => bif Nat.beq i k then some r else H.row i }
def HF.delRow (H : HF) (k : Nat) : HF := { H with row := fun i => bif Nat.beq i k then none else H.row i }

/-! ### sizes, paths -/
/-- A code's shape: what lies in one cell is told as a bool. -/
def U.sk : U → U
  | .arr n u => .arr n u.sk
  | .nil => .nil
  | .cons a b => .cons a.sk b.sk
  | _ => .bool
def V.sk : V → U
  | .d u _ => u.sk
  | .cons a b => .cons a.sk b.sk
  | .nil => .nil
  | _ => .bool
def V.size (v : V) : Nat := v.sk.size
def V.agg (v : V) : Bool := v.sk.agg
/-- May it lie in memory? -/
def V.cell : V → Bool
  | .cons a b => a.cell && b.cell
  | .tup _ => false
  | .undef => false
  | _ => true
/-- Where a path leads, in cells. -/
def U.off : U → List Step → Option Nat
  | _, [] => some 0
  | .cons a b, .fld 0 :: p => a.off p
  | .cons a b, .fld (n + 1) :: p => match b.off (.fld n :: p) with
    | some o => some (a.size + o)
    | none => none
  | .arr n u, .idx i :: p => match u.off p with
    | some o => if i < n then some (i * u.size + o) else none
    | none => none
  | _, _ => none

def dget : (u : U) → u.T → List Step → Option (Σ v : U, v.T)
  | u, x, [] => some ⟨u, x⟩
  | .cons a b, x, .fld 0 :: p => dget a x.1 p
  | .cons a b, x, .fld (n + 1) :: p => dget b x.2 (.fld n :: p)
  | .arr n u, xs, .idx i :: p => dget u (xs.getD i u.zero) p
  | _, _, _ => none

def V.get : V → List Step → Option V
  | v, [] => some v
  | .cons a b, .fld 0 :: p => a.get p
  | .cons a b, .fld (n + 1) :: p => b.get (.fld n :: p)
  | .d u x, p => match dget u x p with
    | some ⟨v, y⟩ => some (.d v y)
    | none => none
  | _, _ => none

def dset : (u : U) → u.T → List Step → (v : U) → v.T → Option u.T
  | u, x, [], v, y => castT u y
  | .cons a b, x, .fld 0 :: p, v, y => match dset a x.1 p v y with
    | some z => some (z, x.2)
    | none => none
  | .cons a b, x, .fld (n + 1) :: p, v, y => match dset b x.2 (.fld n :: p) v y with
    | some z => some (x.1, z)
    | none => none
  | .arr n u, xs, .idx i :: p, v, y => match dset u (xs.getD i u.zero) p v y with
    | some z => some (xs.set i z)
    | none => none
  | _, _, _, _, _ => none

def dsetV : (u : U) → u.T → List Step → V → Option V
  | u, x, [], v => some v
  | .cons a b, x, .fld 0 :: p, v => match dsetV a x.1 p v with
    | some z => some (.cons z (.d b x.2))
    | none => none
  | .cons a b, x, .fld (n + 1) :: p, v => match dsetV b x.2 (.fld n :: p) v with
    | some z => some (.cons (.d a x.1) z)
    | none => none
  | .arr n u, xs, .idx i :: p, .d v y => match dset u (xs.getD i u.zero) p v y with
    | some z => some (.d (.arr n u) (xs.set i z))
    | none => none
  | _, _, _, _ => none

def V.set : V → List Step → V → Option V
  | _, [], v => some v
  | .cons a b, .fld 0 :: p, v => match a.set p v with
    | some z => some (.cons z b)
    | none => none
  | .cons a b, .fld (n + 1) :: p, v => match b.set (.fld n :: p) v with
    | some z => some (.cons a z)
    | none => none
  | .d u x, p, v => dsetV u x p v
  | _, _, _ => none

/-- The zero value of a code, its fields apart, slices nil. -/
def zeroV : U → V
  | .sl _ => .nilsl
  | .cons a b => .cons (zeroV a) (zeroV b)
  | .nil => .nil
  | u => .d u u.zero

/-! ### told as plain data -/
def deepen (H : HF) : (u : U) → V → Option u.T
  | u, .d u' x => castT u x
  | .cons a b, .cons va vb => match deepen H a va with
    | some x => match deepen H b vb with
      | some y => some (x, y)
      | none => none
    | none => none
  | .nil, .nil => some ()
  | .sl u, .nilsl => some []
  | .sl u, .dfull u' xs => castT (u := .sl u') (.sl u) xs
  | .sl u, .row k => match H.row k with
    | some r => castT (u := .sl r.u) (.sl u) r.xs
    | none => none
  | .sl u, .rsub k o n => match H.row k with
    | some r => castT (u := .sl r.u) (.sl u) ((r.xs.drop o).take n)
    | none => none
  | _, _ => none

def V.rows : V → List Nat
  | .cons a b => a.rows ++ b.rows
  | .row k => [k]
  | .rsub k _ _ => [k]
  | .tup v => v.rows
  | _ => []

def HF.freeze (H : HF) : List Nat → HF
  | [] => H
  | k :: ks => match H.row k with
    | some r => HF.freeze (H.setRow k { r with w := false }) ks
    | none => HF.freeze H ks

/-! ### results of summaries: which slices are the caller's own -/
inductive RU where
  | d (u : U)
  | own (u : U)
  | nil
  | cons (a b : RU)
  deriving DecidableEq
@[reducible] def RU.T : RU → Type
  | .d u => u.T
  | .own u => List u.T
  | .nil => Unit
  | .cons a b => a.T × b.T
def RU.anyD : RU → Bool   -- may a slice that isn't new come back?
  | .d u => go u
  | .own u => go u
  | .nil => false
  | .cons a b => a.anyD || b.anyD
where go : U → Bool
  | .sl _ => true
  | .cons a b => go a || go b
  | .arr _ u => go u
  | _ => false

/-- What a result is, as a value: own slices are new rows, numbered from k on. -/
def RU.recv : (r : RU) → r.T → Nat → HF → V × Nat × HF
  | .d u, x, k, H => (.d u x, k, H)
  | .own u, xs, k, H => (.row k, k + 1, H.setRow k ⟨u, xs, true⟩)
  | .nil, _, k, H => (.nil, k, H)
  | .cons a b, x, k, H =>
    match a.recv x.1 k H with
    | (va, k1, H1) => match b.recv x.2 k1 H1 with
      | (vb, k2, H2) => (.cons va vb, k2, H2)

/-- Is it a list of results? -/
def RU.lists : RU → Bool
  | .nil => true
  | .cons _ b => b.lists
  | _ => false
/-- How many own slices. -/
def RU.owns : RU → Nat
  | .own _ => 1
  | .cons a b => a.owns + b.owns
  | _ => 0
/-- The rows that are told with what isn't new. -/
def RU.drows : RU → V → List Nat
  | .d _, v => v.rows
  | .cons a b, .cons va vb => a.drows va ++ b.drows vb
  | _, _ => []
/-- What is answered: own slices must be rows, each another one. -/
def RU.send : (r : RU) → V → HF → Option (r.T × List Nat)
  | .d u, v, H => match deepen H u v with
    | some x => some (x, [])
    | none => none
  | .own u, .row k, H => match H.row k with
    | some ⟨u', xs, true⟩ => match castT (u := .sl u') (.sl u) xs with
      | some x => some (x, [k])
      | none => none
    | _ => none
  | .own u, .nilsl, H => match Nat.blt 0 u.size with
    | true => some ([], [])
    | false => none
  | .nil, .nil, H => some ((), [])
  | .cons a b, .cons va vb, H => match a.send va H with
    | some (x, l) => match b.send vb H with
      | some (y, m) => some ((x, y), l ++ m)
      | none => none
    | none => none
  | _, _, _ => none

/-- A summary of a function: what its arguments and results are, and what it comes to. -/
structure Sum where
  a : U
  r : RU
  F : a.T → Option r.T

/-! ### what an operation comes to -/
inductive Res where
  | fail
  | ok (v : V) (H : HF)
  | ite (c : Bool) (a b : Res)
  | opt (r : RU) (o : Option r.T) (k : r.T → Res)

def Res.run {β : Type} : Res → (V → HF → Option β) → Option β
  | .fail, _ => none
  | .ok v H, K => K v H
  | .ite c a b, K => bif c then a.run K else b.run K
  | .opt r o k, K => o.bind fun x => (k x).run K

/-- The types of a translation, as the evaluator needs them. -/
structure TE where
  ty : Nat → Option U
  elem : Nat → Option U          -- of slices
  aelem : Nat → Option (Nat × U) -- of arrays
  ebytes : Nat → Nat
  sz : Nat → Option (Nat × Bool)
  foff : Nat → Nat → Option Nat
  str : Nat → Bool               -- is it a string?

def constV : Value → V
  | .int k n => .d (.int k) n
  | .bool b => .d .bool b
  | .slice none 0 0 => .nilsl
  | _ => .undef
/-- What a package-level variable holds, if it is one that is only read. -/
def globs (g : Nat) : Option (Σ u : U, u.T) := match globsA g with
  | some (k, l) => some ⟨.arr l.length (.int k), l⟩
  | none => none
def globV : Option (Σ u : U, u.T) → V
  | some ⟨u, x⟩ => .pdeep u x
  | none => .undef
def evO (T : TF) : Operand → V
  | .tmp t => T t
  | .const v => constV v
  | .func f => .fn f .nil .nil
  | .global g => globV (globs g)

def bitsI (op : BinOp) (k : IntKind) (x y : Int) : Int :=
  let a := BitVec.ofInt k.bits x
  let b := BitVec.ofInt k.bits y
  match op with
  | .and => k.wrap (a &&& b).toNat
  | .or => k.wrap (a ||| b).toNat
  | .xor => k.wrap (a ^^^ b).toNat
  | .andNot => k.wrap (a &&& ~~~b).toNat
  | _ => 0
def shiftI (left : Bool) (k : IntKind) (x : Int) (y : Int) : Int :=
  bif left then k.wrap (x * 2 ^ min y.toNat k.bits) else x.fdiv (2 ^ min y.toNat k.bits)
def kEq (a b : IntKind) : Bool := decide (a = b)

def binI (H : HF) (op : BinOp) (k : IntKind) (x y : Int) : Res :=
  match op with
  | .add => .ok (.d (.int k) (k.wrap (x + y))) H
  | .sub => .ok (.d (.int k) (k.wrap (x - y))) H
  | .mul => .ok (.d (.int k) (k.wrap (x * y))) H
  | .quo => .ite (y == 0) .fail (.ok (.d (.int k) (k.wrap (x.tdiv y))) H)
  | .rem => .ite (y == 0) .fail (.ok (.d (.int k) (x.tmod y)) H)
  | .and => .ok (.d (.int k) (bitsI .and k x y)) H
  | .or => .ok (.d (.int k) (bitsI .or k x y)) H
  | .xor => .ok (.d (.int k) (bitsI .xor k x y)) H
  | .andNot => .ok (.d (.int k) (bitsI .andNot k x y)) H
  | .eql => .ok (.d .bool (x == y)) H
  | .neq => .ok (.d .bool (x != y)) H
  | .lss => .ok (.d .bool (decide (x < y))) H
  | .leq => .ok (.d .bool (decide (x ≤ y))) H
  | .gtr => .ok (.d .bool (decide (x > y))) H
  | .geq => .ok (.d .bool (decide (x ≥ y))) H
  | _ => .fail

def binV (E : TE) (H : HF) (op : BinOp) (t : Nat) : V → V → Res
  | .d (.int k) x, .d (.int k') y =>
    match op with
    | .shl => .ite (decide (y < 0)) .fail (.ok (.d (.int k) (shiftI true k x y)) H)
    | .shr => .ite (decide (y < 0)) .fail (.ok (.d (.int k) (shiftI false k x y)) H)
    | _ => match kEq k k' with
      | true => binI H op k x y
      | false => .fail
  | .d .bool x, .d .bool y =>
    match E.ty t with
    | some .bool => match op with
      | .eql => .ok (.d .bool (x == y)) H
      | .neq => .ok (.d .bool (!(x == y))) H
      | _ => .fail
    | _ => .fail
  | v, w => match E.ty t with
    | some u => match u.eqok && u.agg with
      | true => match deepen H u v with
        | some x => match deepen H u w with
          | some y => match op with
            | .eql => .ok (.d .bool (u.eq x y)) H
            | .neq => .ok (.d .bool (!(u.eq x y))) H
            | _ => .fail
          | none => .fail
        | none => .fail
      | false => .fail
    | none => .fail

def unV (H : HF) (op : UnOp) : V → Res
  | .d .bool b => match op with
    | .not => .ok (.d .bool (!b)) H
    | _ => .fail
  | .d (.int k) n => match op with
    | .neg => .ok (.d (.int k) (k.wrap (0 - n))) H
    | .xor => .ok (.d (.int k) (bitsI .xor k (if k.signed then -1 else k.max) n)) H
    | _ => .fail
  | _ => .fail

/-- An index in bounds, or nothing. -/
def within (i n : Int) (r : Res) : Res := .ite (decide (0 ≤ i)) (.ite (decide (i < n)) r .fail) .fail
def maxBytes : Nat := 140737488355328

def loadV (E : TE) (H : HF) (t : Nat) : V → Res
  | .pvar k p => match H.var k with
    | some c => match c.get p with
      | some v => match E.sz t with
        | some (n, g) => match Nat.beq v.size n && (v.agg == g) with
          | true => .ok v H
          | false => .fail
        | none => .fail
      | none => .fail
    | none => .fail
  | .prow k i p => match H.row k with
    | some r => match dget r.u (r.xs.getD i r.u.zero) p with
      | some ⟨u, x⟩ => match E.sz t with
        | some (n, g) => match Nat.beq u.size n && (u.agg == g) with
          | true => .ok (.d u x) H
          | false => .fail
        | none => .fail
      | none => .fail
    | none => .fail
  | .pdeep u x => match E.sz t with
    | some (n, g) => match Nat.beq u.size n && (u.agg == g) with
      | true => .ok (.d u x) H
      | false => .fail
    | none => .fail
  | _ => .fail

/-- The code of what lies at a path. -/
def dcode : U → List Step → Option U
  | u, [] => some u
  | .cons a b, .fld 0 :: p => dcode a p
  | .cons a b, .fld (n + 1) :: p => dcode b (.fld n :: p)
  | .arr n u, .idx i :: p => dcode u p
  | _, _ => none

def storeV (E : TE) (H : HF) (t : Nat) (v : V) : V → Res
  | .pvar k p => match H.var k with
    | some c => match c.get p with
      | some old => match E.sz t with
        | some (n, g) => match Nat.beq v.size n && decide (v.sk = old.sk) && v.cell with
          | true => match c.set p v with
            | some c' => .ok .undef (H.setVar k c')
            | none => .fail
          | false => .fail
        | none => .fail
      | none => .fail
    | none => .fail
  | .prow k i p => match H.row k with
    | some r => match r.w with
      | true => match dcode r.u p with
        | some u => match E.sz t with
          | some (n, g) => match Nat.beq u.size n && Nat.beq v.size n with
            | true => match deepen H u v with
              | some y => match dset r.u (r.xs.getD i r.u.zero) p u y with
                | some z => match (v.rows.contains k) with
                  | true => .fail
                  | false => .ok .undef ((H.freeze v.rows).setRow k ⟨r.u, r.xs.set i z, true⟩)
                | none => .fail
              | none => .fail
            | false => .fail
          | none => .fail
        | none => .fail
      | false => .fail
    | none => .fail
  | _ => .fail

def fieldV (E : TE) (H : HF) (t f : Nat) : V → Res
  | .pvar k p => match H.var k with
    | some c => match c.get p with
      | some v => match v.sk.off [.fld f] with
        | some o => match E.foff t f with
          | some o' => match Nat.beq o o' with
            | true => .ok (.pvar k (p ++ [.fld f])) H
            | false => .fail
          | none => .fail
        | none => .fail
      | none => .fail
    | none => .fail
  | .prow k i p => match H.row k with
    | some r => match dcode r.u p with
      | some u => match u.off [.fld f] with
        | some o => match E.foff t f with
          | some o' => match Nat.beq o o' with
            | true => .ok (.prow k i (p ++ [.fld f])) H
            | false => .fail
          | none => .fail
        | none => .fail
      | none => .fail
    | none => .fail
  | .pdeep u x => match u.off [.fld f] with
    | some o => match E.foff t f with
      | some o' => match Nat.beq o o' with
        | true => match dget u x [.fld f] with
          | some ⟨v, y⟩ => .ok (.pdeep v y) H
          | none => .fail
        | false => .fail
      | none => .fail
    | none => .fail
  | _ => .fail

def indexV (E : TE) (H : HF) (t : Nat) (x : V) (i : Int) : Res :=
  match E.elem t with
  | some u => match x with
    | .d (.sl u') xs => match castT (u := .sl u') (.sl u) xs with
      | some (ys : List u.T) => within i ys.length (.ok (.pdeep u (ys.getD i.toNat u.zero)) H)
      | none => .fail
    | .dfull u' xs => match castT (u := .sl u') (.sl u) xs with
      | some (ys : List u.T) => within i ys.length (.ok (.pdeep u (ys.getD i.toNat u.zero)) H)
      | none => .fail
    | .row k => match H.row k with
      | some r => match decide (r.u = u) with
        | true => within i r.xs.length (.ok (.prow k i.toNat []) H)
        | false => .fail
      | none => .fail
    | .rsub k o n => match H.row k with
      | some r => match decide (r.u = u) with
        | true => within i n (.ok (.prow k (o + i.toNat) []) H)
        | false => .fail
      | none => .fail
    | _ => .fail
  | none => match E.aelem t with
    | some (m, u) => match x with
      | .pdeep (.arr n u') xs => match decide (u' = u) && Nat.beq n m with
        | true => within i n (.ok (.pdeep u' (List.getD xs i.toNat u'.zero)) H)
        | false => .fail
      | .pvar k p => match H.var k with
        | some c => match c.get p with
          | some (.d (.arr n u') xs) => match decide (u' = u) && Nat.beq n m with
            | true => within i n (.ok (.pvar k (p ++ [.idx i.toNat])) H)
            | false => .fail
          | _ => .fail
        | none => .fail
      | .prow k j p => match H.row k with
        | some r => match dcode r.u p with
          | some (.arr n u') => match decide (u' = u) && Nat.beq n m with
            | true => within i n (.ok (.prow k j (p ++ [.idx i.toNat])) H)
            | false => .fail
          | _ => .fail
        | none => .fail
      | _ => .fail
    | none => .fail

def lenV (H : HF) : V → Option Int
  | .d (.sl _) xs => some (xs.length : Int)
  | .dfull _ xs => some (xs.length : Int)
  | .nilsl => some 0
  | .row k => match H.row k with
    | some r => some (r.xs.length : Int)
    | none => none
  | .rsub k o n => match H.row k with
    | some _ => some (n : Int)
    | none => none
  | _ => none

/-- x[lo:hi], hi within the length. 'full': the capacity is cut, too. -/
def cutV (H : HF) (full : Bool) (x : V) (lo hi : Int) : Res :=
  match lenV H x with
  | none => .fail
  | some n => .ite (decide (0 ≤ lo)) (.ite (decide (lo ≤ hi)) (.ite (decide (hi ≤ n))
      (match x with
        | .d (.sl u) xs => match full with
          | true => .ok (.dfull u ((xs.drop lo.toNat).take (hi.toNat - lo.toNat))) H
          | false => .ok (.d (.sl u) ((xs.drop lo.toNat).take (hi.toNat - lo.toNat))) H
        | .dfull u xs => match full with
          | true => .ok (.dfull u ((xs.drop lo.toNat).take (hi.toNat - lo.toNat))) H
          | false => .ok (.d (.sl u) ((xs.drop lo.toNat).take (hi.toNat - lo.toNat))) H
        | .nilsl => .ok .nilsl H
        | .row k => match full with
          | true => .fail
          | false => .ok (.rsub k lo.toNat (hi.toNat - lo.toNat)) H
        | .rsub k o m => match full with
          | true => .fail
          | false => .ok (.rsub k (o + lo.toNat) (hi.toNat - lo.toNat)) H
        | _ => .fail) .fail) .fail) .fail

/-- Have its elements so many cells? -/
def fitsZ (H : HF) (z : Nat) : V → Bool
  | .d (.sl u) _ => Nat.beq u.size z
  | .dfull u _ => Nat.beq u.size z
  | .nilsl => true
  | .row k => match H.row k with
    | some r => Nat.beq r.u.size z
    | none => false
  | .rsub k _ _ => match H.row k with
    | some r => Nat.beq r.u.size z
    | none => false
  | _ => false

def asInt : V → Option Int
  | .d (.int _) n => some n
  | _ => none
def optInt (T : TF) : Option Operand → Int → Option Int
  | some x, _ => asInt (evO T x)
  | none, n => some n

def fillV (H : HF) (T : TF) (u : U) : List (Nat × Operand) → List u.T → Option (List u.T)
  | [], xs => some xs
  | (i, x) :: rest, xs => match deepen H u (evO T x) with
    | some y => match Nat.blt i xs.length with
      | true => fillV H T u rest (xs.set i y)
      | false => none
    | none => none
def rowsOfs (T : TF) : List (Nat × Operand) → List Nat
  | [] => []
  | (_, x) :: rest => (evO T x).rows ++ rowsOfs T rest
def buildFs (T : TF) : List (Nat × Operand) → V → Option V
  | [], v => some v
  | (i, x) :: rest, v => match v.get [.fld i] with
    | some old => match decide (old.sk = (evO T x).sk) && (evO T x).cell with
      | true => match v.set [.fld i] (evO T x) with
        | some v' => buildFs T rest v'
        | none => none
      | false => none
    | none => none

/-- append(x, ys...): x nil, full or a row of one's own; its row is gone behind it, the new one's number is key. -/
def appendV (H : HF) (key : Nat) (u : U) (bytes : Nat) (x y : V) : Res :=
  match deepen H (.sl u) y with
  | none => .fail
  | some (ys : List u.T) =>
    match x with
    | .nilsl => .ite (decide (ys.length * bytes ≤ maxBytes)) (.ok (.row key) (H.setRow key ⟨u, ys, true⟩)) .fail
    | .dfull u' xs => match castT (u := .sl u') (.sl u) xs with
      | some (zs : List u.T) => .ite (zs.isEmpty || !ys.isEmpty) (.ite (decide ((zs.length + ys.length) * bytes ≤ maxBytes)) (.ok (.row key) (H.setRow key ⟨u, zs ++ ys, true⟩)) .fail) .fail
      | none => .fail
    | .row k => match H.row k with
      | some r => match r.w && !(y.rows.contains k) with
        | true => match castT (u := .sl r.u) (.sl u) r.xs with
          | some (zs : List u.T) => .ite (decide ((zs.length + ys.length) * bytes ≤ maxBytes)) (.ok (.row key) ((H.delRow k).setRow key ⟨u, zs ++ ys, true⟩)) .fail
          | none => .fail
        | false => .fail
      | none => .fail
    | .rsub k o n => match H.row k with
      | some r => match r.w && !(y.rows.contains k) with
        | true => match castT (u := .sl r.u) (.sl u) ((r.xs.drop o).take n) with
          | some (zs : List u.T) => .ite (decide ((zs.length + ys.length) * bytes ≤ maxBytes)) (.ok (.row key) ((H.delRow k).setRow key ⟨u, zs ++ ys, true⟩)) .fail
          | none => .fail
        | false => .fail
      | none => .fail
    | _ => .fail

/-- A row's part is turned. -/
def segSet {α : Type} (xs : List α) (o : Nat) (ys : List α) : List α := xs.take o ++ ys ++ xs.drop (o + ys.length)
/-- clear of a row of one's own. -/
def clearV (H : HF) (u : U) : V → Res
  | .nilsl => .ok (.tup .nil) H
  | .row k => match H.row k with
    | some r => match r.w && decide (r.u = u) with
      | true => .ok (.tup .nil) (H.setRow k ⟨r.u, segSet r.xs 0 (List.replicate r.xs.length r.u.zero), true⟩)
      | false => .fail
    | none => .fail
  | .rsub k o n => match H.row k with
    | some r => match r.w && decide (r.u = u) with
      | true => .ok (.tup .nil) (H.setRow k ⟨r.u, segSet r.xs o (List.replicate n r.u.zero), true⟩)
      | false => .fail
    | none => .fail
  | _ => .fail
/-- copy into a row of one's own. -/
def copyV (H : HF) (u : U) (x y : V) : Res :=
  match deepen H (.sl u) y with
  | none => .fail
  | some (ys : List u.T) => match x with
    | .nilsl => .ok (.d (.int .i64) 0) H
    | .row k => match H.row k with
      | some r => match r.w with
        | true => match castT (u := .sl u) (.sl r.u) ys with
          | some (zs : List r.u.T) => .ok (.d (.int .i64) ((zs.take r.xs.length).length : Int)) (H.setRow k ⟨r.u, segSet r.xs 0 (zs.take r.xs.length), true⟩)
          | none => .fail
        | false => .fail
      | none => .fail
    | .rsub k o n => match H.row k with
      | some r => match r.w with
        | true => match castT (u := .sl u) (.sl r.u) ys with
          | some (zs : List r.u.T) => .ok (.d (.int .i64) ((zs.take n).length : Int)) (H.setRow k ⟨r.u, segSet r.xs o (zs.take n), true⟩)
          | none => .fail
        | false => .fail
      | none => .fail
    | _ => .fail
def strOf : Operand → Option ByteArray
  | .const (.string s) => some s
  | _ => none

def aop (E : TE) (key : Nat) (T : TF) (H : HF) : Op → Res
  | .move x => .ok (evO T x) H
  | .assign x => .ok (evO T x) H
  | .pick c a b => match evO T c with
    | .d .bool x => .ite x (.ok (evO T a) H) (.ok (evO T b) H)
    | _ => .fail
  | .alloc t => match E.ty t with
    | some u => .ok (.pvar key []) (H.setVar key (zeroV u))
    | none => .fail
  | .box t x => match (evO T x).cell with
    | true => .ok (.pvar key []) (H.setVar key (evO T x))
    | false => .fail
  | .build t ps => match E.ty t with
    | some (.cons a b) => match buildFs T ps.toList (zeroV (.cons a b)) with
      | some v => .ok v H
      | none => .fail
    | some .nil => match ps.toList with
      | [] => .ok .nil H
      | _ => .fail
    | _ => .fail
  | .buildSlice t n ps => match E.elem t with
    | some u => match Nat.ble (n * u.size) 16777216 && Nat.blt 0 u.size with
      | true => match fillV H T u ps.toList (List.replicate n u.zero) with
        | some xs => .ok (.row key) ((H.freeze (rowsOfs T ps.toList)).setRow key ⟨u, xs, true⟩)
        | none => .fail
      | false => .fail
    | none => .fail
  | .load t x => loadV E H t (evO T x)
  | .store t a x => storeV E H t (evO T x) (evO T a)
  | .nilCheck x => match evO T x with
    | .pvar k p => match H.var k with
      | some _ => .ok (.pvar k p) H
      | none => .fail
    | .prow k i p => match H.row k with
      | some _ => .ok (.prow k i p) H
      | none => .fail
    | .pdeep u x => .ok (.pdeep u x) H
    | .fn f a b => .ok (.fn f a b) H
    | _ => .fail
  | .binOp op t x y _ => binV E H op t (evO T x) (evO T y)
  | .unOp op _ x => unV H op (evO T x)
  | .convert src dst x => match evO T x with
    | .d (.int _) n => match E.ty src with
      | some (.int _) => match E.ty dst with
        | some (.int k) => .ok (.d (.int k) (k.wrap n)) H
        | _ => .fail
      | _ => .fail
    | _ => .fail
  | .makeFunc (.func f) first caps => match (listV T first.toList).cell && (listV T caps.toList).cell with
    | true => .ok (.fn f (listV T first.toList) (listV T caps.toList)) H
    | false => .fail
  | .makeSlice t l c => match E.elem t with
    | some u => match asInt (evO T l) with
      | some n => match asInt (evO T c) with
        | some m => match Nat.blt 0 u.size && Nat.blt 0 (E.ebytes t) with
          | true => .ite (n == m) (.ite (decide (0 ≤ n)) (.ite (decide (n.toNat * E.ebytes t ≤ maxBytes)) (.ok (.row key) (H.setRow key ⟨u, List.replicate n.toNat u.zero, true⟩)) .fail) .fail) .fail
          | false => .fail
        | none => .fail
      | none => .fail
    | none => .fail
  | .slice t x lo hi mx => match E.elem t with
    | some u => match lenV H (evO T x) with
      | some n => match fitsZ H u.size (evO T x) with
       | true => match optInt T lo 0 with
        | some l => match optInt T hi n with
          | some h => match mx with
            | none => cutV H false (evO T x) l h
            | some m => match hi, asInt (evO T m) with
              | some _, some m => .ite (h == m) (cutV H true (evO T x) l h) .fail
              | _, _ => .fail
          | none => .fail
        | none => .fail
       | false => .fail
      | none => .fail
    | none => .fail
  | .fieldAddr t x f => fieldV E H t f (evO T x)
  | .indexAddr t x i => match asInt (evO T i) with
    | some i => indexV E H t (evO T x) i
    | none => .fail
  | .index t x i => match asInt (evO T i) with
    | some i => match E.aelem t with
      | some (m, u) => match evO T x with
        | .d (.arr n u') xs => match decide (u' = u) && Nat.beq n m with
          | true => within i n (.ok (.d u' (List.getD xs i.toNat u'.zero)) H)
          | false => .fail
        | _ => .fail
      | none => match E.str t with
        | true => match strOf x with
          | some s => within i s.size (.ok (.d (.int .u8) ((s.data.toList.getD i.toNat 0).toNat : Int)) H)
          | none => .fail
        | false => .fail
    | none => .fail
  | .extract x i => match evO T x with
    | .tup vs => match nthV vs i with
      | some v => .ok v H
      | none => .fail
    | _ => .fail
  | _ => .fail
where
  listV (T : TF) : List Operand → V
    | [] => .nil
    | x :: xs => .cons (evO T x) (listV T xs)
  nthV : V → Nat → Option V
    | .cons a _, 0 => some a
    | .cons _ b, n + 1 => nthV b n
    | _, _ => none

def abuiltin (E : TE) (key : Nat) (T : TF) (H : HF) (b : Builtin) (args : List Operand) (tys : List Nat) : Res :=
  match b, args, tys with
  | .len, [x], [t] => match E.elem t with
    | some _ => match lenV H (evO T x) with
      | some n => .ok (.d (.int .i64) n) H
      | none => .fail
    | none => .fail
  | .append, [x, y], [t, t'] => match E.elem t with
    | some u => match Nat.beq t t' && Nat.blt 0 u.size && Nat.blt 0 (E.ebytes t) with
      | true => appendV H key u (E.ebytes t) (evO T x) (evO T y)
      | false => .fail
    | none => .fail
  | .clear, [x], [t] => match E.elem t with
    | some u => clearV H u (evO T x)
    | none => .fail
  | .copy, [x, y], [t, t'] => match E.elem t with
    | some u => copyV H u (evO T x) (evO T y)
    | none => .fail
  | .cap, [x], [t] => match E.elem t with
    | some _ => match evO T x with
      | .nilsl => .ok (.d (.int .i64) 0) H
      | _ => .fail
    | none => .fail
  | .min, [x, y], [_, _] => match evO T x with
    | .d (.int k) a => match evO T y with
      | .d (.int _) b => .ok (.d (.int k) (bif decide (b < a) then b else a)) H
      | _ => .fail
    | _ => .fail
  | .max, [x, y], [_, _] => match evO T x with
    | .d (.int k) a => match evO T y with
      | .d (.int _) b => .ok (.d (.int k) (bif decide (a < b) then b else a)) H
      | _ => .fail
    | _ => .fail
  | _, _, _ => .fail

/-- A summary, called. -/
def asum (s : Sum) (key : Nat) (H : HF) (args : V) (tup : Bool) : Res :=
  match deepen H s.a args with
  | none => .fail
  | some x => match Nat.ble s.r.owns 16 with
    | true => .opt s.r (s.F x) fun y =>
      match RU.recv s.r y key (bif s.r.anyD then H.freeze args.rows else H) with
      | (v, _, H') => .ok (outV tup v) H'
    | false => .fail
where outV : Bool → V → V
    | true, v => .tup v
    | false, .cons v .nil => v
    | false, v => .tup v

/-! ### control -/
inductive Ex where
  | normal
  | exit (id : Nat)
  | ret

/-- A place that holds a row of one's own (or nil): a temporary, or a path behind the pointer that a temporary holds, or in a variable of a caller. -/
inductive Place where
  | tmp (t : Nat)
  | ptr (t : Nat) (p : List Step)
  | key (k : Nat) (p : List Step)
/-- What lives on at a loop's head, or behind it; under which numbers. -/
structure Canon where
  flats : List (Place × U)
  tmps : List Nat
  owns : List (Place × U)
  vars : List Nat
  keepV : List Nat
  keepR : List Nat
  n0 : Nat

def assoc : List (Nat × Nat) → Nat → Option Nat
  | [], _ => none
  | (a, b) :: r, k => bif Nat.beq a k then some b else assoc r k
/-- As much as can be told as plain data is; numbers are turned; what has none is let go. -/
def V.join : V → V → V
  | .d a x, .d b y => .d (.cons a b) (x, y)
  | v, w => .cons v w
structure Sub where
  var : List (Nat × Nat)
  row : List (Nat × Nat)
def V.norm (s : Sub) : V → V
  | .cons a b => V.join (a.norm s) (b.norm s)
  | .nil => .d .nil ()
  | .row k => match assoc s.row k with
    | some k' => .row k'
    | none => .undef
  | .rsub k o n => match assoc s.row k with
    | some k' => .rsub k' o n
    | none => .undef
  | .prow k i p => match assoc s.row k with
    | some k' => .prow k' i p
    | none => .undef
  | .pvar k p => match assoc s.var k with
    | some k' => .pvar k' p
    | none => .undef
  | .fn f a b => .fn f (normL s a) (normL s b)
  | .tup v => .undef
  | v => v
where normL (s : Sub) : V → V
  | .cons a b => .cons (a.norm s) (normL s b)
  | _ => .nil
def tabT : List (Nat × V) → TF
  | [] => fun _ => .undef
  | (k, v) :: r => fun i => bif Nat.beq i k then v else tabT r i
def tabV : List (Nat × Option V) → Nat → Option V
  | [] => fun _ => none
  | (k, v) :: r => fun i => bif Nat.beq i k then v else tabV r i
def tabR : List (Nat × Option Row) → Nat → Option Row
  | [] => fun _ => none
  | (k, v) :: r => fun i => bif Nat.beq i k then v else tabR r i

/-- A place's number for its row; nil becomes a row without elements. -/
def ownAt (o : Place) (u : U) (T : TF) (H : HF) : Option (Nat × TF × HF) :=
  match Nat.blt 0 u.size with
  | false => none
  | true => match o with
    | .tmp t => match T t with
      | .nilsl => some (H.nx, upd T t (.row H.nx), { H.setRow H.nx ⟨u, [], true⟩ with nx := H.nx + 1 })
      | .row k => some (k, T, H)
      | _ => none
    | .ptr t p => match T t with
      | .pvar k q => inVar k (q ++ p) T H
      | _ => none
    | .key k p => inVar k p T H
where inVar (k : Nat) (p : List Step) (T : TF) (H : HF) : Option (Nat × TF × HF) :=
  match H.var k with
  | some c => match c.get p with
    | some .nilsl => match c.set p (.row H.nx) with
      | some c' => some (H.nx, T, { (H.setRow H.nx ⟨u, [], true⟩).setVar k c' with nx := H.nx + 1 })
      | none => none
    | some (.row j) => some (j, T, H)
    | _ => none
  | none => none
def ownAll : List (Place × U) → TF → HF → Option (List Nat × TF × HF)
  | [], T, H => some ([], T, H)
  | (o, u) :: os, T, H => match ownAt o u T H with
    | some (k, T', H') => match ownAll os T' H' with
      | some (ks, T'', H'') => some (k :: ks, T'', H'')
      | none => none
    | none => none
/-- What lies at a place is told as plain data; its rows are written no more. -/
def flatAt (o : Place) (u : U) (T : TF) (H : HF) : Option (TF × HF) :=
  match o with
  | .tmp t => match deepen H u (T t) with
    | some x => some (upd T t (.d u x), H.freeze (T t).rows)
    | none => none
  | .ptr t p => match T t with
    | .pvar k q => inVar k (q ++ p)
    | _ => none
  | .key k p => inVar k p
where inVar (k : Nat) (p : List Step) : Option (TF × HF) :=
  match H.var k with
  | some c => match c.get p with
    | some v => match deepen H u v with
      | some x => match c.sk.off p with
        | some _ => match c.set p (.d u x) with
          | some c' => some (T, (H.freeze v.rows).setVar k c')
          | none => none
        | none => none
      | none => none
    | none => none
  | none => none
def flatAll : List (Place × U) → TF → HF → Option (TF × HF)
  | [], T, H => some (T, H)
  | (o, u) :: os, T, H => match flatAt o u T H with
    | some (T', H') => flatAll os T' H'
    | none => none
def varKeys : List Nat → TF → Option (List Nat)
  | [], _ => some []
  | t :: ts, T => match T t with
    | .pvar k [] => match varKeys ts T with
      | some ks => some (k :: ks)
      | none => none
    | _ => none
def number : List Nat → Nat → List (Nat × Nat)
  | [], _ => []
  | k :: ks, n => (k, n) :: number ks (n + 1)
def normO (s : Sub) : Option V → Option V
  | some v => some (v.norm s)
  | none => none
/-- What lives on, told: temporaries, variables, rows. -/
structure Snap where
  tmps : List (Nat × V)
  vars : List (Nat × Option V)
  rows : List (Nat × Option Row)
  nx : Nat
def Snap.T (m : Snap) : TF := tabT m.tmps
def Snap.H (m : Snap) : HF := { var := tabV m.vars, row := tabR m.rows, nx := m.nx }
def canonS (base : Nat) (a : Canon) (T0 : TF) (H0 : HF) : Option Snap :=
  match flatAll a.flats T0 H0 with
  | none => none
  | some (T, H) => match ownAll a.owns T H with
  | none => none
  | some (ks, T1, H1) => match varKeys a.vars T1 with
    | none => none
    | some vs => match decide ks.Nodup && decide vs.Nodup && Nat.ble base a.n0 && a.keepV.all (fun k => Nat.blt k a.n0 && !vs.contains k) && a.keepR.all (fun k => Nat.blt k a.n0 && !ks.contains k) with
      | false => none
      | true =>
        let rs := number ks a.n0
        let ws := number vs (a.n0 + ks.length)
        let s : Sub := ⟨a.keepV.map (fun k => (k, k)) ++ ws, a.keepR.map (fun k => (k, k)) ++ rs⟩
        some { tmps := a.tmps.map fun i => (i, (T1 i).norm s)
               vars := a.keepV.map (fun k => (k, normO s (H1.var k))) ++ ws.map fun x => (x.2, normO s (H1.var x.1))
               rows := a.keepR.map (fun k => (k, H1.row k)) ++ rs.map fun x => (x.2, H1.row x.1)
               nx := a.n0 + ks.length + vs.length }

/-! a shape, and the data in what has it -/
inductive Sh where
  | d (u : U)
  | cons (a b : Sh)
  | nil
  | nilsl
  | undef
  | row (k : Nat)
  | pvar (k : Nat) (p : List Step)
  | pdeep (u : U)
  | dfull (u : U)
  | fn (f : FuncId) (a b : Sh)
def Sh.C : Sh → U → U
  | .d u, r => .cons u r
  | .cons a b, r => a.C (b.C r)
  | .pdeep u, r => .cons u r
  | .dfull u, r => .cons (.sl u) r
  | .fn _ a b, r => a.C (b.C r)
  | _, r => r
def Sh.enc : (s : Sh) → (r : U) → (s.C r).T → V × r.T
  | .d u, r, x => (.d u x.1, x.2)
  | .cons a b, r, x => match a.enc (b.C r) x with
    | (va, y) => match b.enc r y with
      | (vb, z) => (.cons va vb, z)
  | .pdeep u, r, x => (.pdeep u x.1, x.2)
  | .dfull u, r, x => (.dfull u x.1, x.2)
  | .fn f a b, r, x => match a.enc (b.C r) x with
    | (va, y) => match b.enc r y with
      | (vb, z) => (.fn f va vb, z)
  | .nil, _, x => (.nil, x)
  | .nilsl, _, x => (.nilsl, x)
  | .undef, _, x => (.undef, x)
  | .row k, _, x => (.row k, x)
  | .pvar k p, _, x => (.pvar k p, x)
def Sh.dec : (s : Sh) → (r : U) → V → r.T → Option (s.C r).T
  | .d u, r, .d u' x, y => match castT u x with
    | some x => some (x, y)
    | none => none
  | .cons a b, r, .cons va vb, y => match b.dec r vb y with
    | some z => a.dec (b.C r) va z
    | none => none
  | .pdeep u, r, .pdeep u' x, y => match castT u x with
    | some x => some (x, y)
    | none => none
  | .dfull u, r, .dfull u' x, y => match castT (u := .sl u') (.sl u) x with
    | some x => some (x, y)
    | none => none
  | .fn f a b, r, .fn f' va vb, y => match Nat.beq f f' with
    | true => match b.dec r vb y with
      | some z => a.dec (b.C r) va z
      | none => none
    | false => none
  | .nil, _, .nil, y => some y
  | .nilsl, _, .nilsl, y => some y
  | .undef, _, .undef, y => some y
  | .row k, _, .row k', y => match Nat.beq k k' with
    | true => some y
    | false => none
  | .pvar k p, _, .pvar k' p', y => match Nat.beq k k' && decide (p = p') with
    | true => some y
    | false => none
  | _, _, _, _ => none
structure St where
  tmps : List (Nat × Sh)
  vars : List (Nat × Sh)
  rows : List (Nat × U × Bool)
  nx : Nat
def CL : List (Nat × Sh) → U → U
  | [], r => r
  | p :: l, r => p.2.C (CL l r)
def encL : (l : List (Nat × Sh)) → (r : U) → (CL l r).T → List (Nat × V) × r.T
  | [], r, x => ([], x)
  | p :: l, r, x => match p.2.enc (CL l r) x with
    | (v, y) => match encL l r y with
      | (vs, z) => ((p.1, v) :: vs, z)
def decL : (l : List (Nat × Sh)) → (r : U) → List (Nat × V) → r.T → Option (CL l r).T
  | [], r, [], y => some y
  | p :: l, r, (k, v) :: m, y => match Nat.beq p.1 k with
    | true => match decL l r m y with
      | some z => p.2.dec (CL l r) v z
      | none => none
    | false => none
  | _, _, _, _ => none
def decO : (l : List (Nat × Sh)) → (r : U) → List (Nat × Option V) → r.T → Option (CL l r).T
  | [], r, [], y => some y
  | p :: l, r, (k, some v) :: m, y => match Nat.beq p.1 k with
    | true => match decO l r m y with
      | some z => p.2.dec (CL l r) v z
      | none => none
    | false => none
  | _, _, _, _ => none
def CR : List (Nat × U × Bool) → U
  | [] => .nil
  | p :: l => .cons (.sl p.2.1) (CR l)
def encR : (l : List (Nat × U × Bool)) → (CR l).T → List (Nat × Option Row)
  | [], _ => []
  | p :: l, x => (p.1, some ⟨p.2.1, x.1, p.2.2⟩) :: encR l x.2
def decR : (l : List (Nat × U × Bool)) → List (Nat × Option Row) → Option (CR l).T
  | [], [] => some ()
  | p :: l, (k, some ⟨u, xs, w⟩) :: m => match Nat.beq p.1 k && (p.2.2 == w) with
    | true => match castT (u := .sl u) (.sl p.2.1) xs with
      | some x => match decR l m with
        | some z => some (x, z)
        | none => none
      | none => none
    | false => none
  | _, _ => none
def St.C (s : St) : U := CL s.tmps (CL s.vars (CR s.rows))
def St.snap (s : St) (x : s.C.T) : Snap := match encL s.tmps (CL s.vars (CR s.rows)) x with
  | (t, y) => match encL s.vars (CR s.rows) y with
    | (v, z) => { tmps := t, vars := v.map fun p => (p.1, some p.2), rows := encR s.rows z, nx := s.nx }
def St.dec (s : St) (m : Snap) : Option s.C.T := match Nat.beq s.nx m.nx with
  | true => match decR s.rows m.rows with
    | some z => match decO s.vars (CR s.rows) m.vars z with
      | some y => decL s.tmps (CL s.vars (CR s.rows)) m.tmps y
      | none => none
    | none => none
  | false => none

/-- How a loop is left: by an exit, or by a return. -/
inductive LRes (o r : U) where
  | out (y : o.T)
  | ret (y : r.T)
/-- What a round comes to. -/
inductive SRes (h o r : U) where
  | next (x : h.T)
  | fin (l : LRes o r)
/-- What is said of a loop: what lives at its head, behind it, and as it returns; what it comes to. -/
structure LoopSum where
  hc : Canon
  h : St
  xid : Nat
  oc : Canon
  o : St
  rc : Canon
  r : St
  F : h.C.T → Option (LRes o.C r.C)
def roundK (base : Nat) (a : LoopSum) : Ex → TF → HF → Option (SRes a.h.C a.o.C a.r.C)
  | .normal, T, H => match canonS base a.hc T H with
    | some m => match a.h.dec m with
      | some x => some (.next x)
      | none => none
    | none => none
  | .exit i, T, H => match Nat.beq i a.xid with
    | true => match canonS base a.oc T H with
      | some m => match a.o.dec m with
        | some x => some (.fin (.out x))
        | none => none
      | none => none
    | false => none
  | .ret, T, H => match canonS base a.rc T H with
    | some m => match a.r.dec m with
      | some x => some (.fin (.ret x))
      | none => none
    | none => none
def leaveK {β : Type} (a : LoopSum) (K : Ex → TF → HF → Option β) : LRes a.o.C a.r.C → Option β
  | .out y => K (.exit a.xid) (a.o.snap y).T (a.o.snap y).H
  | .ret y => K .ret (a.r.snap y).T (a.r.snap y).H
def headK {β : Type} (base : Nat) (a : LoopSum) (T : TF) (H : HF) (K : Ex → TF → HF → Option β) : Option β :=
  match canonS base a.hc T H with
  | some m => match a.h.dec m with
    | some x => (a.F x).bind (leaveK a K)
    | none => none
  | none => none
/-- Rounds, one behind the other. -/
def iterL {h o r : U} (step : h.T → Option (SRes h o r)) : Nat → h.T → Option (LRes o r)
  | 0, _ => none
  | n + 1, x => match step x with
    | some (.next y) => iterL step n y
    | some (.fin l) => some l
    | none => none
section
variable {β : Type} (E : TE) (S : FuncId → Option Sum) (inl : FuncId → V → HF → (V → HF → Option β) → Option β)
  (ann : Nat → Nat → Option LoopSum) (nt : Nat)

def appV : V → V → V
  | .cons a b, w => .cons a (appV b w)
  | _, w => w

def noTup : V → Bool
  | .tup _ => false
  | _ => true
def noTups : V → Bool
  | .cons a b => noTup a && noTups b
  | _ => true

/-- Neither reads or sets what the other sets (of the temporaries). -/
def looksOf (ops : Array Oper) (o : Oper) : List Nat :=
  (o.op.operands.toList.filterMap fun | .tmp t => some t | _ => none) ++
  (match o.guard with
   | some (g, _) => ((ops[g]?).bind (·.dst)).toList
   | none => [])
def looksApart (ops : Array Oper) (x y : Oper) : Bool :=
  (match x.dst with
   | some d => !(looksOf ops y).contains d && y.dst != some d
   | none => true) &&
  (match y.dst with
   | some d => !(looksOf ops x).contains d
   | none => true)
def callK (c : Call) (key : Nat) (T : TF) (H : HF) (K : V → HF → Option β) : Option β :=
  match c.callee with
  | .builtin b => (abuiltin E key T H b c.args.toList c.argTypes.toList).run K
  | .value x => match evO T x with
    | .fn f first caps => match S f with
      | some s => match first, caps with
        | .nil, .nil => (asum s key H (aop.listV T c.args.toList) false).run K
        | _, _ => none
      | none => match noTups (aop.listV T c.args.toList) with
        | true => inl f (appV first (appV (aop.listV T c.args.toList) caps)) H K
        | false => none
    | _ => none
  | _ => none

def stepK (key : Nat) (o : Oper) (T : TF) (H : HF) (K : TF → HF → Option β) : Option β :=
  match o.op with
  | .call c => callK E S inl c key T H fun v H' => K (putT nt T o.dst v) H'
  | op => (aop E key T H op).run fun v H' => K (putT nt T o.dst v) H'

/-- What an operation comes to, if it is no call in place. -/
def opRes (key : Nat) (T : TF) (H : HF) : Op → Res
  | .call c => match c.callee with
    | .builtin b => abuiltin E key T H b c.args.toList c.argTypes.toList
    | .value x => match evO T x with
      | .fn f first caps => match S f with
        | some s => match first, caps with
          | .nil, .nil => asum s key H (aop.listV T c.args.toList) false
          | _, _ => .fail
        | none => .fail
      | _ => .fail
    | _ => .fail
  | op => aop E key T H op

def gtmp (ops : Array Oper) (j : Nat) : Option Nat := (ops[j]?).bind (·.dst)

def runOps (ops : Array Oper) : List Oper → Nat → TF → HF → (TF → HF → Option β) → Option β
  | [], _, T, H, K => K T H
  | o :: rest, key, T, H, K =>
    match o.guard with
    | none => stepK E S inl nt key o T H fun T' H' => runOps ops rest (key + 16) T' H' K
    | some (j, want) => match gtmp ops j with
      | none => none
      | some g => match T g with
        | .d .bool b =>
          bif b then
            (match want with
              | true => stepK E S inl nt key o (upd T g (.d .bool true)) H fun T' H' => runOps ops rest (key + 16) T' H' K
              | false => runOps ops rest (key + 16) (putT nt (upd T g (.d .bool true)) o.dst (.tup .nil)) H K)
          else
            (match want with
              | false => stepK E S inl nt key o (upd T g (.d .bool false)) H fun T' H' => runOps ops rest (key + 16) T' H' K
              | true => runOps ops rest (key + 16) (putT nt (upd T g (.d .bool false)) o.dst (.tup .nil)) H K)
        | .tup .nil => runOps ops rest (key + 16) (putT nt T o.dst (.tup .nil)) H K
        | _ => none

/-! a region whose operations may run in other orders, too -/
/-- Does it write? -/
def wrOp : Op → Bool
  | .alloc _ => true
  | .box _ _ => true
  | .buildSlice _ _ _ => true
  | .makeSlice _ _ _ => true
  | .store _ _ _ => true
  | .call _ => true
  | _ => false
/-- What an operation touches: the numbers in its operands' values, and those that are its own. -/
structure Fp where
  o : Oper
  D : List Nat
  key : Nat
def keysOf (T : TF) : List Operand → List Nat
  | [] => []
  | x :: l => V.keys (evO T x) ++ keysOf T l
/-- Does it look at the memory? -/
def memOf : Op → Bool
  | .move _ => false
  | .assign _ => false
  | .pick _ _ _ => false
  | .extract _ _ => false
  | .makeFunc _ _ _ => false
  | .convert _ _ _ => false
  | .unOp _ _ _ => false
  | _ => true
def opKeys (T : TF) (op : Op) : List Nat := bif memOf op then keysOf T op.operands.toList else []
def fpOf (key : Nat) (o : Oper) (T : TF) : Fp := ⟨o, opKeys T o.op, key⟩
def Fp.off (a b : Fp) : Bool := a.D.all fun k => !b.D.contains k && (Nat.blt k b.key || Nat.ble (b.key + 16) k)
def Fp.ok (ops : Array Oper) (a b : Fp) : Bool :=
  looksApart ops a.o b.o && ((!wrOp a.o.op && !wrOp b.o.op) || (a.off b && b.off a && (Nat.ble (a.key + 16) b.key || Nat.ble (b.key + 16) a.key)))
def edgesOf (o : Oper) : List Nat := (o.after.toList.filter fun e => Region.binds .any e).map (·.on)
def ancOf (dir : List Nat) : List (Nat × Fp × List Nat) → List Nat
  | [] => dir
  | p :: r => bif dir.contains p.1 then p.2.2 ++ ancOf dir r else ancOf dir r
def runAny (ops : Array Oper) : List Oper → Nat → Nat → List (Nat × Fp × List Nat) → TF → HF → (TF → HF → Option β) → Option β
  | [], _, _, _, T, H, K => K T H
  | o :: rest, i, key, prev, T, H, K =>
    match (edgesOf o).all (fun j => Nat.blt j i) && prev.all (fun p => (ancOf (edgesOf o) prev).contains p.1 || Fp.ok ops p.2.1 (fpOf key o T)) with
    | false => none
    | true => match o.guard with
      | none => (opRes E S key T H o.op).run fun v H' => runAny ops rest (i + 1) (key + 16) ((i, fpOf key o T, ancOf (edgesOf o) prev) :: prev) (putT nt T o.dst v) H' K
      | some (j, want) => match gtmp ops j with
        | none => none
        | some g => match T g with
          | .d .bool b =>
            bif b then
              (match want with
                | true => (opRes E S key (upd T g (.d .bool true)) H o.op).run fun v H' => runAny ops rest (i + 1) (key + 16) ((i, fpOf key o T, ancOf (edgesOf o) prev) :: prev) (putT nt (upd T g (.d .bool true)) o.dst v) H' K
                | false => runAny ops rest (i + 1) (key + 16) ((i, fpOf key o T, ancOf (edgesOf o) prev) :: prev) (putT nt (upd T g (.d .bool true)) o.dst (.tup .nil)) H K)
            else
              (match want with
                | false => (opRes E S key (upd T g (.d .bool false)) H o.op).run fun v H' => runAny ops rest (i + 1) (key + 16) ((i, fpOf key o T, ancOf (edgesOf o) prev) :: prev) (putT nt (upd T g (.d .bool false)) o.dst v) H' K
                | true => runAny ops rest (i + 1) (key + 16) ((i, fpOf key o T, ancOf (edgesOf o) prev) :: prev) (putT nt (upd T g (.d .bool false)) o.dst (.tup .nil)) H K)
          | .tup .nil => runAny ops rest (i + 1) (key + 16) ((i, fpOf key o T, ancOf (edgesOf o) prev) :: prev) (putT nt T o.dst (.tup .nil)) H K
          | _ => none

def seqK (next : TF → HF → Option β) (K : Ex → TF → HF → Option β) : Ex → TF → HF → Option β
  | .normal, T, H => next T H
  | .exit i, T, H => K (.exit i) T H
  | .ret, T, H => K .ret T H
def blkK (id : Nat) (K : Ex → TF → HF → Option β) : Ex → TF → HF → Option β
  | .normal, T, H => K .normal T H
  | .exit i, T, H => match Nat.beq i id with
    | true => K .normal T H
    | false => K (.exit i) T H
  | .ret, T, H => K .ret T H

def updC (T : TF) (c : Operand) (b : Bool) : TF := match c with
  | .tmp t => upd T t (.d .bool b)
  | _ => T

def den (base : Nat) : Code → Nat → TF → HF → (Ex → TF → HF → Option β) → Option β
  | .skip, _, T, H, K => K .normal T H
  | .region _ ops false, _, T, H, K => runOps E S inl nt ops ops.toList H.nx T { H with nx := H.nx + 16 * ops.size } fun T' H' => K .normal T' H'
  | .region _ ops true, _, T, H, K => runAny E S nt ops ops.toList 0 H.nx [] T { H with nx := H.nx + 16 * ops.size } fun T' H' => K .normal T' H'
  | .seq a b, _, T, H, K => den base a 0 T H (seqK (fun T' H' => den base b 0 T' H' K) K)
  | .cond c a b, _, T, H, K => match evO T c with
    | .d .bool x => bif x then den base a 0 (updC T c true) H K else den base b 0 (updC T c false) H K
    | _ => none
  | .block id c, _, T, H, K => den base c id T H (blkK id K)
  | .loop c, cur, T, H, K => match ann base cur with
    | some a => headK base a T H K
    | none => none
  | .exit id, _, T, H, K => K (.exit id) T H
  | .ret, _, T, H, K => K .ret T H
  | _, _, _, _, _ => none

def resV (T : TF) (H : HF) : List ResultVar → Option V
  | [] => some .nil
  | .tmp t :: r => match noTup (T t) with
    | true => match resV T H r with
      | some w => some (.cons (T t) w)
      | none => none
    | false => none
  | .cell a t :: r => match T a with
    | .pvar k [] => match H.var k with
      | some c => match E.sz t with
        | some (n, g) => match Nat.beq c.size n && (c.agg == g) with
          | true => match resV T H r with
            | some w => some (.cons c w)
            | none => none
          | false => none
        | none => none
      | none => none
    | _ => none

def argT : V → Nat → TF
  | .cons v w, n => fun i => bif Nat.beq i n then v else argT w (n + 1) i
  | _, _ => fun _ => .undef

def lenL : V → Nat
  | .cons _ b => lenL b + 1
  | _ => 0
/-- Behind a function's body. -/
def endK (fn : Func) (K : V → HF → Option β) : Ex → TF → HF → Option β
  | .exit _, _, _ => none
  | _, T, H => match resV E T H fn.results.toList with
    | some v => K v H
    | none => none
def runFun (fn : Func) (args : V) (H : HF) (K : V → HF → Option β) : Option β :=
  match fn.body with
  | none => none
  | some c => match Nat.ble (lenL args) fn.ntmps with
    | true => den E S inl ann fn.ntmps H.nx c 0 (argT args 0) H (endK E fn K)
    | false => none
end

/-- Places in code. -/
def cl : Code → Code
  | .seq a _ => a
  | .cond _ a _ => a
  | .block _ a => a
  | .loop a => a
  | c => c
def cr : Code → Code
  | .seq _ b => b
  | .cond _ _ b => b
  | c => c
def bodyOf (fn : Func) : Code := match fn.body with
  | some c => c
  | none => .skip
def cat : Code → List Bool → Code
  | c, [] => c
  | c, false :: p => cat (cl c) p
  | c, true :: p => cat (cr c) p
/-- The loops in a code, each under the block that it stands in. -/
def loopsIn : Code → Nat → List (Nat × Code)
  | .seq a b, _ => loopsIn a 0 ++ loopsIn b 0
  | .cond _ a b, _ => loopsIn a 0 ++ loopsIn b 0
  | .block id c, _ => loopsIn c id
  | .loop c, cur => (cur, c) :: loopsIn c 0
  | _, _ => []
/-- Functions that are run in place: to a depth. -/
def inlD (E : TE) (S : FuncId → Option Sum) (fns : FuncId → Option Func) (ann : Nat → FuncId → Nat → Nat → Option LoopSum) :
    Nat → {β : Type} → FuncId → V → HF → (V → HF → Option β) → Option β
  | 0, _, _, _, _, _ => none
  | n + 1, _, f, args, H, K => match fns f with
    | none => none
    | some fn => runFun E S (inlD E S fns ann n) (ann n f) fn args H fun v H' => K (asum.outV false v) H'

def H0 : HF := { var := fun _ => none, row := fun _ => none, nx := 0 }
/-- The arguments of a summary as values. -/
def argV : (a : U) → a.T → V
  | .cons a b, x => .cons (.d a x.1) (argV b x.2)
  | _, _ => .nil
/-- What is answered, told. -/
def sendK (r : RU) (v : V) (H : HF) : Option r.T := match r.send v H with
  | some (y, ks) => match decide ks.Nodup && (r.drows v).all (fun k => !ks.contains k) with
    | true => some y
    | false => none
  | none => none
/-- A function, told whole. -/
def denFun (E : TE) (S : FuncId → Option Sum) (fns : FuncId → Option Func) (ann : Nat → FuncId → Nat → Nat → Option LoopSum) (depth : Nat) (f : FuncId) (fn : Func) (a : U) (r : RU) (x : a.T) : Option r.T :=
  runFun E S (inlD E S fns ann depth) (ann depth f) fn (argV a x) H0 (sendK r)
/-- A round of a loop, told. -/
def denStep (E : TE) (S : FuncId → Option Sum) (fns : FuncId → Option Func) (ann : Nat → FuncId → Nat → Nat → Option LoopSum) (depth : Nat) (f : FuncId) (nt base : Nat) (c : Code) (a : LoopSum) (x : a.h.C.T) : Option (SRes a.h.C a.o.C a.r.C) :=
  den E S (inlD E S fns ann depth) (ann depth f) nt base c 0 (a.h.snap x).T (a.h.snap x).H (roundK base a)
end Go.Proofs.YtdfhopakojmjkaaDoor.Den
