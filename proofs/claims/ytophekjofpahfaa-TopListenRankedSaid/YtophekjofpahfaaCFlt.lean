/-
  Part of the proof of a law.
-/
import Derived.Calls
import GoSem.Op.FloatArith
import GoSem.Op.FloatCmp
import GoSem.Op.Unary
import GoSem.Builtin.Max
import GoSem.Builtin.Min
set_option linter.unusedVariables false
set_option linter.unusedSimpArgs false
set_option linter.unusedSectionVars false
/-
  Floating-point operations on bits, as the evaluator names them.
-/
namespace Go.Ev
open Go
def fArith (op : BinOp) (k : FloatKind) (a b : Nat) : Option Nat :=
  match op with
  | .add => k.format.add a b
  | .sub => k.format.sub a b
  | .mul => k.format.mul a b
  | .quo => k.format.div a b
  | _ => none
def fOk (op : BinOp) (k : FloatKind) (a b : Nat) : Bool := (fArith op k a b).isSome
def fVal (op : BinOp) (k : FloatKind) (a b : Nat) : Nat := (fArith op k a b).getD 0
def fCmp (op : BinOp) (k : FloatKind) (x y : Nat) : Bool :=
  match op with
  | .eql => k.format.order x y == some .eq
  | .neq => k.format.order x y != some .eq
  | .lss => k.format.order x y == some .lt
  | .leq => k.format.order x y == some .lt || k.format.order x y == some .eq
  | .gtr => k.format.order x y == some .gt
  | _ => k.format.order x y == some .gt || k.format.order x y == some .eq
def fNeg (k : FloatKind) (a : Nat) : Nat := Op.negFloat k a
def fOf (k : FloatKind) (n : Int) : Nat := k.nearest n
def fToOk (s : FloatKind) (b : Nat) (d : IntKind) : Bool :=
  match (s.decode b).toInt .zero with
  | some n => decide (d.min ≤ n ∧ n ≤ d.max)
  | none => false
def fToV (s : FloatKind) (b : Nat) : Int := ((s.decode b).toInt .zero).getD 0
def fMaxOk (k : FloatKind) (x y : Nat) : Bool := (k.format.order x y).isSome
def fMaxV (k : FloatKind) (x y : Nat) : Nat :=
  match k.format.order x y with
  | none => 0
  | some .lt => y
  | some .gt => x
  | some .eq => if (k.decode x).neg then y else x
def isArith : BinOp → Bool | .add | .sub | .mul | .quo => true | _ => false
def isCmp : BinOp → Bool | .eql | .neq | .lss | .leq | .gtr | .geq => true | _ => false
end Go.Ev
