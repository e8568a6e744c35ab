/-
  Chapter 1, contracts: fractions, carriers.
-/
import Derived.Test.YtlejemnljojpgaaC1Bok
namespace Go.Ev
open Go Go.Proofs
set_option maxRecDepth 20000

def withinG (n lo hi : Int) : Bool := decide (lo ≤ n) && decide (n ≤ hi)
def lowestG (n d : Int) : Bool := decide (d > 0) && (sizeG (gcdG n d) == 1)
def isLowestS : Spec := fun args σ K => match args, σ with
  | [.agg [.int .i64 n, .int .i64 d]], [] => K (.one (.bool (lowestG n d))) []
  | _, _ => False
def divG (n d : Int) : Int := if d < 0 then wi (0 - sizeG (gcdG n d)) else sizeG (gcdG n d)
def lowestS : Spec := fun args σ K => match args, σ with
  | [.one (.int .i64 n), .one (.int .i64 d)], [] => divG n d ≠ 0 ∧ K (.agg [.int .i64 (wi (n.tdiv (divG n d))), .int .i64 (wi (d.tdiv (divG n d)))]) []
  | _, _ => False
def smallG (n d : Int) : Bool := withinG n (-1000000000) 1000000000 && withinG d 1 1000000000
def isSmallS : Spec := fun args σ K => match args, σ with
  | [.agg [.int .i64 n, .int .i64 d]], [] => K (.one (.bool (smallG n d))) []
  | _, _ => False
def carrierG (nm : List UInt8) (k s n d : Int) : Int :=
  bif !nameG nm then 4 else bif !withinG k 0 2 then 15 else bif !withinG s 1 2 then 2 else
  bif (k != 0 && s == 2) || !lowestG n d then 3 else bif !withinG n 1 10000 || decide (d > 10000) then 2 else 0
def carrierS : Spec := fun args σ K => match args, σ with
  | [.agg [.str nm, .int .i64 k, .int .i64 s, .int .i64 n, .int .i64 d]], [] => nm.length ≤ 1000000 ∧ K (.one (.int .i64 (carrierG nm k s n d))) []
  | _, _ => False
noncomputable def E74 : Env := envOf Try.prog [(126, gcdS)] [] 14 0
noncomputable def E76 : Env := envOf Try.prog [(126, gcdS)] [] 20 0
noncomputable def E77 : Env := envOf Try.prog [(25, withinS)] [] 11 0
noncomputable def E17 : Env := envOf Try.prog [(73, nameS), (25, withinS), (74, isLowestS)] [] 40 0
noncomputable def E18 : Env := envOf Try.prog [(75, nameS), (71, withinS), (70, unlessS), (69, firstS), (72, gcdS)] [] 50 0
end Go.Ev
