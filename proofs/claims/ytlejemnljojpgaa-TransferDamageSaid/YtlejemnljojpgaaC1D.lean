/-
  Chapter 1, contracts: the samples of a turn.
-/
import Derived.Test.YtlejemnljojpgaaC1Cok
namespace Go.Ev
open Go Go.Proofs
set_option maxRecDepth 20000

/-- A fraction and an error. -/
def fe (n d e : Int) : AV := .tup [.agg [.int .i64 n, .int .i64 d], .one (.int .i64 e)]
def rateG (rate d : Int) : Int := wi (wi (rate * 60) * d)
def refTurnS : Spec := fun args σ K => match args, σ with
  | [.agg [.str _, .int .i64 k, .int .i64 _, .int .i64 n, .int .i64 d], .one (.int .i64 rate)], [] =>
    bif k == 2 then K (fe 0 0 15) [] else bif !withinG rate 1 200000 then K (fe 0 0 2) [] else
    divG (rateG rate d) n ≠ 0 ∧ bif smallG (wi ((rateG rate d).tdiv (divG (rateG rate d) n))) (wi (n.tdiv (divG (rateG rate d) n))) then
      K (fe (wi ((rateG rate d).tdiv (divG (rateG rate d) n))) (wi (n.tdiv (divG (rateG rate d) n))) 0) [] else K (fe 0 0 8) []
  | _, _ => False
def turnE (nm : List UInt8) (k s n d rate : Int) : Int := firstE [carrierG nm k s n d, bif k != 2 then 0 else 15, bif withinG rate 1 200000 then 0 else 2]
def turnS : Spec := fun args σ K => match args, σ with
  | [.agg [.str nm, .int .i64 k, .int .i64 s, .int .i64 n, .int .i64 d], .one (.int .i64 rate)], [] =>
    nm.length ≤ 1000000 ∧ bif turnE nm k s n d rate != 0 then K (fe 0 0 (turnE nm k s n d rate)) [] else
    sizeG (gcdG (rateG rate d) n) ≠ 0 ∧
    bif decide (wi ((rateG rate d).tdiv (sizeG (gcdG (rateG rate d) n))) > 1000000000) || decide (wi (n.tdiv (sizeG (gcdG (rateG rate d) n))) > 1000000000) then K (fe 0 0 8) []
    else K (fe (wi ((rateG rate d).tdiv (sizeG (gcdG (rateG rate d) n)))) (wi (n.tdiv (sizeG (gcdG (rateG rate d) n)))) 0) []
  | _, _ => False
noncomputable def E19 : Env := envOf Try.prog [(25, withinS), (76, lowestS), (77, isSmallS)] [] 30 0
noncomputable def E16 : Env := envOf Try.prog [(18, carrierS), (70, unlessS), (71, withinS), (69, firstS), (72, gcdS)] [] 55 0
end Go.Ev
