/-
  Chapter 1: rows of eleven numbers.
-/
import Derived.Test.YtlejemnljojpgaaC1I
set_option linter.unusedVariables false
set_option linter.unusedSimpArgs false
set_option linter.unusedSectionVars false
namespace Go.Ev
open Go Go.Proofs
set_option maxRecDepth 20000

def len11 (xs : List Int) : Bool := xs.length == 11
theorem eq11 {xs ys : List Int} (h1 : xs.length = 11) (h2 : ys.length = 11) : (xs.getD 0 0 == ys.getD 0 0 && (xs.getD 1 0 == ys.getD 1 0 && ((xs.getD 2 0 == ys.getD 2 0 && (xs.getD 3 0 == ys.getD 3 0 && (xs.getD 4 0 == ys.getD 4 0 && (xs.getD 5 0 == ys.getD 5 0 && (xs.getD 6 0 == ys.getD 6 0 && (xs.getD 7 0 == ys.getD 7 0 && (xs.getD 8 0 == ys.getD 8 0 && xs.getD 9 0 == ys.getD 9 0))))))) && xs.getD 10 0 == ys.getD 10 0))) = (xs == ys) := by
  match xs, ys, h1, h2 with
  | [a0, a1, a2, a3, a4, a5, a6, a7, a8, a9, a10], [b0, b1, b2, b3, b4, b5, b6, b7, b8, b9, b10], _, _ => simp [List.cons_beq_cons, Bool.and_assoc]
end Go.Ev
