/-
  Part of the proof of a law.
-/
import Derived.Test.YtiflkochjfiegaaDoorC9G
import Derived.KernelRfl
import Derived.Test.YtiflkochjfiegaaDoorC9V
import Derived.Test.YtiflkochjfiegaaDoorC9D
set_option linter.unusedVariables false
set_option linter.unusedSimpArgs false
set_option linter.unusedSectionVars false
/-
  Chapter 9: the law of loudness, the law of tails.
-/
namespace Go.Ev
open Go Go.Proofs
attribute [local irreducible] evFn evBody evRound
set_option maxRecDepth 20000
theorem beq_ff {a b : Int} (h : a ≠ b) : (a == b) = false := beq_eq_false_iff_ne.2 h
end Go.Ev
