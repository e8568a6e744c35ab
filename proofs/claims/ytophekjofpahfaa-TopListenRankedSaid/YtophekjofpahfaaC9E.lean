/-
  Part of the proof of a law.
-/
import Derived.Test.YtophekjofpahfaaC9C
set_option linter.unusedVariables false
set_option linter.unusedSimpArgs false
set_option linter.unusedSectionVars false
/-
  Chapter 9: the contracts of peaks are kept.
-/
namespace Go.Ev
open Go Go.Proofs
attribute [local irreducible] evFn evBody evRound
set_option maxRecDepth 20000
theorem cond_in {c : Bool} {p : Prop} (h : c = true) (hp : p) : cond c p False := by rw [h]; exact hp
end Go.Ev
