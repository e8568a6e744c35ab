/-
  Chapter 1, contracts: the examples; the law of carriers.
-/
import Derived.Test.YtlejemnljojpgaaC1G
import Derived.KernelRfl
set_option linter.unusedVariables false
set_option linter.unusedSimpArgs false
set_option linter.unusedSectionVars false
namespace Go.Ev
open Go Go.Proofs
set_option maxRecDepth 20000
def trueS : Spec := fun args σ K => match args, σ with
  | [], [] => K (.one (.bool true)) []
  | _, _ => False
noncomputable abbrev E15 : Env := envOf Try.prog [(16, turnS), (28, packedS), (39, inverseOfS), (20, sumOfS), (68, wholeS), (30, intsS)] [] 61 0
end Go.Ev

namespace Go.Ev
open Go Go.Proofs
set_option maxRecDepth 100000
theorem ex15 (K : AV → List Blk → Prop) : evFn E15 Try.f15 [] [] K = ( 2 ≤ 1000000 ∧ (100 :Int) ≠ (0 :Int) ∧ 24 ≤ 1000000000 ∧ K (.one (.bool true)) []) := by kernel_rfl
end Go.Ev

namespace Go.Ev
open Go Go.Proofs
attribute [local irreducible] evFn evBody
set_option maxRecDepth 20000
theorem ok15 : SpecOK Try.prog 15 trueS := by
  refine specOK (n := 61) (m := 0) (lps := []) (.cons ok16 (.cons ok28 (.cons ok39 (.cons ok20 (.cons ok68 (.cons ok30 .nil)))))) Try.func15 (by kernel_rfl) (by kernel_rfl) (noLoops (by kernel_rfl)) fun args σ K h => ?_
  unfold trueS at h
  split at h
  · rw [ex15 K]
    exact ⟨by decide, by decide, by decide, h⟩
  · exact h.elim
end Go.Ev
