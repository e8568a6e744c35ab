/-
  Part of the proof of a law.
-/
import Derived.Test.YtiflkochjfiegaaDoorC9V
import Derived.KernelRfl
set_option linter.unusedVariables false
set_option linter.unusedSimpArgs false
set_option linter.unusedSectionVars false
/-
  Chapter 9, contracts: the document's examples.
-/
namespace Go.Ev
open Go Go.Proofs
set_option maxRecDepth 20000
def awakeS : Spec := fun args σ K => match args, σ with
  | [], [] => K (.one (.bool true)) []
  | _, _ => False
noncomputable abbrev Eawk : Env := envOf Tryd.prog [(23, loud2S), (34, true2S), (39, tail2S), (53, best2S), (46, wholeS), (27, intsS)] [] 72 0
end Go.Ev

namespace Go.Ev
open Go Go.Proofs
set_option maxRecDepth 100000
theorem exawk (K : AV → List Blk → Prop) : evFn Eawk Tryd.f19 [] [] K = ( 5 ≤ 1000000000 ∧ (2 ≤ 1000000000 ∧ ((0 :Int) = (0 :Int) → true = true)) ∧ 3 ≤ 1000000000 ∧ 3 ≤ 1000000000 ∧ K (.one (.bool true)) []) := by kernel_rfl
end Go.Ev

/-
  Chapter 9: the document's examples hold.
-/
namespace Go.Ev
open Go Go.Proofs
attribute [local irreducible] evFn evBody evRound
set_option maxRecDepth 20000
theorem okawk : SpecOK Tryd.prog 19 awakeS := by
  refine specOK (n := 72) (m := 0) (lps := []) (.cons okloud2 (.cons oktrue2 (.cons oktail2 (.cons okbest2 (.cons ok68 (.cons ok30 .nil)))))) Tryd.func19 (by kernel_rfl) (by kernel_rfl) (noLoops (by kernel_rfl)) fun args σ K h => ?_
  unfold awakeS at h
  split at h
  · rw [exawk K]
    exact ⟨by decide, ⟨by decide, fun _ => rfl⟩, by decide, by decide, h⟩
  · exact h.elim
end Go.Ev
