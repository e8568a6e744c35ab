/-
  Chapter 1, contracts: the reference of packing.
-/
import Derived.Test.YtlejemnljojpgaaC1I
import Derived.KernelRfl
set_option linter.unusedVariables false
set_option linter.unusedSimpArgs false
set_option linter.unusedSectionVars false
namespace Go.Ev
open Go Go.Proofs
set_option maxRecDepth 20000
noncomputable abbrev E29 : Env := envOf Try.prog [(81, areS)] [] 6 0
end Go.Ev

namespace Go.Ev
open Go Go.Proofs
set_option maxRecDepth 100000
theorem ex29 (x0 x1 x2 x3 x4 x5 x6 x7 : Int) (K : AV → List Blk → Prop) : evFn E29 Try.f29 [.agg [.int .i64 x0, .int .i64 x1, .int .i64 x2, .int .i64 x3, .int .i64 x4, .int .i64 x5, .int .i64 x6, .int .i64 x7]] [] K = ( [x0, x1, x2, x3, x4, x5, x6, x7].length ≤ 1000000000 ∧ bif ![x0, x1, x2, x3, x4, x5, x6, x7].all sampleG then K (.one (.int .i64 2)) [] else K (.one (.int .i64 0)) []) := by kernel_rfl
end Go.Ev

namespace Go.Ev
open Go Go.Proofs
attribute [local irreducible] evFn evBody
set_option maxRecDepth 20000
theorem ok29 : SpecOK Try.prog 29 samplesS := by
  refine specOK (n := 6) (m := 0) (lps := []) (.cons ok81 .nil) Try.func29 (by kernel_rfl) (by kernel_rfl) (noLoops (by kernel_rfl)) fun args σ K h => ?_
  unfold samplesS at h
  split at h
  · rename_i x0 x1 x2 x3 x4 x5 x6 x7
    rw [ex29 x0 x1 x2 x3 x4 x5 x6 x7 K]
    refine ⟨by simp, ?_⟩
    cases hs : [x0, x1, x2, x3, x4, x5, x6, x7].all sampleG <;> rw [hs] at h <;> exact h
  · exact h.elim
end Go.Ev
