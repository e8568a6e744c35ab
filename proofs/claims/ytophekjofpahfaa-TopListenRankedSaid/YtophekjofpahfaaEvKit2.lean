/-
  Part of the proof of a law.
-/
import Derived.Test.YtophekjofpahfaaEvKit
set_option linter.unusedVariables false
set_option linter.unusedSimpArgs false
set_option linter.unusedSectionVars false
/-
  Small lemmas for contracts: numbers, lists, contracts out of contracts.
-/
namespace Go.Ev
open Go
variable [Glob]
theorem SpecOK.mk2 {P : Program} {f : FuncId} {S S1 S2 : Spec} (h1 : SpecOK P f S1) (h2 : SpecOK P f S2) (h : ∀ args σ K, S args σ K → S1 args σ K ∨ S2 args σ K) : SpecOK P f S :=
  ⟨h1.body, fun args σ K hK => (h args σ K hK).elim (h1.sound args σ K) (h2.sound args σ K)⟩
theorem SpecOK.weak {P : Program} {f : FuncId} {S S1 : Spec} (h1 : SpecOK P f S1) (h : ∀ args σ K, S args σ K → S1 args σ K) : SpecOK P f S :=
  ⟨h1.body, fun args σ K hK => h1.sound args σ K (h args σ K hK)⟩
theorem getD_range {l : List Int} {B : Int} (hB : 0 ≤ B) (h : ∀ u ∈ l, 0 ≤ u ∧ u ≤ B) (j : Nat) : 0 ≤ l.getD j 0 ∧ l.getD j 0 ≤ B := by
  by_cases hj : j < l.length
  · rw [getD_of_lt hj]; exact h _ (List.getElem_mem hj)
  · rw [List.getD, List.getElem?_eq_none (by omega)]; exact ⟨Int.le_refl _, hB⟩
end Go.Ev
