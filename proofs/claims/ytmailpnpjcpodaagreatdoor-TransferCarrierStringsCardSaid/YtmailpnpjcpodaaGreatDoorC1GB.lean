/-
  Part of the proof of a law.
-/
import Derived.Test.YtmailpnpjcpodaaGreatDoorC1GA
import Derived.KernelRfl
set_option linter.unusedVariables false
set_option linter.unusedSimpArgs false
set_option linter.unusedSectionVars false
/-
  Chapter 1, contracts: strings of blocks, second part.
-/
namespace Go.Ev
open Go Go.Proofs
set_option maxRecDepth 20000
set_option linter.unusedVariables false
def i64B (n : Int) : Prop := -9223372036854775808 ≤ n ∧ n ≤ 9223372036854775807
def pcI (s : List UInt8) (i : Nat) : List UInt8 := (pcs 32 s).getD i []
end Go.Ev

/-
  Chapter 1: strings of blocks: the contracts are kept.
-/
namespace Go.Ev
open Go Go.Proofs
attribute [local irreducible] evFn evBody evRound
set_option maxRecDepth 20000
set_option linter.unusedVariables false
set_option linter.unusedSimpArgs false
theorem pcs_len (c : UInt8) : ∀ (s : List UInt8) (p : List UInt8), p ∈ pcs c s → p.length ≤ s.length
  | [], p, h => by
    have : p = [] := by simpa [pcs] using h
    subst this; simp
  | x :: s, p, h => by
    rw [pcs] at h
    rw [List.length_cons]
    split at h
    · rcases List.mem_cons.1 h with rfl | h
      · simp
      · have := pcs_len c s p h; omega
    · split at h
      · rename_i q l hq
        rcases List.mem_cons.1 h with rfl | h
        · have := pcs_len c s q (by rw [hq]; simp)
          rw [List.length_cons]; omega
        · have := pcs_len c s p (by rw [hq]; simp [h]); omega
      · have : p = [x] := by simpa using h
        subst this; simp
theorem pcI_len (s : List UInt8) (i : Nat) : (pcI s i).length ≤ s.length := by
  unfold pcI
  by_cases h : i < (pcs 32 s).length
  · rw [getD_of_lt h]; exact pcs_len 32 s _ (List.getElem_mem h)
  · rw [List.getD, List.getElem?_eq_none (by omega)]; simp
end Go.Ev
