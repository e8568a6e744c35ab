/-
  Part of the proof of a law.
-/
import Derived.Test.YtmailpnpjcpodaaGreatDoorC1GB
import Derived.KernelRfl
set_option linter.unusedVariables false
set_option linter.unusedSimpArgs false
set_option linter.unusedSectionVars false
/-
  Chapter 1: the law of strings of blocks: the contract is kept.
-/
namespace Go.Ev
open Go Go.Proofs
attribute [local irreducible] evFn evBody evRound
set_option maxRecDepth 20000
set_option linter.unusedVariables false
set_option linter.unusedSimpArgs false
theorem digB_no : ∀ {l : List UInt8}, digB l = true → hasB 32 l = false
  | [], _ => rfl
  | b :: l, h => by
    unfold digB at h
    rw [Bool.and_eq_true] at h
    have hb := dgB_iff.1 h.1
    unfold hasB
    rw [if_neg (fun e => by subst e; revert hb; decide), digB_no h.2]
theorem itoG_no (v : Int) : hasB 32 (itoG v) = false := by
  unfold itoG Lib.itoa
  by_cases h : v < 0
  · rw [if_pos h]
    unfold hasB
    rw [if_neg (by decide)]
    exact digB_no (dec_facts _).1
  · rw [if_neg h]
    exact digB_no (dec_facts _).1
theorem dec_len : ∀ (k m : Nat), m < 10 ^ (k + 1) → (Lib.decDigits m).length ≤ k + 1
  | 0, m, h => by rw [Lib.decDigits, dif_pos (by simpa using h)]; simp
  | k + 1, m, h => by
    rw [Lib.decDigits]
    by_cases hm : m < 10
    · rw [dif_pos hm]; simp
    · rw [dif_neg hm, List.length_append]
      have := dec_len k (m / 10) (Nat.div_lt_of_lt_mul (by rw [Nat.mul_comm, ← Nat.pow_succ]; exact h))
      simp only [List.length_cons, List.length_nil]; omega
theorem tpG_le (s : List UInt8) : (tpG s).length ≤ s.length := by
  unfold tpG Lib.trimPrefix
  split
  · rw [List.length_drop]; omega
  · exact Nat.le_refl _
theorem tp_len {v : Int} (h : -1000000 < v ∧ v < 1000000) : (tpG (itoG v)).length ≤ 6 := by
  unfold itoG Lib.itoa
  by_cases hv : v < 0
  · rw [if_pos hv]
    have ht : tpG (45 :: Lib.decDigits v.natAbs) = Lib.decDigits v.natAbs := by
      unfold tpG Lib.trimPrefix
      rw [if_pos (by show ((45 : UInt8) == 45 && List.isPrefixOf [] (Lib.decDigits v.natAbs)) = true; simp)]; rfl
    rw [ht]
    exact dec_len 5 _ (by show v.natAbs < 1000000; omega)
  · rw [if_neg hv]
    exact Nat.le_trans (tpG_le _) (dec_len 5 _ (by show v.toNat < 1000000; omega))
theorem num_small {v : Int} (h : -1000000 < v ∧ v < 1000000) : numB (itoG v) 6 = true ∧ numV (itoG v) 6 = v := num_of rfl (tp_len h)
theorem pcs_app {c : UInt8} : ∀ (s t : List UInt8), hasB c s = false → pcs c (s ++ c :: t) = s :: pcs c t
  | [], t, _ => by rw [List.nil_append, pcs, if_pos rfl]
  | x :: s, t, h => by
    unfold hasB at h
    by_cases hx : x = c
    · rw [if_pos hx] at h; cases h
    · rw [if_neg hx] at h
      rw [List.cons_append, pcs, if_neg hx, pcs_app s t h]
theorem i64_of {n : Int} (h : (Lit.int .i64 n).wf = true) : i64B n := by
  have h9 := h
  simp [Lit.wf, IntKind.min, IntKind.max, IntKind.signed, IntKind.bits] at h9
  unfold i64B
  omega
end Go.Ev
