/-
  Chapter 1, plain: inverses modulo 65537.
-/
import Derived.Test.YtlejemnljojpgaaC1E
import Derived.KernelRfl
set_option linter.unusedVariables false
set_option linter.unusedSimpArgs false
set_option linter.unusedSectionVars false
namespace Go.Ev
open Go Go.Proofs
set_option maxRecDepth 20000
def refInvG (n : Int) : Nat → Int → Int
  | 0, out => out
  | c + 1, out => refInvG n c (((out * out).tmod 65537 * n).tmod 65537)
theorem modG_emod (n : Int) : modG n = n % 65537 := by
  unfold modG
  have h1 : (n.tmod 65537 + 65537) = if 0 ≤ n then n % 65537 + 65537 else 65537 - (-n) % 65537 := by
    split
    · rename_i h
      rw [Int.tmod_eq_emod_of_nonneg h]
    · rename_i h
      have e : n.tmod 65537 = -((-n).tmod 65537) := by rw [Int.neg_tmod, Int.neg_neg]
      rw [e, Int.tmod_eq_emod_of_nonneg (by omega)]
      omega
  rw [h1]
  split
  · rw [Int.tmod_eq_emod_of_nonneg (by omega)]
    omega
  · rw [Int.tmod_eq_emod_of_nonneg (by omega)]
    omega
theorem modG_small {n : Int} (h0 : 0 ≤ n) (h1 : n < 65537) : modG n = n := by
  rw [modG_emod]; omega
theorem emul (x y P : Int) : (x % P * y) % P = (x * y) % P := by rw [Int.mul_emod, Int.emod_emod, ← Int.mul_emod]
theorem emul' (x y P : Int) : (x * (y % P)) % P = (x * y) % P := by rw [Int.mul_emod, Int.emod_emod, ← Int.mul_emod]
def sqI : Nat → Int → Int
  | 0, s => s
  | k + 1, s => sqI k (s * s % 65537)
theorem inv_sim {a : Int} (ha : 0 ≤ a ∧ a < 65537) : ∀ (k : Nat) (out sq : Int), (0 ≤ out ∧ out < 65537) → (0 ≤ sq ∧ sq < 65537) → (out * a) % 65537 = sq →
    invF out sq (2 ^ k - 1) = refInvG a k out ∧ (refInvG a k out * a) % 65537 = sqI k sq ∧ 0 ≤ refInvG a k out ∧ refInvG a k out < 65537
  | 0, out, sq, ho, _, h => by
    rw [invF]
    exact ⟨rfl, h, ho.1, ho.2⟩
  | k + 1, out, sq, ho, hs, h => by
    have hp : 1 ≤ 2 ^ k := Nat.one_le_two_pow
    have e0 : 2 ^ (k + 1) - 1 ≠ 0 := by rw [Nat.pow_succ]; omega
    have e1 : (2 ^ (k + 1) - 1) % 2 = 1 := by rw [Nat.pow_succ]; omega
    have e2 : (2 ^ (k + 1) - 1) / 2 = 2 ^ k - 1 := by rw [Nat.pow_succ]; omega
    rw [invF, if_neg e0, if_pos e1, e2]
    have hoo : 0 ≤ out * out := Int.mul_nonneg ho.1 ho.1
    have e3 : ((out * out).tmod 65537 * a).tmod 65537 = out * sq % 65537 := by
      rw [Int.tmod_eq_emod_of_nonneg hoo, Int.tmod_eq_emod_of_nonneg (Int.mul_nonneg (Int.emod_nonneg _ (by decide)) ha.1), emul, Int.mul_assoc, ← emul', h]
    show _ = refInvG a k (((out * out).tmod 65537 * a).tmod 65537) ∧ (refInvG a k (((out * out).tmod 65537 * a).tmod 65537) * a) % 65537 = sqI k (sq * sq % 65537) ∧ _
    simp only [refInvG]
    rw [modG_emod, modG_emod, e3]
    refine inv_sim ha k _ _ ⟨Int.emod_nonneg _ (by decide), Int.emod_lt_of_pos _ (by decide)⟩ ⟨Int.emod_nonneg _ (by decide), Int.emod_lt_of_pos _ (by decide)⟩ ?_
    rw [emul, Int.mul_assoc, Int.mul_comm sq a, ← Int.mul_assoc, ← emul, h]
theorem inv_ref {a : Int} (ha : 0 ≤ a ∧ a < 65537) : invG a = refInvG a 16 1 ∧ (invG a * a) % 65537 = sqI 16 a ∧ 0 ≤ invG a ∧ invG a < 65537 := by
  have h := inv_sim ha 16 1 a (by decide) ha (by rw [Int.one_mul]; omega)
  unfold invG
  have e : 2 ^ 16 - 1 = 65535 := by decide
  rw [e] at h
  exact ⟨h.1, by rw [h.1]; exact h.2.1, by rw [h.1]; exact h.2.2⟩
end Go.Ev
