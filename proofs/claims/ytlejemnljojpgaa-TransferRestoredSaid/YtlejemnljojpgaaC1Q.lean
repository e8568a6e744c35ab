/-
  Chapter 1, plain: inverses modulo 65537.
-/
import Derived.Test.YtlejemnljojpgaaC1E
import Derived.KernelRfl
set_option linter.unusedVariables false
set_option linter.unusedSimpArgs false
set_option linter.unusedSectionVars false
namespace Go.Ev
open Go Go.Proofs
set_option maxRecDepth 20000
def refInvG (n : Int) : Nat → Int → Int
  | 0, out => out
  | c + 1, out => refInvG n c (((out * out).tmod 65537 * n).tmod 65537)
theorem modG_emod (n : Int) : modG n = n % 65537 := by
  unfold modG
  have h1 : (n.tmod 65537 + 65537) = if 0 ≤ n then n % 65537 + 65537 else 65537 - (-n) % 65537 := by
    split
    · rename_i h
      rw [Int.tmod_eq_emod_of_nonneg h]
    · rename_i h
      have e : n.tmod 65537 = -((-n).tmod 65537) := by rw [Int.neg_tmod, Int.neg_neg]
      rw [e, Int.tmod_eq_emod_of_nonneg (by omega)]
      omega
  rw [h1]
  split
  · rw [Int.tmod_eq_emod_of_nonneg (by omega)]
    omega
  · rw [Int.tmod_eq_emod_of_nonneg (by omega)]
    omega
theorem modG_small {n : Int} (h0 : 0 ≤ n) (h1 : n < 65537) : modG n = n := by
  rw [modG_emod]; omega
theorem emul (x y P : Int) : (x % P * y) % P = (x * y) % P := by rw [Int.mul_emod, Int.emod_emod, ← Int.mul_emod]
theorem emul' (x y P : Int) : (x * (y % P)) % P = (x * y) % P := by rw [Int.mul_emod, Int.emod_emod, ← Int.mul_emod]
def sqI : Nat → Int → Int
  | 0, s => s
  | k + 1, s => sqI k (s * s % 65537)
theorem inv_sim {a : Int} (ha : 0 ≤ a ∧ a < 65537) : ∀ (k : Nat) (out sq : Int), (0 ≤ out ∧ out < 65537) → (0 ≤ sq ∧ sq < 65537) → (out * a) % 65537 = sq →
    invF out sq (2 ^ k - 1) = refInvG a k out ∧ (refInvG a k out * a) % 65537 = sqI k sq ∧ 0 ≤ refInvG a k out ∧ refInvG a k out < 65537
  | 0, out, sq, ho, _, h => by
    rw [invF]
    exact ⟨rfl, h, ho.1, ho.2⟩
  | k + 1, out, sq, ho, hs, h => by
    have hp : 1 ≤ 2 ^ k := Nat.one_le_two_pow
    have e0 : 2 ^ (k + 1) - 1 ≠ 0 := by rw [Nat.pow_succ]; omega
    have e1 : (2 ^ (k + 1) - 1) % 2 = 1 := by rw [Nat.pow_succ]; omega
    have e2 : (2 ^ (k + 1) - 1) / 2 = 2 ^ k - 1 := by rw [Nat.pow_succ]; omega
    rw [invF, if_neg e0, if_pos e1, e2]
    have hoo : 0 ≤ out * out := Int.mul_nonneg ho.1 ho.1
    have e3 : ((out * out).tmod 65537 * a).tmod 65537 = out * sq % 65537 := by
      rw [Int.tmod_eq_emod_of_nonneg hoo, Int.tmod_eq_emod_of_nonneg (Int.mul_nonneg (Int.emod_nonneg _ (by decide)) ha.1), emul, Int.mul_assoc, ← emul', h]
    show _ = refInvG a k (((out * out).tmod 65537 * a).tmod 65537) ∧ (refInvG a k (((out * out).tmod 65537 * a).tmod 65537) * a) % 65537 = sqI k (sq * sq % 65537) ∧ _
    simp only [refInvG]
    rw [modG_emod, modG_emod, e3]
    refine inv_sim ha k _ _ ⟨Int.emod_nonneg _ (by decide), Int.emod_lt_of_pos _ (by decide)⟩ ⟨Int.emod_nonneg _ (by decide), Int.emod_lt_of_pos _ (by decide)⟩ ?_
    rw [emul, Int.mul_assoc, Int.mul_comm sq a, ← Int.mul_assoc, ← emul, h]
theorem inv_ref {a : Int} (ha : 0 ≤ a ∧ a < 65537) : invG a = refInvG a 16 1 ∧ (invG a * a) % 65537 = sqI 16 a ∧ 0 ≤ invG a ∧ invG a < 65537 := by
  have h := inv_sim ha 16 1 a (by decide) ha (by rw [Int.one_mul]; omega)
  unfold invG
  have e : 2 ^ 16 - 1 = 65535 := by decide
  rw [e] at h
  exact ⟨h.1, by rw [h.1]; exact h.2.1, by rw [h.1]; exact h.2.2⟩
def sqN (x : Nat) : Nat := x * x % 65537
def sqP (x : Nat) : Nat := sqN (sqN (sqN (sqN (sqN (sqN (sqN (sqN (sqN (sqN (sqN (sqN (sqN (sqN (sqN (sqN x)))))))))))))))
def chk : Nat → Nat → Bool
  | 0, b => Nat.beq (sqP b) 1 || Nat.beq b 0
  | d + 1, b => chk d (2 * b) && chk d (2 * b + 1)
theorem chk_sound : ∀ (d b : Nat), chk d b = true → ∀ x, b * 2 ^ d ≤ x → x < (b + 1) * 2 ^ d → sqP x = 1 ∨ x = 0
  | 0, b, h, x, h1, h2 => by
    have : x = b := by simp at h1 h2; omega
    subst this
    simp only [chk, Bool.or_eq_true] at h
    exact h.imp Nat.eq_of_beq_eq_true Nat.eq_of_beq_eq_true
  | d + 1, b, h, x, h1, h2 => by
    simp only [chk, Bool.and_eq_true] at h
    rw [Nat.pow_succ] at h1 h2
    by_cases hx : x < (2 * b + 1) * 2 ^ d
    · refine chk_sound d (2 * b) h.1 x ?_ hx
      rw [Nat.mul_comm 2 b, Nat.mul_assoc, Nat.mul_comm 2]
      exact h1
    · refine chk_sound d (2 * b + 1) h.2 x (by omega) ?_
      have e : (2 * b + 1 + 1) * 2 ^ d = (b + 1) * (2 ^ d * 2) := by
        rw [show 2 * b + 1 + 1 = (b + 1) * 2 by omega, Nat.mul_assoc, Nat.mul_comm 2]
      rw [e]; exact h2
theorem chk_all : chk 16 0 = true := by kernel_rfl
theorem chk_last : sqP 65536 = 1 := by kernel_rfl
theorem sqI_nat (k x : Nat) : sqI (k + 1) (x : Int) = sqI k ((sqN x : Nat) : Int) := by
  simp only [sqI, sqN]
  congr 1
theorem fermat {a : Int} (h0 : 1 ≤ a) (h1 : a < 65537) : sqI 16 a = 1 := by
  obtain ⟨x, rfl⟩ := Int.eq_ofNat_of_zero_le (show 0 ≤ a by omega)
  have h : sqP x = 1 := by
    by_cases hx : x < 65536
    · rcases chk_sound 16 0 chk_all x (by omega) (by omega) with h | h
      · exact h
      · omega
    · have : x = 65536 := by omega
      rw [this]; exact chk_last
  have e : sqI 16 (x : Int) = ((sqP x : Nat) : Int) := by
    simp only [sqI_nat]
    rfl
  rw [e, h]; rfl
theorem inv_mul {a : Int} (h0 : 1 ≤ a) (h1 : a < 65537) : (a * invG a) % 65537 = 1 ∧ 1 ≤ invG a ∧ invG a < 65537 := by
  obtain ⟨_, h2, h3, h4⟩ := inv_ref (a := a) ⟨by omega, h1⟩
  rw [fermat h0 h1] at h2
  refine ⟨by rw [Int.mul_comm]; exact h2, ?_, h4⟩
  rcases Int.lt_or_eq_of_le h3 with h | h
  · omega
  · rw [← h] at h2
    simp at h2
end Go.Ev
