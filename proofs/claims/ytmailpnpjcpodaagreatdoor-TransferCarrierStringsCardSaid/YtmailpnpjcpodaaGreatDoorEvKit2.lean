/-
  Part of the proof of a law.
-/
import Derived.Test.YtmailpnpjcpodaaGreatDoorEvKit
set_option linter.unusedVariables false
set_option linter.unusedSimpArgs false
set_option linter.unusedSectionVars false
/-
  Small lemmas for contracts: numbers, lists, contracts out of contracts.
-/
namespace Go.Ev
open Go
variable [Glob]
theorem SpecOK.mk2 {P : Program} {f : FuncId} {S S1 S2 : Spec} (h1 : SpecOK P f S1) (h2 : SpecOK P f S2) (h : ∀ args σ K, S args σ K → S1 args σ K ∨ S2 args σ K) : SpecOK P f S :=
  ⟨h1.body, fun args σ K hK => (h args σ K hK).elim (h1.sound args σ K) (h2.sound args σ K)⟩
theorem SpecOK.weak {P : Program} {f : FuncId} {S S1 : Spec} (h1 : SpecOK P f S1) (h : ∀ args σ K, S args σ K → S1 args σ K) : SpecOK P f S :=
  ⟨h1.body, fun args σ K hK => h1.sound args σ K (h args σ K hK)⟩
theorem wrapu_id {n : Int} (h1 : 0 ≤ n) (h2 : n < 18446744073709551616) : IntKind.u64.wrap n = n := by
  have e1 : (2 : Int) ^ IntKind.u64.bits = 18446744073709551616 := by decide
  have e3 : IntKind.u64.signed = false := rfl
  unfold IntKind.wrap
  simp only [e1, e3, Bool.false_and]
  simp only [Bool.false_eq_true, if_false]
  omega
@[simp] theorem stepN_one (j : Nat) : stepN j 1 = j := by simp [stepN]
theorem take_set_succ {α : Type} {l : List α} {i : Nat} {v : α} (h : i < l.length) : (l.set i v).take (i + 1) = l.take i ++ [v] := by
  rw [List.set_eq_take_append_cons_drop, if_pos h, List.take_append, List.take_take]
  simp [Nat.min_eq_left (Nat.le_of_lt h)]
theorem fdiv_pow {u : Int} (m : Nat) : u.fdiv (2 ^ m) = u / 2 ^ m := Int.fdiv_eq_ediv_of_nonneg _ (Int.pow_nonneg (by decide))
theorem fdiv_range {u B : Int} (m : Nat) (h : 0 ≤ u ∧ u ≤ B) : 0 ≤ u.fdiv (2 ^ m) ∧ u.fdiv (2 ^ m) ≤ B := by
  rw [fdiv_pow]
  have hp : (0 : Int) < 2 ^ m := Int.pow_pos (by decide)
  exact ⟨Int.ediv_nonneg h.1 (Int.le_of_lt hp), Int.le_trans (Int.ediv_le_self _ h.1) h.2⟩
theorem and_mask {x : Int} (h : 0 ≤ x) (h2 : x < 18446744073709551616) (k : Nat) (m : Int) (hm : m = 2 ^ k - 1) (hk : k ≤ 64) : ((BitVec.ofInt 64 x &&& BitVec.ofInt 64 m).toNat : Int) = x % 2 ^ k := by
  obtain ⟨n, rfl⟩ := Int.eq_ofNat_of_zero_le h
  have hn : n < 2 ^ 64 := by omega
  have hkk : (2 : Nat) ^ k ≤ 2 ^ 64 := Nat.pow_le_pow_right (by decide) hk
  have hpos : 0 < (2 : Nat) ^ k := Nat.pow_pos (by decide)
  have ep : ((2 ^ k : Nat) : Int) = (2 : Int) ^ k := by simp
  have em : m = ((2 ^ k - 1 : Nat) : Int) := by rw [hm, ← ep]; omega
  rw [em, BitVec.toNat_and]
  have e1 : (BitVec.ofInt 64 (n : Int)).toNat = n := by
    rw [BitVec.ofInt_natCast, BitVec.toNat_ofNat]; exact Nat.mod_eq_of_lt hn
  have e2 : (BitVec.ofInt 64 ((2 ^ k - 1 : Nat) : Int)).toNat = 2 ^ k - 1 := by
    rw [BitVec.ofInt_natCast, BitVec.toNat_ofNat]; exact Nat.mod_eq_of_lt (by omega)
  rw [e1, e2, Nat.and_two_pow_sub_one_eq_mod]
  rw [← ep]
  rfl
theorem getD_range {l : List Int} {B : Int} (hB : 0 ≤ B) (h : ∀ u ∈ l, 0 ≤ u ∧ u ≤ B) (j : Nat) : 0 ≤ l.getD j 0 ∧ l.getD j 0 ≤ B := by
  by_cases hj : j < l.length
  · rw [getD_of_lt hj]; exact h _ (List.getElem_mem hj)
  · rw [List.getD, List.getElem?_eq_none (by omega)]; exact ⟨Int.le_refl _, hB⟩
end Go.Ev
