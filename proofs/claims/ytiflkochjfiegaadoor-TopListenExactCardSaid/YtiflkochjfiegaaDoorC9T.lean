/-
  Part of the proof of a law.
-/
import Derived.Test.YtiflkochjfiegaaDoorC9D
import Derived.KernelRfl
set_option linter.unusedVariables false
set_option linter.unusedSimpArgs false
set_option linter.unusedSectionVars false
/-
  Chapter 9, contracts: levels, the minimum of right answers, and what the reference says of tails.
-/
namespace Go.Ev
open Go Go.Proofs
set_option maxRecDepth 20000
def lvlL : LSpec := fun vs σ k => match vs, σ with
  | [.one (.ptr 0 1 0 0), .one (.int .i64 a), .one (.int .i64 b)], [.cells [.int .i64 n, .int .i64 d]] => k (.exit 0) [.one (.ptr 0 1 0 0), .one (.int .i64 (gcdG a b))] [.cells [.int .i64 n, .int .i64 d]]
  | _, _ => False
def adjF : List Int → List Int
  | a :: b :: l => wi (a + b) :: adjF (b :: l)
  | _ => []
def nextC (row : List Int) : List Int := 1 :: adjF row ++ [1]
def chG : Nat → List Int → List Int
  | 0, row => row
  | m + 1, row => chG m (nextC row)
def pwG : Nat → Int → Int
  | 0, o => o
  | m + 1, o => pwG m (wi (2 * o))
def rtD (t : Int) : Int := pwG t.toNat 1
end Go.Ev

/-
  Chapter 9: the contracts of levels, of the minimum, and of the reference of tails are kept.
-/
namespace Go.Ev
open Go Go.Proofs
attribute [local irreducible] evFn evBody evRound
set_option maxRecDepth 20000
def sumL0 : List Int → Int
  | [] => 0
  | a :: l => a + sumL0 l
def sufs : List Int → List Int
  | [] => []
  | a :: l => (a + sumL0 l) :: sufs l
def tabT (t : Nat) : Bool := (sufs (chG t [1]) == tailsG t) && ((chG t [1]).all (fun x => decide (0 ≤ x)) && (((chG t [1]).length == t + 1) && ((pwG t 1 == powD t) && ((tailsG t).all fun x => decide (0 ≤ x) && decide (x ≤ 536870912)))))
theorem tab_all : ∀ t : Nat, t ≤ 29 → tabT t = true := by decide +kernel
theorem tab_facts {t : Int} (h1 : 0 ≤ t) (h2 : t ≤ 29) : sufs (chG t.toNat [1]) = tailsG t ∧ (∀ x ∈ chG t.toNat [1], 0 ≤ x) ∧ ((chG t.toNat [1]).length : Int) = t + 1 ∧ rtD t = powD t ∧ ∀ x ∈ tailsG t, 0 ≤ x ∧ x ≤ 536870912 := by
  obtain ⟨m, rfl⟩ := Int.eq_ofNat_of_zero_le h1
  have h := tab_all m (by omega)
  unfold tabT at h
  simp only [Bool.and_eq_true, beq_iff_eq, List.all_eq_true, decide_eq_true_eq] at h
  obtain ⟨a1, a2, a3, a4, a5⟩ := h
  exact ⟨a1, a2, by rw [Int.toNat_natCast]; omega, a4, a5⟩
end Go.Ev
