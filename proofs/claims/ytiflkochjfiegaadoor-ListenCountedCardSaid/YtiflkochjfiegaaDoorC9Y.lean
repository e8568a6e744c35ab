/-
  Chapter 9, plain facts: tails as fractions, their sums, and where the minimum lies.
-/
import Derived.Test.YtiflkochjfiegaaDoorC9V
import Derived.Test.YtiflkochjfiegaaDoorC9T
set_option linter.unusedVariables false
set_option linter.unusedSimpArgs false
set_option linter.unusedSectionVars false
namespace Go.Ev
open Go Go.Proofs
attribute [local irreducible] evFn evBody evRound
set_option maxRecDepth 20000

theorem gcdG_nat {a b : Int} (ha : 0 ≤ a) (hb : 0 ≤ b) : gcdG a b = ((Nat.gcd a.toNat b.toNat : Nat) : Int) := by
  have h := natAbs_gcdG a b
  have h2 := gcdG_nn a b ha hb
  have e1 : a.natAbs = a.toNat := by omega
  have e2 : b.natAbs = b.toNat := by omega
  rw [e1, e2] at h
  omega
theorem wi_div {a : Int} {g : Nat} (h0 : 0 ≤ a) (h1 : a ≤ 536870912) : wi (a.tdiv ((g : Nat) : Int)) = ((a.toNat / g : Nat) : Int) := by
  obtain ⟨m, rfl⟩ := Int.eq_ofNat_of_zero_le h0
  rw [Int.toNat_natCast]
  have e : ((m : Nat) : Int).tdiv ((g : Nat) : Int) = ((m / g : Nat) : Int) := by
    rw [Int.tdiv_eq_ediv_of_nonneg (by omega)]; rfl
  have h2 := Nat.div_le_self m g
  rw [e]
  generalize m / g = q at *
  exact wi_id (by omega) (by omega)
def tlA (t : Int) (r : Nat) : Int := ((((tailsG t).getD r 0).toNat / Nat.gcd ((tailsG t).getD r 0).toNat (powD t).toNat : Nat) : Int)
def tlB (t : Int) (r : Nat) : Int := (((powD t).toNat / Nat.gcd ((tailsG t).getD r 0).toNat (powD t).toNat : Nat) : Int)
theorem tailE_ok {t r : Int} (h1 : 0 ≤ t) (h2 : t ≤ 29) (h3 : 0 ≤ r) (h4 : r ≤ t) : tailE t r = 0 := by
  unfold tailE withinG
  rw [decide_eq_true h1, decide_eq_true h2, decide_eq_true h3, decide_eq_true h4]
  rfl
theorem tl_nat {t r : Int} (h1 : 0 ≤ t) (h2 : t ≤ 29) (h3 : 0 ≤ r) (h4 : r ≤ t) : tlP t r = tlA t r.toNat ∧ tlQ t r = tlB t r.toNat := by
  have hT := getD_range (by decide) (tab_facts h1 h2).2.2.2.2 r.toNat
  have hP := powD_range h1 h2
  unfold tlP tlQ tlA tlB
  rw [tailE_ok h1 h2 h3 h4, gcdG_nat hT.1 (by omega), wi_div hT.1 hT.2, wi_div (by omega) hP.2]
  exact ⟨rfl, rfl⟩
/-- The fraction of the program is that of the reference. -/
theorem tl_rt {t r : Int} (h1 : 0 ≤ t) (h2 : t ≤ 29) (h3 : 0 ≤ r) (h4 : r ≤ t) : tlP t r = rtA t r ∧ tlQ t r = rtB t r := by
  obtain ⟨g0, _⟩ := rt_div h1 h2 h3 h4
  unfold tlP tlQ rtA rtB
  rw [tailE_ok h1 h2 h3 h4, g0, rtN_tails h1 h2 h3 h4, (tab_facts h1 h2).2.2.2.1]
  exact ⟨rfl, rfl⟩
theorem tailE_eq (t r : Int) : tailE t r = rtailE t r := by
  unfold tailE rtailE
  cases withinG t 0 29 <;> cases withinG r 0 t <;> rfl

/-! ### The table -/
def tabA (t r : Nat) : Bool := (Nat.gcd (tlA t r).toNat (tlB t r).toNat == 1) && (decide (0 ≤ tlA t r) && (decide (tlA t r ≤ tlB t r) && (decide (1 ≤ tlB t r) && decide (tlB t r ≤ 536870912))))
def tabB (t r : Nat) : Bool := (tlA t r * tlB t (t + 1 - r) + tlA t (t + 1 - r) * tlB t r == tlB t r * tlB t (t + 1 - r)) && decide (tlA t (r - 1) * tlB t r ≥ tlA t r * tlB t (r - 1))
def tabC (t : Nat) : Bool := (tlA t 0 == 1) && ((tlB t 0 == 1) && (List.range (t + 1)).all fun r => tabA t r && (r == 0 || tabB t r))
theorem tabC_all : ∀ t : Nat, t ≤ 29 → tabC t = true := by decide +kernel
theorem tl_facts {t r : Int} (h1 : 0 ≤ t) (h2 : t ≤ 29) (h3 : 0 ≤ r) (h4 : r ≤ t) : gcdG (tlP t r) (tlQ t r) = 1 ∧ 0 ≤ tlP t r ∧ tlP t r ≤ tlQ t r ∧ 1 ≤ tlQ t r ∧ tlQ t r ≤ 536870912 := by
  obtain ⟨e1, e2⟩ := tl_nat h1 h2 h3 h4
  obtain ⟨m, rfl⟩ := Int.eq_ofNat_of_zero_le h1
  obtain ⟨k, rfl⟩ := Int.eq_ofNat_of_zero_le h3
  have h := tabC_all m (by omega)
  unfold tabC at h
  simp only [Bool.and_eq_true, List.all_eq_true, List.mem_range] at h
  have ha := (h.2.2 k (by omega)).1
  unfold tabA at ha
  simp only [Bool.and_eq_true, beq_iff_eq, decide_eq_true_eq] at ha
  rw [Int.toNat_natCast] at e1 e2
  rw [e1, e2]
  obtain ⟨a1, a2, a3, a4, a5⟩ := ha
  exact ⟨by rw [gcdG_nat a2 (by omega), a1]; rfl, a2, a3, a4, a5⟩
theorem tl_one {t : Int} (h1 : 0 ≤ t) (h2 : t ≤ 29) : tlP t 0 = 1 ∧ tlQ t 0 = 1 := by
  obtain ⟨e1, e2⟩ := tl_nat h1 h2 (by decide) h1
  obtain ⟨m, rfl⟩ := Int.eq_ofNat_of_zero_le h1
  have h := tabC_all m (by omega)
  unfold tabC at h
  simp only [Bool.and_eq_true, beq_iff_eq] at h
  rw [e1, e2]
  exact ⟨h.1, h.2.1⟩
theorem tl_sum {t r : Int} (h1 : 0 ≤ t) (h2 : t ≤ 29) (h3 : 0 < r) (h4 : r ≤ t) : tlP t r * tlQ t (t + 1 - r) + tlP t (t + 1 - r) * tlQ t r = tlQ t r * tlQ t (t + 1 - r) ∧ tlP t (r - 1) * tlQ t r ≥ tlP t r * tlQ t (r - 1) := by
  obtain ⟨e1, e2⟩ := tl_nat h1 h2 (Int.le_of_lt h3) h4
  obtain ⟨e3, e4⟩ := tl_nat (r := t + 1 - r) h1 h2 (by omega) (by omega)
  obtain ⟨e5, e6⟩ := tl_nat (r := r - 1) h1 h2 (by omega) (by omega)
  obtain ⟨m, rfl⟩ := Int.eq_ofNat_of_zero_le h1
  obtain ⟨k, rfl⟩ := Int.eq_ofNat_of_zero_le (Int.le_of_lt h3)
  have h := tabC_all m (by omega)
  unfold tabC at h
  simp only [Bool.and_eq_true, List.all_eq_true, List.mem_range] at h
  have ha := (h.2.2 k (by omega)).2
  have hk : (k == 0) = false := beq_eq_false_iff_ne.2 (by omega)
  rw [hk, Bool.false_or] at ha
  unfold tabB at ha
  simp only [Bool.and_eq_true, beq_iff_eq, decide_eq_true_eq] at ha
  rw [show ((m : Int) + 1 - (k : Int)).toNat = m + 1 - k by omega] at e3 e4
  rw [show ((k : Int) - 1).toNat = k - 1 by omega] at e5 e6
  rw [Int.toNat_natCast] at e1 e2
  rw [e1, e2, e3, e4, e5, e6]
  exact ha

/-! ### Where the minimum lies -/
theorem idxMn_all {t n d : Int} : ∀ {l : List Int} {i : Int}, 0 ≤ i → idxMn t n d i l < 0 → ∀ j, j < l.length → passT t n d (l.getD j 0) = false
  | [], _, _, _, j, hj => by simp at hj
  | x :: l, i, h0, h, j, hj => by
    simp only [idxMn] at h
    cases hp : passT t n d x with
    | true => rw [hp, cond_true] at h; omega
    | false =>
      rw [hp, cond_false] at h
      cases j with
      | zero => exact hp
      | succ j => exact idxMn_all (i := i + 1) (by omega) h j (by simpa using hj)
theorem idxMn_at {t n d : Int} : ∀ {l : List Int} {i : Int}, 0 ≤ i → 0 ≤ idxMn t n d i l → ∃ j : Nat, idxMn t n d i l = i + j ∧ j < l.length ∧ passT t n d (l.getD j 0) = true ∧ ∀ j' : Nat, j' < j → passT t n d (l.getD j' 0) = false
  | [], i, _, h => by simp [idxMn] at h
  | x :: l, i, h0, h => by
    simp only [idxMn] at h ⊢
    cases hp : passT t n d x with
    | true => exact ⟨0, by rw [cond_true]; omega, by simp, hp, fun j' h => by omega⟩
    | false =>
      rw [hp, cond_false] at h
      obtain ⟨j, e1, e2, e3, e4⟩ := idxMn_at (i := i + 1) (by omega) h
      refine ⟨j + 1, by rw [cond_false, e1]; omega, by simpa using e2, e3, fun j' hj => ?_⟩
      cases j' with
      | zero => exact hp
      | succ j' => exact e4 j' (by omega)
/-- A tail against a level. -/
theorem tl_pass {t n d c : Int} (h : okLv t n d) (h3 : 0 ≤ c) (h4 : c ≤ t) : decide (cmpG (wi (tlP t c * d)) (wi (n * tlQ t c)) ≤ 0) = passT t n d ((tailsG t).getD c.toNat 0) := by
  obtain ⟨e1, e2⟩ := tl_rt h.1 h.2.1 h3 h4
  rw [e1, e2]
  exact pass_eq h h3 h4
end Go.Ev
