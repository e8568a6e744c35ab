/-
  Chapter 1: the law of parities.
-/
import Derived.Test.YtlejemnljojpgaaC1R
set_option linter.unusedVariables false
set_option linter.unusedSimpArgs false
namespace Go.Ev
open Go Go.Proofs
attribute [local irreducible] evFn evBody
set_option maxRecDepth 20000

def paritiesLawS : Spec := fun args σ K => match args, σ with
  | [.one (.int .i64 _), .one (.data (.mat .i64 8 xss)), .one (.int .i64 _)], [] => xss.all len8 = true ∧ K (.one (.bool true)) []
  | _, _ => False
theorem ok8 : SpecOK Try.prog 8 paritiesLawS := by
  refine specOK (n := 83) (m := 0) (lps := []) (.cons ok15 (.cons ok39 (.cons ok41 (.cons ok40 (.cons ok42 (.cons ok43 (.cons ok25 (.cons ok44 (.cons ok46 (.cons ok45 .nil)))))))))) Try.func8 (by kernel_rfl) (by kernel_rfl) (noLoops (by kernel_rfl)) fun args σ K h => ?_
  unfold paritiesLawS at h
  split at h
  · rename_i n xss c
    rw [ex8 n c xss K]
    obtain ⟨h8, h⟩ := h
    by_cases hl : (xss.length : Int) > 14
    · simp only [hl, decide_true, cond_true]
      exact h
    · have g1 : xss.length ≤ 1000000 := by omega
      have g2 : xss.length ≤ 1000000000 := by omega
      have g3 : xss.length ≤ 1000 := by omega
      have hrows : (parM xss c).all len8 = true := rowsF_len8 _ _ _
      simp only [hl, decide_false, cond_false]
      -- the data
      have data : (dataE xss c == 0) = true → (keptB [] 0 xss = true ∧ 1 ≤ c ∧ c ≤ 4 ∧ (parM xss c).length ≤ 1000000000) := fun hd => by
        obtain ⟨d1, d2, d3, d4, d5⟩ := dataE_ok hd
        refine ⟨kept_all d3 0, d4, d5, ?_⟩
        unfold parM
        rw [rowsF_length]
        omega
      generalize hD : dataE xss c = D at *
      cases hd : D == 0 with
      | true =>
        obtain ⟨d1, d2, d3, d4⟩ := data hd
        have hD0 : D = 0 := eq_of_beq hd
        subst hD0
        have b1 : ((0 : Int) != 0) = false := by decide
        cases ha : withinG n 0 65536 with
        | false =>
          simp only [Bool.not_false, cond_true, show ((2 : Int) != 0) = true by decide, show ((2 : Int) != 2) = false by decide, b1, cond_false, beq_self_eq_true]
          exact ⟨g1, ⟨g2, h8⟩, ⟨g2, h8⟩, ⟨⟨g3, h8, d1⟩, d2, d3⟩, ⟨d4, hrows, hrows⟩, h⟩
        | true =>
          cases hb : n == 0 with
          | true =>
            simp only [Bool.not_true, cond_true, show ((11 : Int) != 0) = true by decide, show ((11 : Int) != 11) = false by decide, b1, cond_false, beq_self_eq_true]
            exact ⟨g1, ⟨g2, h8⟩, ⟨g2, h8⟩, ⟨⟨g3, h8, d1⟩, d2, d3⟩, ⟨d4, hrows, hrows⟩, h⟩
          | false =>
            have hn : 1 ≤ n ∧ n ≤ 65536 := by
              unfold withinG at ha
              simp only [Bool.and_eq_true, decide_eq_true_eq] at ha
              have := beq_eq_false_iff_ne.1 hb
              omega
            obtain ⟨i1, i2, i3⟩ := inv_mul (a := n) hn.1 (by omega)
            have hm := mul_range (a := n) (b := invG n) ⟨by omega, by omega, by omega, i3⟩
            have e1 : decide (1 ≤ invG n) = true := decide_eq_true i2
            have e2 : decide (invG n ≤ 65536) = true := decide_eq_true (by omega)
            have e3 : (IntKind.i64.wrap (n * invG n)).tmod 65537 = 1 := by
              rw [wrap_id (by omega) (by omega), Int.tmod_eq_emod_of_nonneg hm.1]; exact i1
            simp only [Bool.not_true, cond_true, b1, cond_false, e1, e2, e3, Bool.and_self, bne_self_eq_false, beq_self_eq_true]
            exact ⟨g1, ⟨g2, h8⟩, ⟨by omega, by omega⟩, ⟨g2, h8⟩, ⟨⟨g3, h8, d1⟩, d2, d3⟩, ⟨d4, hrows, hrows⟩, h⟩
      | false =>
        have hne : (D != 0) = true := by rw [bne, hd]; rfl
        have b1 : ((0 : Int) != 0) = false := by decide
        cases ha : withinG n 0 65536 with
        | false =>
          simp only [Bool.not_false, cond_true, show ((2 : Int) != 0) = true by decide, show ((2 : Int) != 2) = false by decide, hne, cond_false, beq_self_eq_true]
          exact ⟨g1, ⟨g2, h8⟩, ⟨g2, h8⟩, h⟩
        | true =>
          cases hb : n == 0 with
          | true =>
            simp only [Bool.not_true, cond_true, show ((11 : Int) != 0) = true by decide, show ((11 : Int) != 11) = false by decide, hne, cond_false, beq_self_eq_true]
            exact ⟨g1, ⟨g2, h8⟩, ⟨g2, h8⟩, h⟩
          | false =>
            have hn : 1 ≤ n ∧ n ≤ 65536 := by
              unfold withinG at ha
              simp only [Bool.and_eq_true, decide_eq_true_eq] at ha
              have := beq_eq_false_iff_ne.1 hb
              omega
            obtain ⟨i1, i2, i3⟩ := inv_mul (a := n) hn.1 (by omega)
            have hm := mul_range (a := n) (b := invG n) ⟨by omega, by omega, by omega, i3⟩
            have e1 : decide (1 ≤ invG n) = true := decide_eq_true i2
            have e2 : decide (invG n ≤ 65536) = true := decide_eq_true (by omega)
            have e3 : (IntKind.i64.wrap (n * invG n)).tmod 65537 = 1 := by
              rw [wrap_id (by omega) (by omega), Int.tmod_eq_emod_of_nonneg hm.1]; exact i1
            simp only [Bool.not_true, cond_true, b1, hne, cond_false, e1, e2, e3, Bool.and_self, bne_self_eq_false, beq_self_eq_true]
            exact ⟨g1, ⟨g2, h8⟩, ⟨by omega, by omega⟩, ⟨g2, h8⟩, h⟩
  · exact h.elim
end Go.Ev
