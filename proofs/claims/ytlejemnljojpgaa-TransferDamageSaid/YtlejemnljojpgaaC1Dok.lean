/-
  Chapter 1: the contracts of C1D are kept.
-/
import Derived.Test.YtlejemnljojpgaaC1Deq
namespace Go.Ev
open Go Go.Proofs
set_option maxRecDepth 20000

theorem ok19 : SpecOK Try.prog 19 refTurnS := by
  refine specOK (n := 30) (m := 0) (lps := []) (.cons ok25 (.cons ok76 (.cons ok77 .nil))) Try.func19 (by kernel_rfl) (by kernel_rfl) (noLoops (by kernel_rfl)) fun args σ K h => ?_
  unfold refTurnS at h
  split at h
  · rename_i nm k s n d rate
    refine (ex19 nm k s n d rate K).mpr ?_
    cases hk : k == 2 with
    | true => rw [hk] at h; exact h
    | false =>
      rw [hk] at h
      change (bif !(decide (1 ≤ rate) && decide (rate ≤ 200000)) then _ else _) at h
      cases hr : (decide (1 ≤ rate) && decide (rate ≤ 200000)) with
      | false => rw [hr] at h; exact h
      | true =>
        rw [hr] at h
        obtain ⟨h1, h⟩ := h
        refine ⟨h1, ?_⟩
        change (bif smallG (wi ((rateG rate d).tdiv (divG (rateG rate d) n))) (wi (n.tdiv (divG (rateG rate d) n))) then _ else _) at h
        change (bif !smallG (wi ((rateG rate d).tdiv (divG (rateG rate d) n))) (wi (n.tdiv (divG (rateG rate d) n))) then _ else _)
        cases hs : smallG (wi ((rateG rate d).tdiv (divG (rateG rate d) n))) (wi (n.tdiv (divG (rateG rate d) n))) <;> rw [hs] at h <;> exact h
  · exact h.elim

theorem ok16 : SpecOK Try.prog 16 turnS := by
  refine specOK (n := 55) (m := 0) (lps := []) (.cons ok18 (.cons ok70 (.cons ok71 (.cons ok69 (.cons ok72 .nil))))) Try.func16 (by kernel_rfl) (by kernel_rfl) (noLoops (by kernel_rfl)) fun args σ K h => ?_
  unfold turnS at h
  split at h
  · rename_i nm k s n d rate
    obtain ⟨h0, h⟩ := h
    refine (ex16 nm k s n d rate K).mpr ⟨h0, by simp, ?_⟩
    change (bif turnE nm k s n d rate != 0 then _ else _)
    cases he : turnE nm k s n d rate != 0 with
    | true => rw [he] at h; exact h
    | false =>
      rw [he] at h
      obtain ⟨h1, h⟩ := h
      have e1 : decide (sizeG (gcdG (IntKind.i64.wrap (IntKind.i64.wrap (rate * 60) * d)) n) = 0) = false := decide_eq_false h1
      dsimp only [cond_false]
      rw [e1]
      change (bif decide (wi ((rateG rate d).tdiv (sizeG (gcdG (rateG rate d) n))) > 1000000000) then K (fe 0 0 8) [] else bif decide (wi (n.tdiv (sizeG (gcdG (rateG rate d) n))) > 1000000000) then K (fe 0 0 8) [] else _)
      cases hs : decide (wi ((rateG rate d).tdiv (sizeG (gcdG (rateG rate d) n))) > 1000000000) <;> rw [hs] at h
      · exact h
      · exact h
  · exact h.elim
end Go.Ev
