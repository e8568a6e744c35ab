/-
  Chapter 1: the contracts of C1A are kept.
-/
import Derived.Test.YtlejemnljojpgaaC1Aeq
namespace Go.Ev
open Go Go.Proofs
set_option maxRecDepth 20000

theorem ok71 : SpecOK Try.prog 71 withinS := by
  refine specOK (n := 15) (m := 0) (lps := []) AllOK.nil Try.func71 (by kernel_rfl) (by kernel_rfl) (noLoops (by kernel_rfl)) fun args σ K h => ?_
  unfold withinS at h
  split at h
  · rename_i n lo hi
    refine (ex71 n lo hi K).mpr ?_
    cases hd : decide (lo ≤ n) <;> simpa [hd] using h
  · exact h.elim

theorem ok70 : SpecOK Try.prog 70 unlessS := by
  refine specOK (n := 7) (m := 0) (lps := []) AllOK.nil Try.func70 (by kernel_rfl) (by kernel_rfl) (noLoops (by kernel_rfl)) fun args σ K h => ?_
  unfold unlessS at h
  split at h
  · rename_i b e
    refine (ex70 b e K).mpr ?_
    cases b <;> exact h
  · exact h.elim

theorem firstE_step {l : List Int} {i : Int} (h0 : 0 ≤ i) (h : i < l.length) : firstE (l.drop i.toNat) = bif l.getD i.toNat 0 == 0 then firstE (l.drop (i + 1).toNat) else l.getD i.toNat 0 := by
  rw [drop_step 0 (by omega), show (i + 1).toNat = i.toNat + 1 by omega]
  rfl

theorem lok69 : LoopOK E69 (lb Try.f69 0) [5, 6, 7] [2] firstL := by
  refine loopOK AllOK.nil (noInner (by kernel_rfl)) (fun vs _ => match vs with
    | [.one (.data (.ints .i64 l)), _, .one (.int .i64 i)] => l.length - i.toNat
    | _ => 0) fun vs σ k h => ?_
  unfold firstL at h
  split at h
  · rename_i l n i
    obtain ⟨⟨h1, h2, rfl⟩, h⟩ := h
    refine (ex69a l _ i _).mpr ?_
    simp only [count_ints, hasN_one, has_ints, Nat.add_zero]
    by_cases hi : i < l.length
    · have hw : IntKind.i64.wrap (i + 1) = i + 1 := wrap_id (by omega) (by omega)
      have hi' : i.toNat < l.length := by omega
      rw [firstE_step h2 hi] at h
      by_cases hz : l.getD i.toNat 0 = 0
      · simp only [hz, beq_self_eq_true, cond_true] at h
        simp only [hi, hi', h2, hw, hz, decide_true, Bool.and_self, cond_true, bne_self_eq_false, cond_false]
        exact ⟨⟨⟨h1, by omega, rfl⟩, h⟩, by omega⟩
      · have hb : (l.getD i.toNat 0 == 0) = false := by simpa using hz
        simp only [hb, cond_false] at h
        simp only [hi, hi', h2, bne, hb, decide_true, Bool.and_self, cond_true, Bool.not_false]
        exact h
    · rw [List.drop_eq_nil_of_le (by omega)] at h
      simp only [hi, decide_false, cond_false]
      exact h
  · exact h.elim

theorem ok69 : SpecOK Try.prog 69 firstS := by
  refine specOK (n := 15) (m := 0) (lps := [(2, .spec [5, 6, 7] [2] firstL)]) AllOK.nil Try.func69 (by kernel_rfl) (by kernel_rfl) (theLoops (n := 1) (by kernel_rfl) fun i hi => ?_) fun args σ K h => ?_
  · match i, hi with
    | 0, _ => exact loopHyp_of (key := 2) (by kernel_rfl) rfl lok69
  · unfold firstS at h
    split at h
    · rename_i l
      refine (ex69 l K).mpr ?_
      refine ⟨⟨h.1, by omega, rfl⟩, ?_⟩
      simp only [List.drop_zero]
      by_cases hz : firstE l = 0
      · simpa [hz] using h.2
      · simpa [hz] using h.2
    · exact h.elim

theorem ok68 : SpecOK Try.prog 68 wholeS := by
  refine specOK (n := 5) (m := 0) (lps := []) AllOK.nil Try.func68 (by kernel_rfl) (by kernel_rfl) (noLoops (by kernel_rfl)) fun args σ K h => ?_
  unfold wholeS at h
  split at h
  · exact (ex68 _ K).mpr h
  · exact h.elim

theorem lok72 : LoopOK E72 (lb Try.f72 0) [0, 1] [0] gcdL := by
  refine loopOK AllOK.nil (noInner (by kernel_rfl)) (fun vs _ => match vs with
    | [_, .one (.int .i64 b)] => b.natAbs
    | _ => 0) fun vs σ k h => ?_
  unfold gcdL at h
  split at h
  · rename_i a b
    refine (ex72a a b _).mpr ?_
    by_cases hb : b = 0
    · subst hb
      rw [gcdG] at h
      simpa using h
    · rw [gcdG, if_neg hb] at h
      simp only [bne, beq_eq_false_iff_ne.2 hb, hb, decide_false, Bool.not_false, cond_true]
      exact ⟨h, by rw [Int.natAbs_tmod]; exact Nat.mod_lt _ (by omega)⟩
  · exact h.elim

theorem ok72 : SpecOK Try.prog 72 gcdS := by
  refine specOK (n := 15) (m := 0) (lps := [(1, .spec [0, 1] [0] gcdL)]) AllOK.nil Try.func72 (by kernel_rfl) (by kernel_rfl) (theLoops (n := 1) (by kernel_rfl) fun i hi => ?_) fun args σ K h => ?_
  · match i, hi with
    | 0, _ => exact loopHyp_of (key := 1) (by kernel_rfl) rfl lok72
  · unfold gcdS at h
    split at h
    · exact (ex72 _ _ K).mpr h
    · exact h.elim
end Go.Ev
