/-
  Chapter 1: the contracts of C1E are kept.
-/
import Derived.Test.YtlejemnljojpgaaC1Eeq
namespace Go.Ev
open Go Go.Proofs
set_option maxRecDepth 20000

theorem ok92 : SpecOK Try.prog 92 sampleS := by
  refine specOK (n := 6) (m := 0) (lps := []) (.cons ok71 (.cons ok70 .nil)) Try.func92 (by kernel_rfl) (by kernel_rfl) (noLoops (by kernel_rfl)) fun args σ K h => ?_
  unfold sampleS at h
  split at h
  · exact (ex92 _ K).mpr h
  · exact h.elim
theorem ok93 : SpecOK Try.prog 93 channelS := by
  refine specOK (n := 6) (m := 0) (lps := []) (.cons ok71 (.cons ok70 .nil)) Try.func93 (by kernel_rfl) (by kernel_rfl) (noLoops (by kernel_rfl)) fun args σ K h => ?_
  unfold channelS at h
  split at h
  · exact (ex93 _ K).mpr h
  · exact h.elim
theorem ok94 : SpecOK Try.prog 94 counterS := by
  refine specOK (n := 5) (m := 0) (lps := []) (.cons ok71 .nil) Try.func94 (by kernel_rfl) (by kernel_rfl) (noLoops (by kernel_rfl)) fun args σ K h => ?_
  unfold counterS at h
  split at h
  · exact (ex94 _ K).mpr h
  · exact h.elim
theorem ok97 : SpecOK Try.prog 97 residueS := by
  refine specOK (n := 5) (m := 0) (lps := []) (.cons ok71 .nil) Try.func97 (by kernel_rfl) (by kernel_rfl) (noLoops (by kernel_rfl)) fun args σ K h => ?_
  unfold residueS at h
  split at h
  · exact (ex97 _ K).mpr h
  · exact h.elim

theorem tmod_range (n : Int) : -65537 < n.tmod 65537 ∧ n.tmod 65537 < 65537 := by
  constructor
  · have := Int.lt_tmod_of_pos n (show (0 : Int) < 65537 by decide)
    omega
  · exact Int.tmod_lt_of_pos n (by decide)
theorem modG_range (n : Int) : 0 ≤ modG n ∧ modG n < 65537 := by
  unfold modG
  have := tmod_range n
  exact ⟨Int.tmod_nonneg _ (by omega), Int.tmod_lt_of_pos _ (by decide)⟩

theorem ok116 : SpecOK Try.prog 116 moduloS := by
  refine specOK (n := 7) (m := 0) (lps := []) .nil Try.func116 (by kernel_rfl) (by kernel_rfl) (noLoops (by kernel_rfl)) fun args σ K h => ?_
  unfold moduloS at h
  split at h
  · rename_i n
    refine (ex116 _ K).mpr ?_
    have := tmod_range n
    rw [wrap_id (by omega) (by omega)]
    exact h
  · exact h.elim

theorem mul_range {a b : Int} (h : 0 ≤ a ∧ a < 65537 ∧ 0 ≤ b ∧ b < 65537) : 0 ≤ a * b ∧ a * b < 4295098369 := by
  obtain ⟨h1, h2, h3, h4⟩ := h
  refine ⟨Int.mul_nonneg h1 h3, ?_⟩
  have e1 : a * b ≤ 65536 * b := Int.mul_le_mul_of_nonneg_right (by omega) h3
  omega
theorem ok130 : SpecOK Try.prog 130 timesS := by
  refine specOK (n := 9) (m := 0) (lps := []) (.cons ok116 .nil) Try.func130 (by kernel_rfl) (by kernel_rfl) (noLoops (by kernel_rfl)) fun args σ K h => ?_
  unfold timesS at h
  split at h
  · rename_i a b
    refine (ex130 _ _ K).mpr ?_
    have := mul_range h.1
    rw [wrap_id (by omega) (by omega)]
    exact h.2
  · exact h.elim

theorem lok98 : LoopOK E98 (lb Try.f98 0) [3, 4, 5] [3] invL := by
  refine loopOK (.cons ok130 .nil) (noInner (by kernel_rfl)) (fun vs _ => match vs with
    | [_, _, .one (.int .i64 n)] => n.toNat
    | _ => 0) fun vs σ k h => ?_
  unfold invL at h
  split at h
  · rename_i a b n
    obtain ⟨⟨h1, h2, h3, h4, h5, h6⟩, h⟩ := h
    refine (ex98a a b n _).mpr ?_
    by_cases hn : n > 0
    · rw [invF, if_neg (by omega)] at h
      have hd : n.tdiv 2 = n / 2 := Int.tdiv_eq_ediv_of_nonneg h5
      have hm : n.tmod 2 = n % 2 := Int.tmod_eq_emod_of_nonneg h5
      have hw : IntKind.i64.wrap (n / 2) = n / 2 := wrap_id (by omega) (by omega)
      have hq : (n / 2).toNat = n.toNat / 2 := by omega
      have r1 := modG_range (a * b)
      have r2 := modG_range (b * b)
      rw [decide_eq_true hn, hd, hm, hw]
      by_cases ho : n % 2 = 1
      · have ho' : n.toNat % 2 = 1 := by omega
        rw [if_pos ho'] at h
        simp only [ho, beq_self_eq_true, cond_true]
        refine ⟨⟨h1, h2, h3, h4⟩, ⟨h3, h4, h3, h4⟩, ⟨⟨r1.1, r1.2, r2.1, r2.2, by omega, by omega⟩, ?_⟩, by omega⟩
        rw [hq]
        exact h
      · have ho' : ¬ n.toNat % 2 = 1 := by omega
        rw [if_neg ho'] at h
        have hb : (n % 2 == 1) = false := beq_eq_false_iff_ne.2 ho
        simp only [hb, cond_true, cond_false]
        refine ⟨⟨h3, h4, h3, h4⟩, ⟨⟨h1, h2, r2.1, r2.2, by omega, by omega⟩, ?_⟩, by omega⟩
        rw [hq]
        exact h
    · have e : n.toNat = 0 := by omega
      rw [e, invF, if_pos rfl] at h
      rw [decide_eq_false hn]
      exact h
  · exact h.elim

theorem ok98 : SpecOK Try.prog 98 inverseS := by
  refine specOK (n := 21) (m := 0) (lps := [(3, .spec [3, 4, 5] [3] invL)]) (.cons ok130 .nil) Try.func98 (by kernel_rfl) (by kernel_rfl) (theLoops (n := 1) (by kernel_rfl) fun i hi => ?_) fun args σ K h => ?_
  · match i, hi with
    | 0, _ => exact loopHyp_of (key := 3) (by kernel_rfl) rfl lok98
  · unfold inverseS at h
    split at h
    · rename_i a
      refine (ex98 _ K).mpr ⟨⟨by omega, by omega, h.1.1, h.1.2, by omega, by omega⟩, h.2⟩
    · exact h.elim

theorem ok39 : SpecOK Try.prog 39 inverseOfS := by
  refine specOK (n := 18) (m := 0) (lps := []) (.cons ok97 (.cons ok70 (.cons ok69 (.cons ok98 .nil)))) Try.func39 (by kernel_rfl) (by kernel_rfl) (noLoops (by kernel_rfl)) fun args σ K h => ?_
  unfold inverseOfS at h
  split at h
  · rename_i n
    refine (ex39 _ K).mpr ⟨by simp, ?_⟩
    cases hw : withinG n 0 65536 with
    | false => rw [hw] at h; exact h
    | true =>
      rw [hw] at h
      unfold withinG at hw
      simp only [Bool.and_eq_true, decide_eq_true_eq] at hw
      cases hz : n == 0 with
      | true =>
        rw [hz] at h
        simp only [bne, hz]
        exact h
      | false =>
        rw [hz] at h
        simp only [bne, hz]
        exact ⟨⟨by omega, by omega⟩, h⟩
  · exact h.elim

theorem all_step {p : Int → Bool} {l : List Int} {i : Int} (h0 : 0 ≤ i) (h : i < l.length) : (l.drop i.toNat).all p = (p (l.getD i.toNat 0) && (l.drop (i + 1).toNat).all p) := by
  rw [drop_step 0 (by omega), show (i + 1).toNat = i.toNat + 1 by omega]
  rfl

theorem lok91 : LoopOK E91 (lb Try.f91 0) [1, 8, 9, 10] [4] eachL := by
  refine loopOK (.cons ok92 .nil) (noInner (by kernel_rfl)) (fun vs _ => match vs with
    | [_, .one (.data (.ints .i64 l)), _, .one (.int .i64 i)] => l.length - i.toNat
    | _ => 0) fun vs σ k h => ?_
  unfold eachL at h
  split at h
  · rename_i l n i
    obtain ⟨⟨h1, h2, rfl⟩, h⟩ := h
    refine (ex91a l _ i _).mpr ?_
    simp only [count_ints, hasN_one, has_ints, Nat.add_zero]
    by_cases hi : i < l.length
    · have hw : IntKind.i64.wrap (i + 1) = i + 1 := wrap_id (by omega) (by omega)
      have hi' : i.toNat < l.length := by omega
      rw [all_step h2 hi] at h
      simp only [hi, hi', h2, hw, decide_true, Bool.and_self, cond_true]
      cases hs : sampleG (l.getD i.toNat 0) with
      | true =>
        rw [hs] at h
        exact ⟨⟨⟨h1, by omega, rfl⟩, h⟩, by first | omega | (dsimp only; omega)⟩
      | false => rw [hs] at h; exact h
    · rw [List.drop_eq_nil_of_le (by omega)] at h
      simp only [hi, decide_false, cond_false]
      exact h
  · exact h.elim

theorem ok91 : SpecOK Try.prog 91 eachS := by
  refine specOK (n := 21) (m := 0) (lps := [(2, .spec [1, 8, 9, 10] [4] eachL)]) (.cons ok92 .nil) Try.func91 (by kernel_rfl) (by kernel_rfl) (theLoops (n := 1) (by kernel_rfl) fun i hi => ?_) fun args σ K h => ?_
  · match i, hi with
    | 0, _ => exact loopHyp_of (key := 2) (by kernel_rfl) rfl lok91
  · unfold eachS at h
    split at h
    · rename_i l
      refine (ex91 l K).mpr ⟨⟨h.1, by omega, rfl⟩, ?_⟩
      obtain ⟨_, h⟩ := h
      simp only [List.drop_zero]
      cases hs : l.all sampleG <;> rw [hs] at h <;> exact h
    · exact h.elim

theorem ok82 : SpecOK Try.prog 82 samplesS := by
  refine specOK (n := 5) (m := 0) (lps := []) (.cons ok91 .nil) Try.func82 (by kernel_rfl) (by kernel_rfl) (noLoops (by kernel_rfl)) fun args σ K h => ?_
  unfold samplesS at h
  split at h
  · exact (ex82 _ _ _ _ _ _ _ _ K).mpr ⟨by simp, h⟩
  · exact h.elim

theorem ok78 : SpecOK Try.prog 78 contentS := by
  refine specOK (n := 15) (m := 0) (lps := []) (.cons ok94 (.cons ok93 (.cons ok70 (.cons ok69 (.cons ok82 .nil))))) Try.func78 (by kernel_rfl) (by kernel_rfl) (noLoops (by kernel_rfl)) fun args σ K h => ?_
  unfold contentS at h
  split at h
  · rename_i c ch x0 x1 x2 x3 x4 x5 x6 x7 sm
    refine (ex78 _ _ _ _ _ _ _ _ _ _ sm K).mpr ⟨by simp, ?_⟩
    unfold contentG at h
    revert h
    generalize withinG c 0 65535 = b1
    generalize withinG ch 0 3 = b2
    generalize [x0, x1, x2, x3, x4, x5, x6, x7].all sampleG = b3
    cases b1 <;> cases b2 <;> cases b3 <;> exact id
  · exact h.elim

theorem sample_range {n : Int} (h : sampleG n = true) : -32767 ≤ n ∧ n ≤ 32767 := by
  unfold sampleG withinG at h
  simpa using h

theorem ok79 : SpecOK Try.prog 79 sumS := by
  refine specOK (n := 29) (m := 0) (lps := [(3, .unroll 9)]) .nil Try.func79 (by kernel_rfl) (by kernel_rfl) (theLoops (n := 1) (by kernel_rfl) fun i hi => ?_) fun args σ K h => ?_
  · match i, hi with
    | 0, _ => exact loopHyp_none (key := 3) (n := 9) (by kernel_rfl) rfl
  unfold sumS at h
  split at h
  · rename_i c ch x0 x1 x2 x3 x4 x5 x6 x7 sm
    have e79 := ex79 c ch x0 x1 x2 x3 x4 x5 x6 x7 sm K
    unfold E79 at e79
    rw [e79]
    clear e79
    obtain ⟨hc, h⟩ := h
    unfold contentG withinG at hc
    simp only [Bool.and_eq_true, decide_eq_true_eq, List.all_cons, List.all_nil, and_true] at hc
    obtain ⟨⟨⟨a1, a2⟩, ⟨b1, b2⟩⟩, s0, s1, s2, s3, s4, s5, s6, s7⟩ := hc
    have r0 := sample_range s0
    have r1 := sample_range s1
    have r2 := sample_range s2
    have r3 := sample_range s3
    have r4 := sample_range s4
    have r5 := sample_range s5
    have r6 := sample_range s6
    have r7 := sample_range s7
    simp (disch := omega) only [wrap_id]
    have e : (9 * c + 10 * ch + 1 * (x0 + 32768) + 2 * (x1 + 32768) + 3 * (x2 + 32768) + 4 * (x3 + 32768) + 5 * (x4 + 32768) + 6 * (x5 + 32768) + 7 * (x6 + 32768) + 8 * (x7 + 32768)) = 9 * c + 10 * ch + sumA 1 [x0, x1, x2, x3, x4, x5, x6, x7] := by
      simp only [sumA]
      omega
    rw [e]
    exact h
  · exact h.elim

theorem ok20 : SpecOK Try.prog 20 sumOfS := by
  refine specOK (n := 12) (m := 0) (lps := []) (.cons ok78 (.cons ok79 .nil)) Try.func20 (by kernel_rfl) (by kernel_rfl) (noLoops (by kernel_rfl)) fun args σ K h => ?_
  unfold sumOfS at h
  split at h
  · rename_i c ch x0 x1 x2 x3 x4 x5 x6 x7 sm
    refine (ex20 _ _ _ _ _ _ _ _ _ _ sm K).mpr ?_
    cases hc : contentG c ch [x0, x1, x2, x3, x4, x5, x6, x7] with
    | false => rw [hc] at h; exact h
    | true => rw [hc] at h; exact ⟨rfl, h⟩
  · exact h.elim

theorem lok30 : LoopOK E30 (lb Try.f30 0) [0, 1, 5] [4] intsL := by
  refine loopOK .nil (noInner (by kernel_rfl)) (fun vs _ => match vs with
    | [.one (.data (.ints .i64 l)), _, .one (.int .i64 i)] => l.length - i.toNat
    | _ => 0) fun vs σ k h => ?_
  unfold intsL at h
  split at h
  · rename_i a b i
    obtain ⟨⟨h1, h2, h3⟩, h⟩ := h
    refine (ex30a a b i _).mpr ?_
    simp only [count_ints, hasN_one, has_ints, Nat.add_zero]
    by_cases hi : i < a.length
    · have hw : IntKind.i64.wrap (i + 1) = i + 1 := wrap_id (by omega) (by omega)
      have hi' : i.toNat < a.length := by omega
      have hj : i < b.length := by omega
      have hj' : i.toNat < b.length := by omega
      rw [drop_step 0 hi', drop_step 0 hj', show i.toNat + 1 = (i + 1).toNat by omega, List.cons_beq_cons] at h
      simp only [hi, hi', hj, hj', h3, hw, decide_true, Bool.and_self, cond_true, bne]
      cases hs : a.getD i.toNat 0 == b.getD i.toNat 0 with
      | true =>
        rw [hs, Bool.true_and] at h
        exact ⟨⟨⟨h1, h2, by omega⟩, h⟩, by first | omega | (dsimp only; omega)⟩
      | false => rw [hs] at h; exact h
    · rw [List.drop_eq_nil_of_le (by omega), List.drop_eq_nil_of_le (by omega)] at h
      simp only [hi, decide_false, cond_false]
      exact h
  · exact h.elim

theorem ok30 : SpecOK Try.prog 30 intsS := by
  refine specOK (n := 26) (m := 0) (lps := [(4, .spec [0, 1, 5] [4] intsL)]) .nil Try.func30 (by kernel_rfl) (by kernel_rfl) (theLoops (n := 1) (by kernel_rfl) fun i hi => ?_) fun args σ K h => ?_
  · match i, hi with
    | 0, _ => exact loopHyp_of (key := 4) (by kernel_rfl) rfl lok30
  · unfold intsS at h
    split at h
    · rename_i a b
      refine (ex30 a b K).mpr ?_
      obtain ⟨h1, h⟩ := h
      simp only [count_ints, bne]
      by_cases hl : a.length = b.length
      · have e : ((a.length : Int) == (b.length : Int)) = true := by simp [hl]
        rw [e]
        refine ⟨⟨h1, hl, by omega⟩, ?_⟩
        simp only [List.drop_zero]
        cases hs : a == b <;> rw [hs] at h <;> exact h
      · have e : ((a.length : Int) == (b.length : Int)) = false := by simp; omega
        have e2 : (a == b) = false := beq_eq_false_iff_ne.2 fun hh => hl (by rw [hh])
        rw [e2] at h
        rw [e]
        exact h
    · exact h.elim
end Go.Ev
