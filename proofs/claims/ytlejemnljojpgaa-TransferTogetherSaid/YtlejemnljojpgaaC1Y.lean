/-
  Chapter 1: streams of the reference, further: the contracts are kept.
-/
import Derived.Test.YtlejemnljojpgaaC1X
set_option linter.unusedVariables false
set_option linter.unusedSimpArgs false
set_option linter.unusedSectionVars false
namespace Go.Ev
open Go Go.Proofs
attribute [local irreducible] evFn evBody evRound
set_option maxRecDepth 20000
set_option linter.unusedVariables false
set_option linter.unusedSimpArgs false

theorem loksr_0 : LoopOK EsrF1 (lb Try.f60 0) [5, 6, 7, 8] [] srL := by
  refine loopOK (.cons oknwD .nil) (noInner (by kernel_rfl)) (fun vs σ => match vs, σ with
    | [.one (.data (.mat .i64 11 X)), .one (.ptr 0 1 0 0), .one (.int .i64 _), .one (.int .i64 n)], [.cells [.int .i64 _, .nil, .nil]] => (lastA X + 1 - n).toNat
    | [.one (.data (.mat .i64 11 X)), .one (.ptr 0 1 0 0), .one (.int .i64 _), .one (.int .i64 n)], [.cells [.int .i64 _, .own 1 1, .nil], .row 3 (.ints .i64 _)] => (lastA X + 1 - n).toNat
    | [.one (.data (.mat .i64 11 X)), .one (.ptr 0 1 0 0), .one (.int .i64 _), .one (.int .i64 n)], [.cells [.int .i64 _, .own 1 1, .own 2 2], .row 3 (.ints .i64 _), .row 99 (.mat .i64 2 _)] => (lastA X + 1 - n).toNat
    | _, _ => 0) fun vs σ k h => ?_
  unfold srL at h
  split at h
  rotate_right
  · exact h.elim
  · rename_i X j n f
    rw [exsrl0a X j n f _]
    obtain ⟨⟨hok, hn0⟩, h⟩ := h
    obtain ⟨⟨h1, h2, h3, h4, h5, h6⟩, h7, h8, h9, h10, h11, h12⟩ := id hok
    have hb0 := h3 0 (by omega)
    have hb1 := h3 (X.length - 1) (by omega)
    have hw1 : IntKind.i64.wrap ((X.length : Int) - 1) = ((X.length - 1 : Nat) : Int) := by rw [wrap_id (by omega) (by omega)]; omega
    have ec1 : (X.getD (X.length - 1) []).getD 0 0 = lastA X := rfl
    have hle : n ≤ lastA X := by
      unfold lastA
      rcases Nat.eq_zero_or_pos (X.length - 1) with e | e
      · rw [e]; omega
      · have := h2 0 (X.length - 1) e (by omega); omega
    obtain ⟨hj, hlk⟩ := lk_at hok hle
    obtain ⟨s1, s2⟩ := okSr_next hok hle
    have d1 : decide (0 ≤ ((X.length - 1 : Nat) : Int)) = true := decide_eq_true (by omega)
    have d2 : decide (((X.length - 1 : Nat) : Int) < (X.length : Int)) = true := decide_eq_true (by omega)
    have d3 : decide (X.length - 1 < X.length) = true := decide_eq_true (by omega)
    have d4 : decide (0 ≤ j) = true := decide_eq_true h7
    have d5 : decide (j < (X.length : Int)) = true := decide_eq_true (by omega)
    have d6 : decide (j.toNat < X.length) = true := decide_eq_true hj
    have d7 : decide (n ≤ lastA X) = true := decide_eq_true hle
    have hwn : IntKind.i64.wrap (n + 1) = n + 1 := wrap_id (by omega) (by unfold lastA at hle; omega)
    have hwj : IntKind.i64.wrap (j + 1) = j + 1 := wrap_id (by omega) (by omega)
    have hmu : (lastA X + 1 - (n + 1)).toNat < (lastA X + 1 - n).toNat := by omega
    have en : (lastA X - n + 1).toNat = (lastA X - (n + 1) + 1).toNat + 1 := by omega
    obtain ⟨x, hx, _, hgx, _⟩ := row11 hj h1
    rw [en, strG, List.nil_append, hlk] at h
    rw [hw1, Int.toNat_natCast, ec1, hwn, hwj]
    have ej : (X.getD j.toNat []).getD 0 0 = cntA X j.toNat := rfl
    rw [ej]
    simp only [d1, d2, d3, d4, d5, d6, d7, show decide (0 < 11) = true by decide, show decide (10 ≤ 11) = true by decide, Bool.and_self, cond_true]
    rw [hgx] at h ⊢
    rw [sam_drop hx, hx]
    cases hc : cntA X j.toNat == n with
    | true =>
      rw [hc, cond_true] at h s1
      have hl : (samX x).length = 8 := rfl
      rw [hl]
      exact ⟨⟨⟨s1, s2, by rw [hl]; omega⟩, h⟩, hmu⟩
    | false =>
      rw [hc, cond_false] at h s1
      exact ⟨⟨⟨s1, s2, by simp; omega, rfl, by simp, by simp; omega⟩, h⟩, hmu⟩
  · rename_i X j n f S
    rw [exsrl0b X j n f S _]
    obtain ⟨⟨hok, hn0, hS⟩, h⟩ := h
    obtain ⟨⟨h1, h2, h3, h4, h5, h6⟩, h7, h8, h9, h10, h11, h12⟩ := id hok
    have hb0 := h3 0 (by omega)
    have hb1 := h3 (X.length - 1) (by omega)
    have hw1 : IntKind.i64.wrap ((X.length : Int) - 1) = ((X.length - 1 : Nat) : Int) := by rw [wrap_id (by omega) (by omega)]; omega
    have ec1 : (X.getD (X.length - 1) []).getD 0 0 = lastA X := rfl
    have d1 : decide (0 ≤ ((X.length - 1 : Nat) : Int)) = true := decide_eq_true (by omega)
    have d2 : decide (((X.length - 1 : Nat) : Int) < (X.length : Int)) = true := decide_eq_true (by omega)
    have d3 : decide (X.length - 1 < X.length) = true := decide_eq_true (by omega)
    rw [hw1, Int.toNat_natCast, ec1]
    by_cases hle : n ≤ lastA X
    · obtain ⟨hj, hlk⟩ := lk_at hok hle
      obtain ⟨s1, s2⟩ := okSr_next hok hle
      have d4 : decide (0 ≤ j) = true := decide_eq_true h7
      have d5 : decide (j < (X.length : Int)) = true := decide_eq_true (by omega)
      have d6 : decide (j.toNat < X.length) = true := decide_eq_true hj
      have d7 : decide (n ≤ lastA X) = true := decide_eq_true hle
      have hwn : IntKind.i64.wrap (n + 1) = n + 1 := wrap_id (by omega) (by unfold lastA at hle; omega)
      have hwj : IntKind.i64.wrap (j + 1) = j + 1 := wrap_id (by omega) (by omega)
      have hmu : (lastA X + 1 - (n + 1)).toNat < (lastA X + 1 - n).toNat := by omega
      have en : (lastA X - n + 1).toNat = (lastA X - (n + 1) + 1).toNat + 1 := by omega
      obtain ⟨x, hx, _, hgx, _⟩ := row11 hj h1
      have hSb : S.length ≤ 480 := by unfold lastA at hle; omega
      rw [en, strG, hlk] at h
      rw [hwn, hwj]
      have ej : (X.getD j.toNat []).getD 0 0 = cntA X j.toNat := rfl
      rw [ej]
      simp only [d1, d2, d3, d4, d5, d6, d7, show decide (0 < 11) = true by decide, show decide (10 ≤ 11) = true by decide, Bool.and_self, cond_true]
      rw [hgx] at h ⊢
      rw [sam_drop hx, hx]
      cases hc : cntA X j.toNat == n with
      | true =>
        rw [hc, cond_true] at h s1
        have hl : (S ++ samX x).length = S.length + 8 := by rw [List.length_append]; rfl
        rw [hl, decide_eq_true (show (S.length + 8) * 8 ≤ 140737488355328 ∧ S.length + 8 ≤ 140737488355328 by omega)]
        exact ⟨⟨⟨s1, s2, by rw [hl]; omega⟩, h⟩, hmu⟩
      | false =>
        rw [hc, cond_false] at h s1
        rw [decide_eq_true (show (S.length + 8) * 8 ≤ 140737488355328 ∧ S.length + 8 ≤ 140737488355328 by omega)]
        have hw8 : IntKind.i64.wrap ((S.length : Int) + 8) = S.length + 8 := wrap_id (by omega) (by omega)
        have hw9 : IntKind.i64.wrap ((S.length : Int) + 8 - 1) = S.length + 7 := by rw [wrap_id (by omega) (by omega)]; omega
        rw [hw8, hw9]
        exact ⟨⟨⟨s1, s2, by simp; omega, rfl, by simp, by simp; omega⟩, h⟩, hmu⟩
    · have hz : (lastA X - n + 1).toNat = 0 := by unfold lastA at hle ⊢; omega
      rw [hz, strG, putR_one (by omega)] at h
      simp only [d1, d2, d3, decide_eq_false hle, show decide (0 < 11) = true by decide, Bool.and_self, cond_true, cond_false]
      exact h
  · rename_i X j n f S G
    rw [exsrl0c X j n f S G _]
    obtain ⟨⟨hok, hn0, hS, hG1, hG2, hG3⟩, h⟩ := h
    obtain ⟨⟨h1, h2, h3, h4, h5, h6⟩, h7, h8, h9, h10, h11, h12⟩ := id hok
    have hb0 := h3 0 (by omega)
    have hb1 := h3 (X.length - 1) (by omega)
    have hw1 : IntKind.i64.wrap ((X.length : Int) - 1) = ((X.length - 1 : Nat) : Int) := by rw [wrap_id (by omega) (by omega)]; omega
    have ec1 : (X.getD (X.length - 1) []).getD 0 0 = lastA X := rfl
    have d1 : decide (0 ≤ ((X.length - 1 : Nat) : Int)) = true := decide_eq_true (by omega)
    have d2 : decide (((X.length - 1 : Nat) : Int) < (X.length : Int)) = true := decide_eq_true (by omega)
    have d3 : decide (X.length - 1 < X.length) = true := decide_eq_true (by omega)
    rw [hw1, Int.toNat_natCast, ec1]
    by_cases hle : n ≤ lastA X
    · obtain ⟨hj, hlk⟩ := lk_at hok hle
      obtain ⟨s1, s2⟩ := okSr_next hok hle
      have d4 : decide (0 ≤ j) = true := decide_eq_true h7
      have d5 : decide (j < (X.length : Int)) = true := decide_eq_true (by omega)
      have d6 : decide (j.toNat < X.length) = true := decide_eq_true hj
      have d7 : decide (n ≤ lastA X) = true := decide_eq_true hle
      have hwn : IntKind.i64.wrap (n + 1) = n + 1 := wrap_id (by omega) (by unfold lastA at hle; omega)
      have hwj : IntKind.i64.wrap (j + 1) = j + 1 := wrap_id (by omega) (by omega)
      have hmu : (lastA X + 1 - (n + 1)).toNat < (lastA X + 1 - n).toNat := by omega
      have en : (lastA X - n + 1).toNat = (lastA X - (n + 1) + 1).toNat + 1 := by omega
      obtain ⟨x, hx, _, hgx, _⟩ := row11 hj h1
      have hSb : S.length ≤ 480 := by unfold lastA at hle; omega
      rw [en, strG, hlk] at h
      unfold exsrl0c_x0
      rw [hwn, hwj]
      have ej : (X.getD j.toNat []).getD 0 0 = cntA X j.toNat := rfl
      rw [ej]
      simp only [d1, d2, d3, d4, d5, d6, d7, show decide (0 < 11) = true by decide, show decide (10 ≤ 11) = true by decide, Bool.and_self, cond_true]
      rw [hgx] at h ⊢
      rw [sam_drop hx, hx]
      cases hc : cntA X j.toNat == n with
      | true =>
        rw [hc, cond_true] at h s1
        have hl : (S ++ samX x).length = S.length + 8 := by rw [List.length_append]; rfl
        rw [hl, decide_eq_true (show (S.length + 8) * 8 ≤ 140737488355328 ∧ S.length + 8 ≤ 140737488355328 by omega)]
        exact ⟨⟨⟨s1, s2, by rw [hl]; omega, hG1, hG2, by omega⟩, h⟩, hmu⟩
      | false =>
        rw [hc, cond_false] at h s1
        rw [decide_eq_true (show (S.length + 8) * 8 ≤ 140737488355328 ∧ S.length + 8 ≤ 140737488355328 by omega)]
        have hw8 : IntKind.i64.wrap ((S.length : Int) + 8) = S.length + 8 := wrap_id (by omega) (by omega)
        have hw9 : IntKind.i64.wrap ((S.length : Int) + 8 - 1) = S.length + 7 := by rw [wrap_id (by omega) (by omega)]; omega
        have hwG : IntKind.i64.wrap ((G.length : Int) - 1) = ((G.length - 1 : Nat) : Int) := by rw [wrap_id (by omega) (by omega)]; omega
        have hwS : IntKind.i64.wrap ((S.length : Int) - 1) = S.length - 1 := wrap_id (by omega) (by omega)
        rw [hw8, hw9, hwG, hwS, Int.toNat_natCast]
        obtain ⟨g1, g2, g3⟩ := gapG_len (S.length : Int) hG1
        have hGl : G.length - 1 < G.length := by omega
        have hr : (G.getD (G.length - 1) []).length = 2 := by
          have := List.all_eq_true.1 hG1 _ (List.getElem_mem hGl)
          rw [List.getD_eq_getElem?_getD, List.getElem?_eq_getElem hGl]
          unfold len2 at this
          simpa using this
        have e1 : decide (((G.length - 1 : Nat) : Int) ≥ 0) = true := decide_eq_true (by omega)
        have e2 : decide (0 ≤ ((G.length - 1 : Nat) : Int)) = true := decide_eq_true (by omega)
        have e3 : decide (((G.length - 1 : Nat) : Int) < (G.length : Int)) = true := decide_eq_true (by omega)
        have e4 : decide (G.length - 1 < G.length) = true := decide_eq_true hGl
        simp only [e1, e2, e3, e4, hr, show decide (0 < (8 : Int)) = true by decide, show decide (1 < 2) = true by decide, show decide (2 = 2) = true by decide, Bool.and_self, cond_true]
        have hgap : gapG G (S.length : Int) = bif (G.getD (G.length - 1) []).getD 1 0 == (S.length : Int) - 1 then G.set (G.length - 1) ((G.getD (G.length - 1) []).set 1 (S.length + 7)) else G ++ [[(S.length : Int), S.length + 7]] := by
          unfold gapG
          rw [decide_eq_true (show 1 ≤ G.length by omega), Bool.true_and]
        have hl : (S ++ [0, 0, 0, 0, 0, 0, 0, 0]).length = S.length + 8 := by simp
        cases hg : (G.getD (G.length - 1) []).getD 1 0 == (S.length : Int) - 1 with
        | true =>
          rw [hg, cond_true] at hgap
          rw [cond_true, ← hgap]
          exact ⟨⟨⟨s1, s2, by rw [hl]; omega, g1, g2, by omega⟩, h⟩, hmu⟩
        | false =>
          rw [hg, cond_false] at hgap
          have hGb : G.length ≤ 61 := by unfold lastA at hle; omega
          rw [cond_false, ← hgap, decide_eq_true (show (gapG G (S.length : Int)).length * 16 ≤ 140737488355328 ∧ (gapG G (S.length : Int)).length ≤ 140737488355328 by omega), cond_true]
          exact ⟨⟨⟨s1, s2, by rw [hl]; omega, g1, g2, by omega⟩, h⟩, hmu⟩
    · have hz : (lastA X - n + 1).toNat = 0 := by unfold lastA at hle ⊢; omega
      rw [hz, strG, putR_two (by omega) hG2] at h
      simp only [d1, d2, d3, decide_eq_false hle, show decide (0 < 11) = true by decide, Bool.and_self, cond_true, cond_false]
      exact h
theorem oksr : SpecOK Try.prog 60 srS := by
  refine specOK (n := 95) (m := 0) (lps := [(5, .frm 1 [5, 6, 7, 8] [] srL)]) (.cons oknwD .nil) Try.func60 (by kernel_rfl) (by kernel_rfl) (theLoops (n := 1) (by kernel_rfl) fun i hi => ?_) fun args σ K h => ?_
  · match i, hi with
    | 0, _ => exact loopHyp_frm (E' := EsrF1) (key := 5) (m := 1) (by kernel_rfl) rfl rfl loksr_0
  unfold srS at h
  split at h
  rotate_right
  · exact h.elim
  rename_i l ch
  rw [exsr l ch K]
  obtain ⟨⟨h1, h0⟩, h⟩ := h
  obtain ⟨z1, z2, z3, z4, z5, z6⟩ := rcE_zero h1 h0
  obtain ⟨o1, o2, o3, o4⟩ := okX_own h1 h0
  refine And.intro ⟨h1, z2⟩ ?_
  have hsr : okSr (srtG (ownB l ch)) 0 (cntA (srtG (ownB l ch)) 0) := by
    obtain ⟨p1, p2, p3, p4, p5, p6⟩ := id o1
    refine ⟨o1, by decide, by omega, fun i hi => by simp at hi, fun i _ hi => ?_, Int.le_refl _, ?_⟩
    · rcases Nat.eq_zero_or_pos i with rfl | hp
      · exact Int.le_refl _
      · exact Int.le_of_lt (p2 0 i hp hi)
    · rcases Nat.eq_zero_or_pos ((srtG (ownB l ch)).length - 1) with e | e
      · rw [e]; omega
      · have := p2 0 _ e (by omega); omega
  have hpos := o1.2.2.2.1
  have d4 : decide ((0 : Int) < ((srtG (ownB l ch)).length : Int)) = true := decide_eq_true (by omega)
  have d5 : decide (0 < (srtG (ownB l ch)).length) = true := decide_eq_true (by omega)
  have ec0 : ((srtG (ownB l ch)).getD 0 []).getD 0 0 = cntA (srtG (ownB l ch)) 0 := rfl
  rw [ec0]
  simp only [d4, d5, show decide ((0 : Int) ≤ 0) = true by decide, show decide (0 < 11) = true by decide, Bool.and_self, cond_true]
  refine And.intro ⟨hsr, trivial⟩ ?_
  rw [o2, o3, o4]
  have hlen := strG_len (lkO (ownB l ch)) (smp_len (ownB l ch)) (cmax (ownB l ch) - cmin (ownB l ch) + 1).toNat (cmin (ownB l ch)) ([], [])
  obtain ⟨_, _, q3, q4, q5, q6, q7, q8⟩ := z6
  have hne : (strG (lkO (ownB l ch)) (cmax (ownB l ch) - cmin (ownB l ch) + 1).toNat (cmin (ownB l ch)) ([], [])).1.isEmpty = false := by
    cases hh : (strG (lkO (ownB l ch)) (cmax (ownB l ch) - cmin (ownB l ch) + 1).toNat (cmin (ownB l ch)) ([], [])).1 with
    | nil => rw [hh] at hlen; simp at hlen; omega
    | cons _ _ => rfl
  rw [hne, cond_false]
  exact h
theorem oksrD : SpecOK Try.prog 60 srDS := by
  refine oksr.froze fun args σ K h => ?_
  unfold srDS at h
  split at h
  rotate_right
  · exact h.elim
  rename_i l ch
  obtain ⟨⟨h1, h0⟩, h⟩ := h
  refine ⟨rfl, ⟨h1, h0⟩, ?_⟩
  unfold stA stS stP at h
  rw [h0] at h
  cases hg : (strO (ownB l ch)).2 with
  | nil =>
    rw [hg] at h
    exact ⟨.agg [.int .i64 (cmin (ownB l ch)), .data (.ints .i64 (strO (ownB l ch)).1), .data (.mat .i64 2 [])], ⟨rfl, ⟨_, _, rfl, rfl, rfl⟩, .inr ⟨.mat .i64 2 [], rfl, rfl⟩, trivial⟩, h⟩
  | cons g G =>
    rw [hg] at h
    exact ⟨.agg [.int .i64 (cmin (ownB l ch)), .data (.ints .i64 (strO (ownB l ch)).1), .data (.mat .i64 2 (g :: G))], ⟨rfl, ⟨_, _, rfl, rfl, rfl⟩, ⟨_, _, rfl, rfl, rfl⟩, trivial⟩, h⟩
/-! The missing counters. -/
theorem misG_add (lk : Int → Option (List Int)) : ∀ (p q : Nat) (c : Int), misG lk (p + q) c = misG lk p c ++ misG lk q (c + p)
  | 0, q, c => by simp [misG]
  | p + 1, q, c => by
    rw [show p + 1 + q = (p + q) + 1 by omega, misG, misG, misG_add lk p q (c + 1)]
    have e : c + 1 + (p : Int) = c + ((p + 1 : Nat) : Int) := by omega
    rw [e]
    cases (lk c).isSome <;> rfl
theorem misG_len (lk : Int → Option (List Int)) : ∀ (p : Nat) (c : Int), (misG lk p c).length ≤ p
  | 0, _ => by simp [misG]
  | p + 1, c => by
    have := misG_len lk p (c + 1)
    rw [misG]
    cases (lk c).isSome <;> simp <;> omega
theorem lk_none {X : List (List Int)} {i : Nat} {n : Int} (h : okX X) (hi : i < X.length) (h1 : cntA X (i - 1) < n ∨ i = 0) (h2 : n < cntA X i) : lkO X n = none := by
  obtain ⟨_, p2, _⟩ := h
  unfold lkO
  have : X.find? (fun x => cnt x == n) = none := by
    rw [List.find?_eq_none]
    intro x hx
    obtain ⟨k, hk, rfl⟩ := List.getElem_of_mem hx
    rw [← cntA_get hk]
    simp only [beq_iff_eq]
    intro e
    rcases Nat.lt_or_ge k i with hlt | hge
    · rcases h1 with h1 | h1
      · rcases Nat.lt_or_ge k (i - 1) with h3 | h3
        · have := p2 k (i - 1) h3 (by omega); omega
        · rw [show k = i - 1 by omega] at e; omega
      · omega
    · rcases Nat.lt_or_ge i k with h3 | h3
      · have := p2 i k h3 hk; omega
      · rw [show k = i by omega] at e; omega
  rw [this]; rfl
theorem lk_some {X : List (List Int)} {i : Nat} (h : okX X) (hi : i < X.length) : (lkO X (cntA X i)).isSome = true := by
  unfold lkO
  cases hf : X.find? (fun x => cnt x == cntA X i) with
  | some y => rfl
  | none =>
    have := List.find?_eq_none.1 hf X[i] (List.getElem_mem hi)
    rw [cntA_get hi] at this
    simp at this
theorem cntA_le {X : List (List Int)} (h : okX X) : ∀ i j, i ≤ j → j < X.length → cntA X i ≤ cntA X j := by
  intro i j hij hj
  rcases Nat.lt_or_ge i j with hlt | hge
  · exact Int.le_of_lt (h.2.1 i j hlt hj)
  · rw [show i = j by omega]; exact Int.le_refl _
theorem missR_step {X : List (List Int)} {i : Nat} (h : okX X) (h1 : 1 ≤ i) (hi : i < X.length) : missR X i = misG (lkO X) (cntA X i - (cntA X (i - 1) + 1)).toNat (cntA X (i - 1) + 1) ++ missR X (i + 1) := by
  have hs := h.2.1 (i - 1) i (by omega) hi
  have hl : cntA X i ≤ lastA X := cntA_le h _ _ (by omega) (by omega)
  unfold missR
  have e : (lastA X - cntA X (i - 1)).toNat = (cntA X i - (cntA X (i - 1) + 1)).toNat + ((lastA X - cntA X i).toNat + 1) := by omega
  rw [e, misG_add]
  have e2 : cntA X (i - 1) + 1 + ((cntA X i - (cntA X (i - 1) + 1)).toNat : Int) = cntA X i := by omega
  rw [e2, misG, lk_some h hi, cond_true, Nat.add_sub_cancel]
theorem lokmo_1 : LoopOK Emo (lb Try.f61 1) [5, 6, 7, 8] [5, 6, 7] moB := by
  refine loopOK (.cons oknwD .nil) (noInner (by kernel_rfl)) (fun vs σ => match vs, σ with
    | [.one (.data (.mat .i64 11 X)), .one .nil, .one (.int .i64 i), .one (.int .i64 n)], [] => (cntA X i.toNat - n).toNat
    | [.one (.data (.mat .i64 11 X)), .one (.own 0 1), .one (.int .i64 i), .one (.int .i64 n)], [.row 3 (.ints .i64 _)] => (cntA X i.toNat - n).toNat
    | _, _ => 0) fun vs σ k h => ?_
  unfold moB at h
  split at h
  rotate_right
  · exact h.elim
  · rename_i X i n
    rw [exmol1a X i n _]
    obtain ⟨⟨hok, h1, h2, h3, h4⟩, h⟩ := h
    have hil : i.toNat < X.length := by omega
    have hb := hok.2.2.1 i.toNat hil
    have d1 : decide (0 ≤ i) = true := decide_eq_true (by omega)
    have d2 : decide (i < (X.length : Int)) = true := decide_eq_true h2
    have d3 : decide (i.toNat < X.length) = true := decide_eq_true hil
    have ec : (X.getD i.toNat []).getD 0 0 = cntA X i.toNat := rfl
    rw [ec]
    simp only [d1, d2, d3, show decide (0 < 11) = true by decide, Bool.and_self, cond_true]
    by_cases hn : n < cntA X i.toNat
    · have hb1 := hok.2.2.1 (i.toNat - 1) (by omega)
      have hwn : IntKind.i64.wrap (n + 1) = n + 1 := wrap_id (by omega) (by omega)
      have en : (cntA X i.toNat - n).toNat = (cntA X i.toNat - (n + 1)).toNat + 1 := by omega
      rw [decide_eq_true hn, cond_true, hwn]
      rw [en, misG, lk_none hok hil (.inl h3) hn] at h
      exact ⟨⟨⟨hok, h1, h2, by omega, by omega, by simp; omega⟩, h⟩, by omega⟩
    · have en : (cntA X i.toNat - n).toNat = 0 := by omega
      rw [en] at h
      rw [decide_eq_false hn]
      exact h
  · rename_i X i n S
    rw [exmol1b X i n S _]
    obtain ⟨⟨hok, h1, h2, h3, h4, h5⟩, h⟩ := h
    have hil : i.toNat < X.length := by omega
    have hb := hok.2.2.1 i.toNat hil
    have d1 : decide (0 ≤ i) = true := decide_eq_true (by omega)
    have d2 : decide (i < (X.length : Int)) = true := decide_eq_true h2
    have d3 : decide (i.toNat < X.length) = true := decide_eq_true hil
    have ec : (X.getD i.toNat []).getD 0 0 = cntA X i.toNat := rfl
    rw [ec]
    simp only [d1, d2, d3, show decide (0 < 11) = true by decide, Bool.and_self, cond_true]
    by_cases hn : n < cntA X i.toNat
    · have hb1 := hok.2.2.1 (i.toNat - 1) (by omega)
      have hwn : IntKind.i64.wrap (n + 1) = n + 1 := wrap_id (by omega) (by omega)
      have en : (cntA X i.toNat - n).toNat = (cntA X i.toNat - (n + 1)).toNat + 1 := by omega
      have hl : (S ++ [n]).length = S.length + 1 := by simp
      rw [decide_eq_true hn, cond_true, hwn, hl, decide_eq_true (by omega), cond_true]
      rw [en, misG, lk_none hok hil (.inl h3) hn] at h
      refine ⟨⟨⟨hok, h1, h2, by omega, by omega, by rw [hl]; omega⟩, ?_⟩, by omega⟩
      rw [List.append_assoc]
      exact h
    · have en : (cntA X i.toNat - n).toNat = 0 := by omega
      rw [en, misG, List.append_nil] at h
      rw [decide_eq_false hn]
      exact h
theorem lokmo_0 : LoopOK Emo (lb Try.f61 0) [5, 6, 7] [6] moA := by
  refine loopOK (.cons oknwD .nil) (fun b' hb => by
    have hl : loopsOf (lb Try.f61 0) = [lb Try.f61 1] := by kernel_rfl
    rw [hl] at hb
    simp only [List.mem_cons, List.not_mem_nil, or_false] at hb
    subst hb
    exact loopHyp_of (key := 7) (by kernel_rfl) rfl lokmo_1) (fun vs σ => match vs, σ with
    | [.one (.data (.mat .i64 11 X)), .one .nil, .one (.int .i64 i)], [] => (X.length - i).toNat
    | [.one (.data (.mat .i64 11 X)), .one (.own 0 1), .one (.int .i64 i)], [.row 3 (.ints .i64 _)] => (X.length - i).toNat
    | _, _ => 0) fun vs σ k h => ?_
  unfold moA at h
  split at h
  rotate_right
  · exact h.elim
  · rename_i X i
    rw [exmol0a X i _]
    obtain ⟨⟨hok, h1, h2⟩, h⟩ := h
    by_cases hi : i < (X.length : Int)
    · have hil : i.toNat < X.length := by omega
      have hX := hok.2.2.2.2.1
      have hw : IntKind.i64.wrap (i - 1) = i - 1 := wrap_id (by omega) (by omega)
      have hw1 : IntKind.i64.wrap (i + 1) = i + 1 := wrap_id (by omega) (by omega)
      have hb := hok.2.2.1 (i.toNat - 1) (by omega)
      have et : (i - 1).toNat = i.toNat - 1 := by omega
      have ec : (X.getD (i.toNat - 1) []).getD 0 0 = cntA X (i.toNat - 1) := rfl
      have hw2 : IntKind.i64.wrap (cntA X (i.toNat - 1) + 1) = cntA X (i.toNat - 1) + 1 := wrap_id (by omega) (by omega)
      have hs := hok.2.1 (i.toNat - 1) i.toNat (by omega) hil
      have hbi := hok.2.2.1 i.toNat hil
      have h60 : lastA X - cntA X 0 < 60 := hok.2.2.2.2.2
      have hle0 := cntA_le hok 0 (i.toNat - 1) (by omega) (by omega)
      have hlel : cntA X i.toNat ≤ lastA X := cntA_le hok i.toNat (X.length - 1) (by omega) (by omega)
      rw [hw, hw1, et, ec, hw2]
      have d0 : decide (i < (X.length : Int)) = true := decide_eq_true hi
      have d1 : decide (0 ≤ i - 1) = true := decide_eq_true (by omega)
      have d2 : decide (i - 1 < (X.length : Int)) = true := decide_eq_true (by omega)
      have d3 : decide (i.toNat - 1 < X.length) = true := decide_eq_true (by omega)
      simp only [d0, d1, d2, d3, show decide (0 < 11) = true by decide, Bool.and_self, cond_true]
      refine And.intro ⟨hok, h1, hi, by omega, by omega⟩ ?_
      rw [missR_step hok (by omega) hil] at h
      have e1 : (i + 1).toNat = i.toNat + 1 := by omega
      have hml := misG_len (lkO X) (cntA X i.toNat - (cntA X (i.toNat - 1) + 1)).toNat (cntA X (i.toNat - 1) + 1)
      cases hm : misG (lkO X) (cntA X i.toNat - (cntA X (i.toNat - 1) + 1)).toNat (cntA X (i.toNat - 1) + 1) with
      | nil =>
        rw [hm, List.nil_append] at h
        exact ⟨⟨⟨hok, by omega, by omega⟩, by rw [e1]; exact h⟩, by omega⟩
      | cons a m =>
        rw [hm] at h hml
        refine ⟨⟨⟨hok, by omega, by omega, by simp, by rw [e1, Nat.add_sub_cancel]; omega⟩, by rw [e1]; exact h⟩, by omega⟩
    · rw [decide_eq_false hi]
      have : i.toNat = X.length := by omega
      unfold missR at h
      rw [this, show (lastA X - cntA X (X.length - 1)).toNat = 0 by unfold lastA; omega] at h
      exact h
  · rename_i X i S
    rw [exmol0b X i S _]
    obtain ⟨⟨hok, h1, h2, h3, h4⟩, h⟩ := h
    by_cases hi : i < (X.length : Int)
    · have hil : i.toNat < X.length := by omega
      have hX := hok.2.2.2.2.1
      have hw : IntKind.i64.wrap (i - 1) = i - 1 := wrap_id (by omega) (by omega)
      have hw1 : IntKind.i64.wrap (i + 1) = i + 1 := wrap_id (by omega) (by omega)
      have hb := hok.2.2.1 (i.toNat - 1) (by omega)
      have et : (i - 1).toNat = i.toNat - 1 := by omega
      have ec : (X.getD (i.toNat - 1) []).getD 0 0 = cntA X (i.toNat - 1) := rfl
      have hw2 : IntKind.i64.wrap (cntA X (i.toNat - 1) + 1) = cntA X (i.toNat - 1) + 1 := wrap_id (by omega) (by omega)
      have hs := hok.2.1 (i.toNat - 1) i.toNat (by omega) hil
      have hbi := hok.2.2.1 i.toNat hil
      rw [hw, hw1, et, ec, hw2]
      have d0 : decide (i < (X.length : Int)) = true := decide_eq_true hi
      have d1 : decide (0 ≤ i - 1) = true := decide_eq_true (by omega)
      have d2 : decide (i - 1 < (X.length : Int)) = true := decide_eq_true (by omega)
      have d3 : decide (i.toNat - 1 < X.length) = true := decide_eq_true (by omega)
      simp only [d0, d1, d2, d3, show decide (0 < 11) = true by decide, Bool.and_self, cond_true]
      refine And.intro ⟨hok, h1, hi, by omega, by omega, by omega⟩ ?_
      rw [missR_step hok (by omega) hil, ← List.append_assoc] at h
      have e1 : (i + 1).toNat = i.toNat + 1 := by omega
      have hml := misG_len (lkO X) (cntA X i.toNat - (cntA X (i.toNat - 1) + 1)).toNat (cntA X (i.toNat - 1) + 1)
      exact ⟨⟨⟨hok, by omega, by omega, by simp; omega, by rw [e1, Nat.add_sub_cancel, List.length_append]; omega⟩, by rw [e1]; exact h⟩, by omega⟩
    · rw [decide_eq_false hi]
      have : i.toNat = X.length := by omega
      unfold missR at h
      rw [this, show (lastA X - cntA X (X.length - 1)).toNat = 0 by unfold lastA; omega, misG, List.append_nil] at h
      exact h
theorem okmo : SpecOK Try.prog 61 moS := by
  refine specOK (n := 39) (m := 0) (lps := [(4, .spec [5, 6, 7] [6] moA), (7, .spec [5, 6, 7, 8] [5, 6, 7] moB)]) (.cons oknwD .nil) Try.func61 (by kernel_rfl) (by kernel_rfl) (theLoops (n := 2) (by kernel_rfl) fun i hi => ?_) fun args σ K h => ?_
  · match i, hi with
    | 0, _ => exact loopHyp_of (key := 4) (by kernel_rfl) rfl lokmo_0
    | 1, _ => exact loopHyp_of (key := 7) (by kernel_rfl) rfl lokmo_1
  unfold moS at h
  split at h
  rotate_right
  · exact h.elim
  rename_i l ch
  rw [exmo l ch K]
  obtain ⟨⟨h1, h0⟩, h⟩ := h
  obtain ⟨z1, z2, z3, z4, z5, z6⟩ := rcE_zero h1 h0
  obtain ⟨o1, o2, o3, o4⟩ := okX_own h1 h0
  have hpos := o1.2.2.2.1
  refine And.intro ⟨h1, z2⟩ (And.intro ⟨o1, by decide, by omega⟩ ?_)
  have e : missR (srtG (ownB l ch)) 1 = misO (ownB l ch) := by
    unfold missR misO
    rw [Nat.sub_self, o2, o3, o4]
    have hs := lk_some (i := 0) o1 (by omega)
    rw [o2, o4] at hs
    have e2 : (cmax (ownB l ch) - cmin (ownB l ch) + 1).toNat = (cmax (ownB l ch) - cmin (ownB l ch)).toNat + 1 := by
      obtain ⟨_, _, q3, q4, _⟩ := z6
      omega
    rw [e2, misG, hs]; rfl
  rw [e]
  exact h
theorem okmoD : SpecOK Try.prog 61 moDS := by
  refine okmo.froze fun args σ K h => ?_
  unfold moDS at h
  split at h
  rotate_right
  · exact h.elim
  rename_i l ch
  obtain ⟨⟨h1, h0⟩, h⟩ := h
  refine ⟨rfl, ⟨h1, h0⟩, ?_⟩
  unfold msM at h
  rw [h0] at h
  cases hg : misO (ownB l ch) with
  | nil =>
    rw [hg] at h
    exact ⟨.one (.data (.ints .i64 [])), .inr ⟨.ints .i64 [], rfl, rfl⟩, h⟩
  | cons g G =>
    rw [hg] at h
    exact ⟨.one (.data (.ints .i64 (g :: G))), ⟨_, _, rfl, rfl, rfl⟩, h⟩
theorem eq2 {xs ys : List Int} (h1 : xs.length = 2) (h2 : ys.length = 2) : (xs.getD 0 0 == ys.getD 0 0 && xs.getD 1 0 == ys.getD 1 0) = (xs == ys) := by
  match xs, ys, h1, h2 with
  | [a, b], [c, d], _, _ => simp [List.cons_beq_cons]
theorem row2 {l : List (List Int)} {n : Nat} (h : n < l.length) (h8 : l.all len2 = true) : (l.getD n []).length = 2 ∧ l.drop n = l.getD n [] :: l.drop (n + 1) := by
  have := List.all_eq_true.1 h8 _ (List.getElem_mem h)
  unfold len2 at this
  rw [List.getD_eq_getElem?_getD, List.getElem?_eq_getElem h]
  exact ⟨by simpa using this, List.drop_eq_getElem_cons h⟩
theorem lokrg_0 : LoopOK Erg (lb Try.f62 0) [0, 1, 5] [4] rgL := by
  refine loopOK .nil (noInner (by kernel_rfl)) (fun vs σ => match vs, σ with
    | [.one (.data (.mat .i64 2 G)), .one (.data (.mat .i64 2 _)), .one (.int .i64 i)], [] => (G.length - i).toNat
    | _, _ => 0) fun vs σ k h => ?_
  unfold rgL at h
  split at h
  rotate_right
  · exact h.elim
  · rename_i G H i
    rw [exrgl0a G H i _]
    obtain ⟨⟨h1, h2, h3, h4, h5, h6⟩, h⟩ := h
    by_cases hi : i < (G.length : Int)
    · have hil : i.toNat < G.length := by omega
      have hil2 : i.toNat < H.length := by omega
      have hw : IntKind.i64.wrap (i + 1) = i + 1 := wrap_id (by omega) (by omega)
      obtain ⟨r1, r2⟩ := row2 hil h5
      obtain ⟨q1, q2⟩ := row2 hil2 h6
      have d0 : decide (i < (G.length : Int)) = true := decide_eq_true hi
      have d1 : decide (0 ≤ i) = true := decide_eq_true h1
      have d2 : decide (i < (H.length : Int)) = true := decide_eq_true (by omega)
      have d3 : decide (i.toNat < G.length) = true := decide_eq_true hil
      have d4 : decide (i.toNat < H.length) = true := decide_eq_true hil2
      rw [hw, eq2 r1 q1]
      rw [r2, q2, List.cons_beq_cons] at h
      simp only [d0, d1, d2, d3, d4, show decide (1 < 2) = true by decide, Bool.and_self, cond_true]
      cases hc : G.getD i.toNat [] == H.getD i.toNat [] with
      | false => rw [hc, Bool.false_and, cond_false] at h; exact h
      | true =>
        rw [hc, Bool.true_and] at h
        exact ⟨⟨⟨by omega, by omega, h3, h4, h5, h6⟩, by rw [show (i + 1).toNat = i.toNat + 1 by omega]; exact h⟩, by omega⟩
    · rw [decide_eq_false hi]
      rw [List.drop_eq_nil_of_le (by omega), List.drop_eq_nil_of_le (by omega)] at h
      exact h
theorem okrg : SpecOK Try.prog 62 rgS := by
  refine specOK (n := 26) (m := 0) (lps := [(4, .spec [0, 1, 5] [4] rgL)]) .nil Try.func62 (by kernel_rfl) (by kernel_rfl) (theLoops (n := 1) (by kernel_rfl) fun i hi => ?_) fun args σ K h => ?_
  · match i, hi with
    | 0, _ => exact loopHyp_of (key := 4) (by kernel_rfl) rfl lokrg_0
  unfold rgS at h
  split at h
  rotate_right
  · exact h.elim
  rename_i G H
  rw [exrg G H K]
  obtain ⟨⟨h1, h2, h3⟩, h⟩ := h
  by_cases hl : (G.length : Int) = (H.length : Int)
  · rw [show ((G.length : Int) != (H.length : Int)) = false by rw [hl]; simp, cond_false]
    refine And.intro ⟨by decide, by omega, h1, by omega, h2, h3⟩ ?_
    cases hc : G == H <;> rw [hc] at h <;> exact h
  · rw [show ((G.length : Int) != (H.length : Int)) = true by simp only [bne_iff_ne, ne_eq]; exact hl, cond_true]
    have : (G == H) = false := by rw [beq_eq_false_iff_ne]; rintro rfl; exact hl rfl
    rw [this] at h
    exact h
theorem oksm : SpecOK Try.prog 57 smS := by
  refine specOK (n := 24) (m := 0) (lps := []) (.cons ok30 (.cons okrg .nil)) Try.func57 (by kernel_rfl) (by kernel_rfl) (noLoops (by kernel_rfl)) fun args σ K h => ?_
  unfold smS at h
  split at h
  rotate_right
  · exact h.elim
  rename_i a S G b T H
  rw [exsm a S G b T H K]
  obtain ⟨⟨h1, h2, h3, h4⟩, h⟩ := h
  cases c1 : a == b with
  | false => rw [c1] at h; exact h
  | true =>
    rw [c1, Bool.true_and] at h
    refine And.intro h1 ?_
    cases c2 : S == T with
    | false => rw [c2] at h; exact h
    | true =>
      rw [c2, Bool.true_and] at h
      exact ⟨⟨h2, h3, h4⟩, h⟩
end Go.Ev
