/-
  Chapter 9, plain facts: the peak of the opposite signal backwards; the peak against the samples.
-/
import Derived.Test.YtiflkochjfiegaaDoorC9Q
set_option linter.unusedVariables false
set_option linter.unusedSimpArgs false
set_option linter.unusedSectionVars false
namespace Go.Ev
open Go Go.Proofs
attribute [local irreducible] evFn evBody evRound
set_option maxRecDepth 20000

/-- The opposite signal, backwards. -/
def revN (x : List Int) : List Int := (x.map fun a => wi (0 - a)).reverse
def mostL (m : Int) (x : List Int) : Int := maxL m (x.map sizeG)
theorem absI_neg (a : Int) : absI (-a) = absI a := by unfold absI maxI; split <;> split <;> omega
theorem le_maxL : ∀ (l : List Int) (a : Int), a ≤ maxL a l ∧ ∀ v ∈ l, v ≤ maxL a l
  | [], a => ⟨Int.le_refl _, fun v h => by simp at h⟩
  | w :: l, a => by
    obtain ⟨h1, h2⟩ := le_maxL l (maxI a w)
    have h3 : a ≤ maxI a w ∧ w ≤ maxI a w := by unfold maxI; split <;> omega
    refine ⟨by simp only [maxL]; omega, fun v hv => ?_⟩
    simp only [maxL]
    rcases List.mem_cons.1 hv with rfl | hv
    · omega
    · exact h2 v hv
theorem maxL_le {B : Int} : ∀ {l : List Int} {a : Int}, a ≤ B → (∀ v ∈ l, v ≤ B) → maxL a l ≤ B
  | [], _, h, _ => h
  | w :: l, a, h, hv => by
    have h1 := hv w (by simp)
    exact maxL_le (l := l) (a := maxI a w) (by unfold maxI; split <;> omega) fun v h => hv v (by simp [h])
/-- The values around a signal. -/
def fineP (x : List Int) (v j : Int) : Prop := v = absI (oneI x j) ∨ (j + 1 < (x.length : Int) ∧ (v = absI (k1I x j) ∨ v = absI (k2I x j) ∨ v = absI (k3I x j)))
theorem mem_fine {x : List Int} {v : Int} : ∀ (n : Nat) (i : Int), ((n : Nat) : Int) = x.length - i → (v ∈ fineI x n i ↔ ∃ j, i ≤ j ∧ j < (x.length : Int) ∧ fineP x v j)
  | 0, i, h => by
    simp only [fineI, List.not_mem_nil, false_iff]
    rintro ⟨j, h1, h2, _⟩
    omega
  | n + 1, i, h => by
    simp only [fineI, List.mem_cons]
    by_cases hl : i + 1 = (x.length : Int)
    · rw [beq_iff_eq.2 hl, cond_true]
      constructor
      · rintro (rfl | h')
        · exact ⟨i, Int.le_refl _, by omega, .inl rfl⟩
        · simp at h'
      · rintro ⟨j, h1, h2, h3 | ⟨h3, _⟩⟩
        · rw [show j = i by omega] at h3
          exact .inl h3
        · omega
    · rw [beq_eq_false_iff_ne.2 hl, cond_false, List.mem_cons, List.mem_cons, List.mem_cons, mem_fine n (i + 1) (by omega)]
      constructor
      · rintro (h1 | h1 | h1 | h1 | ⟨j, h1, h2, h3⟩)
        · exact ⟨i, Int.le_refl _, by omega, .inl h1⟩
        · exact ⟨i, Int.le_refl _, by omega, .inr ⟨by omega, .inl h1⟩⟩
        · exact ⟨i, Int.le_refl _, by omega, .inr ⟨by omega, .inr (.inl h1)⟩⟩
        · exact ⟨i, Int.le_refl _, by omega, .inr ⟨by omega, .inr (.inr h1)⟩⟩
        · exact ⟨j, by omega, h2, h3⟩
      · rintro ⟨j, h1, h2, h3⟩
        by_cases hj : j = i
        · subst hj
          rcases h3 with h3 | ⟨_, h3 | h3 | h3⟩
          · exact .inl h3
          · exact .inr (.inl h3)
          · exact .inr (.inr (.inl h3))
          · exact .inr (.inr (.inr (.inl h3)))
        · exact .inr (.inr (.inr (.inr ⟨j, by omega, h2, h3⟩)))
theorem revN_length (x : List Int) : (revN x).length = x.length := by simp [revN]
theorem wi_neg {a : Int} (h : -32767 ≤ a ∧ a ≤ 32767) : wi (0 - a) = -a := by
  have e : wi (0 - a) = 0 - a := wi_id (by omega) (by omega)
  rw [e]; omega
theorem revN_get {x : List Int} (hx : x.all sampleG = true) {k : Nat} (h : k < x.length) : (revN x).getD k 0 = -(x.getD (x.length - 1 - k) 0) := by
  have e := wi_neg (getD_sample hx (x.length - 1 - k))
  rw [getD_of_lt (show x.length - 1 - k < x.length by omega)] at e
  rw [getD_of_lt (show k < (revN x).length by rw [revN_length]; exact h), getD_of_lt (show x.length - 1 - k < x.length by omega)]
  unfold revN
  rw [List.getElem_reverse, List.getElem_map]
  simp only [List.length_map]
  exact e
theorem revN_samples {x : List Int} (hx : x.all sampleG = true) : (revN x).all sampleG = true := by
  rw [List.all_eq_true] at hx ⊢
  intro v hv
  unfold revN at hv
  rw [List.mem_reverse, List.mem_map] at hv
  obtain ⟨a, ha, rfl⟩ := hv
  have := hx a ha
  unfold sampleG withinG at this ⊢
  simp only [Bool.and_eq_true, decide_eq_true_eq] at this ⊢
  rw [wi_neg this]
  omega
theorem atI_rev {x : List Int} (hx : x.all sampleG = true) (j : Int) : atI (revN x) j = -(atI x ((x.length : Int) - 1 - j)) := by
  by_cases h : 0 ≤ j ∧ j < (x.length : Int)
  · rw [← atI_get (x := revN x) h.1 (by rw [revN_length]; exact h.2), ← atI_get (x := x) (i := (x.length : Int) - 1 - j) (by omega) (by omega), revN_get hx (by omega),
      show ((x.length : Int) - 1 - j).toNat = x.length - 1 - j.toNat by omega]
  · have e1 : atI (revN x) j = 0 := by
      unfold atI
      rw [revN_length]
      rcases Int.lt_or_le j 0 with hj | hj
      · rw [decide_eq_true hj]; rfl
      · rw [decide_eq_true (show j ≥ (x.length : Int) by omega), Bool.or_true]; rfl
    have e2 : atI x ((x.length : Int) - 1 - j) = 0 := by
      unfold atI
      rcases Int.lt_or_le j 0 with hj | hj
      · rw [decide_eq_true (show (x.length : Int) - 1 - j ≥ (x.length : Int) by omega), Bool.or_true]; rfl
      · rw [decide_eq_true (show (x.length : Int) - 1 - j < 0 by omega)]; rfl
    rw [e1, e2]; rfl
theorem ks_rev {x : List Int} (hx : x.all sampleG = true) (j a b c d : Int) : ksI (revN x) j a b c d = -(ksI x ((x.length : Int) - 2 - j) d c b a) := by
  unfold ksI
  rw [atI_rev hx, atI_rev hx, atI_rev hx, atI_rev hx]
  rw [show (x.length : Int) - 1 - (j - 1) = (x.length : Int) - 2 - j + 2 by omega, show (x.length : Int) - 1 - j = (x.length : Int) - 2 - j + 1 by omega,
    show (x.length : Int) - 1 - (j + 1) = (x.length : Int) - 2 - j by omega, show (x.length : Int) - 1 - (j + 2) = (x.length : Int) - 2 - j - 1 by omega]
  simp only [Int.mul_neg]
  omega
theorem fine_rev {x : List Int} (hx : x.all sampleG = true) {v : Int} (h : v ∈ fineI (revN x) (revN x).length 0) : v ∈ fineI x x.length 0 := by
  rw [mem_fine _ _ (by omega)] at h
  rw [mem_fine _ _ (by omega)]
  obtain ⟨j, h1, h2, h3⟩ := h
  rw [revN_length] at h2
  unfold fineP at h3 ⊢
  rw [revN_length] at h3
  rcases h3 with h3 | ⟨h4, h3⟩
  · refine ⟨(x.length : Int) - 1 - j, by omega, by omega, .inl ?_⟩
    rw [h3]
    unfold oneI
    rw [atI_rev hx, Int.mul_neg, absI_neg]
  · refine ⟨(x.length : Int) - 2 - j, by omega, by omega, .inr ⟨by omega, ?_⟩⟩
    unfold k1I k2I k3I at h3 ⊢
    rw [ks_rev hx, ks_rev hx, ks_rev hx, absI_neg, absI_neg, absI_neg] at h3
    rcases h3 with h3 | h3 | h3
    · exact .inr (.inr h3)
    · exact .inr (.inl h3)
    · exact .inl h3
theorem revN_revN {x : List Int} (hx : x.all sampleG = true) : revN (revN x) = x := by
  refine List.ext_getElem (by rw [revN_length, revN_length]) fun k h1 h2 => ?_
  have a1 := revN_get (revN_samples hx) (k := k) (by rw [revN_length]; exact h2)
  have a2 := revN_get hx (k := x.length - 1 - k) (by omega)
  rw [revN_length, a2, getD_of_lt h1] at a1
  rw [a1, show x.length - 1 - (x.length - 1 - k) = k by omega, getD_of_lt h2]
  omega
theorem pk_rev {x : List Int} (hx : x.all sampleG = true) : pkI (revN x) = pkI x := by
  have h : ∀ y : List Int, y.all sampleG = true → pkI (revN y) ≤ pkI y := by
    intro y hy
    unfold pkI
    exact maxL_le (le_maxL _ _).1 fun v hv => (le_maxL _ _).2 v (fine_rev hy hv)
  have h1 := h x hx
  have h2 := h (revN x) (revN_samples hx)
  rw [revN_revN hx] at h2
  omega
theorem sig_rev {x : List Int} (h : sigE x = 0) : sigE (revN x) = 0 := by
  obtain ⟨h1, h2⟩ := sigE_zero h
  unfold sigE
  rw [revN_length, decide_eq_true (show (x.length : Int) ≤ 200 by omega), revN_samples h2]
  rfl

/-! ### Against the samples -/
theorem most_le {x : List Int} (hx : x.all sampleG = true) (j : Int) : absI (atI x j) ≤ mostL 0 x := by
  obtain ⟨h1, h2⟩ := le_maxL (x.map sizeG) 0
  unfold mostL
  by_cases h : 0 ≤ j ∧ j < (x.length : Int)
  · have hr := atI_range hx j
    rw [← sizeG_abs (by omega)]
    refine h2 _ (List.mem_map.2 ⟨atI x j, ?_, rfl⟩)
    rw [← atI_get h.1 h.2, getD_of_lt (show j.toNat < x.length by omega)]
    exact List.getElem_mem _
  · have e2 : atI x j = 0 := by
      unfold atI
      rcases Int.lt_or_le j 0 with hj | hj
      · rw [decide_eq_true hj]; rfl
      · rw [decide_eq_true (show j ≥ (x.length : Int) by omega), Bool.or_true]; rfl
    rw [e2]
    show absI 0 ≤ _
    have : absI 0 = 0 := rfl
    omega
theorem most_range {x : List Int} (hx : x.all sampleG = true) : 0 ≤ mostL 0 x ∧ mostL 0 x ≤ 32767 := by
  refine maxL_range (fun v hv => ?_) (by decide) (by decide)
  rw [List.mem_map] at hv
  obtain ⟨a, ha, rfl⟩ := hv
  have := List.all_eq_true.1 hx a ha
  unfold sampleG withinG at this
  simp only [Bool.and_eq_true, decide_eq_true_eq] at this
  rw [sizeG_abs (by omega)]
  exact absI_range this
theorem pk_ge {x : List Int} (hx : x.all sampleG = true) : 128 * mostL 0 x ≤ pkI x := by
  have hp := (peak_whole hx).2.2.1
  have hm : ∀ v ∈ x.map sizeG, 128 * v ≤ pkI x := by
    intro v hv
    rw [List.mem_map] at hv
    obtain ⟨a, ha, rfl⟩ := hv
    obtain ⟨k, hk, rfl⟩ := List.getElem_of_mem ha
    have h1 : absI (oneI x (k : Int)) ∈ fineI x x.length 0 := (mem_fine _ _ (by omega)).2 ⟨(k : Int), by omega, by omega, .inl rfl⟩
    have h2 := (le_maxL (fineI x x.length 0) 0).2 _ h1
    have e : x[k] = atI x (k : Int) := by rw [← atI_get (by omega) (by omega), Int.toNat_natCast, getD_of_lt hk]
    have hr := atI_range hx (k : Int)
    rw [e, sizeG_abs (by omega)]
    have : absI (oneI x (k : Int)) = 128 * absI (atI x (k : Int)) := by unfold oneI absI maxI; split <;> split <;> omega
    unfold pkI
    omega
  have hB : mostL 0 x ≤ pkI x / 128 := by
    unfold mostL
    exact maxL_le (by omega) fun v hv => by have := hm v hv; omega
  omega
theorem ks_le {x : List Int} {M : Int} (h : ∀ j, -M ≤ atI x j ∧ atI x j ≤ M) (i : Int) {a b c d A B C E : Int} (ha : (-A ≤ a ∧ a ≤ A)) (hb : (-B ≤ b ∧ b ≤ B)) (hc : (-C ≤ c ∧ c ≤ C)) (hd : (-E ≤ d ∧ d ≤ E)) :
    absI (ksI x i a b c d) ≤ A * M + B * M + C * M + E * M := by
  have g : ∀ (a s A : Int), -A ≤ a ∧ a ≤ A → -M ≤ s ∧ s ≤ M → -(A * M) ≤ a * s ∧ a * s ≤ A * M := by
    intro a s A h1 h2
    have hn : (a * s).natAbs ≤ A.natAbs * M.natAbs := by rw [Int.natAbs_mul]; exact Nat.mul_le_mul (by omega) (by omega)
    have e : ((A.natAbs * M.natAbs : Nat) : Int) = A * M := by
      rw [Int.natCast_mul, Int.natAbs_of_nonneg (by omega), Int.natAbs_of_nonneg (by omega)]
    omega
  have g1 := g a _ A ha (h (i - 1))
  have g2 := g b _ B hb (h i)
  have g3 := g c _ C hc (h (i + 1))
  have g4 := g d _ E hd (h (i + 2))
  unfold absI maxI ksI
  split <;> omega
theorem pk_le {x : List Int} (hx : x.all sampleG = true) : pkI x ≤ 160 * mostL 0 x := by
  have hM : ∀ j, -(mostL 0 x) ≤ atI x j ∧ atI x j ≤ mostL 0 x := by
    intro j
    have := most_le hx j
    unfold absI maxI at this
    split at this <;> omega
  have hr := most_range hx
  unfold pkI
  refine maxL_le (by omega) fun v hv => ?_
  obtain ⟨j, h1, h2, h3⟩ := (mem_fine _ _ (by omega)).1 hv
  rcases h3 with h3 | ⟨_, h3 | h3 | h3⟩
  · rw [h3]
    have := hM j
    unfold oneI absI maxI
    split <;> omega
  · rw [h3]
    have := ks_le hM j (a := -7) (b := 105) (c := 35) (d := -5) (A := 7) (B := 105) (C := 35) (E := 5) (by omega) (by omega) (by omega) (by omega)
    unfold k1I; omega
  · rw [h3]
    have := ks_le hM j (a := -8) (b := 72) (c := 72) (d := -8) (A := 8) (B := 72) (C := 72) (E := 8) (by omega) (by omega) (by omega) (by omega)
    unfold k2I; omega
  · rw [h3]
    have := ks_le hM j (a := -5) (b := 35) (c := 105) (d := -7) (A := 5) (B := 35) (C := 105) (E := 7) (by omega) (by omega) (by omega) (by omega)
    unfold k3I; omega
end Go.Ev
