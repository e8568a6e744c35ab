/-
  Floating-point words that stand for whole numbers: sums, products, orders are exact where the results are small.
-/
import Derived.Test.YtiflkochjfiegaaDoorCFlt
import Derived.Laws.FloatBits
set_option linter.unusedVariables false
set_option linter.unusedSimpArgs false
set_option linter.unusedSectionVars false
namespace Go.Ev
open Go Ieee
set_option linter.unusedSimpArgs false

theorem log2_mul_pow {N : Nat} (h : 0 < N) (c : Nat) : (N * 2 ^ c).log2 = N.log2 + c := by
  have h1 : N * 2 ^ c ≠ 0 := Nat.mul_ne_zero (by omega) (Nat.ne_of_gt (Nat.two_pow_pos c))
  rw [Nat.log2_eq_iff h1]
  have ha := (Nat.log2_eq_iff (n := N) (k := N.log2) (by omega)).1 rfl
  constructor
  · rw [Nat.pow_add]; exact Nat.mul_le_mul_right _ ha.1
  · rw [show N.log2 + c + 1 = (N.log2 + 1) + c by omega, Nat.pow_add]; exact Nat.mul_lt_mul_of_pos_right ha.2 (Nat.two_pow_pos c)
theorem cut_exact (way : Toward) (s : Bool) (q d : Nat) (hd : d ≤ (q * 2 ^ d).log2 + 2 ∨ q = 0) : way.cut s (q * 2 ^ d) d = q := by
  unfold Toward.cut
  rcases Nat.eq_zero_or_pos q with rfl | hq
  · have : ∀ g, (0 : Nat) / g = 0 := fun g => Nat.zero_div g
    simp only [Nat.zero_mul, Nat.zero_div, Nat.zero_mod]
    have hg : 1 <<< min d (Nat.log2 0 + 2) ≠ 0 := by rw [Nat.shiftLeft_eq, Nat.one_mul]; exact Nat.ne_of_gt (Nat.two_pow_pos _)
    cases way <;> simp [hg]
  · have hd' : d ≤ (q * 2 ^ d).log2 + 2 := by omega
    rw [Nat.min_eq_left hd', Nat.shiftLeft_eq, Nat.one_mul]
    have hp : 0 < 2 ^ d := Nat.two_pow_pos d
    simp only [Nat.mul_div_cancel _ hp, Nat.mul_mod_left]
    cases way <;> simp <;> omega

/-- A format that holds whole numbers of up to fractionBits + 1 digits. -/
structure Wide (f : Format) (L : Nat) : Prop where
  least : f.leastPlace = -(L : Int)
  low : f.fractionBits ≤ L
  room : (L + 2) * f.binade ≤ f.infRung
theorem wide_single : Wide single 149 := ⟨by decide, by decide, by decide⟩
theorem wide_double : Wide double 1074 := ⟨by decide +kernel, by decide, by decide +kernel⟩

theorem read_word {f : Format} {s : Bool} {r : Nat} (h : r < f.signWeight) : (f.word s r / f.signWeight % 2 == 1) = s ∧ f.word s r % f.signWeight = r := by
  unfold Format.word
  cases s
  · simp only [Bool.false_eq_true, if_false]
    rw [Nat.div_eq_of_lt h, Nat.mod_eq_of_lt h]
    exact ⟨rfl, rfl⟩
  · simp only [if_true]
    rw [Nat.add_div_left _ (by omega), Nat.div_eq_of_lt h, Nat.add_mod_left, Nat.mod_eq_of_lt h]
    exact ⟨rfl, rfl⟩

theorem read_nearest {f : Format} {L : Nat} (W : Wide f L) (s : Bool) (N c : Nat) (h0 : 0 < N) (hN : N < 2 ^ (f.fractionBits + 1)) :
    f.read (f.nearest s (N * 2 ^ c) (-(c : Int))) = .number s (N * 2 ^ (f.fractionBits - N.log2)) ((N.log2 : Int) - f.fractionBits) := by
  have hlog : N.log2 ≤ f.fractionBits := by
    have := (Nat.log2_lt (n := N) (k := f.fractionBits + 1) (by omega)).2 hN
    omega
  have hM : N * 2 ^ c ≠ 0 := Nat.mul_ne_zero (by omega) (Nat.ne_of_gt (Nat.two_pow_pos c))
  have hlow := W.low
  have hlast : max (-(c : Int) + ((N * 2 ^ c).log2 : Nat) - (f.fractionBits : Nat)) f.leastPlace = (N.log2 : Int) - f.fractionBits := by
    rw [log2_mul_pow h0, W.least]; omega
  have hkept : Toward.even.cut s ((N * 2 ^ c) <<< (-(c : Int) - ((N.log2 : Int) - f.fractionBits)).toNat) (((N.log2 : Int) - f.fractionBits) - -(c : Int)).toNat = N * 2 ^ (f.fractionBits - N.log2) := by
    by_cases hc : c ≤ f.fractionBits - N.log2
    · have e1 : (-(c : Int) - ((N.log2 : Int) - f.fractionBits)).toNat = f.fractionBits - N.log2 - c := by omega
      have e2 : (((N.log2 : Int) - f.fractionBits) - -(c : Int)).toNat = 0 := by omega
      rw [e1, e2, Nat.shiftLeft_eq]
      have e3 : N * 2 ^ c * 2 ^ (f.fractionBits - N.log2 - c) = (N * 2 ^ (f.fractionBits - N.log2)) * 2 ^ 0 := by
        rw [Nat.mul_assoc, ← Nat.pow_add, Nat.pow_zero, Nat.mul_one]; congr 2; omega
      rw [e3]
      exact cut_exact _ _ _ _ (.inl (by omega))
    · have e1 : (-(c : Int) - ((N.log2 : Int) - f.fractionBits)).toNat = 0 := by omega
      have e2 : (((N.log2 : Int) - f.fractionBits) - -(c : Int)).toNat = c - (f.fractionBits - N.log2) := by omega
      rw [e1, e2, Nat.shiftLeft_eq, Nat.pow_zero, Nat.mul_one]
      have e3 : N * 2 ^ c = (N * 2 ^ (f.fractionBits - N.log2)) * 2 ^ (c - (f.fractionBits - N.log2)) := by
        rw [Nat.mul_assoc, ← Nat.pow_add]; congr 2; omega
      rw [e3]
      refine cut_exact _ _ _ _ (.inl ?_)
      rw [log2_mul_pow (Nat.mul_pos h0 (Nat.two_pow_pos _))]
      omega
  have ha := (Nat.log2_eq_iff (n := N) (k := N.log2) (by omega)).1 rfl
  have k1 : f.binade ≤ N * 2 ^ (f.fractionBits - N.log2) := by
    unfold Format.binade
    have : 2 ^ f.fractionBits = 2 ^ N.log2 * 2 ^ (f.fractionBits - N.log2) := by rw [← Nat.pow_add]; congr 1; omega
    rw [this]
    exact Nat.mul_le_mul_right _ ha.1
  have k2 : N * 2 ^ (f.fractionBits - N.log2) < 2 * f.binade := by
    unfold Format.binade
    have : 2 * 2 ^ f.fractionBits = 2 ^ (N.log2 + 1) * 2 ^ (f.fractionBits - N.log2) := by rw [← Nat.pow_add, Nat.mul_comm, ← Nat.pow_succ]; congr 1; omega
    rw [this]
    exact Nat.mul_lt_mul_of_pos_right ha.2 (Nat.two_pow_pos _)
  generalize hK : N * 2 ^ (f.fractionBits - N.log2) = K at *
  have hstep : ((N.log2 : Int) - f.fractionBits - f.leastPlace).toNat = L + N.log2 - f.fractionBits := by rw [W.least]; omega
  have hrung : (L + N.log2 - f.fractionBits) * f.binade + K < f.infRung := by
    have h1 : (L + N.log2 - f.fractionBits) * f.binade ≤ L * f.binade := Nat.mul_le_mul_right _ (by omega)
    have h2 := W.room
    rw [Nat.add_mul] at h2
    omega
  have hlt : (L + N.log2 - f.fractionBits) * f.binade + K < f.signWeight := Nat.lt_trans hrung (Format.infRung_lt f)
  unfold Format.nearest
  rw [if_neg hM]
  simp only [hlast, hkept, hstep]
  rw [Nat.min_eq_left (Nat.le_of_lt hrung)]
  unfold Format.read
  obtain ⟨w1, w2⟩ := read_word (f := f) (s := s) hlt
  simp only [w1, w2]
  have hb : 0 < f.binade := Nat.two_pow_pos _
  rw [if_neg (by omega), if_pos hrung]
  have e4 : (L + N.log2 - f.fractionBits) * f.binade + K = (K - f.binade) + (L + N.log2 - f.fractionBits + 1) * f.binade := by rw [Nat.add_mul]; omega
  rw [e4, Nat.add_mul_mod_self_right, Nat.mod_eq_of_lt (by omega), Nat.add_mul_div_right _ _ hb, Nat.div_eq_of_lt (by omega), W.least]
  congr 1 <;> omega

/-- A word that stands for a whole number. -/
def Rep (f : Format) (b : Nat) (n : Int) : Prop := ∃ (s : Bool) (m c : Nat), f.read b = .number s m (-(c : Int)) ∧ signed s m 0 = n * 2 ^ c
/-- The whole numbers that a format holds. -/
def fits (f : Format) (n : Int) : Prop := n.natAbs < 2 ^ (f.fractionBits + 1)

theorem signed_zero (s : Bool) (m : Nat) : signed s m 0 = if s then -(m : Int) else m := by unfold signed; simp
theorem signed_up (s : Bool) (m k : Nat) : signed s m k = signed s m 0 * 2 ^ k := by
  unfold signed
  cases s <;> simp [Nat.shiftLeft_eq, Int.neg_mul]

theorem rep_zero {f : Format} {L : Nat} (W : Wide f L) (s : Bool) (p : Int) : Rep f (f.nearest s 0 p) 0 := by
  refine ⟨s, 0, L, ?_, by unfold signed; cases s <;> simp⟩
  unfold Format.nearest
  rw [if_pos rfl]
  unfold Format.read
  have hb : 0 < f.binade := Nat.two_pow_pos _
  obtain ⟨w1, w2⟩ := read_word (f := f) (s := s) (r := 0) (Nat.two_pow_pos _)
  simp only [w1, w2]
  rw [if_pos hb, W.least]
theorem rep_number {f : Format} {L : Nat} (W : Wide f L) {s : Bool} {M c : Nat} {n : Int} (hv : signed s M 0 = n * 2 ^ c) (hn : fits f n) : Rep f (f.nearest s M (-(c : Int))) n := by
  have hp : (0 : Int) < 2 ^ c := Int.pow_pos (by decide)
  have hM : M = n.natAbs * 2 ^ c := by
    have := congrArg Int.natAbs hv
    rw [Int.natAbs_mul, Int.natAbs_pow, signed_zero] at this
    cases s <;> simpa using this
  rcases Nat.eq_zero_or_pos n.natAbs with h | h
  · have hn0 : n = 0 := Int.natAbs_eq_zero.1 h
    rw [hn0] at hM ⊢
    simp only [Int.natAbs_zero, Nat.zero_mul] at hM
    rw [hM]
    exact rep_zero W s _
  · have hr := read_nearest W s n.natAbs c h hn
    have hlog : n.natAbs.log2 ≤ f.fractionBits := by
      have := (Nat.log2_lt (n := n.natAbs) (k := f.fractionBits + 1) (by omega)).2 hn
      omega
    rw [← hM] at hr
    refine ⟨s, _, f.fractionBits - n.natAbs.log2, hr.trans (by congr 1; omega), ?_⟩
    have hs : (if s then -(n.natAbs : Int) else n.natAbs) = n := by
      rw [signed_zero, hM] at hv
      have hM' : (M : Int) = (n.natAbs : Int) * 2 ^ c := by rw [hM]; simp
      cases s
      · simp only [Bool.false_eq_true, if_false] at hv ⊢
        have : (n.natAbs : Int) * 2 ^ c = n * 2 ^ c := by rw [← hv]; simp
        exact Int.eq_of_mul_eq_mul_right (Int.ne_of_gt hp) this
      · simp only [if_true] at hv ⊢
        have : -(n.natAbs : Int) * 2 ^ c = n * 2 ^ c := by rw [← hv]; simp [Int.neg_mul]
        exact Int.eq_of_mul_eq_mul_right (Int.ne_of_gt hp) this
    rw [signed_zero]
    rw [← hs]
    cases s <;> simp [Int.neg_mul]
theorem rep_ofInt {f : Format} {L : Nat} (W : Wide f L) {n : Int} (hn : fits f n) : Rep f (f.nearest (decide (n < 0)) n.natAbs 0) n := by
  have := rep_number W (s := decide (n < 0)) (M := n.natAbs) (c := 0) (n := n) (by rw [signed_zero]; by_cases h : n < 0 <;> simp [h] <;> omega) hn
  simpa using this

theorem rep_add {f : Format} {L : Nat} (W : Wide f L) {x y : Nat} {a b : Int} (hx : Rep f x a) (hy : Rep f y b) (hn : fits f (a + b)) : ∃ r, f.add x y = some r ∧ Rep f r (a + b) := by
  obtain ⟨s, m, i, h1, h2⟩ := hx
  obtain ⟨t, n, j, h3, h4⟩ := hy
  unfold Format.add
  rw [h1, h3]
  simp only [Datum.sum, Option.map_some]
  refine ⟨_, rfl, ?_⟩
  unfold Format.write
  have hmin : min (-(i : Int)) (-(j : Int)) = -((max i j : Nat) : Int) := by omega
  rw [hmin]
  have e1 : (-(i : Int) - -((max i j : Nat) : Int)).toNat = max i j - i := by omega
  have e2 : (-(j : Int) - -((max i j : Nat) : Int)).toNat = max i j - j := by omega
  rw [e1, e2]
  have ht : signed s m (max i j - i) + signed t n (max i j - j) = (a + b) * 2 ^ (max i j) := by
    rw [signed_up, signed_up t, h2, h4, Int.mul_assoc, Int.mul_assoc, ← Int.pow_add, ← Int.pow_add, show i + (max i j - i) = max i j by omega, show j + (max i j - j) = max i j by omega, Int.add_mul]
  rw [ht]
  refine rep_number W ?_ hn
  rw [signed_zero]
  by_cases h0 : (a + b) * 2 ^ (max i j) = 0
  · rw [h0]; simp
  · rw [if_neg h0]
    by_cases hneg : (a + b) * 2 ^ (max i j) < 0
    · rw [decide_eq_true hneg]; simp; omega
    · rw [decide_eq_false hneg]; simp; omega
theorem rep_mul {f : Format} {L : Nat} (W : Wide f L) {x y : Nat} {a b : Int} (hx : Rep f x a) (hy : Rep f y b) (hn : fits f (a * b)) : ∃ r, f.mul x y = some r ∧ Rep f r (a * b) := by
  obtain ⟨s, m, i, h1, h2⟩ := hx
  obtain ⟨t, n, j, h3, h4⟩ := hy
  unfold Format.mul
  rw [h1, h3]
  simp only [Datum.product, Option.map_some]
  refine ⟨_, rfl, ?_⟩
  unfold Format.write
  dsimp only
  rw [show (-(i : Int) + -(j : Int)) = -((i + j : Nat) : Int) by omega]
  refine rep_number W ?_ hn
  have : signed (s ^^ t) (m * n) 0 = signed s m 0 * signed t n 0 := by
    rw [signed_zero, signed_zero, signed_zero]
    cases s <;> cases t <;> simp [Int.neg_mul, Int.mul_neg]
  rw [this, h2, h4, Int.pow_add]
  rw [Int.mul_assoc, Int.mul_assoc, Int.mul_left_comm (2 ^ i)]
theorem rep_order {f : Format} {x y : Nat} {a b : Int} (hx : Rep f x a) (hy : Rep f y b) : f.order x y = some (compare a b) := by
  obtain ⟨s, m, i, h1, h2⟩ := hx
  obtain ⟨t, n, j, h3, h4⟩ := hy
  unfold Format.order
  rw [h1, h3]
  simp only [Datum.order]
  have hmin : min (-(i : Int)) (-(j : Int)) = -((max i j : Nat) : Int) := by omega
  rw [hmin]
  have e1 : (-(i : Int) - -((max i j : Nat) : Int)).toNat = max i j - i := by omega
  have e2 : (-(j : Int) - -((max i j : Nat) : Int)).toNat = max i j - j := by omega
  rw [e1, e2]
  have g1 : signed s m (max i j - i) = a * 2 ^ (max i j) := by rw [signed_up, h2, Int.mul_assoc, ← Int.pow_add, show i + (max i j - i) = max i j by omega]
  have g2 : signed t n (max i j - j) = b * 2 ^ (max i j) := by rw [signed_up, h4, Int.mul_assoc, ← Int.pow_add, show j + (max i j - j) = max i j by omega]
  rw [g1, g2]
  have hp : (0 : Int) < 2 ^ (max i j) := Int.pow_pos (by decide)
  congr 1
  simp only [compare, compareOfLessAndEq]
  have q1 : (a * 2 ^ (max i j) < b * 2 ^ (max i j)) ↔ a < b := ⟨fun h => Int.lt_of_mul_lt_mul_right h (Int.le_of_lt hp), fun h => Int.mul_lt_mul_of_pos_right h hp⟩
  have q2 : (a * 2 ^ (max i j) = b * 2 ^ (max i j)) ↔ a = b := ⟨fun h => Int.eq_of_mul_eq_mul_right (Int.ne_of_gt hp) h, fun h => by rw [h]⟩
  simp only [q1, q2]
theorem rep_toInt {f : Format} {x : Nat} {a : Int} (hx : Rep f x a) : (f.read x).toInt .zero = some a := by
  obtain ⟨s, m, c, h1, h2⟩ := hx
  rw [h1]
  unfold Datum.toInt Datum.integral
  dsimp only
  have e1 : (-(c : Int)).toNat = 0 := by omega
  have e2 : (- -(c : Int)).toNat = c := by omega
  rw [e1, e2, Nat.shiftLeft_zero]
  have hp : (0 : Int) < 2 ^ c := Int.pow_pos (by decide)
  have hM : m = a.natAbs * 2 ^ c := by
    have := congrArg Int.natAbs h2
    rw [Int.natAbs_mul, Int.natAbs_pow, signed_zero] at this
    cases s <;> simpa using this
  have hcut : Toward.zero.cut s m c = a.natAbs := by
    rw [hM]
    refine cut_exact _ _ _ _ ?_
    rcases Nat.eq_zero_or_pos a.natAbs with h | h
    · exact .inr h
    · left; rw [log2_mul_pow h]; omega
  rw [hcut]
  congr 1
  rw [signed_zero] at h2 ⊢
  cases s
  · simp only [Bool.false_eq_true, if_false] at h2 ⊢
    have : 0 ≤ a * 2 ^ c := by rw [← h2]; omega
    have := Int.nonneg_of_mul_nonneg_left this hp
    omega
  · simp only [if_true] at h2 ⊢
    have h3 : 0 ≤ (-a) * 2 ^ c := by rw [Int.neg_mul, ← h2]; omega
    have := Int.nonneg_of_mul_nonneg_left h3 hp
    omega
end Go.Ev
