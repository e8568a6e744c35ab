/-
  Chapter 9, plain facts: the peak in floating-point words is the peak in whole numbers.
-/
import Derived.Test.YtiflkochjfiegaaDoorC9E
import Derived.Test.YtiflkochjfiegaaDoorCFlt2
set_option linter.unusedVariables false
set_option linter.unusedSimpArgs false
set_option linter.unusedSectionVars false
namespace Go.Ev
open Go Go.Proofs Ieee
set_option maxRecDepth 20000

theorem sgn_neg (b : Nat) : single.read (fNeg .f32 b) = (single.read b).opposite := by
  have e0 : fNeg .f32 b = b ^^^ 2 ^ 31 := rfl
  have hw : single.signWeight = 2 ^ 31 := rfl
  have h1 : (b ^^^ 2 ^ 31) % 2 ^ 31 = b % 2 ^ 31 := by
    rw [Nat.xor_mod_two_pow, Nat.mod_self, Nat.xor_zero]
  have h2 : ((b ^^^ 2 ^ 31) / 2 ^ 31 % 2 == 1) = !(b / 2 ^ 31 % 2 == 1) := by
    rw [Nat.xor_div_two_pow, Nat.div_self (Nat.two_pow_pos _)]
    have := Nat.xor_mod_two_pow (a := b / 2 ^ 31) (b := 1) (n := 1)
    simp only [Nat.pow_one] at this
    rw [this]
    rcases Nat.mod_two_eq_zero_or_one (b / 2 ^ 31) with h | h <;> rw [h] <;> rfl
  rw [e0]
  unfold Format.read
  rw [hw]
  simp only [h1, h2]
  split
  · rfl
  · split
    · rfl
    · split <;> rfl
theorem rep_neg {b : Nat} {n : Int} (h : Rep single b n) : Rep single (fNeg .f32 b) (-n) := by
  obtain ⟨s, m, c, h1, h2⟩ := h
  refine ⟨!s, m, c, by rw [sgn_neg, h1]; rfl, ?_⟩
  rw [signed_zero] at h2 ⊢
  rw [Int.neg_mul, ← h2]
  cases s <;> simp
theorem rep_bits0 : Rep single 0 0 := ⟨false, 0, 149, by decide +kernel, by decide⟩
theorem fits_of {n : Int} (h1 : -16777215 ≤ n) (h2 : n ≤ 16777215) : fits single n := by
  show n.natAbs < 2 ^ 24
  omega
theorem f_mul {x y : Nat} {a b : Int} (hx : Rep single x a) (hy : Rep single y b) (h1 : -16777215 ≤ a * b) (h2 : a * b ≤ 16777215) : mulOk x y = true ∧ Rep single (mulF x y) (a * b) := by
  obtain ⟨r, e, hr⟩ := rep_mul wide_single hx hy (fits_of h1 h2)
  have e' : fArith .mul .f32 x y = some r := e
  unfold mulOk mulF fOk fVal
  rw [e']
  exact ⟨rfl, hr⟩
theorem f_add {x y : Nat} {a b : Int} (hx : Rep single x a) (hy : Rep single y b) (h1 : -16777215 ≤ a + b) (h2 : a + b ≤ 16777215) : addOk x y = true ∧ Rep single (addF x y) (a + b) := by
  obtain ⟨r, e, hr⟩ := rep_add wide_single hx hy (fits_of h1 h2)
  have e' : fArith .add .f32 x y = some r := e
  unfold addOk addF fOk fVal
  rw [e']
  exact ⟨rfl, hr⟩
def maxI (a b : Int) : Int := if a < b then b else a
theorem f_max {x y : Nat} {a b : Int} (hx : Rep single x a) (hy : Rep single y b) : fMaxOk .f32 x y = true ∧ Rep single (fMaxV .f32 x y) (maxI a b) := by
  have e : FloatKind.f32.format.order x y = some (compare a b) := rep_order (f := single) hx hy
  unfold fMaxOk fMaxV maxI
  rw [e]
  refine ⟨rfl, ?_⟩
  rcases Int.lt_trichotomy a b with h | h | h
  · have : compare a b = .lt := by
      show (if a < b then Ordering.lt else if a = b then Ordering.eq else Ordering.gt) = _
      rw [if_pos h]
    rw [this, if_pos h]; exact hy
  · subst h
    have : compare a a = .eq := by
      show (if a < a then Ordering.lt else if a = a then Ordering.eq else Ordering.gt) = _
      rw [if_neg (Int.lt_irrefl a), if_pos rfl]
    rw [this, if_neg (Int.lt_irrefl a)]
    show Rep single (if (FloatKind.f32.decode x).neg then y else x) a
    split
    · exact hy
    · exact hx
  · have : compare a b = .gt := by
      show (if a < b then Ordering.lt else if a = b then Ordering.eq else Ordering.gt) = _
      rw [if_neg (show ¬ a < b by omega), if_neg (show ¬ a = b by omega)]
    rw [this, if_neg (show ¬ a < b by omega)]; exact hx
def absI (a : Int) : Int := maxI a (-a)
theorem f_abs {x : Nat} {a : Int} (hx : Rep single x a) : absOk x = true ∧ Rep single (absF x) (absI a) := f_max hx (rep_neg hx)

/-! ### Samples -/
def atI (x : List Int) (i : Int) : Int := bif decide (i < 0) || decide (i ≥ x.length) then 0 else x.getD i.toNat 0
theorem getD_sample {x : List Int} (h : x.all sampleG = true) (k : Nat) : -32767 ≤ x.getD k 0 ∧ x.getD k 0 ≤ 32767 := by
  rcases Nat.lt_or_ge k x.length with hk | hk
  · have := List.all_eq_true.1 h x[k] (List.getElem_mem hk)
    rw [getD_of_lt hk]
    unfold sampleG withinG at this
    simp only [Bool.and_eq_true, decide_eq_true_eq] at this
    exact this
  · rw [List.getD_eq_getElem?_getD, List.getElem?_eq_none hk]
    exact ⟨by decide, by decide⟩
theorem atI_range {x : List Int} (h : x.all sampleG = true) (i : Int) : -32767 ≤ atI x i ∧ atI x i ≤ 32767 := by
  unfold atI
  cases decide (i < 0) || decide (i ≥ x.length)
  · exact getD_sample h _
  · exact ⟨show (-32767 : Int) ≤ 0 by decide, show (0 : Int) ≤ 32767 by decide⟩
theorem rep_at {x : List Int} (h : x.all sampleG = true) (i : Int) : Rep single (atF x i) (atI x i) := by
  unfold atF atI
  cases decide (i < 0) || decide (i ≥ x.length)
  · have := getD_sample h i.toNat
    exact rep_ofInt wide_single (fits_of (by omega) (by omega))
  · exact rep_bits0
def ksI (x : List Int) (i : Int) (a b c d : Int) : Int := 0 + a * atI x (i - 1) + b * atI x i + c * atI x (i + 1) + d * atI x (i + 2)
theorem mul_range {a s : Int} {A : Int} (ha1 : -A ≤ a) (ha2 : a ≤ A) (hs : -32767 ≤ s ∧ s ≤ 32767) : -(A * 32767) ≤ a * s ∧ a * s ≤ A * 32767 := by
  have hA : 0 ≤ A := by omega
  have h : (a * s).natAbs ≤ A.natAbs * 32767 := by
    rw [Int.natAbs_mul]; exact Nat.mul_le_mul (by omega) (by omega)
  have e : (A * 32767).natAbs = A.natAbs * 32767 := Int.natAbs_mul _ _
  omega
theorem f_sum {x : List Int} (h : x.all sampleG = true) (i : Int) {a' b' c' d' : Nat} {a b c d : Int} (ha : Rep single a' a) (hb : Rep single b' b) (hc : Rep single c' c) (hd : Rep single d' d)
    (ra : -105 ≤ a ∧ a ≤ 105) (rb : -105 ≤ b ∧ b ≤ 105) (rc : -105 ≤ c ∧ c ≤ 105) (rd : -105 ≤ d ∧ d ≤ 105) :
    sumOk x i a' b' c' d' = true ∧ Rep single (sumF x i a' b' c' d') (ksI x i a b c d) ∧ -13762140 ≤ ksI x i a b c d ∧ ksI x i a b c d ≤ 13762140 := by
  have p1 := mul_range ra.1 ra.2 (atI_range h (i - 1))
  have p2 := mul_range rb.1 rb.2 (atI_range h i)
  have p3 := mul_range rc.1 rc.2 (atI_range h (i + 1))
  have p4 := mul_range rd.1 rd.2 (atI_range h (i + 2))
  obtain ⟨m1, n1⟩ := f_mul ha (rep_at h (i - 1)) (by omega) (by omega)
  obtain ⟨m2, n2⟩ := f_mul hb (rep_at h i) (by omega) (by omega)
  obtain ⟨m3, n3⟩ := f_mul hc (rep_at h (i + 1)) (by omega) (by omega)
  obtain ⟨m4, n4⟩ := f_mul hd (rep_at h (i + 2)) (by omega) (by omega)
  obtain ⟨q1, r1⟩ := f_add rep_bits0 n1 (by omega) (by omega)
  obtain ⟨q2, r2⟩ := f_add r1 n2 (by omega) (by omega)
  obtain ⟨q3, r3⟩ := f_add r2 n3 (by omega) (by omega)
  obtain ⟨q4, r4⟩ := f_add r3 n4 (by omega) (by omega)
  obtain ⟨q5, _⟩ := f_abs r4
  refine ⟨?_, r4, ?_, ?_⟩
  · unfold sumOk
    rw [m1, q1, m2, q2, m3, q3, m4, q4]
    exact q5
  · unfold ksI; omega
  · unfold ksI; omega
theorem rep_m7 : Rep single 3235905536 (-7) := ⟨true, 14680064, 21, by decide +kernel, by decide⟩
theorem rep_105 : Rep single 1121058816 105 := ⟨false, 13762560, 17, by decide +kernel, by decide⟩
theorem rep_35 : Rep single 1108082688 35 := ⟨false, 9175040, 18, by decide +kernel, by decide⟩
theorem rep_m5 : Rep single 3231711232 (-5) := ⟨true, 10485760, 21, by decide +kernel, by decide⟩
theorem rep_m8 : Rep single 3238002688 (-8) := ⟨true, 8388608, 20, by decide +kernel, by decide⟩
theorem rep_72 : Rep single 1116733440 72 := ⟨false, 9437184, 17, by decide +kernel, by decide⟩
theorem rep_128 : Rep single 1124073472 128 := ⟨false, 8388608, 16, by decide +kernel, by decide⟩

/-! ### The values, and their maximum -/
def k1I (x : List Int) (i : Int) : Int := ksI x i (-7) 105 35 (-5)
def k2I (x : List Int) (i : Int) : Int := ksI x i (-8) 72 72 (-8)
def k3I (x : List Int) (i : Int) : Int := ksI x i (-5) 35 105 (-7)
def oneI (x : List Int) (i : Int) : Int := 128 * atI x i
def fineI (x : List Int) : Nat → Int → List Int
  | 0, _ => []
  | n + 1, i => absI (oneI x i) :: (bif i + 1 == (x.length : Int) then [] else absI (k1I x i) :: absI (k2I x i) :: absI (k3I x i) :: fineI x n (i + 1))
theorem absI_range {a B : Int} (h : -B ≤ a ∧ a ≤ B) : 0 ≤ absI a ∧ absI a ≤ B := by unfold absI maxI; split <;> omega
theorem fine_rep {x : List Int} (h : x.all sampleG = true) : ∀ (n : Nat) (i : Int), fineOk x n i = true ∧ All2 (Rep single) (fineB x n i) (fineI x n i) ∧ ∀ v ∈ fineI x n i, 0 ≤ v ∧ v ≤ 13762140
  | 0, i => ⟨rfl, trivial, fun v hv => by simp [fineI] at hv⟩
  | n + 1, i => by
    have pr := atI_range h i
    obtain ⟨a1, a2⟩ := f_mul rep_128 (rep_at h i) (by omega) (by omega)
    obtain ⟨a3, a4⟩ := f_abs a2
    have a5 := absI_range (a := 128 * atI x i) (B := 13762140) (by omega)
    simp only [fineOk, fineB, fineI]
    have e1 : (mulOk 1124073472 (atF x i) && absOk (oneF x i)) = true := by
      unfold oneF; rw [a1, a3]; rfl
    rw [e1]
    cases i + 1 == (x.length : Int) with
    | true =>
      refine ⟨rfl, ⟨a4, trivial⟩, fun v hv => ?_⟩
      simp only [cond_true, List.mem_singleton] at hv
      rw [hv]; exact a5
    | false =>
      obtain ⟨b1, b2, b3⟩ := f_sum h i rep_m7 rep_105 rep_35 rep_m5 (by omega) (by omega) (by omega) (by omega)
      obtain ⟨c1, c2, c3⟩ := f_sum h i rep_m8 rep_72 rep_72 rep_m8 (by omega) (by omega) (by omega) (by omega)
      obtain ⟨d1, d2, d3⟩ := f_sum h i rep_m5 rep_35 rep_105 rep_m7 (by omega) (by omega) (by omega) (by omega)
      obtain ⟨f1, f2, f3⟩ := fine_rep h n (i + 1)
      rw [b1, c1, d1, f1]
      refine ⟨rfl, ⟨a4, (f_abs b2).2, (f_abs c2).2, (f_abs d2).2, f2⟩, fun v hv => ?_⟩
      simp only [cond_false, List.mem_cons] at hv
      rcases hv with rfl | rfl | rfl | rfl | hv
      · exact a5
      · exact absI_range b3
      · exact absI_range c3
      · exact absI_range d3
      · exact f3 v hv
def maxL : Int → List Int → Int
  | b, [] => b
  | b, v :: l => maxL (maxI b v) l
theorem max_rep : ∀ {l : List Nat} {k : List Int} {b : Nat} {a : Int}, All2 (Rep single) l k → Rep single b a → maxOk b l = true ∧ Rep single (maxF b l) (maxL a k)
  | [], [], _, _, _, hb => ⟨rfl, hb⟩
  | [], _ :: _, _, _, h, _ => h.elim
  | _ :: _, [], _, _, h, _ => h.elim
  | f :: l, v :: k, b, a, h, hb => by
    obtain ⟨e1, e2⟩ := f_max hb h.1
    obtain ⟨e3, e4⟩ := max_rep h.2 e2
    simp only [maxOk, maxF, maxL]
    rw [e1, e3]
    exact ⟨rfl, e4⟩
theorem maxL_range {B : Int} : ∀ {l : List Int} {a : Int}, (∀ v ∈ l, 0 ≤ v ∧ v ≤ B) → 0 ≤ a → a ≤ B → 0 ≤ maxL a l ∧ maxL a l ≤ B
  | [], _, _, h0, h1 => ⟨h0, h1⟩
  | v :: l, a, h, h0, h1 => by
    have := h v (by simp)
    simp only [maxL]
    exact maxL_range (fun w hw => h w (by simp [hw])) (by unfold maxI; split <;> omega) (by unfold maxI; split <;> omega)
/-- The true peak times 128, in whole numbers. -/
def pkI (x : List Int) : Int := maxL 0 (fineI x x.length 0)
theorem peak_whole {x : List Int} (h : x.all sampleG = true) : peakOk x = true ∧ peakG x = pkI x ∧ 0 ≤ pkI x ∧ pkI x ≤ 13762140 := by
  obtain ⟨f1, f2, f3⟩ := fine_rep h x.length 0
  obtain ⟨m1, m2⟩ := max_rep f2 rep_bits0
  have hr := maxL_range (a := 0) f3 (by decide) (by decide)
  have hi : (FloatKind.f32.decode (peakF x)).toInt .zero = some (pkI x) := rep_toInt m2
  have ht : fToOk .f32 (peakF x) .i64 = true := by
    unfold fToOk
    rw [hi]
    have : IntKind.i64.min ≤ pkI x ∧ pkI x ≤ IntKind.i64.max := by
      have e1 : IntKind.i64.min = -9223372036854775808 := by decide
      have e2 : IntKind.i64.max = 9223372036854775807 := by decide
      unfold pkI
      omega
    exact decide_eq_true this
  refine ⟨?_, ?_, hr⟩
  · unfold peakOk
    rw [f1, m1, ht]; rfl
  · unfold peakG fToV
    rw [hi]; rfl
end Go.Ev
