/-
  Chapter 9, contracts: whole quotients, comparing fractions, members of lists.
-/
import Derived.Test.YtiflkochjfiegaaDoorC9C
import Derived.KernelRfl
set_option linter.unusedVariables false
set_option linter.unusedSimpArgs false
set_option linter.unusedSectionVars false
namespace Go.Ev
open Go Go.Proofs
set_option maxRecDepth 20000

def big : Int := 4611686018427387904
def floorS : Spec := fun args σ K => match args, σ with
  | [.one (.int .i64 n), .one (.int .i64 b)], [] => (0 ≤ n ∧ n ≤ big ∧ 0 < b ∧ b ≤ big) ∧ K (.one (.int .i64 (n / b))) []
  | _, _ => False
def okCmp (n d m k : Int) : Prop := 0 ≤ n ∧ n ≤ big ∧ 0 < d ∧ d ≤ big ∧ 0 ≤ m ∧ m ≤ big ∧ 0 < k ∧ k ≤ big
/-- The order of n / d and m / k. -/
def cmpF (n d m k : Int) : Int := if n * k < m * d then -1 else if n * k = m * d then 0 else 1
def compareL : LSpec := fun vs σ k => match vs, σ with
  | [.one (.int .i64 n), .one (.int .i64 d), .one (.int .i64 m), .one (.int .i64 c)], [] => okCmp n d m c ∧ k .ret [.one (.int .i64 (cmpF n d m c))] []
  | _, _ => False
def compareS : Spec := fun args σ K => match args, σ with
  | [.one (.int .i64 n), .one (.int .i64 d), .one (.int .i64 m), .one (.int .i64 c)], [] => okCmp n d m c ∧ K (.one (.int .i64 (cmpF n d m c))) []
  | _, _ => False
def hasL : LSpec := fun vs σ k => match vs, σ with
  | [.one (.data (.ints .i64 l)), .one (.int .i64 n), .one (.int .i64 i)], [] => (l.length ≤ 1000000000 ∧ 0 ≤ i) ∧ bif memB n (l.drop i.toNat) then k .ret [.one (.bool true)] [] else k (.exit 0) [.any] []
  | _, _ => False
def hasS : Spec := fun args σ K => match args, σ with
  | [.one (.data (.ints .i64 l)), .one (.int .i64 n)], [] => l.length ≤ 1000000000 ∧ K (.one (.bool (memB n l))) []
  | _, _ => False
noncomputable abbrev Eflo : Env := envOf Tryd.prog [] [] 16 0
noncomputable abbrev Ecpr : Env := envOf Tryd.prog [(108, floorS)] [(1, .spec [0, 1, 2, 3] [8] compareL)] 47 0
noncomputable abbrev Ehav : Env := envOf Tryd.prog [] [(2, .spec [0, 1, 5] [4] hasL)] 18 0
end Go.Ev

namespace Go.Ev
open Go Go.Proofs
set_option maxRecDepth 100000
theorem exflo (n b : Int) (K : AV → List Blk → Prop) : evFn Eflo Tryd.f108 [.one (.int .i64 n), .one (.int .i64 b)] [] K = (
 bif !decide (b = (0 : Int)) then
 bif !decide (b = (0 : Int)) then
 bif decide (n.tmod b < (0 : Int)) then
 K (AV.one (SV.int IntKind.i64 (IntKind.i64.wrap (IntKind.i64.wrap (n.tdiv b) - (1 : Int))))) []
 else K (AV.one (SV.int IntKind.i64 (IntKind.i64.wrap (n.tdiv b)))) []
 else False
 else False) := by kernel_rfl
theorem excpr (n d m c : Int) (K : AV → List Blk → Prop) : evFn Ecpr Tryd.f33 [.one (.int .i64 n), .one (.int .i64 d), .one (.int .i64 m), .one (.int .i64 c)] [] K = (
 ((0 : Int) ≤ n ∧
 n ≤ (4611686018427387904 : Int) ∧
 (0 : Int) < d ∧
 d ≤ (4611686018427387904 : Int) ∧
 (0 : Int) ≤ m ∧ m ≤ (4611686018427387904 : Int) ∧ (0 : Int) < c ∧ c ≤ (4611686018427387904 : Int)) ∧
 K (AV.one (SV.int IntKind.i64 (cmpF n d m c))) []) := by kernel_rfl
theorem excprl0a (n d m c : Int) (K : Ex → List AV → List Blk → Prop) : evBody Ecpr (lb Tryd.f33 0) [0, 1, 2, 3] [8] [.one (.int .i64 n), .one (.int .i64 d), .one (.int .i64 m), .one (.int .i64 c)] [] K = (
 ((0 : Int) ≤ n ∧ n ≤ (4611686018427387904 : Int) ∧ (0 : Int) < d ∧ d ≤ (4611686018427387904 : Int)) ∧
 ((0 : Int) ≤ m ∧ m ≤ (4611686018427387904 : Int) ∧ (0 : Int) < c ∧ c ≤ (4611686018427387904 : Int)) ∧
 bif decide (n / d < m / c) then K Ex.ret [AV.one (SV.int IntKind.i64 (-1 : Int))] []
 else
 bif decide (n / d > m / c) then K Ex.ret [AV.one (SV.int IntKind.i64 (1 : Int))] []
 else
 bif IntKind.i64.wrap (n - IntKind.i64.wrap (n / d * d)) == (0 : Int) then
 bif IntKind.i64.wrap (m - IntKind.i64.wrap (m / c * c)) == (0 : Int) then
 K Ex.ret [AV.one (SV.int IntKind.i64 (0 : Int))] []
 else
 bif IntKind.i64.wrap (n - IntKind.i64.wrap (n / d * d)) == (0 : Int) then
 K Ex.ret [AV.one (SV.int IntKind.i64 (-1 : Int))] []
 else
 bif IntKind.i64.wrap (m - IntKind.i64.wrap (m / c * c)) == (0 : Int) then
 K Ex.ret [AV.one (SV.int IntKind.i64 (1 : Int))] []
 else
 K Ex.normal
 [AV.one (SV.int IntKind.i64 c),
 AV.one (SV.int IntKind.i64 (IntKind.i64.wrap (m - IntKind.i64.wrap (m / c * c)))),
 AV.one (SV.int IntKind.i64 d),
 AV.one (SV.int IntKind.i64 (IntKind.i64.wrap (n - IntKind.i64.wrap (n / d * d))))]
 []
 else
 bif IntKind.i64.wrap (n - IntKind.i64.wrap (n / d * d)) == (0 : Int) then
 K Ex.ret [AV.one (SV.int IntKind.i64 (-1 : Int))] []
 else
 bif IntKind.i64.wrap (m - IntKind.i64.wrap (m / c * c)) == (0 : Int) then
 K Ex.ret [AV.one (SV.int IntKind.i64 (1 : Int))] []
 else
 K Ex.normal
 [AV.one (SV.int IntKind.i64 c),
 AV.one (SV.int IntKind.i64 (IntKind.i64.wrap (m - IntKind.i64.wrap (m / c * c)))),
 AV.one (SV.int IntKind.i64 d),
 AV.one (SV.int IntKind.i64 (IntKind.i64.wrap (n - IntKind.i64.wrap (n / d * d))))]
 []) := by kernel_rfl
theorem exhav (l : List Int) (n : Int) (K : AV → List Blk → Prop) : evFn Ehav Tryd.f31 [.one (.data (.ints .i64 l)), .one (.int .i64 n)] [] K = (
 (l.length ≤ (1000000000 : Nat) ∧ (0 : Int) ≤ (0 : Int)) ∧
 bif memB n l then K (AV.one (SV.bool true)) [] else K (AV.one (SV.bool false)) []) := by kernel_rfl
theorem exhavl0a (l : List Int) (n i : Int) (K : Ex → List AV → List Blk → Prop) : evBody Ehav (lb Tryd.f31 0) [0, 1, 5] [4] [.one (.data (.ints .i64 l)), .one (.int .i64 n), .one (.int .i64 i)] [] K = (
 bif decide (i < (↑l.length : Int)) then
 bif decide ((0 : Int) ≤ i) && decide (i < (↑l.length : Int)) then
 bif decide (i.toNat + (0 : Nat) < l.length) then
 bif l.getD (i.toNat + (0 : Nat)) (0 : Int) == n then K Ex.ret [AV.one (SV.bool true)] []
 else
 K Ex.normal
 [AV.one (SV.data (Row.ints IntKind.i64 l)), AV.one (SV.int IntKind.i64 n),
 AV.one (SV.int IntKind.i64 (IntKind.i64.wrap (i + (1 : Int))))]
 []
 else False
 else False
 else K (Ex.exit (0 : Nat)) [AV.any] []) := by kernel_rfl
end Go.Ev

namespace Go.Ev
open Go Go.Proofs
attribute [local irreducible] evFn evBody evRound
set_option maxRecDepth 20000

theorem okflo : SpecOK Tryd.prog 108 floorS := by
  refine specOK (n := 16) (m := 0) (lps := []) .nil Tryd.func108 (by kernel_rfl) (by kernel_rfl) (noLoops (by kernel_rfl)) fun args σ K h => ?_
  unfold floorS at h
  split at h
  rotate_right
  · exact h.elim
  rename_i n b
  rw [exflo n b K]
  obtain ⟨⟨h1, h2, h3, h4⟩, h⟩ := h
  have hb : big = 4611686018427387904 := rfl
  rw [hb] at h2 h4
  have e1 : n.tdiv b = n / b := Int.tdiv_eq_ediv_of_nonneg h1
  have e2 := Int.ediv_nonneg h1 (Int.le_of_lt h3)
  have e3 := Int.ediv_le_self b h1
  have e4 : 0 ≤ n.tmod b := Int.tmod_nonneg b h1
  rw [decide_eq_false (show ¬ b = 0 by omega), decide_eq_false (show ¬ n.tmod b < 0 by omega), e1, wrap_id (n := n / b) (by omega) (by omega)]
  exact h
theorem cmp_step {n d m c : Int} (hd : 0 < d) (hc : 0 < c) :
    (n / d < m / c → cmpF n d m c = -1) ∧ (n / d > m / c → cmpF n d m c = 1) ∧
    (n / d = m / c → (n * c < m * d ↔ n % d * c < m % c * d) ∧ (n * c = m * d ↔ n % d * c = m % c * d)) := by
  have hn : n = n / d * d + n % d := by have := Int.emod_add_mul_ediv n d; rw [Int.mul_comm]; omega
  have hm : m = m / c * c + m % c := by have := Int.emod_add_mul_ediv m c; rw [Int.mul_comm]; omega
  have r1 := Int.emod_nonneg n (show d ≠ 0 by omega)
  have r2 := Int.emod_lt_of_pos n hd
  have s1 := Int.emod_nonneg m (show c ≠ 0 by omega)
  have s2 := Int.emod_lt_of_pos m hc
  generalize n / d = p at *
  generalize m / c = q at *
  generalize n % d = r at *
  generalize m % c = s at *
  have hD : 0 < d * c := Int.mul_pos hd hc
  have e1 : n * c = p * (d * c) + r * c := by rw [hn, Int.add_mul, Int.mul_assoc]
  have e2 : m * d = q * (d * c) + s * d := by rw [hm, Int.add_mul, Int.mul_assoc, Int.mul_comm c d]
  have f1 : 0 ≤ r * c := Int.mul_nonneg r1 (by omega)
  have f2 : r * c < d * c := Int.mul_lt_mul_of_pos_right r2 hc
  have f3 : 0 ≤ s * d := Int.mul_nonneg s1 (by omega)
  have f4 : s * d < d * c := by rw [Int.mul_comm d c]; exact Int.mul_lt_mul_of_pos_right s2 hd
  generalize r * c = x at *
  generalize s * d = y at *
  generalize d * c = D at *
  unfold cmpF
  rw [e1, e2]
  refine ⟨fun h => ?_, fun h => ?_, fun h => ?_⟩
  · have := Int.mul_le_mul_of_nonneg_right (show p + 1 ≤ q by omega) (Int.le_of_lt hD)
    rw [Int.add_mul] at this
    rw [if_pos (by omega)]
  · have := Int.mul_le_mul_of_nonneg_right (show q + 1 ≤ p by omega) (Int.le_of_lt hD)
    rw [Int.add_mul] at this
    rw [if_neg (by omega), if_neg (by omega)]
  · subst h
    exact ⟨by omega, by omega⟩
theorem lokcpr_0 : LoopOK Ecpr (lb Tryd.f33 0) [0, 1, 2, 3] [8] compareL := by
  refine loopOK (.cons okflo .nil) (noInner (by kernel_rfl)) (fun vs σ => match vs, σ with
    | [.one (.int .i64 _), .one (.int .i64 d), .one (.int .i64 _), .one (.int .i64 c)], [] => (d + c).toNat
    | _, _ => 0) fun vs σ k h => ?_
  unfold compareL at h
  split at h
  rotate_right
  · exact h.elim
  rename_i n d m c
  rw [excprl0a n d m c _]
  obtain ⟨⟨h1, h2, h3, h4, h5, h6, h7, h8⟩, h⟩ := h
  have hb : big = 4611686018427387904 := rfl
  rw [hb] at h2 h4 h6 h8
  obtain ⟨c1, c2, c3⟩ := cmp_step (n := n) (m := m) h3 h7
  have d1 : n / d * d ≤ n := Int.ediv_mul_le n (by omega)
  have d2 : m / c * c ≤ m := Int.ediv_mul_le m (by omega)
  have d3 := Int.mul_nonneg (Int.ediv_nonneg h1 (Int.le_of_lt h3)) (Int.le_of_lt h3)
  have d4 := Int.mul_nonneg (Int.ediv_nonneg h5 (Int.le_of_lt h7)) (Int.le_of_lt h7)
  have w1 : IntKind.i64.wrap (n / d * d) = n / d * d := wrap_id (by omega) (by omega)
  have w2 : IntKind.i64.wrap (m / c * c) = m / c * c := wrap_id (by omega) (by omega)
  have e1 : n - n / d * d = n % d := by rw [Int.emod_def, Int.mul_comm]
  have e2 : m - m / c * c = m % c := by rw [Int.emod_def, Int.mul_comm]
  have r1 := Int.emod_nonneg n (show d ≠ 0 by omega)
  have r2 := Int.emod_lt_of_pos n h3
  have s1 := Int.emod_nonneg m (show c ≠ 0 by omega)
  have s2 := Int.emod_lt_of_pos m h7
  have w3 : IntKind.i64.wrap (n % d) = n % d := wrap_id (by omega) (by omega)
  have w4 : IntKind.i64.wrap (m % c) = m % c := wrap_id (by omega) (by omega)
  rw [w1, w2, e1, e2, w3, w4]
  refine ⟨⟨h1, h2, h3, h4⟩, ⟨h5, h6, h7, h8⟩, ?_⟩
  by_cases p1 : n / d < m / c
  · rw [decide_eq_true p1, cond_true]; rw [c1 p1] at h; exact h
  rw [decide_eq_false p1, cond_false]
  by_cases p2 : n / d > m / c
  · rw [decide_eq_true p2, cond_true]; rw [c2 p2] at h; exact h
  rw [decide_eq_false p2, cond_false]
  obtain ⟨c4, c5⟩ := c3 (by omega)
  generalize n % d = r at *
  generalize m % c = s at *
  unfold cmpF at h
  by_cases hr : r = 0
  · have k1 : (r == 0) = true := by rw [hr]; rfl
    rw [k1, cond_true, cond_true]
    by_cases hs : s = 0
    · have k2 : (s == 0) = true := by rw [hs]; rfl
      rw [k2, cond_true]
      rw [hr, hs, Int.zero_mul, Int.zero_mul] at c4 c5
      rw [if_neg (by omega), if_pos (by omega)] at h
      exact h
    · have k2 : (s == 0) = false := beq_eq_false_iff_ne.2 hs
      rw [k2, cond_false]
      have := Int.mul_pos (show 0 < s by omega) h3
      rw [hr, Int.zero_mul] at c4
      rw [if_pos (by omega)] at h
      exact h
  · have k1 : (r == 0) = false := beq_eq_false_iff_ne.2 hr
    rw [k1, cond_false, cond_false]
    have hrc := Int.mul_pos (show 0 < r by omega) h7
    by_cases hs : s = 0
    · have k2 : (s == 0) = true := by rw [hs]; rfl
      rw [k2, cond_true]
      rw [hs, Int.zero_mul] at c4 c5
      rw [if_neg (by omega), if_neg (by omega)] at h
      exact h
    · have k2 : (s == 0) = false := beq_eq_false_iff_ne.2 hs
      rw [k2, cond_false]
      refine ⟨⟨⟨by omega, h8, by omega, ?_, by omega, h4, by omega, ?_⟩, ?_⟩, ?_⟩
      · rw [hb]; omega
      · rw [hb]; omega
      · unfold cmpF
        have e3 : (c * r < d * s) ↔ (n * c < m * d) := by rw [Int.mul_comm c r, Int.mul_comm d s]; exact c4.symm
        have e4 : (c * r = d * s) ↔ (n * c = m * d) := by rw [Int.mul_comm c r, Int.mul_comm d s]; exact c5.symm
        simp only [e3, e4]
        exact h
      · show (s + r).toNat < (d + c).toNat
        omega
theorem okcpr : SpecOK Tryd.prog 33 compareS := by
  refine specOK (n := 47) (m := 0) (lps := [(1, .spec [0, 1, 2, 3] [8] compareL)]) (.cons okflo .nil) Tryd.func33 (by kernel_rfl) (by kernel_rfl) (theLoops (n := 1) (by kernel_rfl) fun i hi => ?_) fun args σ K h => ?_
  · match i, hi with
    | 0, _ => exact loopHyp_of (key := 1) (by kernel_rfl) rfl lokcpr_0
  unfold compareS at h
  split at h
  rotate_right
  · exact h.elim
  rename_i n d m c
  rw [excpr n d m c K]
  exact h
theorem memB_step {v : Int} {l : List Int} {i : Nat} (h : i < l.length) : memB v (l.drop i) = ((l.getD i 0 == v) || memB v (l.drop (i + 1))) := by
  rw [drop_step 0 h]
  show ((v == l.getD i 0) || _) = _
  rw [BEq.comm (a := v)]
  rfl
theorem lokhav_0 : LoopOK Ehav (lb Tryd.f31 0) [0, 1, 5] [4] hasL := by
  refine loopOK .nil (noInner (by kernel_rfl)) (fun vs σ => match vs, σ with
    | [.one (.data (.ints .i64 l)), .one (.int .i64 _), .one (.int .i64 i)], [] => (l.length - i).toNat
    | _, _ => 0) fun vs σ k h => ?_
  unfold hasL at h
  split at h
  rotate_right
  · exact h.elim
  rename_i l n i
  rw [exhavl0a l n i _]
  obtain ⟨⟨h1, h2⟩, h⟩ := h
  by_cases hi : i < (l.length : Int)
  · have hw : IntKind.i64.wrap (i + 1) = i + 1 := wrap_id (by omega) (by omega)
    rw [decide_eq_true hi, decide_eq_true h2, decide_eq_true (show i.toNat + 0 < l.length by omega), hw]
    simp only [cond_true, Bool.and_self, Nat.add_zero]
    rw [memB_step (show i.toNat < l.length by omega), show i.toNat + 1 = (i + 1).toNat by omega] at h
    cases hb : l.getD i.toNat 0 == n with
    | true => rw [hb] at h; exact h
    | false =>
      rw [hb, Bool.false_or] at h
      exact ⟨⟨⟨h1, by omega⟩, h⟩, by show ((l.length : Int) - (i + 1)).toNat < ((l.length : Int) - i).toNat; omega⟩
  · rw [decide_eq_false hi]
    rw [List.drop_eq_nil_of_le (by omega)] at h
    exact h
theorem okhav : SpecOK Tryd.prog 31 hasS := by
  refine specOK (n := 18) (m := 0) (lps := [(2, .spec [0, 1, 5] [4] hasL)]) .nil Tryd.func31 (by kernel_rfl) (by kernel_rfl) (theLoops (n := 1) (by kernel_rfl) fun i hi => ?_) fun args σ K h => ?_
  · match i, hi with
    | 0, _ => exact loopHyp_of (key := 2) (by kernel_rfl) rfl lokhav_0
  unfold hasS at h
  split at h
  rotate_right
  · exact h.elim
  rename_i l n
  rw [exhav l n K]
  obtain ⟨h1, h⟩ := h
  refine ⟨⟨h1, by decide⟩, ?_⟩
  cases hm : memB n l with
  | true => rw [hm] at h; exact h
  | false => rw [hm] at h; exact h
end Go.Ev
