/-
  Chapter 1, contracts: the examples; the law of carriers.
-/
import Derived.Test.YtlejemnljojpgaaC1G
import Derived.KernelRfl
set_option linter.unusedVariables false
set_option linter.unusedSimpArgs false
set_option linter.unusedSectionVars false
namespace Go.Ev
open Go Go.Proofs
set_option maxRecDepth 20000

def trueS : Spec := fun args σ K => match args, σ with
  | [], [] => K (.one (.bool true)) []
  | _, _ => False
noncomputable abbrev E15 : Env := envOf Try.prog [(16, turnS), (28, packedS), (39, inverseOfS), (20, sumOfS), (68, wholeS), (30, intsS)] [] 61 0
noncomputable abbrev E3 : Env := envOf Try.prog [(15, trueS), (16, turnS), (17, carrierS), (18, carrierS), (19, refTurnS)] [] 43 0
end Go.Ev

namespace Go.Ev
open Go Go.Proofs
set_option maxRecDepth 100000
theorem ex15 (K : AV → List Blk → Prop) : evFn E15 Try.f15 [] [] K = (
 (2 : Nat) ≤ (1000000 : Nat) ∧ (100 : Int) ≠ (0 : Int) ∧ (24 : Nat) ≤ (1000000000 : Nat) ∧ K (AV.one (SV.bool true)) []) := by kernel_rfl
theorem ex3 (nm : List UInt8) (k s n d rate : Int) (K : AV → List Blk → Prop) : evFn E3 Try.f3 [.agg [.str nm, .int .i64 k, .int .i64 s, .int .i64 n, .int .i64 d], .one (.int .i64 rate)] [] K = (
 bif decide ((↑nm.length : Int) > (20 : Int)) then K (AV.one (SV.bool true)) []
 else
 nm.length ≤ (1000000 : Nat) ∧
 bif turnE nm k s n d rate != (0 : Int) then
 nm.length ≤ (1000000 : Nat) ∧
 nm.length ≤ (1000000 : Nat) ∧
 bif carrierG nm k s n d != carrierG nm k s n d then K (AV.one (SV.bool false)) []
 else
 bif carrierG nm k s n d == (0 : Int) then
 bif k == (2 : Int) then
 bif turnE nm k s n d rate == (15 : Int) then K (AV.one (SV.bool true)) []
 else K (AV.one (SV.bool false)) []
 else
 bif !withinG rate (1 : Int) (200000 : Int) then
 bif turnE nm k s n d rate == (2 : Int) then K (AV.one (SV.bool true)) []
 else K (AV.one (SV.bool false)) []
 else
 divG (rateG rate d) n ≠ (0 : Int) ∧
 bif
 smallG (wi ((rateG rate d).tdiv (divG (rateG rate d) n)))
 (wi (n.tdiv (divG (rateG rate d) n))) then
 bif turnE nm k s n d rate == (0 : Int) then
 K
 (AV.one
 (SV.bool
 ((0 : Int) == wi ((rateG rate d).tdiv (divG (rateG rate d) n)) &&
 (0 : Int) == wi (n.tdiv (divG (rateG rate d) n)))))
 []
 else K (AV.one (SV.bool false)) []
 else
 bif turnE nm k s n d rate == (8 : Int) then K (AV.one (SV.bool true)) []
 else K (AV.one (SV.bool false)) []
 else
 bif turnE nm k s n d rate == carrierG nm k s n d then K (AV.one (SV.bool true)) []
 else K (AV.one (SV.bool false)) []
 else
 sizeG (gcdG (rateG rate d) n) ≠ (0 : Int) ∧
 bif
 decide (wi ((rateG rate d).tdiv (sizeG (gcdG (rateG rate d) n))) > (1000000000 : Int)) ||
 decide (wi (n.tdiv (sizeG (gcdG (rateG rate d) n))) > (1000000000 : Int)) then
 nm.length ≤ (1000000 : Nat) ∧
 nm.length ≤ (1000000 : Nat) ∧
 bif carrierG nm k s n d != carrierG nm k s n d then K (AV.one (SV.bool false)) []
 else
 bif carrierG nm k s n d == (0 : Int) then
 bif k == (2 : Int) then K (AV.one (SV.bool false)) []
 else
 bif !withinG rate (1 : Int) (200000 : Int) then K (AV.one (SV.bool false)) []
 else
 divG (rateG rate d) n ≠ (0 : Int) ∧
 bif
 smallG (wi ((rateG rate d).tdiv (divG (rateG rate d) n)))
 (wi (n.tdiv (divG (rateG rate d) n))) then
 K (AV.one (SV.bool false)) []
 else K (AV.one (SV.bool true)) []
 else
 bif (8 : Int) == carrierG nm k s n d then K (AV.one (SV.bool true)) []
 else K (AV.one (SV.bool false)) []
 else
 nm.length ≤ (1000000 : Nat) ∧
 nm.length ≤ (1000000 : Nat) ∧
 bif carrierG nm k s n d != carrierG nm k s n d then K (AV.one (SV.bool false)) []
 else
 bif carrierG nm k s n d == (0 : Int) then
 bif k == (2 : Int) then K (AV.one (SV.bool false)) []
 else
 bif !withinG rate (1 : Int) (200000 : Int) then K (AV.one (SV.bool false)) []
 else
 divG (rateG rate d) n ≠ (0 : Int) ∧
 bif
 smallG (wi ((rateG rate d).tdiv (divG (rateG rate d) n)))
 (wi (n.tdiv (divG (rateG rate d) n))) then
 K
 (AV.one
 (SV.bool
 (wi ((rateG rate d).tdiv (sizeG (gcdG (rateG rate d) n))) ==
 wi ((rateG rate d).tdiv (divG (rateG rate d) n)) &&
 wi (n.tdiv (sizeG (gcdG (rateG rate d) n))) == wi (n.tdiv (divG (rateG rate d) n)))))
 []
 else K (AV.one (SV.bool false)) []
 else
 bif (0 : Int) == carrierG nm k s n d then
 K
 (AV.one
 (SV.bool
 (wi ((rateG rate d).tdiv (sizeG (gcdG (rateG rate d) n))) == (0 : Int) &&
 wi (n.tdiv (sizeG (gcdG (rateG rate d) n))) == (0 : Int))))
 []
 else K (AV.one (SV.bool false)) []) := by kernel_rfl
end Go.Ev

namespace Go.Ev
open Go Go.Proofs
attribute [local irreducible] evFn evBody
set_option maxRecDepth 20000

theorem ok15 : SpecOK Try.prog 15 trueS := by
  refine specOK (n := 61) (m := 0) (lps := []) (.cons ok16 (.cons ok28 (.cons ok39 (.cons ok20 (.cons ok68 (.cons ok30 .nil)))))) Try.func15 (by kernel_rfl) (by kernel_rfl) (noLoops (by kernel_rfl)) fun args σ K h => ?_
  unfold trueS at h
  split at h
  · rw [ex15 K]
    exact ⟨by decide, by decide, by decide, h⟩
  · exact h.elim

theorem natAbs_gcdG (a b : Int) : (gcdG a b).natAbs = Nat.gcd a.natAbs b.natAbs := by
  induction hb : b.natAbs using Nat.strongRecOn generalizing a b with
  | ind n ih =>
    subst hb
    rw [gcdG]
    by_cases h : b = 0
    · rw [if_pos h, h]; simp
    · rw [if_neg h, ih _ (by rw [Int.natAbs_tmod]; exact Nat.mod_lt _ (by omega)) b _ rfl, Int.natAbs_tmod, Nat.gcd_comm b.natAbs, ← Nat.gcd_rec, Nat.gcd_comm]
theorem sizeG_natAbs {n : Int} (h1 : -9223372036854775807 ≤ n) (h2 : n ≤ 9223372036854775807) : sizeG n = n.natAbs := by
  unfold sizeG
  rw [wi_id (by omega) (by omega)]
  split <;> omega
/-- The greatest common divisor of a number and one above 0. -/
theorem gcdG_pos {a b : Int} (hb : 0 < b) (hb2 : b ≤ 9223372036854775807) : sizeG (gcdG a b) = (Nat.gcd a.natAbs b.natAbs : Int) ∧ 0 < sizeG (gcdG a b) ∧ sizeG (gcdG a b) ≤ b ∧ sizeG (gcdG a b) ∣ b ∧ sizeG (gcdG a b) ∣ a := by
  have hg := natAbs_gcdG a b
  have hle : Nat.gcd a.natAbs b.natAbs ≤ b.natAbs := Nat.gcd_le_right _ (by omega)
  have hpos : 0 < Nat.gcd a.natAbs b.natAbs := Nat.gcd_pos_of_pos_right _ (by omega)
  have e : sizeG (gcdG a b) = (Nat.gcd a.natAbs b.natAbs : Int) := by rw [sizeG_natAbs (by omega) (by omega), hg]
  refine ⟨e, by omega, by omega, ?_, ?_⟩
  · rw [e]; exact Int.ofNat_dvd_left.2 (Nat.gcd_dvd_right _ _)
  · rw [e]; exact Int.ofNat_dvd_left.2 (Nat.gcd_dvd_left _ _)

theorem turn_small {n d rate : Int} (hn : 1 ≤ n ∧ n ≤ 10000) (hd : 1 ≤ d ∧ d ≤ 10000) (hr : 1 ≤ rate ∧ rate ≤ 200000) :
    divG (rateG rate d) n = sizeG (gcdG (rateG rate d) n) ∧ sizeG (gcdG (rateG rate d) n) ≠ 0 ∧
    smallG (wi ((rateG rate d).tdiv (sizeG (gcdG (rateG rate d) n)))) (wi (n.tdiv (sizeG (gcdG (rateG rate d) n)))) =
      !(decide (wi ((rateG rate d).tdiv (sizeG (gcdG (rateG rate d) n))) > 1000000000) || decide (wi (n.tdiv (sizeG (gcdG (rateG rate d) n))) > 1000000000)) ∧ 1 ≤ wi (n.tdiv (sizeG (gcdG (rateG rate d) n))) := by
  have e1 : rateG rate d = rate * 60 * d ∧ 60 ≤ rate * 60 * d ∧ rate * 60 * d ≤ 120000000000 := by
    unfold rateG
    have h1 : rate * 60 * d ≤ 12000000 * d := Int.mul_le_mul_of_nonneg_right (by omega) (by omega)
    have h2 : 60 * d ≤ rate * 60 * d := Int.mul_le_mul_of_nonneg_right (by omega) (by omega)
    rw [wi_id (n := rate * 60) (by omega) (by omega), wi_id (by omega) (by omega)]
    omega
  obtain ⟨eR, hR1, hR2⟩ := e1
  rw [← eR] at hR1 hR2
  generalize rateG rate d = R at *
  obtain ⟨_, hp, hle, hdv, _⟩ := gcdG_pos (a := R) (b := n) (by omega) (by omega)
  have ed : divG R n = sizeG (gcdG R n) := by unfold divG; rw [if_neg (by omega)]
  generalize sizeG (gcdG R n) = g at *
  have q1 : R.tdiv g = R / g := Int.tdiv_eq_ediv_of_nonneg (by omega)
  have q2 : n.tdiv g = n / g := Int.tdiv_eq_ediv_of_nonneg (by omega)
  have r1 : 0 ≤ R / g := Int.ediv_nonneg (by omega) (by omega)
  have r2 : R / g ≤ R := Int.ediv_le_self _ (by omega)
  have r3 : 1 ≤ n / g := by
    have := Int.le_ediv_iff_mul_le (a := 1) (b := n) hp
    exact this.2 (by omega)
  have r4 : n / g ≤ n := Int.ediv_le_self _ (by omega)
  rw [q1, q2, wi_id (n := R / g) (by omega) (by omega), wi_id (n := n / g) (by omega) (by omega)]
  refine ⟨ed, by omega, ?_, r3⟩
  unfold smallG withinG
  by_cases c1 : R / g > 1000000000
  · have : ¬ R / g ≤ 1000000000 := by omega
    simp [c1, this]
  · have c2 : ¬ n / g > 1000000000 := by omega
    have c3 : R / g ≤ 1000000000 := by omega
    have c4 : n / g ≤ 1000000000 := by omega
    have c5 : -1000000000 ≤ R / g := by omega
    simp [c1, c2, c3, c4, c5, r3]

theorem carrier_ok {nm : List UInt8} {k s n d : Int} (h : carrierG nm k s n d = 0) : (1 ≤ n ∧ n ≤ 10000) ∧ (1 ≤ d ∧ d ≤ 10000) ∧ (0 ≤ k ∧ k ≤ 2) := by
  unfold carrierG at h
  cases h1 : nameG nm <;> rw [h1] at h
  · cases h
  cases h2 : withinG k 0 2 <;> rw [h2] at h
  · cases h
  cases h3 : withinG s 1 2 <;> rw [h3] at h
  · cases h
  cases h4 : lowestG n d <;> rw [h4] at h
  · cases hh : (k != 0 && s == 2) <;> rw [hh] at h <;> cases h
  cases h5 : (k != 0 && s == 2) <;> rw [h5] at h
  · cases h6 : withinG n 1 10000 <;> rw [h6] at h
    · cases h
    · cases h7 : decide (d > 10000) <;> rw [h7] at h
      · unfold withinG at h2 h6
        unfold lowestG at h4
        simp at h2 h6 h4 h7
        omega
      · cases h
  · cases h

def carriersLawS : Spec := fun args σ K => match args, σ with
  | [.agg [.str _, .int .i64 _, .int .i64 _, .int .i64 _, .int .i64 _], .one (.int .i64 _)], [] => K (.one (.bool true)) []
  | _, _ => False
theorem ok3 : SpecOK Try.prog 3 carriersLawS := by
  refine specOK (n := 43) (m := 0) (lps := []) (.cons ok15 (.cons ok16 (.cons ok17 (.cons ok18 (.cons ok19 .nil))))) Try.func3 (by kernel_rfl) (by kernel_rfl) (noLoops (by kernel_rfl)) fun args σ K h => ?_
  unfold carriersLawS at h
  split at h
  · rename_i nm k s n d rate
    rw [ex3 nm k s n d rate K]
    by_cases hnm : (nm.length : Int) > 20
    · simp only [hnm, decide_true, cond_true]; exact h
    have hl : nm.length ≤ 1000000 := by omega
    simp only [hnm, decide_false, cond_false]
    refine ⟨hl, ?_⟩
    by_cases hc : carrierG nm k s n d = 0
    · obtain ⟨hn, hd, hk⟩ := carrier_ok hc
      have ht : turnE nm k s n d rate = bif k == 2 then 15 else bif withinG rate 1 200000 then 0 else 2 := by
        unfold turnE
        rw [hc]
        cases hk2 : k == 2 <;> cases withinG rate 1 200000 <;> simp [firstE, hk2, bne]
      rw [ht, hc]
      cases hk2 : k == 2 with
      | true => exact ⟨hl, hl, h⟩
      | false =>
        cases hr : withinG rate 1 200000 with
        | false => exact ⟨hl, hl, h⟩
        | true =>
          have hr' : 1 ≤ rate ∧ rate ≤ 200000 := by unfold withinG at hr; simpa using hr
          obtain ⟨f1, f2, f3, f4⟩ := turn_small hn hd hr'
          rw [f1, f3]
          refine ⟨f2, ?_⟩
          cases hbig : (decide (wi ((rateG rate d).tdiv (sizeG (gcdG (rateG rate d) n))) > 1000000000) || decide (wi (n.tdiv (sizeG (gcdG (rateG rate d) n))) > 1000000000)) with
          | true => exact ⟨hl, hl, f2, h⟩
          | false => 
            refine ⟨hl, hl, f2, ?_⟩
            simpa using h
    · have hb : (carrierG nm k s n d == 0) = false := beq_eq_false_iff_ne.2 hc
      have ht : turnE nm k s n d rate = carrierG nm k s n d := by
        unfold turnE
        simp only [firstE, hb, cond_false]
      rw [ht]
      simp only [bne, hb, beq_self_eq_true, Bool.not_false, Bool.not_true, cond_true, cond_false]
      exact ⟨hl, hl, h⟩
  · exact h.elim
end Go.Ev
