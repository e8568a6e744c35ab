/-
  Chapter 9, contracts: the law of chances.
-/
import Derived.Test.YtiflkochjfiegaaDoorC9G
import Derived.KernelRfl
import Derived.Test.YtiflkochjfiegaaDoorC9H
set_option linter.unusedVariables false
set_option linter.unusedSimpArgs false
set_option linter.unusedSectionVars false
namespace Go.Ev
open Go Go.Proofs
set_option maxRecDepth 20000

def smallS : Spec := fun args σ K => match args, σ with
  | [.agg [.int .i64 n, .int .i64 d]], [] => K (.one (.bool (smallG n d))) []
  | _, _ => False
def lawChanS : Spec := fun args σ K => match args, σ with
  | [.one (.int .i64 t), .one (.int .i64 r), .agg [.int .i64 n, .int .i64 d]], [] => d ≤ 9223372036854775807 ∧ K (.one (.bool true)) []
  | _, _ => False
noncomputable abbrev Esml : Env := envOf Tryd.prog [(30, withinS)] [] 11 0
noncomputable abbrev Echn : Env := envOf Tryd.prog [(19, awakeS), (41, rtailES), (44, rlvlS), (39, tail2S), (46, wholeS), (32, isLowestS), (47, smallS), (48, lowestS), (49, cmpS), (40, min2S), (30, withinS)] [] 224 0
end Go.Ev

namespace Go.Ev
open Go Go.Proofs
set_option maxRecDepth 100000
theorem exsml (n d : Int) (K : AV → List Blk → Prop) : evFn Esml Tryd.f47 [.agg [.int .i64 n, .int .i64 d]] [] K = (
 bif decide ((-1000000000 : Int) ≤ n) && decide (n ≤ (1000000000 : Int)) then
 K (AV.one (SV.bool (decide ((1 : Int) ≤ d) && decide (d ≤ (1000000000 : Int))))) []
 else K (AV.one (SV.bool false)) []) := by kernel_rfl
theorem exchn (t r n d : Int) (K : AV → List Blk → Prop) : evFn Echn Tryd.f7 [.one (.int .i64 t), .one (.int .i64 r), .agg [.int .i64 n, .int .i64 d]] [] K = (
 bif rtailE t r != (0 : Int) then K (AV.one (SV.bool true)) []
 else
 bif rlvlE n d != (0 : Int) then K (AV.one (SV.bool true)) []
 else
 bif tailE t (0 : Int) != (0 : Int) then K (AV.one (SV.bool false)) []
 else
 bif !(tlP t (0 : Int) == (1 : Int) && tlQ t (0 : Int) == (1 : Int)) then K (AV.one (SV.bool false)) []
 else
 bif tailE t r != (0 : Int) then K (AV.one (SV.bool false)) []
 else
 bif !lowestG (tlP t r) (tlQ t r) then K (AV.one (SV.bool false)) []
 else
 bif !smallG (tlP t r) (tlQ t r) then K (AV.one (SV.bool false)) []
 else
 bif decide (r > (0 : Int)) then
 bif tailE t (IntKind.i64.wrap (IntKind.i64.wrap (t + (1 : Int)) - r)) != (0 : Int) then
 K (AV.one (SV.bool false)) []
 else
 bif tailE t (IntKind.i64.wrap (r - (1 : Int))) != (0 : Int) then K (AV.one (SV.bool false)) []
 else
 bif
 !lowestG (tlP t (IntKind.i64.wrap (IntKind.i64.wrap (t + (1 : Int)) - r)))
 (tlQ t (IntKind.i64.wrap (IntKind.i64.wrap (t + (1 : Int)) - r))) then
 K (AV.one (SV.bool false)) []
 else
 bif
 !smallG (tlP t (IntKind.i64.wrap (IntKind.i64.wrap (t + (1 : Int)) - r)))
 (tlQ t (IntKind.i64.wrap (IntKind.i64.wrap (t + (1 : Int)) - r))) then
 K (AV.one (SV.bool false)) []
 else
 bif
 !lowestG (tlP t (IntKind.i64.wrap (r - (1 : Int))))
 (tlQ t (IntKind.i64.wrap (r - (1 : Int)))) then
 K (AV.one (SV.bool false)) []
 else
 bif
 !smallG (tlP t (IntKind.i64.wrap (r - (1 : Int))))
 (tlQ t (IntKind.i64.wrap (r - (1 : Int)))) then
 K (AV.one (SV.bool false)) []
 else
 divG
 (IntKind.i64.wrap
 (IntKind.i64.wrap
 (tlP t r * tlQ t (IntKind.i64.wrap (IntKind.i64.wrap (t + (1 : Int)) - r))) +
 IntKind.i64.wrap
 (tlP t (IntKind.i64.wrap (IntKind.i64.wrap (t + (1 : Int)) - r)) * tlQ t r)))
 (IntKind.i64.wrap
 (tlQ t r * tlQ t (IntKind.i64.wrap (IntKind.i64.wrap (t + (1 : Int)) - r)))) ≠
 (0 : Int) ∧
 bif
 !(wi
 ((IntKind.i64.wrap
 (IntKind.i64.wrap
 (tlP t r *
 tlQ t (IntKind.i64.wrap (IntKind.i64.wrap (t + (1 : Int)) - r))) +
 IntKind.i64.wrap
 (tlP t (IntKind.i64.wrap (IntKind.i64.wrap (t + (1 : Int)) - r)) *
 tlQ t r))).tdiv
 (divG
 (IntKind.i64.wrap
 (IntKind.i64.wrap
 (tlP t r *
 tlQ t (IntKind.i64.wrap (IntKind.i64.wrap (t + (1 : Int)) - r))) +
 IntKind.i64.wrap
 (tlP t (IntKind.i64.wrap (IntKind.i64.wrap (t + (1 : Int)) - r)) *
 tlQ t r)))
 (IntKind.i64.wrap
 (tlQ t r *
 tlQ t (IntKind.i64.wrap (IntKind.i64.wrap (t + (1 : Int)) - r)))))) ==
 (1 : Int) &&
 wi
 ((IntKind.i64.wrap
 (tlQ t r *
 tlQ t (IntKind.i64.wrap (IntKind.i64.wrap (t + (1 : Int)) - r)))).tdiv
 (divG
 (IntKind.i64.wrap
 (IntKind.i64.wrap
 (tlP t r *
 tlQ t (IntKind.i64.wrap (IntKind.i64.wrap (t + (1 : Int)) - r))) +
 IntKind.i64.wrap
 (tlP t (IntKind.i64.wrap (IntKind.i64.wrap (t + (1 : Int)) - r)) *
 tlQ t r)))
 (IntKind.i64.wrap
 (tlQ t r *
 tlQ t (IntKind.i64.wrap (IntKind.i64.wrap (t + (1 : Int)) - r)))))) ==
 (1 : Int)) then
 K (AV.one (SV.bool false)) []
 else
 bif
 decide
 (cmpG (wi (tlP t (IntKind.i64.wrap (r - (1 : Int))) * tlQ t r))
 (wi (tlP t r * tlQ t (IntKind.i64.wrap (r - (1 : Int))))) <
 (0 : Int)) then
 K (AV.one (SV.bool false)) []
 else
 bif mnE t n d != (0 : Int) then
 bif mnE t n d == (12 : Int) then
 bif tailE t t == (0 : Int) then
 bif lowestG (tlP t t) (tlQ t t) then
 bif smallG (tlP t t) (tlQ t t) then
 K
 (AV.one
 (SV.bool
 (decide (cmpG (wi (tlP t t * d)) (wi (n * tlQ t t)) > (0 : Int)))))
 []
 else K (AV.one (SV.bool false)) []
 else K (AV.one (SV.bool false)) []
 else K (AV.one (SV.bool false)) []
 else K (AV.one (SV.bool false)) []
 else
 bif !(decide ((0 : Int) ≤ mnV t n d) && decide (mnV t n d ≤ t)) then
 K (AV.one (SV.bool false)) []
 else
 bif tailE t (mnV t n d) != (0 : Int) then K (AV.one (SV.bool false)) []
 else
 bif !lowestG (tlP t (mnV t n d)) (tlQ t (mnV t n d)) then
 K (AV.one (SV.bool false)) []
 else
 bif !smallG (tlP t (mnV t n d)) (tlQ t (mnV t n d)) then
 K (AV.one (SV.bool false)) []
 else
 bif
 decide
 (cmpG (wi (tlP t (mnV t n d) * d)) (wi (n * tlQ t (mnV t n d))) >
 (0 : Int)) then
 K (AV.one (SV.bool false)) []
 else
 bif mnV t n d == (0 : Int) then K (AV.one (SV.bool true)) []
 else
 bif tailE t (IntKind.i64.wrap (mnV t n d - (1 : Int))) == (0 : Int) then
 bif
 lowestG (tlP t (IntKind.i64.wrap (mnV t n d - (1 : Int))))
 (tlQ t (IntKind.i64.wrap (mnV t n d - (1 : Int)))) then
 bif
 smallG (tlP t (IntKind.i64.wrap (mnV t n d - (1 : Int))))
 (tlQ t (IntKind.i64.wrap (mnV t n d - (1 : Int)))) then
 K
 (AV.one
 (SV.bool
 (decide
 (cmpG
 (wi
 (tlP t (IntKind.i64.wrap (mnV t n d - (1 : Int))) *
 d))
 (wi
 (n *
 tlQ t
 (IntKind.i64.wrap (mnV t n d - (1 : Int))))) >
 (0 : Int)))))
 []
 else K (AV.one (SV.bool false)) []
 else K (AV.one (SV.bool false)) []
 else K (AV.one (SV.bool false)) []
 else
 bif mnE t n d != (0 : Int) then
 bif mnE t n d == (12 : Int) then
 bif tailE t t == (0 : Int) then
 bif lowestG (tlP t t) (tlQ t t) then
 bif smallG (tlP t t) (tlQ t t) then
 K (AV.one (SV.bool (decide (cmpG (wi (tlP t t * d)) (wi (n * tlQ t t)) > (0 : Int))))) []
 else K (AV.one (SV.bool false)) []
 else K (AV.one (SV.bool false)) []
 else K (AV.one (SV.bool false)) []
 else K (AV.one (SV.bool false)) []
 else
 bif !(decide ((0 : Int) ≤ mnV t n d) && decide (mnV t n d ≤ t)) then K (AV.one (SV.bool false)) []
 else
 bif tailE t (mnV t n d) != (0 : Int) then K (AV.one (SV.bool false)) []
 else
 bif !lowestG (tlP t (mnV t n d)) (tlQ t (mnV t n d)) then K (AV.one (SV.bool false)) []
 else
 bif !smallG (tlP t (mnV t n d)) (tlQ t (mnV t n d)) then K (AV.one (SV.bool false)) []
 else
 bif decide (cmpG (wi (tlP t (mnV t n d) * d)) (wi (n * tlQ t (mnV t n d))) > (0 : Int)) then
 K (AV.one (SV.bool false)) []
 else
 bif mnV t n d == (0 : Int) then K (AV.one (SV.bool true)) []
 else
 bif tailE t (IntKind.i64.wrap (mnV t n d - (1 : Int))) == (0 : Int) then
 bif
 lowestG (tlP t (IntKind.i64.wrap (mnV t n d - (1 : Int))))
 (tlQ t (IntKind.i64.wrap (mnV t n d - (1 : Int)))) then
 bif
 smallG (tlP t (IntKind.i64.wrap (mnV t n d - (1 : Int))))
 (tlQ t (IntKind.i64.wrap (mnV t n d - (1 : Int)))) then
 K
 (AV.one
 (SV.bool
 (decide
 (cmpG (wi (tlP t (IntKind.i64.wrap (mnV t n d - (1 : Int))) * d))
 (wi (n * tlQ t (IntKind.i64.wrap (mnV t n d - (1 : Int))))) >
 (0 : Int)))))
 []
 else K (AV.one (SV.bool false)) []
 else K (AV.one (SV.bool false)) []
 else K (AV.one (SV.bool false)) []) := by kernel_rfl
end Go.Ev

namespace Go.Ev
open Go Go.Proofs
attribute [local irreducible] evFn evBody evRound
set_option maxRecDepth 20000

theorem oksml : SpecOK Tryd.prog 47 smallS := by
  refine specOK (n := 11) (m := 0) (lps := []) (.cons ok25 .nil) Tryd.func47 (by kernel_rfl) (by kernel_rfl) (noLoops (by kernel_rfl)) fun args σ K h => ?_
  unfold smallS at h
  split at h
  rotate_right
  · exact h.elim
  rename_i n d
  rw [exsml n d K]
  unfold smallG withinG at h
  cases ha : (decide ((-1000000000 : Int) ≤ n) && decide (n ≤ (1000000000 : Int))) with
  | true => rw [ha] at h; exact h
  | false => rw [ha] at h; exact h
theorem tl_good {t r : Int} (h1 : 0 ≤ t) (h2 : t ≤ 29) (h3 : 0 ≤ r) (h4 : r ≤ t) : tailE t r = 0 ∧ lowestG (tlP t r) (tlQ t r) = true ∧ smallG (tlP t r) (tlQ t r) = true := by
  obtain ⟨a1, a2, a3, a4, a5⟩ := tl_facts h1 h2 h3 h4
  refine ⟨tailE_ok h1 h2 h3 h4, ?_, ?_⟩
  · unfold lowestG
    rw [a1, decide_eq_true (show tlQ t r > 0 by omega)]
    rfl
  · unfold smallG withinG
    rw [decide_eq_true (show -1000000000 ≤ tlP t r by omega), decide_eq_true (show tlP t r ≤ 1000000000 by omega), decide_eq_true (show 1 ≤ tlQ t r by omega), decide_eq_true (show tlQ t r ≤ 1000000000 by omega)]
    rfl
theorem cmp_gt {x y : Int} : decide (cmpG x y > 0) = !decide (cmpG x y ≤ 0) := by
  by_cases h : cmpG x y ≤ 0
  · rw [decide_eq_true h, decide_eq_false (show ¬ cmpG x y > 0 by omega)]; rfl
  · rw [decide_eq_false h, decide_eq_true (show cmpG x y > 0 by omega)]; rfl
theorem cmp_ge {x y : Int} (h : y ≤ x) : decide (cmpG x y < 0) = false := by
  unfold cmpG
  rw [decide_eq_false (show ¬ x < y by omega)]
  cases decide (x > y) <;> rfl
theorem gcdG_self {s : Int} (h : 0 < s) : gcdG s s = s := by
  rw [gcdG_nat (by omega) (by omega), Nat.gcd_self]
  omega
theorem mul_b {a b : Int} (h1 : 0 ≤ a) (h2 : a ≤ 536870912) (h3 : 0 ≤ b) (h4 : b ≤ 536870912) : 0 ≤ a * b ∧ a * b ≤ 288230376151711744 :=
  ⟨Int.mul_nonneg h1 h3, Int.le_trans (Int.mul_le_mul h2 h4 h3 (by decide)) (by decide)⟩
theorem okchn : SpecOK Tryd.prog 7 lawChanS := by
  refine specOK (n := 224) (m := 0) (lps := []) (.cons okawk (.cons okrte (.cons okrlv (.cons oktail2 (.cons ok68 (.cons okilw (.cons oksml (.cons ok76 (.cons okcmp (.cons okmin2 (.cons ok25 .nil))))))))))) Tryd.func7 (by kernel_rfl) (by kernel_rfl) (noLoops (by kernel_rfl)) fun args σ K h => ?_
  unfold lawChanS at h
  split at h
  rotate_right
  · exact h.elim
  rename_i t r n d
  obtain ⟨hd, h⟩ := h
  rw [exchn t r n d K]
  by_cases hr : rtailE t r = 0
  rotate_left
  · rw [bne_tt hr]; exact h
  by_cases hl : rlvlE n d = 0
  rotate_left
  · rw [bne_tt hl, hr]; exact h
  rw [hr, hl]
  -- what the premises say
  have hT : (0 ≤ t ∧ t ≤ 29) ∧ 0 ≤ r ∧ r ≤ t := by
    rw [← tailE_eq] at hr
    exact tailE_zero hr
  obtain ⟨⟨t0, t1⟩, r0, r1⟩ := hT
  have hO : okLv t n d := by
    obtain ⟨_, a1, a2, a3, a4⟩ := rlvlE_zero hl
    exact ⟨t0, t1, a1, a2, a3, a4⟩
  have hE : minE t n d = 0 := by
    unfold minE
    rw [lvl_eq n d hd, hl]
    unfold withinG
    rw [decide_eq_true t0, decide_eq_true t1]
    rfl
  have hm1 : mnE t n d = (bif decide (minI t n d < 0) then 12 else 0) := by unfold mnE; rw [hE]; rfl
  have hlen := tailsG_length t0
  obtain ⟨g1, g2, g3⟩ := tl_good t0 t1 r0 r1
  obtain ⟨o1, o2⟩ := tl_one t0 t1
  have g0 := tailE_ok t0 t1 (Int.le_refl 0) t0
  have y12 : ((12 : Int) != 0) = true := by decide
  simp only [g0, g1, g2, g3, o1, o2, bne_self_eq_false, cond_false, beq_self_eq_true, Bool.and_self, Bool.not_true]
  -- the last part comes to true
  have hlast : (bif mnE t n d != (0 : Int) then
                    bif mnE t n d == (12 : Int) then
                      bif tailE t t == (0 : Int) then
                        bif lowestG (tlP t t) (tlQ t t) then
                          bif smallG (tlP t t) (tlQ t t) then
                            K (AV.one (SV.bool (decide (cmpG (wi (tlP t t * d)) (wi (n * tlQ t t)) > (0 : Int))))) []
                          else K (AV.one (SV.bool false)) []
                        else K (AV.one (SV.bool false)) []
                      else K (AV.one (SV.bool false)) []
                    else K (AV.one (SV.bool false)) []
                  else
                    bif !(decide ((0 : Int) ≤ mnV t n d) && decide (mnV t n d ≤ t)) then K (AV.one (SV.bool false)) []
                    else
                      bif tailE t (mnV t n d) != (0 : Int) then K (AV.one (SV.bool false)) []
                      else
                        bif !lowestG (tlP t (mnV t n d)) (tlQ t (mnV t n d)) then K (AV.one (SV.bool false)) []
                        else
                          bif !smallG (tlP t (mnV t n d)) (tlQ t (mnV t n d)) then K (AV.one (SV.bool false)) []
                          else
                            bif decide (cmpG (wi (tlP t (mnV t n d) * d)) (wi (n * tlQ t (mnV t n d))) > (0 : Int)) then K (AV.one (SV.bool false)) []
                            else
                              bif mnV t n d == (0 : Int) then K (AV.one (SV.bool true)) []
                              else
                                bif tailE t (IntKind.i64.wrap (mnV t n d - (1 : Int))) == (0 : Int) then
                                  bif lowestG (tlP t (IntKind.i64.wrap (mnV t n d - (1 : Int)))) (tlQ t (IntKind.i64.wrap (mnV t n d - (1 : Int)))) then
                                    bif smallG (tlP t (IntKind.i64.wrap (mnV t n d - (1 : Int)))) (tlQ t (IntKind.i64.wrap (mnV t n d - (1 : Int)))) then
                                      K (AV.one (SV.bool (decide (cmpG (wi (tlP t (IntKind.i64.wrap (mnV t n d - (1 : Int))) * d)) (wi (n * tlQ t (IntKind.i64.wrap (mnV t n d - (1 : Int))))) > (0 : Int))))) []
                                    else K (AV.one (SV.bool false)) []
                                  else K (AV.one (SV.bool false)) []
                                else K (AV.one (SV.bool false)) []) := by
    by_cases hmi : minI t n d < 0
    · have hm : mnE t n d = 12 := by rw [hm1, decide_eq_true hmi]; rfl
      obtain ⟨b1, b2, b3⟩ := tl_good t0 t1 t0 (Int.le_refl t)
      have hp := idxMn_all (i := 0) (by decide) hmi t.toNat (by omega)
      have hc := tl_pass hO t0 (Int.le_refl t)
      rw [hp] at hc
      simp only [hm, y12, cond_true, beq_self_eq_true, b1, b2, b3, cmp_gt, hc, Bool.not_false]
      exact h
    · have hm : mnE t n d = 0 := by rw [hm1, decide_eq_false hmi]; rfl
      have hv : mnV t n d = minI t n d := by unfold mnV; rw [hm]; rfl
      obtain ⟨j, e1, e2, e3, e4⟩ := idxMn_at (i := 0) (l := tailsG t) (t := t) (n := n) (d := d) (by decide) (by unfold minI at hmi; omega)
      have hj : mnV t n d = (j : Int) := by rw [hv]; unfold minI; rw [e1]; omega
      obtain ⟨b1, b2, b3⟩ := tl_good (r := (j : Int)) t0 t1 (by omega) (by omega)
      have hc := tl_pass (c := (j : Int)) hO (by omega) (by omega)
      rw [Int.toNat_natCast, e3] at hc
      simp only [hm, hj, bne_self_eq_false, cond_false, decide_eq_true (show (0 : Int) ≤ (j : Int) by omega), decide_eq_true (show (j : Int) ≤ t by omega), Bool.and_self, Bool.not_true, b1, b2, b3, cmp_gt, hc]
      by_cases hj0 : (j : Int) = 0
      · rw [hj0]; exact h
      · have hw : IntKind.i64.wrap ((j : Int) - 1) = (j : Int) - 1 := wrap_id (by omega) (by omega)
        obtain ⟨c1, c2, c3⟩ := tl_good (r := (j : Int) - 1) t0 t1 (by omega) (by omega)
        have hc2 := tl_pass (c := (j : Int) - 1) hO (by omega) (by omega)
        rw [show ((j : Int) - 1).toNat = j - 1 by omega, e4 (j - 1) (by omega)] at hc2
        simp only [beq_ff hj0, cond_false, hw, c1, c2, c3, beq_self_eq_true, cond_true, hc2, Bool.not_false]
        exact h
  by_cases hpos : r > 0
  rotate_left
  · rw [decide_eq_false hpos]
    exact hlast
  rw [decide_eq_true hpos, cond_true]
  have w1 : IntKind.i64.wrap (t + 1) = t + 1 := wrap_id (by omega) (by omega)
  have w2 : IntKind.i64.wrap (t + 1 - r) = t + 1 - r := wrap_id (by omega) (by omega)
  have w3 : IntKind.i64.wrap (r - 1) = r - 1 := wrap_id (by omega) (by omega)
  obtain ⟨b1, b2, b3⟩ := tl_good (r := t + 1 - r) t0 t1 (by omega) (by omega)
  obtain ⟨c1, c2, c3⟩ := tl_good (r := r - 1) t0 t1 (by omega) (by omega)
  obtain ⟨s1, s2⟩ := tl_sum t0 t1 hpos r1
  obtain ⟨_, A1, A2, A3, A4⟩ := tl_facts t0 t1 r0 r1
  obtain ⟨_, B1, B2, B3, B4⟩ := tl_facts (r := t + 1 - r) t0 t1 (by omega) (by omega)
  obtain ⟨_, C1, C2, C3, C4⟩ := tl_facts (r := r - 1) t0 t1 (by omega) (by omega)
  simp only [w1, w2, w3, b1, b2, b3, c1, c2, c3, bne_self_eq_false, cond_false, Bool.not_true]
  generalize tlP t r = a at *
  generalize tlQ t r = qa at *
  generalize tlP t (t + 1 - r) = b at *
  generalize tlQ t (t + 1 - r) = qb at *
  generalize tlP t (r - 1) = c at *
  generalize tlQ t (r - 1) = qc at *
  have m1 := mul_b (a := a) (b := qb) A1 (by omega) (by omega) B4
  have m2 := mul_b (a := b) (b := qa) B1 (by omega) (by omega) A4
  have m3 := mul_b (a := qa) (b := qb) (by omega) A4 (by omega) B4
  have m4 := mul_b (a := c) (b := qa) C1 (by omega) (by omega) A4
  have m5 := mul_b (a := a) (b := qc) A1 (by omega) (by omega) C4
  have hs : 0 < qa * qb := Int.mul_pos (by omega) (by omega)
  have p1 : IntKind.i64.wrap (a * qb) = a * qb := wrap_id (by omega) (by omega)
  have p2 : IntKind.i64.wrap (b * qa) = b * qa := wrap_id (by omega) (by omega)
  have p3 : IntKind.i64.wrap (qa * qb) = qa * qb := wrap_id (by omega) (by omega)
  have p4 : wi (c * qa) = c * qa := wrap_id (by omega) (by omega)
  have p5 : wi (a * qc) = a * qc := wrap_id (by omega) (by omega)
  have hdv : divG (qa * qb) (qa * qb) = qa * qb := by
    rw [(divG_gcdG (a := qa * qb) (b := qa * qb) (by omega) hs (by omega)).1, gcdG_self hs]
  have hq : wi ((qa * qb).tdiv (qa * qb)) = 1 := by
    rw [Int.tdiv_self (by omega)]; decide
  simp only [p1, p2, p3, p4, p5, s1, hdv, hq, cmp_ge s2, beq_self_eq_true, Bool.and_self, Bool.not_true, cond_false]
  exact ⟨by omega, hlast⟩
end Go.Ev
