/-
  Part of the proof of a law.
-/
import Derived.Test.YtiflkochjfiegaaDoorC9SB
import Derived.KernelRfl
set_option linter.unusedVariables false
set_option linter.unusedSimpArgs false
set_option linter.unusedSectionVars false
/-
  Chapter 9, contracts: applying and replaying events of sessions.
-/
namespace Go.Ev
open Go Go.Proofs
set_option maxRecDepth 20000
def apE (h : List Int) (p : Int) (b0 b1 b2 : Bool) (a : List Int) (k n : Int) : Int := bif boE h p b0 b1 b2 a == 0 then prE h p b0 b1 b2 a.length k n else boE h p b0 b1 b2 a
def apl0S : Spec := fun args σ K => match args, σ with
  | [.agg [.data (.ints .i64 h)], .agg [.int .i64 p, .bool b0, .bool b1, .bool b2, .data (.ints .i64 a)], .agg [.int .i64 k, .int .i64 n]], [] => (h.length ≤ 1000000000 ∧ a.length ≤ 1000000) ∧ bif (apE h p b0 b1 b2 a k n) == 0 then ((bif k == 2 then K (.tup [.agg [.int .i64 (-1), .bool false, .bool false, .bool false, .own 0 1], .one (.int .i64 0)]) [.row 3 (.ints .i64 (a ++ [n]))] else (bif k == 3 then K (.tup [.agg [.int .i64 (-1), .bool false, .bool false, .bool false, .sub 0 1 0 (a.length - 1)], .one (.int .i64 0)]) [.row 3 (.ints .i64 a)] else K (.tup [.agg [.int .i64 (nxP p k n), .bool (nxB 0 b0 k n), .bool (nxB 1 b1 k n), .bool (nxB 2 b2 k n), .own 0 1], .one (.int .i64 0)]) [.row 3 (.ints .i64 a)])) ∧ (a = [] → bif k == 2 then K (.tup [.agg [.int .i64 (-1), .bool false, .bool false, .bool false, .own 0 1], .one (.int .i64 0)]) [.row 3 (.ints .i64 [n])] else K (.tup [.agg [.int .i64 (nxP p k n), .bool (nxB 0 b0 k n), .bool (nxB 1 b1 k n), .bool (nxB 2 b2 k n), .nil], .one (.int .i64 0)]) [])) else K (.tup [.agg [.int .i64 0, .bool false, .bool false, .bool false, .nil], .one (.int .i64 (apE h p b0 b1 b2 a k n))]) []
  | _, _ => False
def evES : Spec := fun args σ K => match args, σ with
  | [.agg [.int .i64 k, .int .i64 n]], [] => K (.one (.int .i64 (evE k n))) []
  | _, _ => False
noncomputable abbrev Eevt : Env := envOf Tryd.prog [(30, withinS)] [] 20 0
end Go.Ev

namespace Go.Ev
open Go Go.Proofs
set_option maxRecDepth 100000
theorem exevt (k n : Int) (K : AV → List Blk → Prop) : evFn Eevt Tryd.f97 [.agg [.int .i64 k, .int .i64 n]] [] K = ( bif !(decide (0 ≤ k) && decide (k ≤ 3)) then K (.one (.int .i64 15)) [] else bif k == 0 then bif k == 2 then bif decide (0 ≤ n) && decide (n ≤ 1) then K (.one (.int .i64 0)) [] else K (.one (.int .i64 2)) [] else bif decide (0 ≤ n) && decide (n ≤ 2) then K (.one (.int .i64 0)) [] else K (.one (.int .i64 2)) [] else bif k == 2 then bif decide (0 ≤ n) && decide (n ≤ 1) then K (.one (.int .i64 0)) [] else K (.one (.int .i64 2)) [] else bif decide (0 ≤ n) && decide (n ≤ 0) then K (.one (.int .i64 0)) [] else K (.one (.int .i64 3)) []) := by kernel_rfl
end Go.Ev

/-
  Chapter 9: applying and replaying events: the contracts are kept.
-/
namespace Go.Ev
open Go Go.Proofs
attribute [local irreducible] evFn evBody evRound
set_option maxRecDepth 20000
theorem okevt : SpecOK Tryd.prog 97 evES := by
  refine specOK (n := 20) (m := 0) (lps := []) (.cons ok25 .nil) Tryd.func97 (by kernel_rfl) (by kernel_rfl) (noLoops (by kernel_rfl)) fun args σ K h => ?_
  unfold evES at h
  split at h
  rotate_right
  · exact h.elim
  rename_i k n
  rw [exevt k n K]
  unfold evE withinG at h
  rcases k_cases k with (rfl | rfl | rfl | rfl) | hk
  · generalize (decide ((0 : Int) ≤ n) && decide (n ≤ 2)) = w at *
    cases w <;> exact h
  · have e : (decide ((0 : Int) ≤ n) && decide (n ≤ 0)) = (n == 0) := by
      by_cases h0 : n = 0
      · subst h0; rfl
      · rw [beq_ff h0]
        by_cases h1 : 0 ≤ n
        · rw [decide_eq_false (show ¬ n ≤ 0 by omega), Bool.and_false]
        · rw [decide_eq_false h1]; rfl
    rw [e]
    generalize (n == 0) = w at *
    cases w <;> exact h
  · generalize (decide ((0 : Int) ≤ n) && decide (n ≤ 1)) = w at *
    cases w <;> exact h
  · have e : (decide ((0 : Int) ≤ n) && decide (n ≤ 0)) = (n == 0) := by
      by_cases h0 : n = 0
      · subst h0; rfl
      · rw [beq_ff h0]
        by_cases h1 : 0 ≤ n
        · rw [decide_eq_false (show ¬ n ≤ 0 by omega), Bool.and_false]
        · rw [decide_eq_false h1]; rfl
    rw [e]
    generalize (n == 0) = w at *
    cases w <;> exact h
  · unfold withinG at hk
    rw [hk] at h ⊢; exact h
end Go.Ev
