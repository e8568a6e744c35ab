/-
  Part of the proof of a law.
-/
import Derived.Test.YtiflkochjfiegaaDoorC9TA
import Derived.Test.YtiflkochjfiegaaDoorC9T
import Derived.Test.YtiflkochjfiegaaDoorEvCut2
import Derived.KernelRfl
set_option linter.unusedVariables false
set_option linter.unusedSimpArgs false
set_option linter.unusedSectionVars false
/-
  Chapter 9, contract: the law of tests.
-/
namespace Go.Ev
open Go Go.Proofs
set_option maxRecDepth 20000
set_option linter.unusedVariables false
set_option linter.unusedSimpArgs false
def chN (t u l k : Int) : Int := bif teE t u l == 0 then frN (cnt u l k t.toNat 0) (2 ^ t.toNat) else 0
def chD (t u l k : Int) : Int := bif teE t u l == 0 then frD (cnt u l k t.toNat 0) (2 ^ t.toNat) else 0
def chn1S : Spec := fun args σ K => match args, σ with
  | [.agg [.int .i64 t, .int .i64 u, .int .i64 l]], [] => K (.tup [.agg [.int .i64 (chN t u l 0), .int .i64 (chD t u l 0), .int .i64 (chN t u l 1), .int .i64 (chD t u l 1), .int .i64 (chN t u l 2), .int .i64 (chD t u l 2)], .one (.int .i64 (teE t u l))]) []
  | _, _ => False
def okLw (n d : Int) : Prop := divG n d ≠ 0 ∧ divG n d = gcdG n d
def lowFS : Spec := fun args σ K => match args, σ with
  | [.one (.int .i64 n), .one (.int .i64 d)], [] => okLw n d ∧ K (.agg [.int .i64 (frN n d), .int .i64 (frD n d)]) []
  | _, _ => False
def outK (t u l : Int) (r : List (List D)) : Int := bif ouE t u l r == 0 then (ouG t u l 0 0 r).1 else 0
def outU (t u l : Int) (r : List (List D)) : Int := bif ouE t u l r == 0 then (ouG t u l 0 0 r).2.1 else 0
def out1S : Spec := fun args σ K => match args, σ with
  | [.agg [.int .i64 t, .int .i64 u, .int .i64 l], .one (.data (.recs [.bool] r))], [] => r.length ≤ 1000 ∧ K (.tup [.agg [.int .i64 (outK t u l r), .int .i64 (outU t u l r)], .one (.int .i64 (ouE t u l r))]) []
  | _, _ => False
end Go.Ev

/-
  Chapter 9: the law of tests: its contract is kept.
-/
namespace Go.Ev
open Go Go.Proofs
attribute [local irreducible] evFn evBody evRound
set_option maxRecDepth 20000
set_option linter.unusedVariables false
set_option linter.unusedSimpArgs false
theorem oklowF : SpecOK Tryd.prog 48 lowFS := by
  refine ok76.weak fun args σ K h => ?_
  unfold lowFS at h
  split at h
  rotate_right
  · exact h.elim
  obtain ⟨⟨h0, h1⟩, h⟩ := h
  refine ⟨h0, ?_⟩
  unfold frN frD at h
  rw [h1]; exact h
theorem okout1 : SpecOK Tryd.prog 73 out1S := by
  refine okout.weak fun args σ K h => ?_
  unfold out1S at h
  split at h
  rotate_right
  · exact h.elim
  exact h
attribute [local irreducible] evStage evRest
end Go.Ev
