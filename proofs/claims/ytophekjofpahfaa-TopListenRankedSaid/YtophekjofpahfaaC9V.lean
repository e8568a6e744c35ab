/-
  Part of the proof of a law.
-/
import Derived.Test.YtophekjofpahfaaC9C
import Derived.Test.YtophekjofpahfaaC9D
import Derived.Test.YtophekjofpahfaaC9F
import Derived.Test.YtophekjofpahfaaEvFrz
import Derived.Test.YtophekjofpahfaaC9E
import Derived.Test.YtophekjofpahfaaC9I
set_option linter.unusedVariables false
set_option linter.unusedSimpArgs false
set_option linter.unusedSectionVars false
/-
  Chapter 9, contracts: results without branches.
-/
namespace Go.Ev
open Go Go.Proofs
set_option maxRecDepth 20000
def ldE (len hop gate pct : Int) (x : List Int) : Int := bif meE len hop gate pct x == 0 then (bif (ldI len hop gate pct x).isEmpty then 12 else 0) else meE len hop gate pct x
def ldP (len hop gate pct : Int) (x : List Int) : Int := bif ldE len hop gate pct x == 0 then wi ((ldN len hop gate pct x).tdiv (gcdG (ldN len hop gate pct x) (ldD len hop gate pct x))) else 0
def ldQ (len hop gate pct : Int) (x : List Int) : Int := bif ldE len hop gate pct x == 0 then wi ((ldD len hop gate pct x).tdiv (gcdG (ldN len hop gate pct x) (ldD len hop gate pct x))) else 0
def loud2S : Spec := fun args σ K => match args, σ with
  | [.agg [.int .i64 len, .int .i64 hop, .int .i64 gate, .int .i64 pct], .one (.data (.ints .i64 x))], [] => x.length ≤ 1000000000 ∧
    K (.tup [.agg [.int .i64 (ldP len hop gate pct x), .int .i64 (ldQ len hop gate pct x)], .one (.int .i64 (ldE len hop gate pct x))]) []
  | _, _ => False
def copyDS : Spec := fun args σ K => match args, σ with
  | [.one (.data (.ints .i64 l))], [] => l.length ≤ 1000000000000 ∧ K (.one (.data (.ints .i64 l))) []
  | _, _ => False
def tlP (t r : Int) : Int := bif tailE t r == 0 then wi (((tailsG t).getD r.toNat 0).tdiv (gcdG ((tailsG t).getD r.toNat 0) (powD t))) else 0
def tlQ (t r : Int) : Int := bif tailE t r == 0 then wi ((powD t).tdiv (gcdG ((tailsG t).getD r.toNat 0) (powD t))) else 0
def tail2S : Spec := fun args σ K => match args, σ with
  | [.one (.int .i64 t), .one (.int .i64 r)], [] => K (.tup [.agg [.int .i64 (tlP t r), .int .i64 (tlQ t r)], .one (.int .i64 (tailE t r))]) []
  | _, _ => False
def bsO (p : List (List D)) : List Int := bif prefE p == 0 then (bestG p).1 else []
def bsN (p : List (List D)) : Int := bif prefE p == 0 then (bestG p).2 else 0
def best2S : Spec := fun args σ K => match args, σ with
  | [.one (.data (.recs [.sints .i64] p))], [] => p.length ≤ 1000000000 ∧
    K (.tup [.one (.data (.ints .i64 (bsO p))), .one (.int .i64 (bsN p)), .one (.int .i64 (prefE p))]) []
  | _, _ => False
end Go.Ev

/-
  Chapter 9: the contracts without branches are kept.
-/
namespace Go.Ev
open Go Go.Proofs
attribute [local irreducible] evFn evBody evRound
set_option maxRecDepth 20000
theorem okcopyD : SpecOK Try.prog 17 copyDS := by
  refine ok35.froze fun args σ K h => ?_
  unfold copyDS at h
  split at h
  · rename_i l
    obtain ⟨h1, h⟩ := h
    refine ⟨rfl, h1, _, ?_, h⟩
    exact ⟨_, _, rfl, rfl, rfl⟩
  · exact h.elim
theorem oktail2 : SpecOK Try.prog 11 tail2S := by
  refine oktail.weak fun args σ K h => ?_
  unfold tail2S at h
  split at h
  · rename_i t r
    unfold tlP tlQ at h
    show bif tailE t r == 0 then _ else _
    by_cases he : tailE t r = 0
    · rw [he] at h ⊢
      exact h
    · have e1 : (tailE t r == 0) = false := beq_eq_false_iff_ne.2 he
      rw [e1] at h ⊢
      exact h
  · exact h.elim
theorem okbest2 : SpecOK Try.prog 7 best2S := by
  refine okbst.froze fun args σ K h => ?_
  unfold best2S at h
  split at h
  · rename_i p
    obtain ⟨h1, h⟩ := h
    refine ⟨rfl, h1, ?_⟩
    unfold bsO bsN at h
    by_cases he : prefE p = 0
    · have e1 : (prefE p == 0) = true := by rw [he]; rfl
      rw [e1] at h ⊢
      rw [he] at h
      refine ⟨_, ?_, h⟩
      exact ⟨rfl, rfl, rfl, trivial⟩
    · have e1 : (prefE p == 0) = false := beq_eq_false_iff_ne.2 he
      rw [e1] at h ⊢
      refine ⟨_, ?_, h⟩
      exact ⟨.inr ⟨.ints .i64 [], rfl, rfl⟩, rfl, rfl, trivial⟩
  · exact h.elim
end Go.Ev
