/-
  Chapter 1, contracts: restored data as plain data.
-/
import Derived.Test.YtlejemnljojpgaaC1BE
import Derived.Test.YtlejemnljojpgaaEvFrz
set_option linter.unusedVariables false
set_option linter.unusedSimpArgs false
set_option linter.unusedSectionVars false
namespace Go.Ev
open Go Go.Proofs
set_option maxRecDepth 20000
set_option linter.unusedVariables false
def resE (D P : List (List Int)) (L Q : List Int) : Int :=
  bif groE D P L Q == 0 then (bif decide ((keptJ Q 0 P.length).length < L.length) then 28 else bif L.all (rowOk (resF D P L (keptJ Q 0 P.length) 8 0 D)) && (keptJ Q 0 P.length).all (parOk (resF D P L (keptJ Q 0 P.length) 8 0 D) P) then 0 else 13) else groE D P L Q
def resV (D P : List (List Int)) (L Q : List Int) : List (List Int) := bif resE D P L Q == 0 then resF D P L (keptJ Q 0 P.length) 8 0 D else []
def rdDS : Spec := fun args σ K => match args, σ with
  | [.agg [.data (.mat .i64 8 D), .data (.mat .i64 8 P), .data (.ints .i64 L), .data (.ints .i64 Q)]], [] => okG D P L Q ∧ K (.tup [.one (.data (.mat .i64 8 (resV D P L Q))), .one (.int .i64 (resE D P L Q))]) []
  | _, _ => False
end Go.Ev

namespace Go.Ev
open Go Go.Proofs
attribute [local irreducible] evFn evBody evRound
set_option maxRecDepth 20000
set_option linter.unusedVariables false
set_option linter.unusedSimpArgs false
theorem okrdD : SpecOK Try.prog 63 rdDS := by
  refine okrd.froze fun args σ K h => ?_
  unfold rdDS at h
  split at h
  rotate_right
  · exact h.elim
  rename_i D P L Q
  obtain ⟨hg, h⟩ := h
  refine ⟨rfl, hg, ?_⟩
  unfold rdK
  cases h1 : (groE D P L Q == 0) with
  | false =>
    have e : resE D P L Q = groE D P L Q := by unfold resE; rw [h1]; rfl
    have ev : resV D P L Q = [] := by unfold resV; rw [e, h1]; rfl
    rw [e, ev] at h
    exact ⟨_, (show frzA [] (.tup [.one .nil, .one (.int .i64 _)]) (.tup [.one (.data (.mat .i64 8 [])), .one (.int .i64 _)]) from ⟨.inr ⟨_, rfl, rfl⟩, frzS_int (σ := []) _ _, trivial⟩), h⟩
  | true =>
    cases h2 : decide ((keptJ Q 0 P.length).length < L.length) with
    | true =>
      have e : resE D P L Q = 28 := by unfold resE; rw [h1, h2]; rfl
      have ev : resV D P L Q = [] := by unfold resV; rw [e]; rfl
      rw [e, ev] at h
      exact ⟨_, (show frzA [] (.tup [.one .nil, .one (.int .i64 _)]) (.tup [.one (.data (.mat .i64 8 [])), .one (.int .i64 _)]) from ⟨.inr ⟨_, rfl, rfl⟩, frzS_int (σ := []) _ _, trivial⟩), h⟩
    | false =>
      cases h3 : (L.all (rowOk (resF D P L (keptJ Q 0 P.length) 8 0 D)) && (keptJ Q 0 P.length).all (parOk (resF D P L (keptJ Q 0 P.length) 8 0 D) P)) with
      | true =>
        have e : resE D P L Q = 0 := by unfold resE; rw [h1, h2, h3]; rfl
        have ev : resV D P L Q = resF D P L (keptJ Q 0 P.length) 8 0 D := by unfold resV; rw [e]; rfl
        rw [e, ev] at h
        exact ⟨_, (show frzA [.row 35 (.mat .i64 8 (resF D P L (keptJ Q 0 P.length) 8 0 D))] (.tup [.one (.own 0 8), .one (.int .i64 _)]) (.tup [.one (.data (.mat .i64 8 _)), .one (.int .i64 _)]) from ⟨⟨_, _, rfl, rfl, rfl⟩, rfl, trivial⟩), h⟩
      | false =>
        have e : resE D P L Q = 13 := by unfold resE; rw [h1, h2, h3]; rfl
        have ev : resV D P L Q = [] := by unfold resV; rw [e]; rfl
        rw [e, ev] at h
        exact ⟨_, (show frzA [] (.tup [.one .nil, .one (.int .i64 _)]) (.tup [.one (.data (.mat .i64 8 [])), .one (.int .i64 _)]) from ⟨.inr ⟨_, rfl, rfl⟩, frzS_int (σ := []) _ _, trivial⟩), h⟩
end Go.Ev
