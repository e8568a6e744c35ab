/-
  Chapter 1: the law of groups: contracts.
-/
import Derived.Test.YtlejemnljojpgaaC1BG
import Derived.Test.YtlejemnljojpgaaC1BR
import Derived.Test.YtlejemnljojpgaaC1H
import Derived.KernelRfl
set_option linter.unusedVariables false
set_option linter.unusedSimpArgs false
set_option linter.unusedSectionVars false
namespace Go.Ev
open Go Go.Proofs
set_option maxRecDepth 20000
set_option linter.unusedVariables false
def rfDS : Spec := fun args σ K => match args, σ with
  | [.agg [.data (.mat .i64 8 D), .data (.mat .i64 8 P), .data (.ints .i64 L), .data (.ints .i64 Q)]], [] => (okG D P L Q ∧ groE D P L Q = 0) ∧ K (.tup [.one (.data (.mat .i64 8 (resV D P L Q))), .one (.int .i64 (resE D P L Q))]) []
  | _, _ => False
def lgS : Spec := fun args σ K => match args, σ with
  | [.agg [.data (.mat .i64 8 D), .data (.mat .i64 8 P), .data (.ints .i64 L), .data (.ints .i64 Q)]], [] => (D.all len8 = true ∧ P.all len8 = true) ∧ K (.one (.bool true)) []
  | _, _ => False
noncomputable abbrev Elg : Env := envOf Try.prog [(15, trueS), (64, cgrS), (63, rdDS), (65, groS), (66, groS), (67, rfDS), (45, sameDataS)] [] 59 0 [63, 67]
end Go.Ev

namespace Go.Ev
open Go Go.Proofs
set_option maxRecDepth 100000
theorem exlg (D P : List (List Int)) (L Q : List Int) (K : AV → List Blk → Prop) : evFn Elg Try.f13 [.agg [.data (.mat .i64 8 D), .data (.mat .i64 8 P), .data (.ints .i64 L), .data (.ints .i64 Q)]] [] K = ( bif decide ((↑D.length : Int) > 14) then K (.one (.bool true)) [] else bif decide ((↑P.length : Int) > 6) then K (.one (.bool true)) [] else bif decide ((↑L.length : Int) > 16) then K (.one (.bool true)) [] else bif decide ((↑Q.length : Int) > 16) then K (.one (.bool true)) [] else okG D P L Q ∧ okG D P L Q ∧ okG D P L Q ∧ okG D P L Q ∧ okG D P L Q ∧ bif groE D P L Q != groE D P L Q then K (.one (.bool false)) [] else bif groE D P L Q == 0 then (okG D P L Q ∧ groE D P L Q = 0) ∧ bif resE D P L Q == resE D P L Q then ((resV D P L Q).length ≤ 1000000000 ∧ (resV D P L Q).all len8 = true ∧ (resV D P L Q).all len8 = true) ∧ K (.one (.bool (resV D P L Q == resV D P L Q))) [] else K (.one (.bool false)) [] else bif resE D P L Q == groE D P L Q then ((resV D P L Q).length ≤ 1000000000 ∧ (resV D P L Q).all len8 = true ∧ true = true) ∧ K (.one (.bool (resV D P L Q == []))) [] else K (.one (.bool false)) []) := by kernel_rfl
end Go.Ev

namespace Go.Ev
open Go Go.Proofs
attribute [local irreducible] evFn evBody evRound
set_option maxRecDepth 20000
set_option linter.unusedVariables false
set_option linter.unusedSimpArgs false
theorem okrfD : SpecOK Try.prog 67 rfDS := by
  refine okrf.froze fun args σ K h => ?_
  unfold rfDS at h
  split at h
  rotate_right
  · exact h.elim
  rename_i D P L Q
  obtain ⟨⟨hg, he⟩, h⟩ := h
  refine ⟨rfl, ⟨hg, he⟩, ?_⟩
  unfold rfX
  have h1 : (groE D P L Q == 0) = true := by rw [he]; rfl
  · cases h2 : decide ((keptJ Q 0 P.length).length < L.length) with
    | true =>
      have e : resE D P L Q = 28 := by unfold resE; rw [h1, h2]; rfl
      have ev : resV D P L Q = [] := by unfold resV; rw [e]; rfl
      rw [e, ev] at h
      exact ⟨_, (show frzA [] (.tup [.one .nil, .one (.int .i64 _)]) (.tup [.one (.data (.mat .i64 8 [])), .one (.int .i64 _)]) from ⟨.inr ⟨_, rfl, rfl⟩, frzS_int (σ := []) _ _, trivial⟩), h⟩
    | false =>
      cases h3 : (L.all (rowOk (resF D P L (keptJ Q 0 P.length) 8 0 D)) && (keptJ Q 0 P.length).all (parOk (resF D P L (keptJ Q 0 P.length) 8 0 D) P)) with
      | true =>
        have e : resE D P L Q = 0 := by unfold resE; rw [h1, h2, h3]; rfl
        have ev : resV D P L Q = resF D P L (keptJ Q 0 P.length) 8 0 D := by unfold resV; rw [e]; rfl
        rw [e, ev] at h
        exact ⟨_, (show frzA [.row 35 (.mat .i64 8 (resF D P L (keptJ Q 0 P.length) 8 0 D))] (.tup [.one (.own 0 8), .one (.int .i64 _)]) (.tup [.one (.data (.mat .i64 8 _)), .one (.int .i64 _)]) from ⟨⟨_, _, rfl, rfl, rfl⟩, rfl, trivial⟩), h⟩
      | false =>
        have e : resE D P L Q = 13 := by unfold resE; rw [h1, h2, h3]; rfl
        have ev : resV D P L Q = [] := by unfold resV; rw [e]; rfl
        rw [e, ev] at h
        exact ⟨_, (show frzA [] (.tup [.one .nil, .one (.int .i64 _)]) (.tup [.one (.data (.mat .i64 8 [])), .one (.int .i64 _)]) from ⟨.inr ⟨_, rfl, rfl⟩, frzS_int (σ := []) _ _, trivial⟩), h⟩
theorem resV_ok {D P : List (List Int)} {L Q : List Int} (hg : okG D P L Q) : (resV D P L Q).length ≤ 1000 ∧ (resV D P L Q).all len8 = true := by
  unfold resV
  cases he : (resE D P L Q == 0) with
  | false => exact ⟨by simp, rfl⟩
  | true =>
    rw [cond_true]
    have hz : groE D P L Q = 0 := by
      cases h1 : (groE D P L Q == 0) with
      | true => exact eq_of_beq h1
      | false =>
        unfold resE at he
        rw [h1, cond_false] at he
        rw [h1] at he; cases he
    have g := gro0 hz
    have hi := okIx_of g.lL
    have hd := hg.1
    exact ⟨by rw [(Pl.resF_out 8 0 D hi).1]; exact hd, Pl.resF_len8 8 0 D hg.2.2.2.2.1 hi⟩
theorem oklg : SpecOK Try.prog 13 lgS := by
  refine specOKd (n := 59) (m := 0) (lps := []) [63, 67] (.cons ok15 (.cons okcgr (.cons okrdD (.cons okrge (.cons okgro (.cons okrfD (.cons ok45 .nil))))))) Try.func13 (by kernel_rfl) (by kernel_rfl) (noLoops (by kernel_rfl)) fun args σ K h => ?_
  unfold lgS at h
  split at h
  rotate_right
  · exact h.elim
  rename_i D P L Q
  rw [exlg D P L Q K]
  obtain ⟨⟨d8, p8⟩, h⟩ := h
  by_cases c1 : (D.length : Int) > 14
  · rw [decide_eq_true c1]; exact h
  rw [decide_eq_false c1, cond_false]
  by_cases c2 : (P.length : Int) > 6
  · rw [decide_eq_true c2]; exact h
  rw [decide_eq_false c2, cond_false]
  by_cases c3 : (L.length : Int) > 16
  · rw [decide_eq_true c3]; exact h
  rw [decide_eq_false c3, cond_false]
  by_cases c4 : (Q.length : Int) > 16
  · rw [decide_eq_true c4]; exact h
  rw [decide_eq_false c4, cond_false]
  have hg : okG D P L Q := ⟨by omega, by omega, by omega, by omega, d8, p8⟩
  obtain ⟨v1, v2⟩ := resV_ok hg
  refine And.intro hg (And.intro hg (And.intro hg (And.intro hg (And.intro hg ?_))))
  rw [bne_self_eq_false, cond_false]
  cases he : (groE D P L Q == 0) with
  | true =>
    rw [cond_true]
    refine And.intro ⟨hg, eq_of_beq he⟩ ?_
    rw [beq_self_eq_true, cond_true]
    refine And.intro ⟨by omega, v2, v2⟩ ?_
    rw [beq_self_eq_true]
    exact h
  | false =>
    rw [cond_false]
    have e : resE D P L Q = groE D P L Q := by unfold resE; rw [he]; rfl
    have ev : resV D P L Q = [] := by unfold resV; rw [e, he]; rfl
    rw [e, beq_self_eq_true, cond_true, ev]
    exact And.intro ⟨by decide, rfl, rfl⟩ h
end Go.Ev
