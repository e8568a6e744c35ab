/-
  Chapter 1, contracts: checked blocks.
-/
import Derived.Test.YtlejemnljojpgaaC1H
import Derived.KernelRfl
set_option linter.unusedVariables false
set_option linter.unusedSimpArgs false
set_option linter.unusedSectionVars false
namespace Go.Ev
open Go Go.Proofs
set_option maxRecDepth 20000
def isSampleS : Spec := fun args σ K => match args, σ with
  | [.one (.int .i64 n)], [] => K (.one (.bool (sampleG n))) []
  | _, _ => False
def areL : LSpec := fun vs σ k => match vs, σ with
  | [.one (.data (.ints .i64 l)), .one (.int .i64 i)], [] =>
    (l.length ≤ 1000000000 ∧ 0 ≤ i) ∧ bif (l.drop i.toNat).all sampleG then k (.exit 0) [.any] [] else k .ret [.one (.bool false)] []
  | _, _ => False
def areS : Spec := fun args σ K => match args, σ with
  | [.one (.data (.ints .i64 l))], [] => l.length ≤ 1000000000 ∧ K (.one (.bool (l.all sampleG))) []
  | _, _ => False
def modB (n by_ : Int) : Int := bif decide (n.tmod by_ < 0) then wi (n.tmod by_ + by_) else n.tmod by_
def modS : Spec := fun args σ K => match args, σ with
  | [.one (.int .i64 n), .one (.int .i64 b)], [] => b ≠ 0 ∧ K (.one (.int .i64 (modB n b))) []
  | _, _ => False
noncomputable abbrev E108 : Env := envOf Try.prog [(25, withinS)] [] 5 0
noncomputable abbrev E81 : Env := envOf Try.prog [(108, isSampleS)] [(2, .spec [0, 3] [2] areL)] 16 0
noncomputable abbrev E26 : Env := envOf Try.prog [] [] 14 0
end Go.Ev

namespace Go.Ev
open Go Go.Proofs
set_option maxRecDepth 100000
theorem ex108 (n : Int) (K : AV → List Blk → Prop) : evFn E108 Try.f108 [.one (.int .i64 n)] [] K = ( K (.one (.bool (decide ((-32767 : Int) ≤ n) && decide (n ≤ 32767)))) []) := by kernel_rfl
theorem ex81 (l : List Int) (K : AV → List Blk → Prop) : evFn E81 Try.f81 [.one (.data (.ints .i64 l))] [] K = ( (l.length ≤ 1000000000 ∧ (0 :Int) ≤ (0 :Int)) ∧ bif l.all sampleG then K (.one (.bool true)) [] else K (.one (.bool false)) []) := by kernel_rfl
theorem ex81a (l : List Int) (i : Int) (K : Ex → List AV → List Blk → Prop) : evBody E81 (lb Try.f81 0) [0, 3] [2] [.one (.data (.ints .i64 l)), .one (.int .i64 i)] [] K = ( bif decide (i < (↑l.length : Int)) then bif decide (0 ≤ i) && decide (i < (↑l.length : Int)) then bif decide (i.toNat + 0 < l.length) then bif !sampleG (l.getD (i.toNat + 0) 0) then K .ret [.one (.bool false)] [] else K .normal [.one (.data (Row.ints .i64 l)), .one (.int .i64 (IntKind.i64.wrap (i + 1)))] [] else False else False else K (.exit 0) [AV.any] []) := by kernel_rfl
theorem ex26 (n b : Int) (K : AV → List Blk → Prop) : evFn E26 Try.f26 [.one (.int .i64 n), .one (.int .i64 b)] [] K = ( bif !decide (b = 0) then bif decide (n.tmod b < 0) then K (.one (.int .i64 (IntKind.i64.wrap (n.tmod b + b)))) [] else K (.one (.int .i64 (n.tmod b))) [] else False) := by kernel_rfl
end Go.Ev

namespace Go.Ev
open Go Go.Proofs
attribute [local irreducible] evFn evBody
set_option maxRecDepth 20000
theorem ok108 : SpecOK Try.prog 108 isSampleS := by
  refine specOK (n := 5) (m := 0) (lps := []) (.cons ok25 .nil) Try.func108 (by kernel_rfl) (by kernel_rfl) (noLoops (by kernel_rfl)) fun args σ K h => ?_
  unfold isSampleS at h
  split at h
  · rw [ex108 _ K]; exact h
  · exact h.elim
theorem lok81 : LoopOK E81 (lb Try.f81 0) [0, 3] [2] areL := by
  refine loopOK (.cons ok108 .nil) (noInner (by kernel_rfl)) (fun vs _ => match vs with
    | [.one (.data (.ints .i64 l)), .one (.int .i64 i)] => l.length - i.toNat
    | _ => 0) fun vs σ k h => ?_
  unfold areL at h
  split at h
  · rename_i l i
    rw [ex81a l i _]
    obtain ⟨⟨h1, h2⟩, h⟩ := h
    by_cases hi : i < l.length
    · have hw : IntKind.i64.wrap (i + 1) = i + 1 := wrap_id (by omega) (by omega)
      have hi' : i.toNat < l.length := by omega
      have hmu : l.length - (i + 1).toNat < l.length - i.toNat := by omega
      rw [all_step h2 hi] at h
      simp only [hi, hi', h2, hw, Nat.add_zero, decide_true, Bool.and_self, cond_true]
      cases hs : sampleG (l.getD i.toNat 0) with
      | true => rw [hs] at h; exact ⟨⟨⟨h1, by omega⟩, h⟩, hmu⟩
      | false => rw [hs] at h; exact h
    · rw [List.drop_eq_nil_of_le (by omega)] at h
      simp only [hi, decide_false, cond_false]
      exact h
  · exact h.elim
theorem ok81 : SpecOK Try.prog 81 areS := by
  refine specOK (n := 16) (m := 0) (lps := [(2, .spec [0, 3] [2] areL)]) (.cons ok108 .nil) Try.func81 (by kernel_rfl) (by kernel_rfl) (theLoops (n := 1) (by kernel_rfl) fun i hi => ?_) fun args σ K h => ?_
  · match i, hi with
    | 0, _ => exact loopHyp_of (key := 2) (by kernel_rfl) rfl lok81
  · unfold areS at h
    split at h
    · rename_i l
      rw [ex81 l K]
      obtain ⟨h1, h⟩ := h
      refine ⟨⟨h1, by omega⟩, ?_⟩
      cases hs : l.all sampleG <;> rw [hs] at h <;> exact h
    · exact h.elim
theorem ok26 : SpecOK Try.prog 26 modS := by
  refine specOK (n := 14) (m := 0) (lps := []) .nil Try.func26 (by kernel_rfl) (by kernel_rfl) (noLoops (by kernel_rfl)) fun args σ K h => ?_
  unfold modS at h
  split at h
  · rename_i n b
    rw [ex26 n b K]
    obtain ⟨h1, h⟩ := h
    unfold modB at h
    simp only [h1, decide_false, Bool.not_false, cond_true]
    cases hs : decide (n.tmod b < 0) <;> rw [hs] at h <;> exact h
  · exact h.elim
end Go.Ev
