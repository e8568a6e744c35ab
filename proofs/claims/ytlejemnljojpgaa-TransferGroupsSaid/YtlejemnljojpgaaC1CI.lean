/-
  Chapter 1: rows of eleven numbers.
-/
import Derived.Test.YtlejemnljojpgaaC1I
import Derived.KernelRfl
import Derived.Test.YtlejemnljojpgaaEvKit2
set_option linter.unusedVariables false
set_option linter.unusedSimpArgs false
set_option linter.unusedSectionVars false
namespace Go.Ev
open Go Go.Proofs
set_option maxRecDepth 20000
end Go.Ev

namespace Go.Ev
open Go Go.Proofs
set_option maxRecDepth 20000
def copyIntsS : Spec := fun args σ K => match args, σ with
  | [.one (.data (.ints .i64 l))], [] => l.length ≤ 1000000000000 ∧ K (.one (.own 0 1)) [.row 3 (.ints .i64 l)]
  | _, _ => False
noncomputable abbrev E35 : Env := envOf Try.prog [] [] 6 0
end Go.Ev

namespace Go.Ev
open Go Go.Proofs
set_option maxRecDepth 100000
theorem ex35 (l : List Int) (K : AV → List Blk → Prop) : evFn E35 Try.f35 [.one (.data (.ints .i64 l))] [] K = ( bif decide (l.length * 8 ≤ 140737488355328 ∧ l.length ≤ 140737488355328) then K (.one (.own 0 1)) [Blk.row 3 (Row.ints .i64 l)] else False) := by kernel_rfl
end Go.Ev

namespace Go.Ev
open Go Go.Proofs
attribute [local irreducible] evFn evBody evRound
set_option maxRecDepth 20000
theorem ok35 : SpecOK Try.prog 35 copyIntsS := by
  refine specOK (n := 6) (m := 0) (lps := []) .nil Try.func35 (by kernel_rfl) (by kernel_rfl) (noLoops (by kernel_rfl)) fun args σ K h => ?_
  unfold copyIntsS at h
  split at h
  · rename_i l
    rw [ex35 l K]
    obtain ⟨h1, h⟩ := h
    rw [decide_eq_true (by omega), cond_true]
    exact h
  · exact h.elim
end Go.Ev

namespace Go.Ev
open Go
variable [Glob]
theorem any_step {p : Int → Bool} {l : List Int} {i : Int} (h0 : 0 ≤ i) (h : i < l.length) : (l.drop i.toNat).any p = (p (l.getD i.toNat 0) || (l.drop (i + 1).toNat).any p) := by
  rw [drop_step 0 (by omega), show (i + 1).toNat = i.toNat + 1 by omega]
  rfl
theorem list8 {xs : List Int} (h : xs.length = 8) : [xs.getD 0 0, xs.getD 1 0, xs.getD 2 0, xs.getD 3 0, xs.getD 4 0, xs.getD 5 0, xs.getD 6 0, xs.getD 7 0] = xs :=
  match xs, h with
  | [_, _, _, _, _, _, _, _], _ => rfl
theorem getD_set_self {x : List Int} {i : Nat} (h : i < x.length) (v : Int) : (x.set i v).getD i 0 = v := by
  rw [getD_of_lt (by rw [List.length_set]; exact h)]; simp
end Go.Ev
