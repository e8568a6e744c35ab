/-
  Part of the proof of a law.
-/
import Derived.Test.YtophekjofpahfaaC9C
import Derived.KernelRfl
set_option linter.unusedVariables false
set_option linter.unusedSimpArgs false
set_option linter.unusedSectionVars false
/-
  Chapter 9, contracts: whole quotients, comparing fractions, members of lists.
-/
namespace Go.Ev
open Go Go.Proofs
set_option maxRecDepth 20000
def big : Int := 4611686018427387904
def floorS : Spec := fun args σ K => match args, σ with
  | [.one (.int .i64 n), .one (.int .i64 b)], [] => (0 ≤ n ∧ n ≤ big ∧ 0 < b ∧ b ≤ big) ∧ K (.one (.int .i64 (n / b))) []
  | _, _ => False
def hasL : LSpec := fun vs σ k => match vs, σ with
  | [.one (.data (.ints .i64 l)), .one (.int .i64 n), .one (.int .i64 i)], [] => (l.length ≤ 1000000000 ∧ 0 ≤ i) ∧ bif memB n (l.drop i.toNat) then k .ret [.one (.bool true)] [] else k (.exit 0) [.any] []
  | _, _ => False
def hasS : Spec := fun args σ K => match args, σ with
  | [.one (.data (.ints .i64 l)), .one (.int .i64 n)], [] => l.length ≤ 1000000000 ∧ K (.one (.bool (memB n l))) []
  | _, _ => False
noncomputable abbrev Ehav : Env := envOf Try.prog [] [(2, .spec [0, 1, 5] [4] hasL)] 18 0
end Go.Ev

namespace Go.Ev
open Go Go.Proofs
set_option maxRecDepth 100000
theorem exhav (l : List Int) (n : Int) (K : AV → List Blk → Prop) : evFn Ehav Try.f13 [.one (.data (.ints .i64 l)), .one (.int .i64 n)] [] K = ( (l.length ≤ 1000000000 ∧ (0 :Int) ≤ (0 :Int)) ∧ bif memB n l then K (.one (.bool true)) [] else K (.one (.bool false)) []) := by kernel_rfl
theorem exhavl0a (l : List Int) (n i : Int) (K : Ex → List AV → List Blk → Prop) : evBody Ehav (lb Try.f13 0) [0, 1, 5] [4] [.one (.data (.ints .i64 l)), .one (.int .i64 n), .one (.int .i64 i)] [] K = ( bif decide (i < (↑l.length : Int)) then bif decide (0 ≤ i) && decide (i < (↑l.length : Int)) then bif decide (i.toNat + 0 < l.length) then bif l.getD (i.toNat + 0) 0 == n then K .ret [.one (.bool true)] [] else K .normal [.one (.data (Row.ints .i64 l)), .one (.int .i64 n), .one (.int .i64 (IntKind.i64.wrap (i + 1)))] [] else False else False else K (.exit 0) [AV.any] []) := by kernel_rfl
end Go.Ev

/-
  Chapter 9: whole quotients, comparing fractions, members of lists: the contracts are kept.
-/
namespace Go.Ev
open Go Go.Proofs
attribute [local irreducible] evFn evBody evRound
set_option maxRecDepth 20000
theorem memB_step {v : Int} {l : List Int} {i : Nat} (h : i < l.length) : memB v (l.drop i) = ((l.getD i 0 == v) || memB v (l.drop (i + 1))) := by
  rw [drop_step 0 h]
  show ((v == l.getD i 0) || _) = _
  rw [BEq.comm (a := v)]
  rfl
theorem lokhav_0 : LoopOK Ehav (lb Try.f13 0) [0, 1, 5] [4] hasL := by
  refine loopOK .nil (noInner (by kernel_rfl)) (fun vs σ => match vs, σ with
    | [.one (.data (.ints .i64 l)), .one (.int .i64 _), .one (.int .i64 i)], [] => (l.length - i).toNat
    | _, _ => 0) fun vs σ k h => ?_
  unfold hasL at h
  split at h
  rotate_right
  · exact h.elim
  rename_i l n i
  rw [exhavl0a l n i _]
  obtain ⟨⟨h1, h2⟩, h⟩ := h
  by_cases hi : i < (l.length : Int)
  · have hw : IntKind.i64.wrap (i + 1) = i + 1 := wrap_id (by omega) (by omega)
    rw [decide_eq_true hi, decide_eq_true h2, decide_eq_true (show i.toNat + 0 < l.length by omega), hw]
    simp only [cond_true, Bool.and_self, Nat.add_zero]
    rw [memB_step (show i.toNat < l.length by omega), show i.toNat + 1 = (i + 1).toNat by omega] at h
    cases hb : l.getD i.toNat 0 == n with
    | true => rw [hb] at h; exact h
    | false =>
      rw [hb, Bool.false_or] at h
      exact ⟨⟨⟨h1, by omega⟩, h⟩, by show ((l.length : Int) - (i + 1)).toNat < ((l.length : Int) - i).toNat; omega⟩
  · rw [decide_eq_false hi]
    rw [List.drop_eq_nil_of_le (by omega)] at h
    exact h
theorem okhav : SpecOK Try.prog 13 hasS := by
  refine specOK (n := 18) (m := 0) (lps := [(2, .spec [0, 1, 5] [4] hasL)]) .nil Try.func13 (by kernel_rfl) (by kernel_rfl) (theLoops (n := 1) (by kernel_rfl) fun i hi => ?_) fun args σ K h => ?_
  · match i, hi with
    | 0, _ => exact loopHyp_of (key := 2) (by kernel_rfl) rfl lokhav_0
  unfold hasS at h
  split at h
  rotate_right
  · exact h.elim
  rename_i l n
  rw [exhav l n K]
  obtain ⟨h1, h⟩ := h
  refine ⟨⟨h1, by decide⟩, ?_⟩
  cases hm : memB n l with
  | true => rw [hm] at h; exact h
  | false => rw [hm] at h; exact h
end Go.Ev
