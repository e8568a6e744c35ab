/-
  Part of the proof of a law.
-/
import Derived.Test.YtophekjofpahfaaC9B
import Derived.KernelRfl
import Derived.Test.YtophekjofpahfaaC9A
set_option linter.unusedVariables false
set_option linter.unusedSimpArgs false
set_option linter.unusedSectionVars false
/-
  Chapter 9, contracts: loudness.
-/
namespace Go.Ev
open Go Go.Proofs
set_option maxRecDepth 20000
def lowL : LSpec := fun vs σ k => match vs, σ with
  | [.one (.int .i64 n), .one (.int .i64 d), .one (.ptr 0 1 0 0), .one (.int .i64 a), .one (.int .i64 b)], [.cells [.int .i64 0, .int .i64 0]] => k (.exit 0) [.one (.int .i64 n), .one (.int .i64 d), .one (.ptr 0 1 0 0), .one (.int .i64 (gcdG a b))] [.cells [.int .i64 0, .int .i64 0]]
  | _, _ => False
def lowS : Spec := fun args σ K => match args, σ with
  | [.one (.int .i64 n), .one (.int .i64 d)], [] => gcdG n d ≠ 0 ∧ K (.agg [.int .i64 (wi (n.tdiv (gcdG n d))), .int .i64 (wi (d.tdiv (gcdG n d)))]) []
  | _, _ => False
def meE (len hop gate pct : Int) (x : List Int) : Int := firstE [bif meterG len hop gate pct then 0 else 2, sigE x]
def sumI (bs : List Int) : List Int → Int
  | [] => 0
  | j :: l => bs.getD j.toNat 0 + sumI bs l
def ldI (len hop gate pct : Int) (x : List Int) : List Int := gatG len gate pct (enG len hop x 0)
def ldN (len hop gate pct : Int) (x : List Int) : Int := sumI (enG len hop x 0) (ldI len hop gate pct x)
def ldD (len hop gate pct : Int) (x : List Int) : Int := (ldI len hop gate pct x).length * len
noncomputable abbrev Elow : Env := envOf Try.prog [] [(2, .spec [0, 1, 4, 5, 6] [0, 1, 4, 5] lowL)] 22 0
end Go.Ev

namespace Go.Ev
open Go Go.Proofs
set_option maxRecDepth 100000
theorem exlow (n d : Int) (K : AV → List Blk → Prop) : evFn Elow Try.f22 [.one (.int .i64 n), .one (.int .i64 d)] [] K = ( bif !decide (gcdG n d = 0) then bif !decide (gcdG n d = 0) then K (AV.agg [SV.int .i64 (IntKind.i64.wrap (n.tdiv (gcdG n d))), SV.int .i64 (IntKind.i64.wrap (d.tdiv (gcdG n d)))]) [] else False else False) := by kernel_rfl
theorem exlowa (n d a b : Int) (K : Ex → List AV → List Blk → Prop) : evBody Elow (lb Try.f22 0) [0, 1, 4, 5, 6] [0, 1, 4, 5] [.one (.int .i64 n), .one (.int .i64 d), .one (.ptr 0 1 0 0), .one (.int .i64 a), .one (.int .i64 b)] [.cells [.int .i64 0, .int .i64 0]] K = ( bif b != 0 then bif !decide (b = 0) then K .normal [.one (.int .i64 n), .one (.int .i64 d), .one (.ptr 0 1 0 0), .one (.int .i64 b), .one (.int .i64 (a.tmod b))] [Blk.cells [SV.int .i64 0, SV.int .i64 0]] else False else K (.exit 0) [.one (.int .i64 n), .one (.int .i64 d), .one (.ptr 0 1 0 0), .one (.int .i64 a)] [Blk.cells [SV.int .i64 0, SV.int .i64 0]]) := by kernel_rfl
end Go.Ev

/-
  Chapter 9: the contracts of loudness are kept.
-/
namespace Go.Ev
open Go Go.Proofs
attribute [local irreducible] evFn evBody evRound
set_option maxRecDepth 20000
theorem firstE2 {a b : Int} (h : firstE [a, b] = 0) : a = 0 ∧ b = 0 := by
  simp only [firstE] at h
  by_cases ha : a = 0
  · subst ha
    by_cases hb : b = 0
    · exact ⟨rfl, hb⟩
    · rw [beq_eq_false_iff_ne.2 hb] at h
      exact absurd h hb
  · rw [beq_eq_false_iff_ne.2 ha] at h
    exact absurd h ha
theorem loklow : LoopOK Elow (lb Try.f22 0) [0, 1, 4, 5, 6] [0, 1, 4, 5] lowL := by
  refine loopOK .nil (noInner (by kernel_rfl)) (fun vs _ => match vs with
    | [_, _, _, _, .one (.int .i64 b)] => b.natAbs
    | _ => 0) fun vs σ k h => ?_
  unfold lowL at h
  split at h
  · rename_i n d a b
    rw [exlowa n d a b _]
    by_cases hb : b = 0
    · subst hb
      rw [gcdG] at h
      simpa using h
    · rw [gcdG, if_neg hb] at h
      simp only [bne, beq_eq_false_iff_ne.2 hb, hb, decide_false, Bool.not_false, cond_true]
      exact ⟨h, by rw [Int.natAbs_tmod]; exact Nat.mod_lt _ (by omega)⟩
  · exact h.elim
theorem oklow : SpecOK Try.prog 22 lowS := by
  refine specOK (n := 22) (m := 0) (lps := [(2, .spec [0, 1, 4, 5, 6] [0, 1, 4, 5] lowL)]) .nil Try.func22 (by kernel_rfl) (by kernel_rfl) (theLoops (n := 1) (by kernel_rfl) fun i hi => ?_) fun args σ K h => ?_
  · match i, hi with
    | 0, _ => exact loopHyp_of (key := 2) (by kernel_rfl) rfl loklow
  · unfold lowS at h
    split at h
    · rename_i n d
      rw [exlow n d K]
      obtain ⟨h1, h⟩ := h
      rw [decide_eq_false h1]
      exact h
    · exact h.elim
end Go.Ev
