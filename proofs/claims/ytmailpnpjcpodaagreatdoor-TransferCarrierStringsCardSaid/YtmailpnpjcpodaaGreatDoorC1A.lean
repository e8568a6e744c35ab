/-
  Part of the proof of a law.
-/
import Derived.Test.YtmailpnpjcpodaaGreatDoorEvKit
import Derived.Test.YtmailpnpjcpodaaGreatDoorProg
import Derived.KernelRfl
set_option linter.unusedVariables false
set_option linter.unusedSimpArgs false
set_option linter.unusedSectionVars false
/-
  Chapter 1, contracts: small helpers, names, fractions, carriers.
-/
namespace Go.Ev
open Go Go.Proofs
instance : Glob := ⟨[(0, [.str [100, 105, 115, 99], .str [99, 121, 108, 105, 110, 100, 101, 114], .str [116, 97, 112, 101]]), (1, [.any]), (2, ([1, 10, 100, 1000, 10000, 100000, 1000000, 10000000, 100000000, 1000000000, 10000000000, 100000000000, 1000000000000, 10000000000000, 100000000000000, 1000000000000000, 10000000000000000, 100000000000000000, 1000000000000000000, 10000000000000000000] : List Int).map (SV.int .u64)), (3, [.ifc false]), (4, [.ifc false])]⟩
def wi (n : Int) : Int := IntKind.i64.wrap n
def withinS : Spec := fun args σ K => match args, σ with
  | [.one (.int .i64 n), .one (.int .i64 lo), .one (.int .i64 hi)], [] => K (.one (.bool (decide (lo ≤ n) && decide (n ≤ hi)))) []
  | _, _ => False
def unlessS : Spec := fun args σ K => match args, σ with
  | [.one (.bool b), .one (.int .i64 e)], [] => K (.one (.int .i64 (cond b 0 e))) []
  | _, _ => False
def firstE : List Int → Int
  | [] => 0
  | e :: l => bif e == 0 then firstE l else e
def firstS : Spec := fun args σ K => match args, σ with
  | [.one (.data (.ints .i64 l))], [] => l.length ≤ 1000 ∧ K (.one (.int .i64 (firstE l))) []
  | _, _ => False
def firstL : LSpec := fun vs σ k => match vs, σ with
  | [.one (.data (.ints .i64 l)), .one (.int .i64 n), .one (.int .i64 i)], [] => (l.length ≤ 1000 ∧ 0 ≤ i ∧ n = l.length) ∧ bif firstE (l.drop i.toNat) == 0 then k (.exit 0) [.any] [] else k .ret [.one (.int .i64 (firstE (l.drop i.toNat)))] []
  | _, _ => False
def wholeS : Spec := fun args σ K => match args, σ with
  | [.one (.int .i64 n)], [] => K (.agg [.int .i64 n, .int .i64 1]) []
  | _, _ => False
def gcdG (a b : Int) : Int := if b = 0 then a else gcdG b (a.tmod b)
termination_by b.natAbs
decreasing_by
  rename_i h
  rw [Int.natAbs_tmod]
  exact Nat.mod_lt _ (by omega)
def sizeG (n : Int) : Int := if wi (0 - n) > n then wi (0 - n) else n
def gcdL : LSpec := fun vs σ k => match vs, σ with
  | [.one (.int .i64 a), .one (.int .i64 b)], [] => k (.exit 0) [.one (.int .i64 (gcdG a b))] []
  | _, _ => False
def gcdS : Spec := fun args σ K => match args, σ with
  | [.one (.int .i64 a), .one (.int .i64 b)], [] => K (.one (.int .i64 (sizeG (gcdG a b)))) []
  | _, _ => False
def sizeS : Spec := fun args σ K => match args, σ with
  | [.one (.int .i64 a)], [] => K (.one (.int .i64 (sizeG a))) []
  | _, _ => False
noncomputable def E71 : Env := envOf Tryz.prog [] [] 15 0
noncomputable def E70 : Env := envOf Tryz.prog [] [] 7 0
noncomputable def E69 : Env := envOf Tryz.prog [] [(2, .spec [5, 6, 7] [2] firstL)] 15 0
noncomputable def E68 : Env := envOf Tryz.prog [] [] 5 0
noncomputable def E72 : Env := envOf Tryz.prog [] [(1, .spec [0, 1] [0] gcdL)] 15 0
end Go.Ev

namespace Go.Ev
open Go Go.Proofs
set_option maxRecDepth 100000
theorem ex71 (n lo hi : Int) (K : AV → List Blk → Prop) : evFn E71 Tryz.f46 [.one (.int .i64 n), .one (.int .i64 lo), .one (.int .i64 hi)] [] K = ( bif decide (lo ≤ n) then K (.one (.bool (decide (n ≤ hi)))) [] else K (.one (.bool false)) []) := by kernel_rfl
theorem ex70 (b : Bool) (e : Int) (K : AV → List Blk → Prop) : evFn E70 Tryz.f50 [.one (.bool b), .one (.int .i64 e)] [] K = ( bif b then K (.one (.int .i64 0)) [] else K (.one (.int .i64 e)) []) := by kernel_rfl
theorem ex69 (l : List Int) (K : AV → List Blk → Prop) : evFn E69 Tryz.f49 [.one (.data (.ints .i64 l))] [] K = ( (l.length ≤ 1000 ∧ (0 :Int) ≤ (0 :Int) ∧ (↑(Row.ints .i64 l).count : Int) = (↑l.length : Int)) ∧ bif firstE (List.drop 0 l) == 0 then K (.one (.int .i64 0)) [] else K (.one (.int .i64 (firstE (List.drop 0 l)))) []) := by kernel_rfl
theorem ex69a (l : List Int) (n i : Int) (K : Ex → List AV → List Blk → Prop) : evBody E69 (lb Tryz.f49 0) [5, 6, 7] [2] [.one (.data (.ints .i64 l)), .one (.int .i64 n), .one (.int .i64 i)] [] K = ( bif decide (i < n) then bif decide (0 ≤ i) && decide (i < (↑(Row.ints .i64 l).count : Int)) then bif (Row.ints .i64 l).hasN i.toNat 0 1 then bif l.getD (i.toNat + 0) (0 :Int) != (0 :Int) then K .ret [.one (.int .i64 (l.getD (i.toNat + 0) 0))] [] else K .normal [.one (.data (Row.ints .i64 l)), .one (.int .i64 n), .one (.int .i64 (IntKind.i64.wrap (i + 1)))] [] else False else False else K (.exit 0) [AV.any] []) := by kernel_rfl
theorem ex68 (n : Int) (K : AV → List Blk → Prop) : evFn E68 Tryz.f35 [.one (.int .i64 n)] [] K = ( K (AV.agg [SV.int .i64 n, SV.int .i64 1]) []) := by kernel_rfl
theorem ex72 (a b : Int) (K : AV → List Blk → Prop) : evFn E72 Tryz.f85 [.one (.int .i64 a), .one (.int .i64 b)] [] K = ( K (.one (.int .i64 (if IntKind.i64.wrap (0 - gcdG a b) > gcdG a b then IntKind.i64.wrap (0 - gcdG a b) else gcdG a b))) []) := by kernel_rfl
theorem ex72a (a b : Int) (K : Ex → List AV → List Blk → Prop) : evBody E72 (lb Tryz.f85 0) [0, 1] [0] [.one (.int .i64 a), .one (.int .i64 b)] [] K = ( bif b != 0 then bif !decide (b = 0) then K .normal [.one (.int .i64 b), .one (.int .i64 (a.tmod b))] [] else False else K (.exit 0) [.one (.int .i64 a)] []) := by kernel_rfl
end Go.Ev

/-
  Chapter 1: the contracts of C1A are kept.
-/
namespace Go.Ev
open Go Go.Proofs
attribute [local irreducible] evFn evBody evRound
set_option maxRecDepth 20000
theorem ok71 : SpecOK Tryz.prog 46 withinS := by
  refine specOK (n := 15) (m := 0) (lps := []) AllOK.nil Tryz.func46 (by kernel_rfl) (by kernel_rfl) (noLoops (by kernel_rfl)) fun args σ K h => ?_
  unfold withinS at h
  split at h
  · rename_i n lo hi
    refine (ex71 n lo hi K).mpr ?_
    cases hd : decide (lo ≤ n) <;> simpa [hd] using h
  · exact h.elim
theorem ok70 : SpecOK Tryz.prog 50 unlessS := by
  refine specOK (n := 7) (m := 0) (lps := []) AllOK.nil Tryz.func50 (by kernel_rfl) (by kernel_rfl) (noLoops (by kernel_rfl)) fun args σ K h => ?_
  unfold unlessS at h
  split at h
  · rename_i b e
    refine (ex70 b e K).mpr ?_
    cases b <;> exact h
  · exact h.elim
theorem firstE_step {l : List Int} {i : Int} (h0 : 0 ≤ i) (h : i < l.length) : firstE (l.drop i.toNat) = bif l.getD i.toNat 0 == 0 then firstE (l.drop (i + 1).toNat) else l.getD i.toNat 0 := by
  rw [drop_step 0 (by omega), show (i + 1).toNat = i.toNat + 1 by omega]
  rfl
theorem lok69 : LoopOK E69 (lb Tryz.f49 0) [5, 6, 7] [2] firstL := by
  refine loopOK AllOK.nil (noInner (by kernel_rfl)) (fun vs _ => match vs with
    | [.one (.data (.ints .i64 l)), _, .one (.int .i64 i)] => l.length - i.toNat
    | _ => 0) fun vs σ k h => ?_
  unfold firstL at h
  split at h
  · rename_i l n i
    obtain ⟨⟨h1, h2, rfl⟩, h⟩ := h
    refine (ex69a l _ i _).mpr ?_
    simp only [count_ints, hasN_one, has_ints, Nat.add_zero]
    by_cases hi : i < l.length
    · have hw : IntKind.i64.wrap (i + 1) = i + 1 := wrap_id (by omega) (by omega)
      have hi' : i.toNat < l.length := by omega
      rw [firstE_step h2 hi] at h
      by_cases hz : l.getD i.toNat 0 = 0
      · simp only [hz, beq_self_eq_true, cond_true] at h
        simp only [hi, hi', h2, hw, hz, decide_true, Bool.and_self, cond_true, bne_self_eq_false, cond_false]
        exact ⟨⟨⟨h1, by omega, rfl⟩, h⟩, by omega⟩
      · have hb : (l.getD i.toNat 0 == 0) = false := by simpa using hz
        simp only [hb, cond_false] at h
        simp only [hi, hi', h2, bne, hb, decide_true, Bool.and_self, cond_true, Bool.not_false]
        exact h
    · rw [List.drop_eq_nil_of_le (by omega)] at h
      simp only [hi, decide_false, cond_false]
      exact h
  · exact h.elim
theorem ok69 : SpecOK Tryz.prog 49 firstS := by
  refine specOK (n := 15) (m := 0) (lps := [(2, .spec [5, 6, 7] [2] firstL)]) AllOK.nil Tryz.func49 (by kernel_rfl) (by kernel_rfl) (theLoops (n := 1) (by kernel_rfl) fun i hi => ?_) fun args σ K h => ?_
  · match i, hi with
    | 0, _ => exact loopHyp_of (key := 2) (by kernel_rfl) rfl lok69
  · unfold firstS at h
    split at h
    · rename_i l
      refine (ex69 l K).mpr ?_
      refine ⟨⟨h.1, by omega, rfl⟩, ?_⟩
      simp only [List.drop_zero]
      by_cases hz : firstE l = 0
      · simpa [hz] using h.2
      · simpa [hz] using h.2
    · exact h.elim
theorem ok68 : SpecOK Tryz.prog 35 wholeS := by
  refine specOK (n := 5) (m := 0) (lps := []) AllOK.nil Tryz.func35 (by kernel_rfl) (by kernel_rfl) (noLoops (by kernel_rfl)) fun args σ K h => ?_
  unfold wholeS at h
  split at h
  · exact (ex68 _ K).mpr h
  · exact h.elim
theorem lok72 : LoopOK E72 (lb Tryz.f85 0) [0, 1] [0] gcdL := by
  refine loopOK AllOK.nil (noInner (by kernel_rfl)) (fun vs _ => match vs with
    | [_, .one (.int .i64 b)] => b.natAbs
    | _ => 0) fun vs σ k h => ?_
  unfold gcdL at h
  split at h
  · rename_i a b
    refine (ex72a a b _).mpr ?_
    by_cases hb : b = 0
    · subst hb
      rw [gcdG] at h
      simpa using h
    · rw [gcdG, if_neg hb] at h
      simp only [bne, beq_eq_false_iff_ne.2 hb, hb, decide_false, Bool.not_false, cond_true]
      exact ⟨h, by rw [Int.natAbs_tmod]; exact Nat.mod_lt _ (by omega)⟩
  · exact h.elim
theorem ok72 : SpecOK Tryz.prog 85 gcdS := by
  refine specOK (n := 15) (m := 0) (lps := [(1, .spec [0, 1] [0] gcdL)]) AllOK.nil Tryz.func85 (by kernel_rfl) (by kernel_rfl) (theLoops (n := 1) (by kernel_rfl) fun i hi => ?_) fun args σ K h => ?_
  · match i, hi with
    | 0, _ => exact loopHyp_of (key := 1) (by kernel_rfl) rfl lok72
  · unfold gcdS at h
    split at h
    · exact (ex72 _ _ K).mpr h
    · exact h.elim
end Go.Ev
