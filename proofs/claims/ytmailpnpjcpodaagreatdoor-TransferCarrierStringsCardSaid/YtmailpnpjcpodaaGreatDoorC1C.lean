/-
  Part of the proof of a law.
-/
import Derived.Test.YtmailpnpjcpodaaGreatDoorC1B
import Derived.KernelRfl
set_option linter.unusedVariables false
set_option linter.unusedSimpArgs false
set_option linter.unusedSectionVars false
/-
  Chapter 1, contracts: fractions, carriers.
-/
namespace Go.Ev
open Go Go.Proofs
set_option maxRecDepth 20000
def withinG (n lo hi : Int) : Bool := decide (lo ≤ n) && decide (n ≤ hi)
def lowestG (n d : Int) : Bool := decide (d > 0) && (sizeG (gcdG n d) == 1)
def isLowestS : Spec := fun args σ K => match args, σ with
  | [.agg [.int .i64 n, .int .i64 d]], [] => K (.one (.bool (lowestG n d))) []
  | _, _ => False
def divG (n d : Int) : Int := if d < 0 then wi (0 - sizeG (gcdG n d)) else sizeG (gcdG n d)
def smallG (n d : Int) : Bool := withinG n (-1000000000) 1000000000 && withinG d 1 1000000000
def carrierG (nm : List UInt8) (k s n d : Int) : Int :=
  bif !nameG nm then 4 else bif !withinG k 0 2 then 15 else bif !withinG s 1 2 then 2 else
  bif (k != 0 && s == 2) || !lowestG n d then 3 else bif !withinG n 1 10000 || decide (d > 10000) then 2 else 0
def carrierS : Spec := fun args σ K => match args, σ with
  | [.agg [.str nm, .int .i64 k, .int .i64 s, .int .i64 n, .int .i64 d]], [] => nm.length ≤ 1000000 ∧ K (.one (.int .i64 (carrierG nm k s n d))) []
  | _, _ => False
noncomputable def E74 : Env := envOf Tryz.prog [(100, gcdS)] [] 14 0
noncomputable def E17 : Env := envOf Tryz.prog [(54, nameS), (19, withinS), (55, isLowestS)] [] 40 0
noncomputable def E18 : Env := envOf Tryz.prog [(98, nameS), (46, withinS), (50, unlessS), (49, firstS), (85, gcdS)] [] 50 0
end Go.Ev

namespace Go.Ev
open Go Go.Proofs
set_option maxRecDepth 100000
theorem ex74 (n d : Int) (K : AV → List Blk → Prop) : evFn E74 Tryz.f55 [.agg [.int .i64 n, .int .i64 d]] [] K = ( bif decide (d > 0) then K (.one (.bool (sizeG (gcdG n d) == 1))) [] else K (.one (.bool false)) []) := by kernel_rfl
theorem ex17 (nm : List UInt8) (k s n d : Int) (K : AV → List Blk → Prop) : evFn E17 Tryz.f16 [.agg [.str nm, .int .i64 k, .int .i64 s, .int .i64 n, .int .i64 d]] [] K = ( nm.length ≤ 1000000 ∧ bif !nameG nm then K (.one (.int .i64 4)) [] else bif !(decide (0 ≤ k) && decide (k ≤ 2)) then K (.one (.int .i64 15)) [] else bif !(decide (1 ≤ s) && decide (s ≤ 2)) then K (.one (.int .i64 2)) [] else bif k != 0 then bif s == 2 then K (.one (.int .i64 3)) [] else bif !lowestG n d then K (.one (.int .i64 3)) [] else bif !(decide (1 ≤ n) && decide (n ≤ 10000)) then K (.one (.int .i64 2)) [] else bif decide (d > 10000) then K (.one (.int .i64 2)) [] else K (.one (.int .i64 0)) [] else bif !lowestG n d then K (.one (.int .i64 3)) [] else bif !(decide (1 ≤ n) && decide (n ≤ 10000)) then K (.one (.int .i64 2)) [] else bif decide (d > 10000) then K (.one (.int .i64 2)) [] else K (.one (.int .i64 0)) []) := by kernel_rfl
theorem ex18 (nm : List UInt8) (k s n d : Int) (K : AV → List Blk → Prop) : evFn E18 Tryz.f51 [.agg [.str nm, .int .i64 k, .int .i64 s, .int .i64 n, .int .i64 d]] [] K = ( nm.length ≤ 1000000 ∧ bif s == 1 then bif decide (d > 0) then bif decide (1 ≤ n) && decide (n ≤ 10000) then [bif nameG nm then (0 :Int) else (4 :Int), bif decide (0 ≤ k) && decide (k ≤ 2) then (0 :Int) else (15 :Int), bif decide (1 ≤ s) && decide (s ≤ 2) then (0 :Int) else (2 :Int), 0, bif sizeG (gcdG n d) == 1 then (0 :Int) else (3 :Int), bif decide (d ≤ 10000) then (0 :Int) else (2 :Int)].length ≤ 1000 ∧ K (.one (.int .i64 (firstE [bif nameG nm then (0 :Int) else (4 :Int), bif decide (0 ≤ k) && decide (k ≤ 2) then (0 :Int) else (15 :Int), bif decide (1 ≤ s) && decide (s ≤ 2) then (0 :Int) else (2 :Int), 0, bif sizeG (gcdG n d) == 1 then (0 :Int) else (3 :Int), bif decide (d ≤ 10000) then (0 :Int) else (2 :Int)]))) [] else [bif nameG nm then (0 :Int) else (4 :Int), bif decide (0 ≤ k) && decide (k ≤ 2) then (0 :Int) else (15 :Int), bif decide (1 ≤ s) && decide (s ≤ 2) then (0 :Int) else (2 :Int), 0, bif sizeG (gcdG n d) == 1 then (0 :Int) else (3 :Int), 2].length ≤ 1000 ∧ K (.one (.int .i64 (firstE [bif nameG nm then (0 :Int) else (4 :Int), bif decide (0 ≤ k) && decide (k ≤ 2) then (0 :Int) else (15 :Int), bif decide (1 ≤ s) && decide (s ≤ 2) then (0 :Int) else (2 :Int), 0, bif sizeG (gcdG n d) == 1 then (0 :Int) else (3 :Int), 2]))) [] else bif decide (1 ≤ n) && decide (n ≤ 10000) then [bif nameG nm then (0 :Int) else (4 :Int), bif decide (0 ≤ k) && decide (k ≤ 2) then (0 :Int) else (15 :Int), bif decide (1 ≤ s) && decide (s ≤ 2) then (0 :Int) else (2 :Int), 0, 3, bif decide (d ≤ 10000) then (0 :Int) else (2 :Int)].length ≤ 1000 ∧ K (.one (.int .i64 (firstE [bif nameG nm then (0 :Int) else (4 :Int), bif decide (0 ≤ k) && decide (k ≤ 2) then (0 :Int) else (15 :Int), bif decide (1 ≤ s) && decide (s ≤ 2) then (0 :Int) else (2 :Int), 0, 3, bif decide (d ≤ 10000) then (0 :Int) else (2 :Int)]))) [] else [bif nameG nm then (0 :Int) else (4 :Int), bif decide (0 ≤ k) && decide (k ≤ 2) then (0 :Int) else (15 :Int), bif decide (1 ≤ s) && decide (s ≤ 2) then (0 :Int) else (2 :Int), 0, 3, 2].length ≤ 1000 ∧ K (.one (.int .i64 (firstE [bif nameG nm then (0 :Int) else (4 :Int), bif decide (0 ≤ k) && decide (k ≤ 2) then (0 :Int) else (15 :Int), bif decide (1 ≤ s) && decide (s ≤ 2) then (0 :Int) else (2 :Int), 0, 3, 2]))) [] else bif decide (d > 0) then bif decide (1 ≤ n) && decide (n ≤ 10000) then [bif nameG nm then (0 :Int) else (4 :Int), bif decide (0 ≤ k) && decide (k ≤ 2) then (0 :Int) else (15 :Int), bif decide (1 ≤ s) && decide (s ≤ 2) then (0 :Int) else (2 :Int), bif k == 0 then (0 :Int) else (3 :Int), bif sizeG (gcdG n d) == 1 then (0 :Int) else (3 :Int), bif decide (d ≤ 10000) then (0 :Int) else (2 :Int)].length ≤ 1000 ∧ K (.one (.int .i64 (firstE [bif nameG nm then (0 :Int) else (4 :Int), bif decide (0 ≤ k) && decide (k ≤ 2) then (0 :Int) else (15 :Int), bif decide (1 ≤ s) && decide (s ≤ 2) then (0 :Int) else (2 :Int), bif k == 0 then (0 :Int) else (3 :Int), bif sizeG (gcdG n d) == 1 then (0 :Int) else (3 :Int), bif decide (d ≤ 10000) then (0 :Int) else (2 :Int)]))) [] else [bif nameG nm then (0 :Int) else (4 :Int), bif decide (0 ≤ k) && decide (k ≤ 2) then (0 :Int) else (15 :Int), bif decide (1 ≤ s) && decide (s ≤ 2) then (0 :Int) else (2 :Int), bif k == 0 then (0 :Int) else (3 :Int), bif sizeG (gcdG n d) == 1 then (0 :Int) else (3 :Int), 2].length ≤ 1000 ∧ K (.one (.int .i64 (firstE [bif nameG nm then (0 :Int) else (4 :Int), bif decide (0 ≤ k) && decide (k ≤ 2) then (0 :Int) else (15 :Int), bif decide (1 ≤ s) && decide (s ≤ 2) then (0 :Int) else (2 :Int), bif k == 0 then (0 :Int) else (3 :Int), bif sizeG (gcdG n d) == 1 then (0 :Int) else (3 :Int), 2]))) [] else bif decide (1 ≤ n) && decide (n ≤ 10000) then [bif nameG nm then (0 :Int) else (4 :Int), bif decide (0 ≤ k) && decide (k ≤ 2) then (0 :Int) else (15 :Int), bif decide (1 ≤ s) && decide (s ≤ 2) then (0 :Int) else (2 :Int), bif k == 0 then (0 :Int) else (3 :Int), 3, bif decide (d ≤ 10000) then (0 :Int) else (2 :Int)].length ≤ 1000 ∧ K (.one (.int .i64 (firstE [bif nameG nm then (0 :Int) else (4 :Int), bif decide (0 ≤ k) && decide (k ≤ 2) then (0 :Int) else (15 :Int), bif decide (1 ≤ s) && decide (s ≤ 2) then (0 :Int) else (2 :Int), bif k == 0 then (0 :Int) else (3 :Int), 3, bif decide (d ≤ 10000) then (0 :Int) else (2 :Int)]))) [] else [bif nameG nm then (0 :Int) else (4 :Int), bif decide (0 ≤ k) && decide (k ≤ 2) then (0 :Int) else (15 :Int), bif decide (1 ≤ s) && decide (s ≤ 2) then (0 :Int) else (2 :Int), bif k == 0 then (0 :Int) else (3 :Int), 3, 2].length ≤ 1000 ∧ K (.one (.int .i64 (firstE [bif nameG nm then (0 :Int) else (4 :Int), bif decide (0 ≤ k) && decide (k ≤ 2) then (0 :Int) else (15 :Int), bif decide (1 ≤ s) && decide (s ≤ 2) then (0 :Int) else (2 :Int), bif k == 0 then (0 :Int) else (3 :Int), 3, 2]))) []) := by kernel_rfl
end Go.Ev

/-
  Chapter 1: the contracts of C1C are kept.
-/
namespace Go.Ev
open Go Go.Proofs
attribute [local irreducible] evFn evBody evRound
set_option maxRecDepth 20000
theorem ok74 : SpecOK Tryz.prog 55 isLowestS := by
  refine specOK (n := 14) (m := 0) (lps := []) (.cons ok126 .nil) Tryz.func55 (by kernel_rfl) (by kernel_rfl) (noLoops (by kernel_rfl)) fun args σ K h => ?_
  unfold isLowestS at h
  split at h
  · rename_i n d
    refine (ex74 n d K).mpr ?_
    unfold lowestG at h
    cases hd : decide (d > 0) <;> rw [hd] at h <;> exact h
  · exact h.elim
theorem ok17 : SpecOK Tryz.prog 16 carrierS := by
  refine specOK (n := 40) (m := 0) (lps := []) (.cons ok73 (.cons ok25 (.cons ok74 .nil))) Tryz.func16 (by kernel_rfl) (by kernel_rfl) (noLoops (by kernel_rfl)) fun args σ K h => ?_
  unfold carrierS at h
  split at h
  · rename_i nm k s n d
    refine (ex17 nm k s n d K).mpr ⟨h.1, ?_⟩
    obtain ⟨_, h⟩ := h
    unfold carrierG withinG at h
    revert h
    generalize nameG nm = b1
    generalize (decide (0 ≤ k) && decide (k ≤ 2)) = b2
    generalize (decide (1 ≤ s) && decide (s ≤ 2)) = b3
    generalize (k != 0) = b4
    generalize (s == 2) = b5
    generalize lowestG n d = b6
    generalize (decide (1 ≤ n) && decide (n ≤ 10000)) = b7
    generalize decide (d > 10000) = b8
    cases b1 <;> cases b2 <;> cases b3 <;> cases b4 <;> cases b5 <;> cases b6 <;> cases b7 <;> cases b8 <;> exact id
  · exact h.elim
theorem carrier_first (nm : List UInt8) (k s n d : Int) :
    firstE [bif nameG nm then 0 else 4, bif decide (0 ≤ k) && decide (k ≤ 2) then 0 else 15, bif decide (1 ≤ s) && decide (s ≤ 2) then 0 else 2,
      bif s == 1 then 0 else bif k == 0 then 0 else 3, bif decide (d > 0) then bif sizeG (gcdG n d) == 1 then 0 else 3 else 3,
      bif decide (1 ≤ n) && decide (n ≤ 10000) then bif decide (d ≤ 10000) then 0 else 2 else 2] = carrierG nm k s n d := by
  have e1 : decide (d > 10000) = !decide (d ≤ 10000) := by
    by_cases h : d ≤ 10000
    · rw [decide_eq_true h, decide_eq_false (by omega)]; rfl
    · rw [decide_eq_false h, decide_eq_true (by omega)]; rfl
  unfold carrierG withinG lowestG bne
  rw [e1]
  generalize nameG nm = b1
  generalize (decide (0 ≤ k) && decide (k ≤ 2)) = b2
  generalize (k == 0) = b4
  generalize decide (d > 0) = b5
  generalize (sizeG (gcdG n d) == 1) = b6
  generalize (decide (1 ≤ n) && decide (n ≤ 10000)) = b7
  generalize decide (d ≤ 10000) = b8
  by_cases hs : s = 1
  · subst hs
    cases b1 <;> cases b2 <;> cases b4 <;> cases b5 <;> cases b6 <;> cases b7 <;> cases b8 <;> rfl
  · by_cases hs : s = 2
    · subst hs
      cases b1 <;> cases b2 <;> cases b4 <;> cases b5 <;> cases b6 <;> cases b7 <;> cases b8 <;> rfl
    · have f1 : (decide (1 ≤ s) && decide (s ≤ 2)) = false := by
        by_cases h : 1 ≤ s
        · rw [decide_eq_false (show ¬ s ≤ 2 by omega), Bool.and_false]
        · rw [decide_eq_false h, Bool.false_and]
      rw [f1]
      cases b1 <;> cases b2 <;> rfl
theorem ok18 : SpecOK Tryz.prog 51 carrierS := by
  refine specOK (n := 50) (m := 0) (lps := []) (.cons ok75 (.cons ok71 (.cons ok70 (.cons ok69 (.cons ok72 .nil))))) Tryz.func51 (by kernel_rfl) (by kernel_rfl) (noLoops (by kernel_rfl)) fun args σ K h => ?_
  unfold carrierS at h
  split at h
  · rename_i nm k s n d
    refine (ex18 nm k s n d K).mpr ⟨h.1, ?_⟩
    obtain ⟨_, h⟩ := h
    rw [← carrier_first] at h
    revert h
    generalize (s == 1) = b1
    generalize decide (d > 0) = b2
    generalize (decide (1 ≤ n) && decide (n ≤ 10000)) = b3
    cases b1 <;> cases b2 <;> cases b3 <;> exact fun h => ⟨by simp, h⟩
  · exact h.elim
end Go.Ev
