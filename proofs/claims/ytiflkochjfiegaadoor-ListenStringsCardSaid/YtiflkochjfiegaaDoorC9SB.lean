/-
  Part of the proof of a law.
-/
import Derived.Test.YtiflkochjfiegaaDoorC9G
import Derived.KernelRfl
import Derived.Test.YtiflkochjfiegaaDoorC9V
import Derived.Test.YtiflkochjfiegaaDoorC9H
set_option linter.unusedVariables false
set_option linter.unusedSimpArgs false
set_option linter.unusedSectionVars false
/-
  Chapter 9, contracts: rules, states, scores of sessions.
-/
namespace Go.Ev
open Go Go.Proofs
set_option maxRecDepth 20000
def ansG (n : Int) : Bool := withinG n 0 1
def ruE (h : List Int) : Int := bif decide ((h.length : Int) > 0) then (bif decide ((h.length : Int) ≤ 10) then (bif h.all ansG then 0 else 2) else 8) else 10
def hrd (p : Int) (b0 b1 b2 : Bool) : Bool := bif p == 0 then b0 else (bif p == 1 then b1 else b2)
def stE2 (h : List Int) (p : Int) (b0 b1 b2 : Bool) (a : List Int) : Int :=
  bif decide ((a.length : Int) ≤ h.length) then (bif a.all ansG then (bif decide ((a.length : Int) ≥ h.length) && (p != -1 || (b0 || (b1 || b2))) then 21 else (bif p == -1 || hrd p b0 b1 b2 then 0 else 3)) else 2) else 8
def stE (h : List Int) (p : Int) (b0 b1 b2 : Bool) (a : List Int) : Int := bif withinG p (-1) 2 then stE2 h p b0 b1 b2 a else 2
def boE (h : List Int) (p : Int) (b0 b1 b2 : Bool) (a : List Int) : Int := bif ruE h == 0 then stE h p b0 b1 b2 a else ruE h
end Go.Ev

/-
  Chapter 9, contracts: events of sessions.
-/
namespace Go.Ev
open Go Go.Proofs
set_option maxRecDepth 20000
def kdS : Spec := fun args σ K => match args, σ with
  | [], [] => K (.agg [.str [112, 108, 97, 121], .int .i64 3, .func 165 [], .str [115, 116, 111, 112], .int .i64 0, .func 166 [], .str [97, 110, 115, 119, 101, 114], .int .i64 2, .func 167 [], .str [114, 101, 112, 101, 97, 116], .int .i64 0, .func 168 []]) []
  | _, _ => False
def plE (h : List Int) (p : Int) (l : Nat) (n : Int) : Int := bif decide ((l : Int) ≥ h.length) then 21 else (bif p == n then 25 else 0)
def asE (h : List Int) (b0 b1 b2 : Bool) (l : Nat) : Int := bif decide ((l : Int) ≥ h.length) then 21 else (bif b0 && (b1 && b2) then 0 else 14)
def reE (p : Int) (l : Nat) : Int := bif decide ((l : Int) > 0) then (bif p == -1 then 0 else 17) else 12
def evE (k n : Int) : Int := bif withinG k 0 3 then (bif k == 0 then (bif withinG n 0 2 then 0 else 2) else (bif k == 2 then (bif withinG n 0 1 then 0 else 2) else (bif n == 0 then 0 else 3))) else 15
def doE (h : List Int) (p : Int) (b0 b1 b2 : Bool) (l : Nat) (k n : Int) : Int :=
  bif k == 0 then plE h p l n else (bif k == 1 then (bif p == -1 then 21 else 0) else (bif k == 2 then asE h b0 b1 b2 l else reE p l))
def prE (h : List Int) (p : Int) (b0 b1 b2 : Bool) (l : Nat) (k n : Int) : Int := bif evE k n == 0 then doE h p b0 b1 b2 l k n else evE k n
def nxP (p k n : Int) : Int := bif k == 0 then n else -1
def nxB (j : Int) (b : Bool) (k n : Int) : Bool := bif k == 0 then (b || n == j) else (bif k == 1 then b else false)
noncomputable abbrev Ekds : Env := envOf Tryd.prog [] [] 6 0
end Go.Ev

namespace Go.Ev
open Go Go.Proofs
set_option maxRecDepth 100000
theorem exkds (K : AV → List Blk → Prop) : evFn Ekds Tryd.f137 [] [] K = ( K (AV.agg [SV.str [(112 : UInt8), (108 : UInt8), (97 : UInt8), (121 : UInt8)], SV.int .i64 3, SV.func 165 [], SV.str [(115 : UInt8), (116 : UInt8), (111 : UInt8), (112 : UInt8)], SV.int .i64 0, SV.func 166 [], SV.str [(97 : UInt8), (110 : UInt8), (115 : UInt8), (119 : UInt8), (101 : UInt8), (114 : UInt8)], SV.int .i64 2, SV.func 167 [], SV.str [(114 : UInt8), (101 : UInt8), (112 : UInt8), (101 : UInt8), (97 : UInt8), (116 : UInt8)], SV.int .i64 0, SV.func 168 []]) []) := by kernel_rfl
end Go.Ev

/-
  Chapter 9: events of sessions: the contracts are kept.
-/
namespace Go.Ev
open Go Go.Proofs
attribute [local irreducible] evFn evBody evRound
set_option maxRecDepth 20000
theorem okkds : SpecOK Tryd.prog 137 kdS := by
  refine specOK (n := 6) (m := 0) (lps := []) .nil Tryd.func137 (by kernel_rfl) (by kernel_rfl) (noLoops (by kernel_rfl)) fun args σ K h => ?_
  unfold kdS at h
  split at h
  rotate_right
  · exact h.elim
  rw [exkds K]; exact h
theorem k_cases (k : Int) : (k = 0 ∨ k = 1 ∨ k = 2 ∨ k = 3) ∨ withinG k 0 3 = false := by
  by_cases h : 0 ≤ k ∧ k ≤ 3
  · left; omega
  · right
    unfold withinG
    rcases Int.lt_or_le k 0 with h1 | h1
    · rw [decide_eq_false (by omega)]; rfl
    · rw [decide_eq_false (show ¬ k ≤ 3 by omega), Bool.and_false]
end Go.Ev
