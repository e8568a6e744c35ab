/-
  Part of the proof of a law.
-/
import Derived.Test.YtmailpnpjcpodaaGreatDoorC1C
import Derived.KernelRfl
set_option linter.unusedVariables false
set_option linter.unusedSimpArgs false
set_option linter.unusedSectionVars false
/-
  Chapter 1, contracts: the samples of a turn.
-/
namespace Go.Ev
open Go Go.Proofs
set_option maxRecDepth 20000
def fe (n d e : Int) : AV := .tup [.agg [.int .i64 n, .int .i64 d], .one (.int .i64 e)]
def rateG (rate d : Int) : Int := wi (wi (rate * 60) * d)
def refTurnS : Spec := fun args σ K => match args, σ with
  | [.agg [.str _, .int .i64 k, .int .i64 _, .int .i64 n, .int .i64 d], .one (.int .i64 rate)], [] =>
    bif k == 2 then K (fe 0 0 15) [] else bif !withinG rate 1 200000 then K (fe 0 0 2) [] else
    divG (rateG rate d) n ≠ 0 ∧ bif smallG (wi ((rateG rate d).tdiv (divG (rateG rate d) n))) (wi (n.tdiv (divG (rateG rate d) n))) then
      K (fe (wi ((rateG rate d).tdiv (divG (rateG rate d) n))) (wi (n.tdiv (divG (rateG rate d) n))) 0) [] else K (fe 0 0 8) []
  | _, _ => False
def turnE (nm : List UInt8) (k s n d rate : Int) : Int := firstE [carrierG nm k s n d, bif k != 2 then 0 else 15, bif withinG rate 1 200000 then 0 else 2]
def turnS : Spec := fun args σ K => match args, σ with
  | [.agg [.str nm, .int .i64 k, .int .i64 s, .int .i64 n, .int .i64 d], .one (.int .i64 rate)], [] =>
    nm.length ≤ 1000000 ∧ bif turnE nm k s n d rate != 0 then K (fe 0 0 (turnE nm k s n d rate)) [] else
    sizeG (gcdG (rateG rate d) n) ≠ 0 ∧
    bif decide (wi ((rateG rate d).tdiv (sizeG (gcdG (rateG rate d) n))) > 1000000000) || decide (wi (n.tdiv (sizeG (gcdG (rateG rate d) n))) > 1000000000) then K (fe 0 0 8) []
    else K (fe (wi ((rateG rate d).tdiv (sizeG (gcdG (rateG rate d) n)))) (wi (n.tdiv (sizeG (gcdG (rateG rate d) n)))) 0) []
  | _, _ => False
noncomputable def E16 : Env := envOf Tryz.prog [(51, carrierS), (50, unlessS), (46, withinS), (49, firstS), (85, gcdS)] [] 55 0
end Go.Ev

namespace Go.Ev
open Go Go.Proofs
set_option maxRecDepth 100000
theorem ex16 (nm : List UInt8) (k s n d rate : Int) (K : AV → List Blk → Prop) : evFn E16 Tryz.f32 [.agg [.str nm, .int .i64 k, .int .i64 s, .int .i64 n, .int .i64 d], .one (.int .i64 rate)] [] K = ( nm.length ≤ 1000000 ∧ [carrierG nm k s n d, bif k != 2 then (0 :Int) else (15 :Int), bif decide (1 ≤ rate) && decide (rate ≤ 200000) then (0 :Int) else (2 :Int)].length ≤ 1000 ∧ bif firstE [carrierG nm k s n d, bif k != 2 then (0 :Int) else (15 :Int), bif decide (1 ≤ rate) && decide (rate ≤ 200000) then (0 :Int) else (2 :Int)] != 0 then K (AV.tup [TV.agg [SV.int .i64 0, SV.int .i64 0], .one (.int .i64 (firstE [carrierG nm k s n d, bif k != 2 then (0 :Int) else (15 :Int), bif decide (1 ≤ rate) && decide (rate ≤ 200000) then (0 :Int) else (2 :Int)]))]) [] else bif !decide (sizeG (gcdG (IntKind.i64.wrap (IntKind.i64.wrap (rate * 60) * d)) n) = 0) then bif !decide (sizeG (gcdG (IntKind.i64.wrap (IntKind.i64.wrap (rate * 60) * d)) n) = 0) then bif decide (IntKind.i64.wrap ((IntKind.i64.wrap (IntKind.i64.wrap (rate * 60) * d)).tdiv (sizeG (gcdG (IntKind.i64.wrap (IntKind.i64.wrap (rate * 60) * d)) n))) > 1000000000) then K (AV.tup [TV.agg [SV.int .i64 0, SV.int .i64 0], .one (.int .i64 8)]) [] else bif decide (IntKind.i64.wrap (n.tdiv (sizeG (gcdG (IntKind.i64.wrap (IntKind.i64.wrap (rate * 60) * d)) n))) > 1000000000) then K (AV.tup [TV.agg [SV.int .i64 0, SV.int .i64 0], .one (.int .i64 8)]) [] else K (AV.tup [TV.agg [SV.int .i64 (IntKind.i64.wrap ((IntKind.i64.wrap (IntKind.i64.wrap (rate * 60) * d)).tdiv (sizeG (gcdG (IntKind.i64.wrap (IntKind.i64.wrap (rate * 60) * d)) n)))), SV.int .i64 (IntKind.i64.wrap (n.tdiv (sizeG (gcdG (IntKind.i64.wrap (IntKind.i64.wrap (rate * 60) * d)) n))))], .one (.int .i64 0)]) [] else False else False) := by kernel_rfl
end Go.Ev

/-
  Chapter 1: the contracts of C1D are kept.
-/
namespace Go.Ev
open Go Go.Proofs
attribute [local irreducible] evFn evBody evRound
set_option maxRecDepth 20000
theorem ok16 : SpecOK Tryz.prog 32 turnS := by
  refine specOK (n := 55) (m := 0) (lps := []) (.cons ok18 (.cons ok70 (.cons ok71 (.cons ok69 (.cons ok72 .nil))))) Tryz.func32 (by kernel_rfl) (by kernel_rfl) (noLoops (by kernel_rfl)) fun args σ K h => ?_
  unfold turnS at h
  split at h
  · rename_i nm k s n d rate
    obtain ⟨h0, h⟩ := h
    refine (ex16 nm k s n d rate K).mpr ⟨h0, by simp, ?_⟩
    change (bif turnE nm k s n d rate != 0 then _ else _)
    cases he : turnE nm k s n d rate != 0 with
    | true => rw [he] at h; exact h
    | false =>
      rw [he] at h
      obtain ⟨h1, h⟩ := h
      have e1 : decide (sizeG (gcdG (IntKind.i64.wrap (IntKind.i64.wrap (rate * 60) * d)) n) = 0) = false := decide_eq_false h1
      dsimp only [cond_false]
      rw [e1]
      change (bif decide (wi ((rateG rate d).tdiv (sizeG (gcdG (rateG rate d) n))) > 1000000000) then K (fe 0 0 8) [] else bif decide (wi (n.tdiv (sizeG (gcdG (rateG rate d) n))) > 1000000000) then K (fe 0 0 8) [] else _)
      cases hs : decide (wi ((rateG rate d).tdiv (sizeG (gcdG (rateG rate d) n))) > 1000000000) <;> rw [hs] at h
      · exact h
      · exact h
  · exact h.elim
end Go.Ev
