/-
  Part of the proof of a law.
-/
import Derived.Test.YtiflkochjfiegaaDoorC9XA
import Derived.KernelRfl
import Derived.Test.YtiflkochjfiegaaDoorC9G
set_option linter.unusedVariables false
set_option linter.unusedSimpArgs false
set_option linter.unusedSectionVars false
/-
  Chapter 9, contract: the law of strings of events.
-/
namespace Go.Ev
open Go Go.Proofs
set_option maxRecDepth 20000
set_option linter.unusedVariables false
def lawStrS : Spec := fun args σ K => match args, σ with
  | [.agg [.int .i64 k, .int .i64 n], .one (.str s)], [] => (-9223372036854775808 ≤ n ∧ n ≤ 9223372036854775807) ∧ K (.one (.bool true)) []
  | _, _ => False
noncomputable abbrev Elst : Env := envOf Tryd.prog [(19, awakeS), (88, fmtS), (87, parS), (95, parS), (96, fmtS), (97, evES)] [] 58 0
end Go.Ev

namespace Go.Ev
open Go Go.Proofs
set_option maxRecDepth 100000
theorem exlst (k n : Int) (s : List UInt8) (K : AV → List Blk → Prop) : evFn Elst Tryd.f18 [.agg [.int .i64 k, .int .i64 n], .one (.str s)] [] K = ( bif decide ((↑s.length : Int) > 40) then K (.one (.bool true)) [] else ((-9223372036854775808 : Int) ≤ n ∧ n ≤ 9223372036854775807) ∧ s.length ≤ 1000000 ∧ s.length ≤ 1000000 ∧ ((-9223372036854775808 : Int) ≤ n ∧ n ≤ 9223372036854775807) ∧ bif !fmtG k n == fmtG k n then K (.one (.bool false)) [] else bif (parG s).snd.snd != (parG s).snd.snd then K (.one (.bool false)) [] else bif !((parG s).fst == (parG s).fst && (parG s).snd.fst == (parG s).snd.fst) then K (.one (.bool false)) [] else bif evE k n != 0 then K (.one (.bool true)) [] else (fmtG k n).length ≤ 1000000 ∧ bif (parG (fmtG k n)).snd.snd == 0 then K (.one (.bool ((parG (fmtG k n)).fst == k && (parG (fmtG k n)).snd.fst == n))) [] else K (.one (.bool false)) []) := by kernel_rfl
end Go.Ev

/-
  Chapter 9: the law of strings of events: the contract is kept.
-/
namespace Go.Ev
open Go Go.Proofs
attribute [local irreducible] evFn evBody evRound
set_option maxRecDepth 20000
set_option linter.unusedVariables false
set_option linter.unusedSimpArgs false
theorem fmtG_len {k n : Int} (h : -9223372036854775808 ≤ n ∧ n ≤ 9223372036854775807) : (fmtG k n).length ≤ 30 := by
  have hl := itoG_len h
  unfold fmtG
  cases hw : withinG k 0 3 with
  | false => simp
  | true =>
    rcases within4 hw with rfl | rfl | rfl | rfl
    · show (([112, 108, 97, 121] ++ [32] : List UInt8) ++ itoG n).length ≤ 30
      rw [List.length_append]; simp only [List.length_append, List.length_cons, List.length_nil]; omega
    · show ([115, 116, 111, 112] : List UInt8).length ≤ 30
      decide
    · show (([97, 110, 115, 119, 101, 114] ++ [32] : List UInt8) ++ itoG n).length ≤ 30
      rw [List.length_append]; simp only [List.length_append, List.length_cons, List.length_nil]; omega
    · show ([114, 101, 112, 101, 97, 116] : List UInt8).length ≤ 30
      decide
theorem itoG_small {i : Nat} (h : i < 10) : itoG (i : Int) = [UInt8.ofNat (48 + i)] := by
  unfold itoG Lib.itoa
  rw [if_neg (by omega), Int.toNat_natCast, Lib.decDigits_one h]
theorem par_fmt {k n : Int} (h : evE k n = 0) : parG (fmtG k n) = (k, n, 0) := by
  unfold evE at h
  cases hw : withinG k 0 3 with
  | false => rw [hw] at h; cases h
  | true =>
    rw [hw] at h
    have i0 : itoG 0 = [48] := itoG_small (i := 0) (by decide)
    have i1 : itoG 1 = [49] := itoG_small (i := 1) (by decide)
    have i2 : itoG 2 = [50] := itoG_small (i := 2) (by decide)
    unfold fmtG
    rw [hw]
    rcases within4 hw with rfl | rfl | rfl | rfl
    · have h2 : withinG n 0 2 = true := by
        cases hn : withinG n 0 2 with
        | true => rfl
        | false => rw [hn] at h; cases h
      unfold withinG at h2
      simp only [Bool.and_eq_true, decide_eq_true_eq] at h2
      show parG (([112, 108, 97, 121] ++ [32] : List UInt8) ++ itoG n) = _
      have : n = 0 ∨ n = 1 ∨ n = 2 := by omega
      rcases this with rfl | rfl | rfl
      · rw [i0]; rfl
      · rw [i1]; rfl
      · rw [i2]; rfl
    · have h2 : n = 0 := by
        cases hn : (n == 0) with
        | true => exact eq_of_beq hn
        | false => rw [show (bif (1 : Int) == 0 then (bif withinG n 0 2 then (0 : Int) else 2) else bif (1 : Int) == 2 then (bif withinG n 0 1 then (0 : Int) else 2) else bif n == 0 then (0 : Int) else 3) = bif n == 0 then 0 else 3 from rfl, hn] at h; cases h
      subst h2; rfl
    · have h2 : withinG n 0 1 = true := by
        cases hn : withinG n 0 1 with
        | true => rfl
        | false => rw [hn] at h; cases h
      unfold withinG at h2
      simp only [Bool.and_eq_true, decide_eq_true_eq] at h2
      show parG (([97, 110, 115, 119, 101, 114] ++ [32] : List UInt8) ++ itoG n) = _
      have : n = 0 ∨ n = 1 := by omega
      rcases this with rfl | rfl
      · rw [i0]; rfl
      · rw [i1]; rfl
    · have h2 : n = 0 := by
        cases hn : (n == 0) with
        | true => exact eq_of_beq hn
        | false => rw [show (bif (3 : Int) == 0 then (bif withinG n 0 2 then (0 : Int) else 2) else bif (3 : Int) == 2 then (bif withinG n 0 1 then (0 : Int) else 2) else bif n == 0 then (0 : Int) else 3) = bif n == 0 then 0 else 3 from rfl, hn] at h; cases h
      subst h2; rfl
theorem oklst : SpecOK Tryd.prog 18 lawStrS := by
  refine specOK (n := 58) (m := 0) (lps := []) (.cons okawk (.cons okfmt (.cons okprs (.cons okrpr (.cons okrfm (.cons okevt .nil)))))) Tryd.func18 (by kernel_rfl) (by kernel_rfl) (noLoops (by kernel_rfl)) fun args σ K h => ?_
  unfold lawStrS at h
  split at h
  rotate_right
  · exact h.elim
  rename_i k n s
  rw [exlst k n s K]
  obtain ⟨h1, h⟩ := h
  by_cases hl : (s.length : Int) > 40
  · rw [decide_eq_true hl]; exact h
  · rw [decide_eq_false hl, cond_false]
    refine ⟨h1, by omega, by omega, h1, ?_⟩
    simp only [beq_self_eq_true, bne_self_eq_false, Bool.not_true, Bool.and_self, cond_false]
    cases he : (evE k n != 0) with
    | true => exact h
    | false =>
      rw [cond_false]
      refine ⟨by have := fmtG_len (k := k) h1; omega, ?_⟩
      rw [par_fmt (by simpa using he)]
      simp only [beq_self_eq_true, Bool.and_self, cond_true]
      exact h
end Go.Ev
