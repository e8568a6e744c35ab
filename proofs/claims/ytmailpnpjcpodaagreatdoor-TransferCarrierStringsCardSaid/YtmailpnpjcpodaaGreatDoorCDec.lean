/-
  Part of the proof of a law.
-/
import Derived.Lib.ItoaNum
set_option linter.unusedVariables false
set_option linter.unusedSimpArgs false
set_option linter.unusedSectionVars false
/-
  Plain: decimal numerals, digit by digit from the right (lacquerbase.Decimal's loop) and as the kit's library has them (Lib.itoa).
-/
namespace Go.Ev
open Go
def digF (n : Int) : List UInt8 := if n = 0 then [] else Lib.decDigits n.natAbs
theorem digF_step {n : Int} (h : n ≠ 0) (s : List UInt8) : digF n ++ s = digF (n.tdiv 10) ++ (UInt8.ofNat (48 + n.natAbs % 10) :: s) := by
  have ha : (n.tdiv 10).natAbs = n.natAbs / 10 := by
    rw [Int.natAbs_tdiv]; rfl
  have h0 : n.natAbs ≠ 0 := by omega
  unfold digF
  rw [if_neg h, Lib.decDigits, ha]
  by_cases hs : n.natAbs < 10
  · have hz : n.tdiv 10 = 0 := by
      have : (n.tdiv 10).natAbs = 0 := by rw [ha]; omega
      omega
    rw [dif_pos hs, if_pos hz, Nat.mod_eq_of_lt hs]
    rfl
  · have hz : n.tdiv 10 ≠ 0 := by
      intro e
      rw [e] at ha
      simp at ha
      omega
    rw [dif_neg hs, if_neg hz, List.append_assoc]
    rfl
theorem itoa_digF (n : Int) : Lib.itoa n = if n = 0 then [48] else (if n < 0 then [45] else []) ++ digF n := by
  unfold Lib.itoa digF
  by_cases h0 : n = 0
  · subst h0
    rw [if_neg (by decide), if_pos rfl, Lib.decDigits]
    rfl
  · rw [if_neg h0, if_neg h0]
    by_cases hn : n < 0
    · rw [if_pos hn, if_pos hn]; rfl
    · rw [if_neg hn, if_neg hn, show n.toNat = n.natAbs by omega]; rfl
def itoG (n : Int) : List UInt8 := Lib.itoa n
end Go.Ev
