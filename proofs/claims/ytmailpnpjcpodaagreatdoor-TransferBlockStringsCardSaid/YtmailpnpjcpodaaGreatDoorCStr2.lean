/-
  Part of the proof of a law.
-/
import Derived.Test.YtmailpnpjcpodaaGreatDoorCStr
import Derived.Lib.Split
set_option linter.unusedVariables false
set_option linter.unusedSimpArgs false
set_option linter.unusedSectionVars false
/-
  Plain: the kit's words on strings (Lib.index, Lib.cut, Lib.split) at a separator of one byte, in words of lists cut at a byte.
-/
set_option linter.unusedVariables false
set_option linter.unusedSimpArgs false
namespace Go.Ev
open Go
theorem index_has (c : UInt8) (s : List UInt8) : Lib.index s [c] = if hasB c s = true then ((bef c s).length : Int) else -1 := by
  induction s with
  | nil => rfl
  | cons x s ih =>
    unfold Lib.index hasB bef
    have hp : [c].isPrefixOf (x :: s) = (c == x) := by simp [List.isPrefixOf]
    rw [hp]
    by_cases h : x = c
    · rw [if_pos (by simp [h]), if_pos h, if_pos h, if_pos rfl]; rfl
    · rw [if_neg (by simp [Ne.symm h]), if_neg h, if_neg h, ih]
      by_cases k : hasB c s = true
      · have e : ¬ (((bef c s).length : Int) == -1) = true := by
          intro e; have := eq_of_beq e; omega
        rw [if_pos k, if_pos k, if_neg e, List.length_cons]
        omega
      · rw [if_neg k, if_neg k, if_pos (by rfl)]
theorem cut_one (c : UInt8) (s : List UInt8) : Lib.cut s [c] = (bef c s, aft c s, hasB c s) := by
  unfold Lib.cut
  rw [index_has]
  cases k : hasB c s with
  | true =>
    rw [if_pos rfl, if_pos (by omega)]
    simp only [Int.toNat_natCast, List.length_cons, List.length_nil, Nat.zero_add]
    rw [take_bef, drop_bef k]
  | false =>
    rw [if_neg Bool.false_ne_true, if_neg (by decide), bef_no k, aft_no k]
theorem splitK_one (c : UInt8) : ∀ (n : Nat) (s : List UInt8), Lib.countFrom [c] n s ≤ n → Lib.splitK [c] 0 (Lib.countFrom [c] n s) s = if s.length < n then pcs c s else Lib.splitK [c] 0 (Lib.countFrom [c] n s) s
  | 0, s, _ => by rw [if_neg (by omega)]
  | n + 1, s, _ => by
    by_cases hl : s.length < n + 1
    · rw [if_pos hl]
      unfold Lib.countFrom
      rw [index_has]
      cases k : hasB c s with
      | true =>
        have e : ¬ (((bef c s).length : Int) == -1) = true := by
          intro e; have := eq_of_beq e; omega
        have hlen := aft_len k
        rw [if_pos rfl, if_neg e, Nat.add_comm 1, Lib.splitK, index_has, k, if_pos rfl, if_neg e]
        simp only [Int.toNat_natCast, List.length_cons, List.length_nil, Nat.zero_add, Nat.add_zero]
        rw [take_bef, drop_bef k, pcs_has k]
        have hc : Lib.countFrom [c] n (aft c s) ≤ n := by
          have : ∀ (n : Nat) (s : List UInt8), Lib.countFrom [c] n s ≤ n := by
            intro n
            induction n with
            | zero => intro s; simp [Lib.countFrom]
            | succ n ih =>
              intro s
              unfold Lib.countFrom
              split
              · omega
              · have := ih (s.drop ((Lib.index s [c]).toNat + [c].length)); omega
          exact this n _
        rw [splitK_one c n (aft c s) hc, if_pos (by omega)]
      | false =>
        rw [if_neg Bool.false_ne_true, if_pos (by rfl), pcs_no k]; rfl
    · rw [if_neg hl]
theorem split_one (c : UInt8) (s : List UInt8) : Lib.split s [c] = pcs c s := by
  unfold Lib.split Lib.count
  have hc : Lib.countFrom [c] (s.length + 1) s ≤ s.length + 1 := by
    have : ∀ (n : Nat) (s : List UInt8), Lib.countFrom [c] n s ≤ n := by
      intro n
      induction n with
      | zero => intro s; simp [Lib.countFrom]
      | succ n ih =>
        intro s
        unfold Lib.countFrom
        split
        · omega
        · have := ih (s.drop ((Lib.index s [c]).toNat + [c].length)); omega
    exact this _ _
  rw [splitK_one c _ _ hc, if_pos (by omega)]
end Go.Ev
