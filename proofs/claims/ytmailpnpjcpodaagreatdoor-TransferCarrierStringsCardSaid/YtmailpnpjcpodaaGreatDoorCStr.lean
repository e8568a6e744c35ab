/-
  Part of the proof of a law.
-/
import Derived.Test.YtmailpnpjcpodaaGreatDoorCDec
import Derived.Lib.Bytealg
import Derived.Lib.Split
set_option linter.unusedVariables false
set_option linter.unusedSimpArgs false
set_option linter.unusedSectionVars false
/-
  Plain: strings cut at a byte (strings.Cut, lacquerbase.Cut), and numerals read digit by digit (lacquerbase.Number).
-/
set_option linter.unusedVariables false
set_option linter.unusedSimpArgs false
namespace Go.Ev
open Go
def hasB (c : UInt8) : List UInt8 → Bool
  | [] => false
  | x :: s => if x = c then true else hasB c s
def bef (c : UInt8) : List UInt8 → List UInt8
  | [] => []
  | x :: s => if x = c then [] else x :: bef c s
def aft (c : UInt8) : List UInt8 → List UInt8
  | [] => []
  | x :: s => if x = c then s else aft c s
theorem bef_no {c : UInt8} {s : List UInt8} (h : hasB c s = false) : bef c s = s := by
  induction s with
  | nil => rfl
  | cons x s ih =>
    unfold hasB at h; unfold bef
    by_cases k : x = c
    · rw [if_pos k] at h; cases h
    · rw [if_neg k] at h; rw [if_neg k, ih h]
theorem aft_no {c : UInt8} {s : List UInt8} (h : hasB c s = false) : aft c s = [] := by
  induction s with
  | nil => rfl
  | cons x s ih =>
    unfold hasB at h; unfold aft
    by_cases k : x = c
    · rw [if_pos k] at h; cases h
    · rw [if_neg k] at h; rw [if_neg k, ih h]
theorem bef_aft {c : UInt8} {s : List UInt8} (h : hasB c s = true) : s = bef c s ++ c :: aft c s := by
  induction s with
  | nil => cases h
  | cons x s ih =>
    unfold hasB at h; unfold bef aft
    by_cases k : x = c
    · rw [if_pos k, if_pos k, k]; rfl
    · rw [if_neg k] at h; rw [if_neg k, if_neg k, List.cons_append, ← ih h]
theorem take_bef (c : UInt8) (s : List UInt8) : s.take (bef c s).length = bef c s := by
  induction s with
  | nil => rfl
  | cons x s ih =>
    unfold bef
    by_cases k : x = c
    · rw [if_pos k]; rfl
    · rw [if_neg k, List.length_cons, List.take_succ_cons, ih]
theorem drop_bef {c : UInt8} {s : List UInt8} (h : hasB c s = true) : s.drop ((bef c s).length + 1) = aft c s := by
  induction s with
  | nil => cases h
  | cons x s ih =>
    unfold hasB at h; unfold bef aft
    by_cases k : x = c
    · rw [if_pos k, if_pos k]; rfl
    · rw [if_neg k] at h; rw [if_neg k, if_neg k]
      exact ih h
theorem aft_len {c : UInt8} {s : List UInt8} (h : hasB c s = true) : (bef c s).length + (aft c s).length + 1 = s.length := by
  have := congrArg List.length (bef_aft h)
  simp at this; omega
def pcs (c : UInt8) : List UInt8 → List (List UInt8)
  | [] => [[]]
  | x :: s => if x = c then [] :: pcs c s else match pcs c s with | p :: l => (x :: p) :: l | [] => [[x]]
theorem pcs_ne (c : UInt8) (s : List UInt8) : pcs c s ≠ [] := by
  cases s with
  | nil => exact List.cons_ne_nil _ _
  | cons x s =>
    unfold pcs
    split
    · exact List.cons_ne_nil _ _
    · split <;> exact List.cons_ne_nil _ _
def glue (cur : List UInt8) : List (List UInt8) → List (List UInt8) | p :: l => (cur ++ p) :: l | [] => [cur]
theorem glue_nil {l : List (List UInt8)} (h : l ≠ []) : glue [] l = l := by cases l with | nil => exact absurd rfl h | cons p l => rfl
theorem glue_at (c : UInt8) (cur s : List UInt8) : glue cur (pcs c (c :: s)) = cur :: pcs c s := by
  rw [pcs, if_pos rfl]; show (cur ++ []) :: _ = _; rw [List.append_nil]
theorem glue_on {c x : UInt8} (h : x ≠ c) (cur s : List UInt8) : glue cur (pcs c (x :: s)) = glue (cur ++ [x]) (pcs c s) := by
  rw [pcs, if_neg h]
  cases k : pcs c s with
  | nil => exact absurd k (pcs_ne c s)
  | cons p l => show (cur ++ x :: p) :: l = (cur ++ [x] ++ p) :: l; rw [List.append_assoc]; rfl
theorem glue_end (c : UInt8) (cur : List UInt8) : glue cur (pcs c []) = [cur] := by show [cur ++ []] = _; rw [List.append_nil]
theorem pcs_has {c : UInt8} {s : List UInt8} (h : hasB c s = true) : pcs c s = bef c s :: pcs c (aft c s) := by
  induction s with
  | nil => cases h
  | cons x s ih =>
    unfold hasB at h; rw [pcs, bef, aft]
    by_cases k : x = c
    · rw [if_pos k, if_pos k, if_pos k]
    · rw [if_neg k] at h; rw [if_neg k, if_neg k, if_neg k, ih h]
theorem pcs_no {c : UInt8} {s : List UInt8} (h : hasB c s = false) : pcs c s = [s] := by
  induction s with
  | nil => rfl
  | cons x s ih =>
    unfold hasB at h; unfold pcs
    by_cases k : x = c
    · rw [if_pos k] at h; cases h
    · rw [if_neg k] at h; rw [if_neg k, ih h]
def dgB (b : UInt8) : Bool := decide (48 ≤ b.toNat) && decide (b.toNat ≤ 57)
def digB : List UInt8 → Bool
  | [] => true
  | b :: l => dgB b && digB l
def digN : List UInt8 → Int → Int
  | [], n => n
  | b :: l, n => digN l (10 * n + ((b.toNat : Int) - 48))
def digX : List UInt8 → Int → Int
  | [], n => n
  | b :: l, n => bif dgB b then digX l (10 * n + ((b.toNat : Int) - 48)) else n
def numAt (s : List UInt8) : Nat := if s.head? = some 45 then 1 else 0
def numB (s : List UInt8) (d : Int) : Bool := !(decide (s.length = numAt s) || (decide (d < (s.length : Int) - numAt s) || (s.getD (numAt s) 0 == 48 && decide (1 < s.length)))) && digB (s.drop (numAt s))
def numW (s : List UInt8) : Int := bif numAt s == 1 then -(digN (s.drop (numAt s)) 0) else digN (s.drop (numAt s)) 0
def numV (s : List UInt8) (d : Int) : Int := bif numB s d then numW s else 0
end Go.Ev

/-
  Plain: the kit's words on strings (Lib.index, Lib.cut, Lib.split) at a separator of one byte, in words of lists cut at a byte.
-/
set_option linter.unusedVariables false
set_option linter.unusedSimpArgs false
namespace Go.Ev
open Go
theorem index_has (c : UInt8) (s : List UInt8) : Lib.index s [c] = if hasB c s = true then ((bef c s).length : Int) else -1 := by
  induction s with
  | nil => rfl
  | cons x s ih =>
    unfold Lib.index hasB bef
    have hp : [c].isPrefixOf (x :: s) = (c == x) := by simp [List.isPrefixOf]
    rw [hp]
    by_cases h : x = c
    · rw [if_pos (by simp [h]), if_pos h, if_pos h, if_pos rfl]; rfl
    · rw [if_neg (by simp [Ne.symm h]), if_neg h, if_neg h, ih]
      by_cases k : hasB c s = true
      · have e : ¬ (((bef c s).length : Int) == -1) = true := by
          intro e; have := eq_of_beq e; omega
        rw [if_pos k, if_pos k, if_neg e, List.length_cons]
        omega
      · rw [if_neg k, if_neg k, if_pos (by rfl)]
theorem cut_one (c : UInt8) (s : List UInt8) : Lib.cut s [c] = (bef c s, aft c s, hasB c s) := by
  unfold Lib.cut
  rw [index_has]
  cases k : hasB c s with
  | true =>
    rw [if_pos rfl, if_pos (by omega)]
    simp only [Int.toNat_natCast, List.length_cons, List.length_nil, Nat.zero_add]
    rw [take_bef, drop_bef k]
  | false =>
    rw [if_neg Bool.false_ne_true, if_neg (by decide), bef_no k, aft_no k]
theorem splitK_one (c : UInt8) : ∀ (n : Nat) (s : List UInt8), Lib.countFrom [c] n s ≤ n → Lib.splitK [c] 0 (Lib.countFrom [c] n s) s = if s.length < n then pcs c s else Lib.splitK [c] 0 (Lib.countFrom [c] n s) s
  | 0, s, _ => by rw [if_neg (by omega)]
  | n + 1, s, _ => by
    by_cases hl : s.length < n + 1
    · rw [if_pos hl]
      unfold Lib.countFrom
      rw [index_has]
      cases k : hasB c s with
      | true =>
        have e : ¬ (((bef c s).length : Int) == -1) = true := by
          intro e; have := eq_of_beq e; omega
        have hlen := aft_len k
        rw [if_pos rfl, if_neg e, Nat.add_comm 1, Lib.splitK, index_has, k, if_pos rfl, if_neg e]
        simp only [Int.toNat_natCast, List.length_cons, List.length_nil, Nat.zero_add, Nat.add_zero]
        rw [take_bef, drop_bef k, pcs_has k]
        have hc : Lib.countFrom [c] n (aft c s) ≤ n := by
          have : ∀ (n : Nat) (s : List UInt8), Lib.countFrom [c] n s ≤ n := by
            intro n
            induction n with
            | zero => intro s; simp [Lib.countFrom]
            | succ n ih =>
              intro s
              unfold Lib.countFrom
              split
              · omega
              · have := ih (s.drop ((Lib.index s [c]).toNat + [c].length)); omega
          exact this n _
        rw [splitK_one c n (aft c s) hc, if_pos (by omega)]
      | false =>
        rw [if_neg Bool.false_ne_true, if_pos (by rfl), pcs_no k]; rfl
    · rw [if_neg hl]
theorem split_one (c : UInt8) (s : List UInt8) : Lib.split s [c] = pcs c s := by
  unfold Lib.split Lib.count
  have hc : Lib.countFrom [c] (s.length + 1) s ≤ s.length + 1 := by
    have : ∀ (n : Nat) (s : List UInt8), Lib.countFrom [c] n s ≤ n := by
      intro n
      induction n with
      | zero => intro s; simp [Lib.countFrom]
      | succ n ih =>
        intro s
        unfold Lib.countFrom
        split
        · omega
        · have := ih (s.drop ((Lib.index s [c]).toNat + [c].length)); omega
    exact this _ _
  rw [splitK_one c _ _ hc, if_pos (by omega)]
end Go.Ev
