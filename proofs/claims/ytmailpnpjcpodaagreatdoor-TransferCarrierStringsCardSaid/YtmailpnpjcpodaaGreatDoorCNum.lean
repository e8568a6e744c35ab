/-
  Part of the proof of a law.
-/
import Derived.Test.YtmailpnpjcpodaaGreatDoorCStr
import Derived.Lib.AtoiTie
import Derived.Lib.Strings
set_option linter.unusedVariables false
set_option linter.unusedSimpArgs false
set_option linter.unusedSectionVars false
/-
  Plain: numbers read by strconv.Atoi, held against their numerals, are those that are read digit by digit.
-/
set_option linter.unusedVariables false
set_option linter.unusedSimpArgs false
namespace Go.Ev
open Go
def atoB (s : List UInt8) : Bool := match Lib.atoiAll s with | .ok _ => true | _ => false
def atoV (s : List UInt8) : Int := match Lib.atoiAll s with | .ok v => v | .range => Lib.atoiSat s | _ => 0
def tpG (s : List UInt8) : List UInt8 := Lib.trimPrefix s [45]
def dN : List UInt8 → Nat → Nat
  | [], n => n
  | b :: l, n => dN l (10 * n + (b.toNat - 48))
theorem dgB_iff {b : UInt8} : dgB b = true ↔ 48 ≤ b.toNat ∧ b.toNat ≤ 57 := by
  unfold dgB
  rw [Bool.and_eq_true, decide_eq_true_eq, decide_eq_true_eq]
theorem digN_dN : ∀ {l : List UInt8} {n : Nat}, digB l = true → digN l (n : Int) = (dN l n : Nat)
  | [], n, _ => rfl
  | b :: l, n, h => by
    unfold digB at h
    rw [Bool.and_eq_true] at h
    have hb := dgB_iff.1 h.1
    show digN l (10 * (n : Int) + ((b.toNat : Int) - 48)) = dN l (10 * n + (b.toNat - 48))
    rw [← digN_dN h.2]
    congr 1
    omega
theorem dN_append : ∀ (l m : List UInt8) (n : Nat), dN (l ++ m) n = dN m (dN l n)
  | [], _, _ => rfl
  | b :: l, m, n => dN_append l m _
theorem digB_append : ∀ (l m : List UInt8), digB (l ++ m) = (digB l && digB m)
  | [], m => rfl
  | b :: l, m => by
    show (dgB b && digB (l ++ m)) = (dgB b && digB l && digB m)
    rw [digB_append l m, Bool.and_assoc]
theorem dN_pos : ∀ {l : List UInt8} {n : Nat}, 1 ≤ n → 1 ≤ dN l n
  | [], n, h => h
  | b :: l, n, h => dN_pos (l := l) (n := 10 * n + (b.toNat - 48)) (by omega)
theorem ofNat_byte {b : UInt8} {d : Nat} (h : b.toNat = d) : UInt8.ofNat d = b := by
  subst h
  exact UInt8.ofNat_toNat
theorem dec_zero : Lib.decDigits 0 = [48] := Lib.decDigits_one (i := 0) (by decide)
theorem dec_of : ∀ (k : Nat) (l : List UInt8), l.length = k → digB l = true → l ≠ [] → (l.head? = some 48 → l.length = 1) → Lib.decDigits (dN l 0) = l := by
  intro k
  induction k with
  | zero => intro l hl _ h0; exact absurd (List.length_eq_zero_iff.1 hl) h0
  | succ k ih =>
    intro l hl hd h0 hh
    obtain ⟨l', b, rfl⟩ : ∃ l' b, l = l' ++ [b] := ⟨l.dropLast, l.getLast h0, (List.dropLast_concat_getLast h0).symm⟩
    rw [digB_append, Bool.and_eq_true] at hd
    have hb : dgB b = true := by
      have := hd.2
      unfold digB digB at this
      rw [Bool.and_eq_true] at this
      exact this.1
    have hb2 := dgB_iff.1 hb
    rw [dN_append]
    show Lib.decDigits (10 * dN l' 0 + (b.toNat - 48)) = _
    by_cases h1 : l' = []
    · subst h1
      rw [Lib.decDigits, dif_pos (show 10 * dN [] 0 + (b.toNat - 48) < 10 by show 10 * 0 + _ < 10; omega)]
      show [UInt8.ofNat (48 + (10 * 0 + (b.toNat - 48)))] = [b]
      rw [ofNat_byte (b := b) (by omega)]
    · have hp : 1 ≤ dN l' 0 := by
        cases l' with
        | nil => exact absurd rfl h1
        | cons x l' =>
          have hx : x ≠ 48 := by
            rintro rfl
            have := hh rfl
            simp at this
          have hxd := hd.1
          unfold digB at hxd
          rw [Bool.and_eq_true] at hxd
          have hx2 := dgB_iff.1 hxd.1
          have : x.toNat ≠ 48 := fun e => hx (UInt8.toNat_inj.1 e)
          exact dN_pos (l := l') (n := 10 * 0 + (x.toNat - 48)) (by omega)
      rw [Lib.decDigits, dif_neg (by omega)]
      rw [show (10 * dN l' 0 + (b.toNat - 48)) / 10 = dN l' 0 by omega, show 48 + (10 * dN l' 0 + (b.toNat - 48)) % 10 = b.toNat by omega, ofNat_byte (b := b) rfl]
      rw [ih l' (by rw [List.length_append, List.length_singleton] at hl; omega) hd.1 h1 fun hz => ?_]
      exfalso
      cases l' with
      | nil => exact h1 rfl
      | cons x l' =>
        have := hh (by simpa using hz)
        simp at this
theorem dec_facts (m : Nat) : digB (Lib.decDigits m) = true ∧ dN (Lib.decDigits m) 0 = m ∧ Lib.decDigits m ≠ [] ∧ ((Lib.decDigits m).head? = some 48 → m = 0) := by
  induction m using Nat.strongRecOn with
  | ind m ih =>
    have hbyte : ∀ d, d < 10 → (UInt8.ofNat (48 + d)).toNat = 48 + d := fun d hd => by
      rw [UInt8.toNat_ofNat']; omega
    rw [Lib.decDigits]
    by_cases h : m < 10
    · rw [dif_pos h]
      refine ⟨?_, ?_, List.cons_ne_nil _ _, fun h0 => ?_⟩
      · show (dgB _ && true) = true
        rw [dgB_iff.2 (by rw [hbyte m h]; omega)]; rfl
      · show 10 * 0 + ((UInt8.ofNat (48 + m)).toNat - 48) = m
        rw [hbyte m h]; omega
      · have e := Option.some.inj h0
        have : (UInt8.ofNat (48 + m)).toNat = 48 := by rw [e]; rfl
        rw [hbyte m h] at this; omega
    · rw [dif_neg h]
      obtain ⟨i1, i2, i3, i4⟩ := ih (m / 10) (by omega)
      refine ⟨?_, ?_, by simp, fun h0 => ?_⟩
      · rw [digB_append, i1, Bool.true_and]
        show (dgB _ && true) = true
        rw [dgB_iff.2 (by rw [hbyte (m % 10) (by omega)]; omega)]; rfl
      · rw [dN_append, i2]
        show 10 * (m / 10) + ((UInt8.ofNat (48 + m % 10)).toNat - 48) = m
        rw [hbyte (m % 10) (by omega)]; omega
      · exfalso
        have : (Lib.decDigits (m / 10)).head? = some 48 := by
          cases hq : Lib.decDigits (m / 10) with
          | nil => exact absurd hq i3
          | cons x l => rw [hq] at h0; simpa using h0
        have := i4 this
        omega
theorem decFrom_dN : ∀ {l : List UInt8} {n : Nat}, digB l = true → Lib.decFrom n l = some (dN l n)
  | [], n, _ => rfl
  | b :: l, n, h => by
    unfold digB at h
    rw [Bool.and_eq_true] at h
    have hb := dgB_iff.1 h.1
    have hv : Lib.digitVal b = some (b.toNat - 48) := by unfold Lib.digitVal; rw [if_pos hb]
    unfold Lib.decFrom
    rw [hv]
    show Lib.decFrom (n * 10 + (b.toNat - 48)) l = some (dN l (10 * n + (b.toNat - 48)))
    rw [decFrom_dN h.2, Nat.mul_comm]
theorem decNat_dN {l : List UInt8} (h : digB l = true) (h0 : l ≠ []) : Lib.decNat l = some (dN l 0) := by
  unfold Lib.decNat
  rw [if_neg (by simpa using h0), decFrom_dN h]
theorem numB_iff {s : List UInt8} {d : Int} : numB s d = true ↔ s.length ≠ numAt s ∧ (s.length : Int) - numAt s ≤ d ∧ ¬ (s.getD (numAt s) 0 = 48 ∧ 1 < s.length) ∧ digB (s.drop (numAt s)) = true := by
  unfold numB
  simp only [Bool.and_eq_true, Bool.not_eq_true', Bool.or_eq_false_iff, decide_eq_false_iff_not, Bool.and_eq_false_iff, beq_eq_false_iff_ne]
  constructor
  · rintro ⟨⟨h1, h2, h3⟩, h4⟩
    exact ⟨h1, by omega, fun h => h3.elim (fun e => e h.1) (fun e => e h.2), h4⟩
  · rintro ⟨h1, h2, h3, h4⟩
    refine ⟨⟨h1, by omega, ?_⟩, h4⟩
    by_cases e : s.getD (numAt s) 0 = 48
    · exact .inr fun h => h3 ⟨e, h⟩
    · exact .inl e
theorem getD_head {l : List UInt8} (h : l ≠ []) : l.head? = some (l.getD 0 0) := by
  cases l with
  | nil => exact absurd rfl h
  | cons x l => rfl
theorem num_facts {s : List UInt8} (h : numB s 6 = true) : itoG (numV s 6) = s ∧ Lib.atoiAll s = .ok (numV s 6) ∧ (tpG s).length ≤ 6 ∧ -1000000 < numV s 6 ∧ numV s 6 < 1000000 := by
  have hv : numV s 6 = numW s := by unfold numV; rw [h]; rfl
  rw [hv]
  obtain ⟨h1, h2, h3, h4⟩ := numB_iff.1 h
  match s, h1, h2, h3, h4 with
  | [], h1, _, _, _ => exact absurd rfl h1
  | b :: r, h1, h2, h3, h4 =>
    have hlt : ∀ l : List UInt8, digB l = true → l.length ≤ 6 → dN l 0 < 1000000 := fun l hd hl => by
      have e := digN_dN (l := l) (n := 0) hd
      have := decFrom_dN (l := l) (n := 0) hd
      have h5 := Lib.decFrom_lt l 0 _ this
      have h6 : 10 ^ l.length ≤ 10 ^ 6 := Nat.pow_le_pow_right (by decide) hl
      omega
    by_cases hb : b = 45
    · subst hb
      have ha : numAt (45 :: r) = 1 := by simp [numAt]
      rw [ha] at h1 h2 h3 h4
      rw [show List.drop 1 (45 :: r) = r from rfl] at h4
      have hr : r ≠ [] := by rintro rfl; exact h1 rfl
      have hrl : r.length ≤ 6 := by simp only [List.length_cons] at h2; omega
      have hz : r.head? ≠ some 48 := by
        rw [getD_head hr]
        intro e
        have e2 := Option.some.inj e
        exact h3 ⟨e2, by have := List.length_pos_iff.2 hr; simp only [List.length_cons]; omega⟩
      have hdec := dec_of r.length r rfl h4 hr fun e => absurd e hz
      have hpos : 1 ≤ dN r 0 := by
        rcases Nat.eq_zero_or_pos (dN r 0) with e | e
        · exfalso
          rw [e] at hdec
          apply hz
          rw [← hdec, dec_zero]; rfl
        · exact e
      have hw : numW (45 :: r) = -(dN r 0 : Int) := by
        unfold numW
        rw [ha]
        show -digN r 0 = _
        rw [show (0 : Int) = ((0 : Nat) : Int) from rfl, digN_dN h4]
      have hl := hlt r h4 hrl
      refine ⟨?_, ?_, ?_, by rw [hw]; omega, by rw [hw]; omega⟩
      · rw [hw]
        unfold itoG Lib.itoa
        rw [if_pos (by omega), Int.natAbs_neg, Int.natAbs_natCast, hdec]
      · rw [Lib.atoiAll_short _ (by simp only [List.length_cons]; omega)]
        simp only [Lib.atoi, beq_self_eq_true, if_true]
        rw [decNat_dN h4 hr, hw]; rfl
      · unfold tpG Lib.trimPrefix
        rw [if_pos (by show (45 == 45 && List.isPrefixOf [] r) = true; simp)]
        exact hrl
    · have ha : numAt (b :: r) = 0 := by
        unfold numAt
        rw [if_neg]
        simpa using hb
      rw [ha] at h1 h2 h3 h4
      rw [show List.drop 0 (b :: r) = b :: r from rfl] at h4
      have hrl : (b :: r).length ≤ 6 := by omega
      have hdec := dec_of (b :: r).length (b :: r) rfl h4 (List.cons_ne_nil _ _) fun e => by
        have e2 : b = 48 := Option.some.inj e
        by_cases hq : 1 < (b :: r).length
        · exact absurd ⟨e2, hq⟩ h3
        · simp only [List.length_cons] at hq ⊢; omega
      have hw : numW (b :: r) = (dN (b :: r) 0 : Int) := by
        unfold numW
        rw [ha]
        show digN (b :: r) 0 = _
        rw [show (0 : Int) = ((0 : Nat) : Int) from rfl, digN_dN h4]
      have hl := hlt (b :: r) h4 hrl
      have hbd : dgB b = true := by
        unfold digB at h4
        rw [Bool.and_eq_true] at h4
        exact h4.1
      have hb43 : b ≠ 43 := by
        rintro rfl
        exact absurd hbd (by decide)
      refine ⟨?_, ?_, ?_, by rw [hw]; omega, by rw [hw]; omega⟩
      · rw [hw]
        unfold itoG Lib.itoa
        rw [if_neg (by omega), Int.toNat_natCast, hdec]
      · rw [Lib.atoiAll_short _ (by omega)]
        have q1 : (b == 45) = false := by simpa using hb
        have q2 : (b == 43) = false := by simpa using hb43
        simp only [Lib.atoi, q1, q2, Bool.false_eq_true, if_false]
        rw [decNat_dN h4 (List.cons_ne_nil _ _), hw]; rfl
      · unfold tpG Lib.trimPrefix
        rw [if_neg (by show ¬ (45 == b && List.isPrefixOf [] r) = true; simp [Ne.symm hb])]
        exact hrl
theorem num_of {v : Int} {s : List UInt8} (he : itoG v = s) (hl : (tpG s).length ≤ 6) : numB s 6 = true ∧ numV s 6 = v := by
  have key : numB s 6 = true → numW s = v → numB s 6 = true ∧ numV s 6 = v := fun h1 h2 => ⟨h1, by unfold numV; rw [h1]; exact h2⟩
  unfold itoG Lib.itoa at he
  by_cases hv : v < 0
  · rw [if_pos hv] at he
    obtain ⟨f1, f2, f3, f4⟩ := dec_facts v.natAbs
    generalize Lib.decDigits v.natAbs = l at *
    subst he
    have ha : numAt (45 :: l) = 1 := by simp [numAt]
    have ht : tpG (45 :: l) = l := by
      unfold tpG Lib.trimPrefix
      rw [if_pos (by show (45 == 45 && List.isPrefixOf [] l) = true; simp)]; rfl
    rw [ht] at hl
    refine key (numB_iff.2 ⟨?_, ?_, ?_, ?_⟩) ?_
    · rw [ha]
      have := List.length_pos_iff.2 f3
      simp only [List.length_cons]; omega
    · rw [ha]; simp only [List.length_cons]; omega
    · rw [ha]
      rintro ⟨e, _⟩
      have := f4 (by rw [getD_head f3]; exact congrArg some e)
      omega
    · rw [ha]; exact f1
    · unfold numW
      rw [ha]
      show -digN l 0 = v
      rw [show (0 : Int) = ((0 : Nat) : Int) from rfl, digN_dN f1, f2]
      omega
  · rw [if_neg hv] at he
    obtain ⟨f1, f2, f3, f4⟩ := dec_facts v.toNat
    have hs1 : v.toNat = 0 → Lib.decDigits v.toNat = [48] := fun e => by rw [e, dec_zero]
    generalize Lib.decDigits v.toNat = l at *
    subst he
    cases l with
    | nil => exact absurd rfl f3
    | cons b r =>
      have hbd : dgB b = true := by
        unfold digB at f1
        rw [Bool.and_eq_true] at f1
        exact f1.1
      have hb : b ≠ 45 := by
        rintro rfl
        exact absurd hbd (by decide)
      have ha : numAt (b :: r) = 0 := by
        unfold numAt
        rw [if_neg]
        simpa using hb
      have ht : tpG (b :: r) = b :: r := by
        unfold tpG Lib.trimPrefix
        rw [if_neg (by show ¬ (45 == b && List.isPrefixOf [] r) = true; simp [Ne.symm hb])]
      rw [ht] at hl
      refine key (numB_iff.2 ⟨?_, ?_, ?_, ?_⟩) ?_
      · rw [ha]; simp
      · rw [ha]; omega
      · rw [ha]
        rintro ⟨e, h1⟩
        have e2 : b = 48 := e
        have := hs1 (f4 (by rw [e2]; rfl))
        rw [this] at h1
        exact absurd h1 (by decide)
      · rw [ha]; exact f1
      · unfold numW
        rw [ha]
        show digN (b :: r) 0 = v
        rw [show (0 : Int) = ((0 : Nat) : Int) from rfl, digN_dN f1, f2]
        omega
def nmB (s : List UInt8) (below : Bool) : Bool := atoB s && (itoG (atoV s) == s && ((below || decide (atoV s ≥ 0)) && decide (((tpG s).length : Int) ≤ 6)))
theorem nmB_eq (s : List UInt8) (below : Bool) : nmB s below = (numB s 6 && (below || decide (numV s 6 ≥ 0))) := by
  cases h : numB s 6 with
  | true =>
    obtain ⟨h1, h2, h3, h4, h5⟩ := num_facts h
    have hb : atoB s = true := by unfold atoB; rw [h2]
    have hv : atoV s = numV s 6 := by unfold atoV; rw [h2]
    unfold nmB
    rw [hb, hv, h1, decide_eq_true (show ((tpG s).length : Int) ≤ 6 by omega)]
    simp
  | false =>
    rw [Bool.false_and, Bool.eq_false_iff]
    intro hn
    unfold nmB at hn
    simp only [Bool.and_eq_true, decide_eq_true_eq] at hn
    obtain ⟨_, h2, _, h4⟩ := hn
    have := (num_of (eq_of_beq h2) (by omega)).1
    rw [h] at this
    cases this
theorem nmB_val {s : List UInt8} {below : Bool} (h : nmB s below = true) : numB s 6 = true ∧ atoV s = numV s 6 ∧ (below = true ∨ 0 ≤ numV s 6) := by
  rw [nmB_eq, Bool.and_eq_true] at h
  obtain ⟨h1, h2, h3, h4, h5⟩ := num_facts h.1
  refine ⟨h.1, by unfold atoV; rw [h2], ?_⟩
  have := h.2
  rw [Bool.or_eq_true, decide_eq_true_eq] at this
  exact this.imp id id
end Go.Ev
