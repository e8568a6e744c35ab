/-
  Chapter 1, contracts: the law of streams.
-/
import Derived.Test.YtlejemnljojpgaaC1Y
import Derived.KernelRfl
set_option linter.unusedVariables false
set_option linter.unusedSimpArgs false
set_option linter.unusedSectionVars false
namespace Go.Ev
open Go Go.Proofs
set_option maxRecDepth 20000
set_option linter.unusedVariables false

def strLawS : Spec := fun args σ K => match args, σ with
  | [.one (.data (.mat .i64 11 l)), .one (.int .i64 ch)], [] => l.all len11 = true ∧ K (.one (.bool true)) []
  | _, _ => False
noncomputable abbrev Estl : Env := envOf Try.prog [(15, trueS), (51, fewS), (53, copyBDS), (52, kofDS), (54, strDS), (55, misDS), (56, bsS), (57, smS), (58, rkDS), (30, intsS), (59, seS), (60, srDS), (61, moDS)] [] 122 0
end Go.Ev

namespace Go.Ev
open Go Go.Proofs
set_option maxRecDepth 100000
theorem exstl (l : List (List Int)) (ch : Int) (K : AV → List Blk → Prop) : evFn Estl Try.f11 [.one (.data (.mat .i64 11 l)), .one (.int .i64 ch)] [] K = (
 bif !fewB (↑l.length : Int) then K (AV.one (SV.bool true)) []
 else
 l.length ≤ (1000 : Nat) ∧
 okBs l ∧
 l.length ≤ (1000 : Nat) ∧
 okBs l ∧
 l.length ≤ (1000 : Nat) ∧
 okBs l ∧
 okBs l ∧
 bif bsE l != (0 : Int) then
 bif bsE l == bsE l then
 bif rcE l ch == bsE l then
 bif rcE l ch == bsE l then
 bif (↑(kdsE l).length : Int) == (0 : Int) then
 ((stS l ch).length ≤ (1000000000 : Nat) ∧
 (stP l ch).length ≤ (1000000000 : Nat) ∧ (stP l ch).all len2 = true ∧ true = true) ∧
 bif stA l ch == (0 : Int) && (stS l ch == [] && stP l ch == []) then
 K (AV.one (SV.bool ((↑(msM l ch).length : Int) == (0 : Int)))) []
 else K (AV.one (SV.bool false)) []
 else K (AV.one (SV.bool false)) []
 else K (AV.one (SV.bool false)) []
 else K (AV.one (SV.bool false)) []
 else K (AV.one (SV.bool false)) []
 else
 bif bsE l != (0 : Int) then K (AV.one (SV.bool false)) []
 else
 (okBs l ∧ l.all conB = true) ∧
 (kdsE l).length ≤ (1000000000 : Nat) ∧
 bif !kdsE l == kdsG [] l then K (AV.one (SV.bool false)) []
 else
 okBs l ∧
 bif rcE l ch != (0 : Int) then
 bif rcE l ch == rcE l ch then
 bif rcE l ch == rcE l ch then
 ((stS l ch).length ≤ (1000000000 : Nat) ∧
 (stP l ch).length ≤ (1000000000 : Nat) ∧
 (stP l ch).all len2 = true ∧ true = true) ∧
 bif stA l ch == (0 : Int) && (stS l ch == [] && stP l ch == []) then
 K (AV.one (SV.bool ((↑(msM l ch).length : Int) == (0 : Int)))) []
 else K (AV.one (SV.bool false)) []
 else K (AV.one (SV.bool false)) []
 else K (AV.one (SV.bool false)) []
 else
 bif rcE l ch == (0 : Int) then
 (okBs l ∧ rcE l ch = (0 : Int)) ∧
 ((stS l ch).length ≤ (1000000000 : Nat) ∧
 (stP l ch).length ≤ (1000000000 : Nat) ∧
 (stP l ch).all len2 = true ∧ (stP l ch).all len2 = true) ∧
 bif stA l ch == stA l ch && (stS l ch == stS l ch && stP l ch == stP l ch) then
 bif rcE l ch == (0 : Int) then
 (okBs l ∧ rcE l ch = (0 : Int)) ∧
 (msM l ch).length ≤ (1000000000 : Nat) ∧
 K (AV.one (SV.bool (msM l ch == msM l ch))) []
 else K (AV.one (SV.bool false)) []
 else K (AV.one (SV.bool false)) []
 else K (AV.one (SV.bool false)) []) := by kernel_rfl
end Go.Ev

namespace Go.Ev
open Go Go.Proofs
attribute [local irreducible] evFn evBody evRound
set_option maxRecDepth 20000
set_option linter.unusedVariables false
set_option linter.unusedSimpArgs false

theorem strG_gaps (lk : Int → Option (List Int)) : ∀ (n : Nat) (c : Int) (p : List Int × List (List Int)), p.2.all len2 = true → (strG lk n c p).2.all len2 = true ∧ (strG lk n c p).2.length ≤ p.2.length + n
  | 0, _, p, h => ⟨h, by simp [strG]⟩
  | n + 1, c, p, h => by
    rw [strG]
    cases hs : (lk c).isSome with
    | true =>
      obtain ⟨h1, h2⟩ := strG_gaps lk n (c + 1) (p.1 ++ (lk c).getD zer8, bif true then p.2 else gapG p.2 p.1.length) h
      exact ⟨h1, by simp only [cond_true] at h2 ⊢; omega⟩
    | false =>
      obtain ⟨g1, g2, g3⟩ := gapG_len (p.1.length : Int) h
      obtain ⟨h1, h2⟩ := strG_gaps lk n (c + 1) (p.1 ++ (lk c).getD zer8, bif false then p.2 else gapG p.2 p.1.length) g1
      exact ⟨h1, by simp only [cond_false] at h2 ⊢; omega⟩
theorem st_bounds {l : List (List Int)} {ch : Int} (h1 : okBs l) : (stS l ch).length ≤ 1000000000 ∧ (stP l ch).length ≤ 1000000000 ∧ (stP l ch).all len2 = true ∧ (msM l ch).length ≤ 1000000000 := by
  unfold stS stP msM
  cases h0 : rcE l ch == 0 with
  | false => exact ⟨by simp, by simp, rfl, by simp⟩
  | true =>
    obtain ⟨z1, z2, z3, z4, z5, z6⟩ := rcE_zero h1 (beq_iff_eq.1 h0)
    obtain ⟨g1, g2⟩ := strG_gaps (lkO (ownB l ch)) (cmax (ownB l ch) - cmin (ownB l ch) + 1).toNat (cmin (ownB l ch)) ([], []) rfl
    have g3 := strG_len (lkO (ownB l ch)) (smp_len (ownB l ch)) (cmax (ownB l ch) - cmin (ownB l ch) + 1).toNat (cmin (ownB l ch)) ([], [])
    have g4 := misG_len (lkO (ownB l ch)) (cmax (ownB l ch) - cmin (ownB l ch) + 1).toNat (cmin (ownB l ch))
    simp only [cond_true]
    unfold strO misO
    simp only [List.length_nil] at g2 g3
    exact ⟨by omega, by omega, g1, by omega⟩
theorem st_err {l : List (List Int)} {ch : Int} (h : (rcE l ch == 0) = false) : stA l ch = 0 ∧ stS l ch = [] ∧ stP l ch = [] ∧ msM l ch = [] := by
  unfold stA stS stP msM
  rw [h]
  exact ⟨rfl, rfl, rfl, rfl⟩
theorem okstl : SpecOK Try.prog 11 strLawS := by
  refine specOK (n := 122) (m := 0) (lps := []) (.cons ok15 (.cons okfw (.cons okcpbD (.cons okkofD (.cons okstrD (.cons okmisD (.cons okrbs (.cons oksm (.cons okrkD (.cons ok30 (.cons okse (.cons oksrD (.cons okmoD .nil))))))))))))) Try.func11 (by kernel_rfl) (by kernel_rfl) (noLoops (by kernel_rfl)) fun args σ K h => ?_
  unfold strLawS at h
  split at h
  rotate_right
  · exact h.elim
  rename_i l ch
  rw [exstl l ch K]
  obtain ⟨h2, h⟩ := h
  cases hf : fewB (l.length : Int) with
  | false => exact h
  | true =>
    have hl : l.length ≤ 42 := by
      unfold fewB at hf
      simp only [Bool.or_eq_true, Bool.and_eq_true, decide_eq_true_eq] at hf
      omega
    have h1 : okBs l := ⟨by omega, h2⟩
    obtain ⟨b1, b2, b3, b4⟩ := st_bounds (ch := ch) h1
    rw [Bool.not_true, cond_false]
    refine ⟨h1.1, h1, h1.1, h1, h1.1, h1, h1, ?_⟩
    have hb : (bsE l != 0) = !(bsE l == 0) := rfl
    rw [hb]
    cases h0 : bsE l == 0 with
    | false =>
      have hr : rcE l ch = bsE l := by unfold rcE; rw [h0, cond_false]
      have hr0 : (rcE l ch == 0) = false := by rw [hr]; exact h0
      obtain ⟨e1, e2, e3, e4⟩ := st_err hr0
      have ek : kdsE l = [] := by unfold kdsE; rw [h0, cond_false]
      rw [hr, ek, e1, e2, e3, e4]
      simp only [Bool.not_false, cond_true, beq_self_eq_true, List.length_nil, Int.natCast_zero]
      exact ⟨⟨by omega, by omega, rfl, trivial⟩, h⟩
    | true =>
      have hall : l.all conB = true := by
        have := beq_iff_eq.1 h0
        unfold bsE at this
        cases hd : decide ((l.length : Int) ≤ 40) with
        | true =>
          rw [hd, cond_true] at this
          cases ha : l.all conB with
          | true => rfl
          | false => rw [ha] at this; cases this
        | false => rw [hd] at this; cases this
      have ek : kdsE l = kdsG [] l := by unfold kdsE; rw [h0, cond_true]
      rw [ek]
      simp only [Bool.not_true, cond_false, beq_self_eq_true]
      refine ⟨⟨h1, hall⟩, by rw [kdsG_length]; omega, h1, ?_⟩
      have hc : (rcE l ch != 0) = !(rcE l ch == 0) := rfl
      rw [hc]
      cases hr0 : rcE l ch == 0 with
      | false =>
        obtain ⟨e1, e2, e3, e4⟩ := st_err hr0
        rw [e1, e2, e3, e4]
        simp only [Bool.not_false, cond_true, beq_self_eq_true, List.length_nil, Int.natCast_zero]
        exact ⟨⟨by omega, by omega, rfl, trivial⟩, h⟩
      | true =>
        simp only [Bool.not_true, cond_false, cond_true, beq_self_eq_true, Bool.and_self]
        have hz := beq_iff_eq.1 hr0
        exact ⟨⟨h1, hz⟩, ⟨b1, b2, b3, b3⟩, ⟨h1, hz⟩, b4, h⟩
end Go.Ev
