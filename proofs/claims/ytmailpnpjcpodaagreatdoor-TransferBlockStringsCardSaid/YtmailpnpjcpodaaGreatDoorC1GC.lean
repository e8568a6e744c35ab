/-
  Part of the proof of a law.
-/
import Derived.Test.YtmailpnpjcpodaaGreatDoorC1GB
import Derived.KernelRfl
set_option linter.unusedVariables false
set_option linter.unusedSimpArgs false
set_option linter.unusedSectionVars false
/-
  Chapter 1, contract: the law of strings of blocks.
-/
namespace Go.Ev
open Go Go.Proofs
set_option maxRecDepth 20000
set_option linter.unusedVariables false
def lbsS : Spec := fun args σ K => match args, σ with
  | [.agg [.int .i64 c, .int .i64 ch, .int .i64 x0, .int .i64 x1, .int .i64 x2, .int .i64 x3, .int .i64 x4, .int .i64 x5, .int .i64 x6, .int .i64 x7, .int .i64 sm], .one (.str s)], [] => all64 [c, ch, x0, x1, x2, x3, x4, x5, x6, x7, sm] ∧ K (.one (.bool true)) []
  | _, _ => False
noncomputable abbrev Elbs : Env := envOf Tryz.prog [(6, trueS), (7, fmbS), (8, pabS), (9, pabS), (10, fmbS), (11, blockS)] [] 58 0
end Go.Ev

namespace Go.Ev
open Go Go.Proofs
set_option maxRecDepth 100000
theorem exlbs (c ch x0 x1 x2 x3 x4 x5 x6 x7 sm : Int) (s : List UInt8) (K : AV → List Blk → Prop) : evFn Elbs Tryz.f3 [.agg [.int .i64 c, .int .i64 ch, .int .i64 x0, .int .i64 x1, .int .i64 x2, .int .i64 x3, .int .i64 x4, .int .i64 x5, .int .i64 x6, .int .i64 x7, .int .i64 sm], .one (.str s)] [] K = ( bif decide ((↑s.length : Int) > 120) then K (.one (.bool true)) [] else (∀ (x : Int), x ∈ [c, ch, x0, x1, x2, x3, x4, x5, x6, x7, sm] → (-9223372036854775808 : Int) ≤ x ∧ x ≤ 9223372036854775807) ∧ s.length ≤ 1000000 ∧ s.length ≤ 1000000 ∧ (∀ (x : Int), x ∈ [c, ch, x0, x1, x2, x3, x4, x5, x6, x7, sm] → (-9223372036854775808 : Int) ≤ x ∧ x ≤ 9223372036854775807) ∧ bif !fmbG [c, ch, x0, x1, x2, x3, x4, x5, x6, x7, sm] == fmbG [c, ch, x0, x1, x2, x3, x4, x5, x6, x7, sm] then K (.one (.bool false)) [] else bif pbE s != pbE s then K (.one (.bool false)) [] else bif !(pbV s 0 == pbV s 0 && (pbV s 1 == pbV s 1 && (pbV s 2 == pbV s 2 && (pbV s 3 == pbV s 3 && (pbV s 4 == pbV s 4 && (pbV s 5 == pbV s 5 && (pbV s 6 == pbV s 6 && (pbV s 7 == pbV s 7 && (pbV s 8 == pbV s 8 && pbV s 9 == pbV s 9)))))) && pbV s 10 == pbV s 10))) then K (.one (.bool false)) [] else bif blockE c ch [x0, x1, x2, x3, x4, x5, x6, x7] sm != 0 then K (.one (.bool true)) [] else (fmbG [c, ch, x0, x1, x2, x3, x4, x5, x6, x7, sm]).length ≤ 1000000 ∧ bif pbE (fmbG [c, ch, x0, x1, x2, x3, x4, x5, x6, x7, sm]) == 0 then K (.one (.bool (pbV (fmbG [c, ch, x0, x1, x2, x3, x4, x5, x6, x7, sm]) 0 == c && (pbV (fmbG [c, ch, x0, x1, x2, x3, x4, x5, x6, x7, sm]) 1 == ch && (pbV (fmbG [c, ch, x0, x1, x2, x3, x4, x5, x6, x7, sm]) 2 == x0 && (pbV (fmbG [c, ch, x0, x1, x2, x3, x4, x5, x6, x7, sm]) 3 == x1 && (pbV (fmbG [c, ch, x0, x1, x2, x3, x4, x5, x6, x7, sm]) 4 == x2 && (pbV (fmbG [c, ch, x0, x1, x2, x3, x4, x5, x6, x7, sm]) 5 == x3 && (pbV (fmbG [c, ch, x0, x1, x2, x3, x4, x5, x6, x7, sm]) 6 == x4 && (pbV (fmbG [c, ch, x0, x1, x2, x3, x4, x5, x6, x7, sm]) 7 == x5 && (pbV (fmbG [c, ch, x0, x1, x2, x3, x4, x5, x6, x7, sm]) 8 == x6 && pbV (fmbG [c, ch, x0, x1, x2, x3, x4, x5, x6, x7, sm]) 9 == x7)))))) && pbV (fmbG [c, ch, x0, x1, x2, x3, x4, x5, x6, x7, sm]) 10 == sm))))) [] else K (.one (.bool false)) []) := by kernel_rfl
end Go.Ev

/-
  Chapter 1: the law of strings of blocks: the contract is kept.
-/
namespace Go.Ev
open Go Go.Proofs
attribute [local irreducible] evFn evBody evRound
set_option maxRecDepth 20000
set_option linter.unusedVariables false
set_option linter.unusedSimpArgs false
theorem digB_no : ∀ {l : List UInt8}, digB l = true → hasB 32 l = false
  | [], _ => rfl
  | b :: l, h => by
    unfold digB at h
    rw [Bool.and_eq_true] at h
    have hb := dgB_iff.1 h.1
    unfold hasB
    rw [if_neg (fun e => by subst e; revert hb; decide), digB_no h.2]
theorem itoG_no (v : Int) : hasB 32 (itoG v) = false := by
  unfold itoG Lib.itoa
  by_cases h : v < 0
  · rw [if_pos h]
    unfold hasB
    rw [if_neg (by decide)]
    exact digB_no (dec_facts _).1
  · rw [if_neg h]
    exact digB_no (dec_facts _).1
theorem dec_len : ∀ (k m : Nat), m < 10 ^ (k + 1) → (Lib.decDigits m).length ≤ k + 1
  | 0, m, h => by rw [Lib.decDigits, dif_pos (by simpa using h)]; simp
  | k + 1, m, h => by
    rw [Lib.decDigits]
    by_cases hm : m < 10
    · rw [dif_pos hm]; simp
    · rw [dif_neg hm, List.length_append]
      have := dec_len k (m / 10) (Nat.div_lt_of_lt_mul (by rw [Nat.mul_comm, ← Nat.pow_succ]; exact h))
      simp only [List.length_cons, List.length_nil]; omega
theorem tpG_le (s : List UInt8) : (tpG s).length ≤ s.length := by
  unfold tpG Lib.trimPrefix
  split
  · rw [List.length_drop]; omega
  · exact Nat.le_refl _
theorem tp_len {v : Int} (h : -1000000 < v ∧ v < 1000000) : (tpG (itoG v)).length ≤ 6 := by
  unfold itoG Lib.itoa
  by_cases hv : v < 0
  · rw [if_pos hv]
    have ht : tpG (45 :: Lib.decDigits v.natAbs) = Lib.decDigits v.natAbs := by
      unfold tpG Lib.trimPrefix
      rw [if_pos (by show ((45 : UInt8) == 45 && List.isPrefixOf [] (Lib.decDigits v.natAbs)) = true; simp)]; rfl
    rw [ht]
    exact dec_len 5 _ (by show v.natAbs < 1000000; omega)
  · rw [if_neg hv]
    exact Nat.le_trans (tpG_le _) (dec_len 5 _ (by show v.toNat < 1000000; omega))
theorem num_small {v : Int} (h : -1000000 < v ∧ v < 1000000) : numB (itoG v) 6 = true ∧ numV (itoG v) 6 = v := num_of rfl (tp_len h)
theorem pcs_app {c : UInt8} : ∀ (s t : List UInt8), hasB c s = false → pcs c (s ++ c :: t) = s :: pcs c t
  | [], t, _ => by rw [List.nil_append, pcs, if_pos rfl]
  | x :: s, t, h => by
    unfold hasB at h
    by_cases hx : x = c
    · rw [if_pos hx] at h; cases h
    · rw [if_neg hx] at h
      rw [List.cons_append, pcs, if_neg hx, pcs_app s t h]
theorem pcs_jnR : ∀ (r : List Int) (x : Int), pcs 32 (itoG x ++ jnR false r) = (x :: r).map itoG
  | [], x => by
    show pcs 32 (itoG x ++ []) = _
    rw [List.append_nil, pcs_no (itoG_no x)]; rfl
  | y :: r, x => by
    show pcs 32 (itoG x ++ ([32] ++ itoG y ++ jnR false r)) = _
    rw [show itoG x ++ ([32] ++ itoG y ++ jnR false r) = itoG x ++ 32 :: (itoG y ++ jnR false r) from rfl, pcs_app _ _ (itoG_no x), pcs_jnR r y]; rfl
theorem pcs_blk (x : Int) (r : List Int) : pcs 32 (fmbG (x :: r)) = (x :: r).map itoG := by
  rw [← jnR_join]
  exact pcs_jnR r x
theorem par_blk {c ch x0 x1 x2 x3 x4 x5 x6 x7 sm : Int} (h : blockE c ch [x0, x1, x2, x3, x4, x5, x6, x7] sm = 0) : pbE (fmbG [c, ch, x0, x1, x2, x3, x4, x5, x6, x7, sm]) = 0 ∧ pbV (fmbG [c, ch, x0, x1, x2, x3, x4, x5, x6, x7, sm]) 0 = c ∧ pbV (fmbG [c, ch, x0, x1, x2, x3, x4, x5, x6, x7, sm]) 1 = ch ∧ pbV (fmbG [c, ch, x0, x1, x2, x3, x4, x5, x6, x7, sm]) 2 = x0 ∧ pbV (fmbG [c, ch, x0, x1, x2, x3, x4, x5, x6, x7, sm]) 3 = x1 ∧ pbV (fmbG [c, ch, x0, x1, x2, x3, x4, x5, x6, x7, sm]) 4 = x2 ∧ pbV (fmbG [c, ch, x0, x1, x2, x3, x4, x5, x6, x7, sm]) 5 = x3 ∧ pbV (fmbG [c, ch, x0, x1, x2, x3, x4, x5, x6, x7, sm]) 6 = x4 ∧ pbV (fmbG [c, ch, x0, x1, x2, x3, x4, x5, x6, x7, sm]) 7 = x5 ∧ pbV (fmbG [c, ch, x0, x1, x2, x3, x4, x5, x6, x7, sm]) 8 = x6 ∧ pbV (fmbG [c, ch, x0, x1, x2, x3, x4, x5, x6, x7, sm]) 9 = x7 ∧ pbV (fmbG [c, ch, x0, x1, x2, x3, x4, x5, x6, x7, sm]) 10 = sm := by
  have hc : contentG c ch [x0, x1, x2, x3, x4, x5, x6, x7] = true := by
    cases e : contentG c ch [x0, x1, x2, x3, x4, x5, x6, x7] with
    | true => rfl
    | false => unfold blockE at h; rw [e, cond_false] at h; exact absurd h (by decide)
  have hs : sm = sumG c ch [x0, x1, x2, x3, x4, x5, x6, x7] := by
    unfold blockE at h
    rw [hc, cond_true] at h
    cases e : sm != sumG c ch [x0, x1, x2, x3, x4, x5, x6, x7] with
    | true => rw [e, cond_true] at h; exact absurd h (by decide)
    | false => simpa using e
  have hm := sumG_mod hc
  obtain ⟨r0, r1, r2, r3, r4, r5, r6, r7, r8, r9⟩ := content_range hc
  have r10 : 0 ≤ sm ∧ sm < 65537 := by
    rw [hs, hm]
    omega
  clear hs hm
  have hp := pcs_blk c [ch, x0, x1, x2, x3, x4, x5, x6, x7, sm]
  have hf : ∃ u, u = fmbG [c, ch, x0, x1, x2, x3, x4, x5, x6, x7, sm] := ⟨_, rfl⟩
  obtain ⟨u, hu⟩ := hf
  rw [← hu] at hp ⊢
  have i0 : pcI u 0 = itoG c := by unfold pcI; rw [hp]; rfl
  have n0 := num_small (v := c) (by omega)
  have i1 : pcI u 1 = itoG ch := by unfold pcI; rw [hp]; rfl
  have n1 := num_small (v := ch) (by omega)
  have i2 : pcI u 2 = itoG x0 := by unfold pcI; rw [hp]; rfl
  have n2 := num_small (v := x0) (by omega)
  have i3 : pcI u 3 = itoG x1 := by unfold pcI; rw [hp]; rfl
  have n3 := num_small (v := x1) (by omega)
  have i4 : pcI u 4 = itoG x2 := by unfold pcI; rw [hp]; rfl
  have n4 := num_small (v := x2) (by omega)
  have i5 : pcI u 5 = itoG x3 := by unfold pcI; rw [hp]; rfl
  have n5 := num_small (v := x3) (by omega)
  have i6 : pcI u 6 = itoG x4 := by unfold pcI; rw [hp]; rfl
  have n6 := num_small (v := x4) (by omega)
  have i7 : pcI u 7 = itoG x5 := by unfold pcI; rw [hp]; rfl
  have n7 := num_small (v := x5) (by omega)
  have i8 : pcI u 8 = itoG x6 := by unfold pcI; rw [hp]; rfl
  have n8 := num_small (v := x6) (by omega)
  have i9 : pcI u 9 = itoG x7 := by unfold pcI; rw [hp]; rfl
  have n9 := num_small (v := x7) (by omega)
  have i10 : pcI u 10 = itoG sm := by unfold pcI; rw [hp]; rfl
  have n10 := num_small (v := sm) (by omega)
  have hall : nbA u = true := by
    unfold nbA nbB
    rw [hp, i0, i1, i2, i3, i4, i5, i6, i7, i8, i9, i10, n0.1, n0.2, n1.1, n1.2, n2.1, n2.2, n3.1, n3.2, n4.1, n4.2, n5.1, n5.2, n6.1, n6.2, n7.1, n7.2, n8.1, n8.2, n9.1, n9.2, n10.1, n10.2]
    rw [decide_eq_true (show c ≥ 0 by omega), decide_eq_true (show ch ≥ 0 by omega), decide_eq_true (show sm ≥ 0 by omega)]
    rfl
  have hv : nbV u 0 = c ∧ nbV u 1 = ch ∧ nbV u 2 = x0 ∧ nbV u 3 = x1 ∧ nbV u 4 = x2 ∧ nbV u 5 = x3 ∧ nbV u 6 = x4 ∧ nbV u 7 = x5 ∧ nbV u 8 = x6 ∧ nbV u 9 = x7 ∧ nbV u 10 = sm := by
    unfold nbV
    exact ⟨by rw [i0]; exact n0.2, by rw [i1]; exact n1.2, by rw [i2]; exact n2.2, by rw [i3]; exact n3.2, by rw [i4]; exact n4.2, by rw [i5]; exact n5.2, by rw [i6]; exact n6.2, by rw [i7]; exact n7.2, by rw [i8]; exact n8.2, by rw [i9]; exact n9.2, by rw [i10]; exact n10.2⟩
  obtain ⟨v0, v1, v2, v3, v4, v5, v6, v7, v8, v9, v10⟩ := hv
  have hE : pbE u = 0 := by
    unfold pbE
    rw [hall, cond_true, v0, v1, v2, v3, v4, v5, v6, v7, v8, v9, v10]
    exact h
  refine ⟨hE, by unfold pbV; rw [hE]; exact v0, by unfold pbV; rw [hE]; exact v1, by unfold pbV; rw [hE]; exact v2, by unfold pbV; rw [hE]; exact v3, by unfold pbV; rw [hE]; exact v4, by unfold pbV; rw [hE]; exact v5, by unfold pbV; rw [hE]; exact v6, by unfold pbV; rw [hE]; exact v7, by unfold pbV; rw [hE]; exact v8, by unfold pbV; rw [hE]; exact v9, by unfold pbV; rw [hE]; exact v10⟩
theorem i64_of {n : Int} (h : (Lit.int .i64 n).wf = true) : i64B n := by
  have h9 := h
  simp [Lit.wf, IntKind.min, IntKind.max, IntKind.signed, IntKind.bits] at h9
  unfold i64B
  omega
theorem all64_nil : all64 [] := fun _ h => by cases h
theorem all64_cons {n : Int} {l : List Int} (h : i64B n) (t : all64 l) : all64 (n :: l) := fun x hx => by
  rcases List.mem_cons.1 hx with rfl | hx
  · exact h
  · exact t x hx
theorem fmb_len {c ch x0 x1 x2 x3 x4 x5 x6 x7 sm : Int} (h : all64 [c, ch, x0, x1, x2, x3, x4, x5, x6, x7, sm]) : (fmbG [c, ch, x0, x1, x2, x3, x4, x5, x6, x7, sm]).length ≤ 1000000 := by
  have h2 := jnR_len true [c, ch, x0, x1, x2, x3, x4, x5, x6, x7, sm] h
  rw [jnR_join] at h2
  exact Nat.le_trans h2 (by simp)
theorem oklbs : SpecOK Tryz.prog 3 lbsS := by
  refine specOK (n := 58) (m := 0) (lps := []) (.cons ok15 (.cons okfmb (.cons okpab (.cons okrpb (.cons okrfb (.cons ok22 .nil)))))) Tryz.func3 (by kernel_rfl) (by kernel_rfl) (noLoops (by kernel_rfl)) fun args σ K h => ?_
  unfold lbsS at h
  split at h
  rotate_right
  · exact h.elim
  rename_i c ch x0 x1 x2 x3 x4 x5 x6 x7 sm s
  rw [exlbs c ch x0 x1 x2 x3 x4 x5 x6 x7 sm s K]
  obtain ⟨h1, h⟩ := h
  by_cases hl : (s.length : Int) > 120
  · rw [decide_eq_true hl]; exact h
  · rw [decide_eq_false hl, cond_false]
    refine ⟨h1, by omega, by omega, h1, ?_⟩
    simp only [beq_self_eq_true, bne_self_eq_false, Bool.not_true, Bool.and_self, cond_false]
    cases he : (blockE c ch [x0, x1, x2, x3, x4, x5, x6, x7] sm != 0) with
    | true => exact h
    | false =>
      rw [cond_false]
      refine ⟨fmb_len h1, ?_⟩
      obtain ⟨e, e0, e1, e2, e3, e4, e5, e6, e7, e8, e9, e10⟩ := par_blk (show blockE c ch [x0, x1, x2, x3, x4, x5, x6, x7] sm = 0 by simpa using he)
      rw [e, e0, e1, e2, e3, e4, e5, e6, e7, e8, e9, e10]
      simp only [beq_self_eq_true, Bool.and_self, cond_true]
      exact h
end Go.Ev
