/-
  Part of the proof of a law.
-/
import Derived.Test.YtmailpnpjcpodaaGreatDoorC1G
import Derived.KernelRfl
set_option linter.unusedVariables false
set_option linter.unusedSimpArgs false
set_option linter.unusedSectionVars false
/-
  Chapter 1, contracts: checked blocks.
-/
namespace Go.Ev
open Go Go.Proofs
set_option maxRecDepth 20000
def isSampleS : Spec := fun args σ K => match args, σ with
  | [.one (.int .i64 n)], [] => K (.one (.bool (sampleG n))) []
  | _, _ => False
def areL : LSpec := fun vs σ k => match vs, σ with
  | [.one (.data (.ints .i64 l)), .one (.int .i64 i)], [] =>
    (l.length ≤ 1000000000 ∧ 0 ≤ i) ∧ bif (l.drop i.toNat).all sampleG then k (.exit 0) [.any] [] else k .ret [.one (.bool false)] []
  | _, _ => False
def areS : Spec := fun args σ K => match args, σ with
  | [.one (.data (.ints .i64 l))], [] => l.length ≤ 1000000000 ∧ K (.one (.bool (l.all sampleG))) []
  | _, _ => False
def modB (n by_ : Int) : Int := bif decide (n.tmod by_ < 0) then wi (n.tmod by_ + by_) else n.tmod by_
def modS : Spec := fun args σ K => match args, σ with
  | [.one (.int .i64 n), .one (.int .i64 b)], [] => b ≠ 0 ∧ K (.one (.int .i64 (modB n b))) []
  | _, _ => False
def blockE (c ch : Int) (xs : List Int) (sm : Int) : Int := bif contentG c ch xs then (bif sm != sumG c ch xs then 20 else 0) else 2
def blockS : Spec := fun args σ K => match args, σ with
  | [.agg [.int .i64 c, .int .i64 ch, .int .i64 x0, .int .i64 x1, .int .i64 x2, .int .i64 x3, .int .i64 x4, .int .i64 x5, .int .i64 x6, .int .i64 x7, .int .i64 sm]], [] => K (.one (.int .i64 (blockE c ch [x0, x1, x2, x3, x4, x5, x6, x7] sm))) []
  | _, _ => False
noncomputable abbrev E108 : Env := envOf Tryz.prog [(19, withinS)] [] 5 0
noncomputable abbrev E81 : Env := envOf Tryz.prog [(102, isSampleS)] [(2, .spec [0, 3] [2] areL)] 16 0
noncomputable abbrev E80 : Env := envOf Tryz.prog [(19, withinS)] [] 6 0
noncomputable abbrev E23 : Env := envOf Tryz.prog [(19, withinS), (58, channelS), (57, areS)] [] 19 0
noncomputable abbrev E26 : Env := envOf Tryz.prog [] [] 14 0
noncomputable abbrev E24 : Env := envOf Tryz.prog [(96, modS)] [(3, .unroll 9)] 28 0
noncomputable abbrev E22 : Env := envOf Tryz.prog [(44, contentS), (45, sumS)] [] 14 0
noncomputable abbrev E21 : Env := envOf Tryz.prog [(34, sumOfS), (50, unlessS), (49, firstS)] [] 18 0
end Go.Ev

namespace Go.Ev
open Go Go.Proofs
set_option maxRecDepth 100000
theorem ex108 (n : Int) (K : AV → List Blk → Prop) : evFn E108 Tryz.f102 [.one (.int .i64 n)] [] K = ( K (.one (.bool (decide ((-32767 : Int) ≤ n) && decide (n ≤ 32767)))) []) := by kernel_rfl
theorem ex81 (l : List Int) (K : AV → List Blk → Prop) : evFn E81 Tryz.f57 [.one (.data (.ints .i64 l))] [] K = ( (l.length ≤ 1000000000 ∧ (0 :Int) ≤ (0 :Int)) ∧ bif l.all sampleG then K (.one (.bool true)) [] else K (.one (.bool false)) []) := by kernel_rfl
theorem ex81a (l : List Int) (i : Int) (K : Ex → List AV → List Blk → Prop) : evBody E81 (lb Tryz.f57 0) [0, 3] [2] [.one (.data (.ints .i64 l)), .one (.int .i64 i)] [] K = ( bif decide (i < (↑l.length : Int)) then bif decide (0 ≤ i) && decide (i < (↑l.length : Int)) then bif decide (i.toNat + 0 < l.length) then bif !sampleG (l.getD (i.toNat + 0) 0) then K .ret [.one (.bool false)] [] else K .normal [.one (.data (Row.ints .i64 l)), .one (.int .i64 (IntKind.i64.wrap (i + 1)))] [] else False else False else K (.exit 0) [AV.any] []) := by kernel_rfl
theorem ex80 (n : Int) (K : AV → List Blk → Prop) : evFn E80 Tryz.f58 [.one (.int .i64 n)] [] K = ( bif !(decide (0 ≤ n) && decide (n ≤ 3)) then K (.one (.int .i64 2)) [] else K (.one (.int .i64 0)) []) := by kernel_rfl
theorem ex23 (c ch x0 x1 x2 x3 x4 x5 x6 x7 sm : Int) (K : AV → List Blk → Prop) : evFn E23 Tryz.f44 [.agg [.int .i64 c, .int .i64 ch, .int .i64 x0, .int .i64 x1, .int .i64 x2, .int .i64 x3, .int .i64 x4, .int .i64 x5, .int .i64 x6, .int .i64 x7, .int .i64 sm]] [] K = ( bif !(decide (0 ≤ c) && decide (c ≤ 65535)) then K (.one (.int .i64 2)) [] else bif (bif withinG ch 0 3 then (0 :Int) else (2 :Int)) != 0 then K (.one (.int .i64 2)) [] else [x0, x1, x2, x3, x4, x5, x6, x7].length ≤ 1000000000 ∧ bif ![x0, x1, x2, x3, x4, x5, x6, x7].all sampleG then K (.one (.int .i64 2)) [] else K (.one (.int .i64 0)) []) := by kernel_rfl
theorem ex26 (n b : Int) (K : AV → List Blk → Prop) : evFn E26 Tryz.f96 [.one (.int .i64 n), .one (.int .i64 b)] [] K = ( bif !decide (b = 0) then bif decide (n.tmod b < 0) then K (.one (.int .i64 (IntKind.i64.wrap (n.tmod b + b)))) [] else K (.one (.int .i64 (n.tmod b))) [] else False) := by kernel_rfl
theorem ex24 (c ch x0 x1 x2 x3 x4 x5 x6 x7 sm : Int) (K : AV → List Blk → Prop) : evFn E24 Tryz.f45 [.agg [.int .i64 c, .int .i64 ch, .int .i64 x0, .int .i64 x1, .int .i64 x2, .int .i64 x3, .int .i64 x4, .int .i64 x5, .int .i64 x6, .int .i64 x7, .int .i64 sm]] [] K = ( (65537 :Int) ≠ (0 :Int) ∧ K (.one (.int .i64 (modB (IntKind.i64.wrap (IntKind.i64.wrap (IntKind.i64.wrap (IntKind.i64.wrap (IntKind.i64.wrap (IntKind.i64.wrap (IntKind.i64.wrap (IntKind.i64.wrap (IntKind.i64.wrap (IntKind.i64.wrap (9 * c) + IntKind.i64.wrap (10 * ch)) + IntKind.i64.wrap (1 * IntKind.i64.wrap (x0 + 32768))) + IntKind.i64.wrap (2 * IntKind.i64.wrap (x1 + 32768))) + IntKind.i64.wrap (3 * IntKind.i64.wrap (x2 + 32768))) + IntKind.i64.wrap (4 * IntKind.i64.wrap (x3 + 32768))) + IntKind.i64.wrap (5 * IntKind.i64.wrap (x4 + 32768))) + IntKind.i64.wrap (6 * IntKind.i64.wrap (x5 + 32768))) + IntKind.i64.wrap (7 * IntKind.i64.wrap (x6 + 32768))) + IntKind.i64.wrap (8 * IntKind.i64.wrap (x7 + 32768)))) 65537))) []) := by kernel_rfl
theorem ex22 (c ch x0 x1 x2 x3 x4 x5 x6 x7 sm : Int) (K : AV → List Blk → Prop) : evFn E22 Tryz.f11 [.agg [.int .i64 c, .int .i64 ch, .int .i64 x0, .int .i64 x1, .int .i64 x2, .int .i64 x3, .int .i64 x4, .int .i64 x5, .int .i64 x6, .int .i64 x7, .int .i64 sm]] [] K = ( bif (bif contentG c ch [x0, x1, x2, x3, x4, x5, x6, x7] then (0 :Int) else (2 :Int)) != 0 then K (.one (.int .i64 (bif contentG c ch [x0, x1, x2, x3, x4, x5, x6, x7] then (0 :Int) else (2 :Int)))) [] else contentG c ch [x0, x1, x2, x3, x4, x5, x6, x7] = true ∧ bif sm != sumG c ch [x0, x1, x2, x3, x4, x5, x6, x7] then K (.one (.int .i64 20)) [] else K (.one (.int .i64 0)) []) := by kernel_rfl
theorem ex21 (c ch x0 x1 x2 x3 x4 x5 x6 x7 sm : Int) (K : AV → List Blk → Prop) : evFn E21 Tryz.f24 [.agg [.int .i64 c, .int .i64 ch, .int .i64 x0, .int .i64 x1, .int .i64 x2, .int .i64 x3, .int .i64 x4, .int .i64 x5, .int .i64 x6, .int .i64 x7, .int .i64 sm]] [] K = ( bif contentG c ch [x0, x1, x2, x3, x4, x5, x6, x7] then [0, bif sm == sumG c ch [x0, x1, x2, x3, x4, x5, x6, x7] then (0 :Int) else (20 :Int)].length ≤ 1000 ∧ K (.one (.int .i64 (firstE [0, bif sm == sumG c ch [x0, x1, x2, x3, x4, x5, x6, x7] then (0 :Int) else (20 :Int)]))) [] else [2, bif sm == 0 then (0 :Int) else (20 :Int)].length ≤ 1000 ∧ K (.one (.int .i64 (firstE [2, bif sm == 0 then (0 :Int) else (20 :Int)]))) []) := by kernel_rfl
end Go.Ev

/-
  Chapter 1: the contracts of C1I are kept; the laws of blocks.
-/
namespace Go.Ev
open Go Go.Proofs
attribute [local irreducible] evFn evBody
set_option maxRecDepth 20000
theorem ok108 : SpecOK Tryz.prog 102 isSampleS := by
  refine specOK (n := 5) (m := 0) (lps := []) (.cons ok25 .nil) Tryz.func102 (by kernel_rfl) (by kernel_rfl) (noLoops (by kernel_rfl)) fun args σ K h => ?_
  unfold isSampleS at h
  split at h
  · rw [ex108 _ K]; exact h
  · exact h.elim
theorem lok81 : LoopOK E81 (lb Tryz.f57 0) [0, 3] [2] areL := by
  refine loopOK (.cons ok108 .nil) (noInner (by kernel_rfl)) (fun vs _ => match vs with
    | [.one (.data (.ints .i64 l)), .one (.int .i64 i)] => l.length - i.toNat
    | _ => 0) fun vs σ k h => ?_
  unfold areL at h
  split at h
  · rename_i l i
    rw [ex81a l i _]
    obtain ⟨⟨h1, h2⟩, h⟩ := h
    by_cases hi : i < l.length
    · have hw : IntKind.i64.wrap (i + 1) = i + 1 := wrap_id (by omega) (by omega)
      have hi' : i.toNat < l.length := by omega
      have hmu : l.length - (i + 1).toNat < l.length - i.toNat := by omega
      rw [all_step h2 hi] at h
      simp only [hi, hi', h2, hw, Nat.add_zero, decide_true, Bool.and_self, cond_true]
      cases hs : sampleG (l.getD i.toNat 0) with
      | true => rw [hs] at h; exact ⟨⟨⟨h1, by omega⟩, h⟩, hmu⟩
      | false => rw [hs] at h; exact h
    · rw [List.drop_eq_nil_of_le (by omega)] at h
      simp only [hi, decide_false, cond_false]
      exact h
  · exact h.elim
theorem ok81 : SpecOK Tryz.prog 57 areS := by
  refine specOK (n := 16) (m := 0) (lps := [(2, .spec [0, 3] [2] areL)]) (.cons ok108 .nil) Tryz.func57 (by kernel_rfl) (by kernel_rfl) (theLoops (n := 1) (by kernel_rfl) fun i hi => ?_) fun args σ K h => ?_
  · match i, hi with
    | 0, _ => exact loopHyp_of (key := 2) (by kernel_rfl) rfl lok81
  · unfold areS at h
    split at h
    · rename_i l
      rw [ex81 l K]
      obtain ⟨h1, h⟩ := h
      refine ⟨⟨h1, by omega⟩, ?_⟩
      cases hs : l.all sampleG <;> rw [hs] at h <;> exact h
    · exact h.elim
theorem ok80 : SpecOK Tryz.prog 58 channelS := by
  refine specOK (n := 6) (m := 0) (lps := []) (.cons ok25 .nil) Tryz.func58 (by kernel_rfl) (by kernel_rfl) (noLoops (by kernel_rfl)) fun args σ K h => ?_
  unfold channelS at h
  split at h
  · rename_i n
    rw [ex80 _ K]
    unfold withinG at h
    cases hs : (decide (0 ≤ n) && decide (n ≤ 3)) <;> rw [hs] at h <;> exact h
  · exact h.elim
theorem ok23 : SpecOK Tryz.prog 44 contentS := by
  refine specOK (n := 19) (m := 0) (lps := []) (.cons ok25 (.cons ok80 (.cons ok81 .nil))) Tryz.func44 (by kernel_rfl) (by kernel_rfl) (noLoops (by kernel_rfl)) fun args σ K h => ?_
  unfold contentS at h
  split at h
  · rename_i c ch x0 x1 x2 x3 x4 x5 x6 x7 sm
    rw [ex23 c ch x0 x1 x2 x3 x4 x5 x6 x7 sm K]
    unfold contentG at h
    change (bif !withinG c 0 65535 then _ else _)
    cases h1 : withinG c 0 65535 with
    | false => rw [h1] at h; exact h
    | true =>
      cases h2 : withinG ch 0 3 with
      | false => rw [h1, h2] at h; exact h
      | true =>
        refine ⟨by simp, ?_⟩
        cases h3 : [x0, x1, x2, x3, x4, x5, x6, x7].all sampleG <;> rw [h1, h2, h3] at h <;> exact h
  · exact h.elim
theorem ok26 : SpecOK Tryz.prog 96 modS := by
  refine specOK (n := 14) (m := 0) (lps := []) .nil Tryz.func96 (by kernel_rfl) (by kernel_rfl) (noLoops (by kernel_rfl)) fun args σ K h => ?_
  unfold modS at h
  split at h
  · rename_i n b
    rw [ex26 n b K]
    obtain ⟨h1, h⟩ := h
    unfold modB at h
    simp only [h1, decide_false, Bool.not_false, cond_true]
    cases hs : decide (n.tmod b < 0) <;> rw [hs] at h <;> exact h
  · exact h.elim
theorem content_range {c ch x0 x1 x2 x3 x4 x5 x6 x7 : Int} (h : contentG c ch [x0, x1, x2, x3, x4, x5, x6, x7] = true) : (0 ≤ c ∧ c ≤ 65535) ∧ (0 ≤ ch ∧ ch ≤ 3) ∧ (-32767 ≤ x0 ∧ x0 ≤ 32767) ∧ (-32767 ≤ x1 ∧ x1 ≤ 32767) ∧ (-32767 ≤ x2 ∧ x2 ≤ 32767) ∧ (-32767 ≤ x3 ∧ x3 ≤ 32767) ∧ (-32767 ≤ x4 ∧ x4 ≤ 32767) ∧ (-32767 ≤ x5 ∧ x5 ≤ 32767) ∧ (-32767 ≤ x6 ∧ x6 ≤ 32767) ∧ (-32767 ≤ x7 ∧ x7 ≤ 32767) := by
  unfold contentG withinG at h
  simp only [Bool.and_eq_true, decide_eq_true_eq, List.all_cons, List.all_nil, and_true] at h
  obtain ⟨⟨a, b⟩, s0, s1, s2, s3, s4, s5, s6, s7⟩ := h
  exact ⟨a, b, sample_range s0, sample_range s1, sample_range s2, sample_range s3, sample_range s4, sample_range s5, sample_range s6, sample_range s7⟩
theorem sumG_mod {c ch x0 x1 x2 x3 x4 x5 x6 x7 : Int} (h : contentG c ch [x0, x1, x2, x3, x4, x5, x6, x7] = true) : sumG c ch [x0, x1, x2, x3, x4, x5, x6, x7] = (9 * c + 10 * ch + 1 * (x0 + 32768) + 2 * (x1 + 32768) + 3 * (x2 + 32768) + 4 * (x3 + 32768) + 5 * (x4 + 32768) + 6 * (x5 + 32768) + 7 * (x6 + 32768) + 8 * (x7 + 32768)) % 65537 := by
  obtain ⟨a, b, r0, r1, r2, r3, r4, r5, r6, r7⟩ := content_range h
  unfold sumG
  simp only [sumA]
  rw [Int.tmod_eq_emod_of_nonneg (by omega)]
  congr 1
  omega
theorem ok24 : SpecOK Tryz.prog 45 sumS := by
  refine specOK (n := 28) (m := 0) (lps := [(3, .unroll 9)]) (.cons ok26 .nil) Tryz.func45 (by kernel_rfl) (by kernel_rfl) (theLoops (n := 1) (by kernel_rfl) fun i hi => ?_) fun args σ K h => ?_
  · match i, hi with
    | 0, _ => exact loopHyp_none (key := 3) (n := 9) (by kernel_rfl) rfl
  unfold sumS at h
  split at h
  · rename_i c ch x0 x1 x2 x3 x4 x5 x6 x7 sm
    rw [ex24 c ch x0 x1 x2 x3 x4 x5 x6 x7 sm K]
    obtain ⟨hc, h⟩ := h
    rw [sumG_mod hc] at h
    obtain ⟨a, b, r0, r1, r2, r3, r4, r5, r6, r7⟩ := content_range hc
    simp (disch := omega) only [wrap_id]
    refine ⟨by decide, ?_⟩
    refine cast (congrArg (fun n => K (.one (.int .i64 n)) []) ?_) h
    unfold modB
    rw [Int.tmod_eq_emod_of_nonneg (by omega)]
    rw [decide_eq_false (by omega), cond_false]
  · exact h.elim
theorem ok22 : SpecOK Tryz.prog 11 blockS := by
  refine specOK (n := 14) (m := 0) (lps := []) (.cons ok23 (.cons ok24 .nil)) Tryz.func11 (by kernel_rfl) (by kernel_rfl) (noLoops (by kernel_rfl)) fun args σ K h => ?_
  unfold blockS at h
  split at h
  · rename_i c ch x0 x1 x2 x3 x4 x5 x6 x7 sm
    rw [ex22 c ch x0 x1 x2 x3 x4 x5 x6 x7 sm K]
    unfold blockE at h
    cases hc : contentG c ch [x0, x1, x2, x3, x4, x5, x6, x7] with
    | false => rw [hc] at h; exact h
    | true =>
      rw [hc] at h
      refine ⟨rfl, ?_⟩
      cases hs : sm != sumG c ch [x0, x1, x2, x3, x4, x5, x6, x7] <;> rw [hs] at h <;> exact h
  · exact h.elim
theorem ok21 : SpecOK Tryz.prog 24 blockS := by
  refine specOK (n := 18) (m := 0) (lps := []) (.cons ok20 (.cons ok70 (.cons ok69 .nil))) Tryz.func24 (by kernel_rfl) (by kernel_rfl) (noLoops (by kernel_rfl)) fun args σ K h => ?_
  unfold blockS at h
  split at h
  · rename_i c ch x0 x1 x2 x3 x4 x5 x6 x7 sm
    rw [ex21 c ch x0 x1 x2 x3 x4 x5 x6 x7 sm K]
    unfold blockE at h
    cases hc : contentG c ch [x0, x1, x2, x3, x4, x5, x6, x7] with
    | false => rw [hc] at h; exact ⟨by simp, h⟩
    | true =>
      rw [hc] at h
      refine ⟨by simp, ?_⟩
      unfold bne at h
      cases hs : sm == sumG c ch [x0, x1, x2, x3, x4, x5, x6, x7] <;> rw [hs] at h <;> exact h
  · exact h.elim
end Go.Ev
