/-
  Part of the proof of a law.
-/
import Derived.Test.YtophekjofpahfaaEvKit2
import Derived.Test.YtophekjofpahfaaProg
import Derived.KernelRfl
set_option linter.unusedVariables false
set_option linter.unusedSimpArgs false
set_option linter.unusedSectionVars false
/-
  Chapter 9, contracts: small helpers.
-/
namespace Go.Ev
open Go Go.Proofs
set_option maxRecDepth 20000
instance : Glob := ⟨[]⟩
def wi (n : Int) : Int := IntKind.i64.wrap n
def withinS : Spec := fun args σ K => match args, σ with
  | [.one (.int .i64 n), .one (.int .i64 lo), .one (.int .i64 hi)], [] => K (.one (.bool (decide (lo ≤ n) && decide (n ≤ hi)))) []
  | _, _ => False
def unlessS : Spec := fun args σ K => match args, σ with
  | [.one (.bool b), .one (.int .i64 e)], [] => K (.one (.int .i64 (cond b 0 e))) []
  | _, _ => False
def firstE : List Int → Int
  | [] => 0
  | e :: l => bif e == 0 then firstE l else e
def firstS : Spec := fun args σ K => match args, σ with
  | [.one (.data (.ints .i64 l))], [] => l.length ≤ 1000 ∧ K (.one (.int .i64 (firstE l))) []
  | _, _ => False
def firstL : LSpec := fun vs σ k => match vs, σ with
  | [.one (.data (.ints .i64 l)), .one (.int .i64 n), .one (.int .i64 i)], [] => (l.length ≤ 1000 ∧ 0 ≤ i ∧ n = l.length) ∧ bif firstE (l.drop i.toNat) == 0 then k (.exit 0) [.any] [] else k .ret [.one (.int .i64 (firstE (l.drop i.toNat)))] []
  | _, _ => False
def gcdG (a b : Int) : Int := if b = 0 then a else gcdG b (a.tmod b)
termination_by b.natAbs
decreasing_by
  rename_i h
  rw [Int.natAbs_tmod]
  exact Nat.mod_lt _ (by omega)
def sizeG (n : Int) : Int := if wi (0 - n) > n then wi (0 - n) else n
noncomputable abbrev E71 : Env := envOf Try.prog [] [] 15 0
noncomputable abbrev E70 : Env := envOf Try.prog [] [] 7 0
noncomputable abbrev E69 : Env := envOf Try.prog [] [(2, .spec [5, 6, 7] [2] firstL)] 15 0
noncomputable abbrev E25 : Env := envOf Try.prog [] [] 15 0
def withinG (n lo hi : Int) : Bool := decide (lo ≤ n) && decide (n ≤ hi)
def sampleG (n : Int) : Bool := withinG n (-32767) 32767
def intsL : LSpec := fun vs σ k => match vs, σ with
  | [.one (.data (.ints .i64 a)), .one (.data (.ints .i64 b)), .one (.int .i64 i)], [] =>
    (a.length ≤ 1000000000 ∧ a.length = b.length ∧ 0 ≤ i) ∧ bif a.drop i.toNat == b.drop i.toNat then k (.exit 0) [.any] [] else k .ret [.one (.bool false)] []
  | _, _ => False
def intsS : Spec := fun args σ K => match args, σ with
  | [.one (.data (.ints .i64 a)), .one (.data (.ints .i64 b))], [] => a.length ≤ 1000000000 ∧ K (.one (.bool (a == b))) []
  | _, _ => False
noncomputable abbrev E30 : Env := envOf Try.prog [] [(4, .spec [0, 1, 5] [4] intsL)] 26 0
def areL : LSpec := fun vs σ k => match vs, σ with
  | [.one (.data (.ints .i64 l)), .one (.int .i64 i)], [] =>
    (l.length ≤ 1000000000 ∧ 0 ≤ i) ∧ bif (l.drop i.toNat).all sampleG then k (.exit 0) [.any] [] else k .ret [.one (.bool false)] []
  | _, _ => False
def copyIntsS : Spec := fun args σ K => match args, σ with
  | [.one (.data (.ints .i64 l))], [] => l.length ≤ 1000000000000 ∧ K (.one (.own 0 1)) [.row 3 (.ints .i64 l)]
  | _, _ => False
noncomputable abbrev E35 : Env := envOf Try.prog [] [] 6 0
def memB (v : Int) (l : List Int) : Bool := l.any fun x => v == x
def idxOfI (v : Int) : Int → List Int → Int
  | _, [] => -1
  | i, x :: l => bif v == x then i else idxOfI v (i + 1) l
def indexL : LSpec := fun vs σ k => match vs, σ with
  | [.one (.data (.ints .i64 l)), .one (.int .i64 v), .one (.int .i64 n), .one (.int .i64 i)], [] =>
    (l.length ≤ 1000000000 ∧ 0 ≤ i ∧ n = l.length) ∧ bif memB v (l.drop i.toNat) then k .ret [.one (.int .i64 (idxOfI v i (l.drop i.toNat)))] [] else k (.exit 0) [.any] []
  | _, _ => False
def indexS : Spec := fun args σ K => match args, σ with
  | [.one (.data (.ints .i64 l)), .one (.int .i64 v)], [] => l.length ≤ 1000000000 ∧ K (.one (.int .i64 (idxOfI v 0 l))) []
  | _, _ => False
def containsS : Spec := fun args σ K => match args, σ with
  | [.one (.data (.ints .i64 l)), .one (.int .i64 v)], [] => l.length ≤ 1000000000 ∧ K (.one (.bool (memB v l))) []
  | _, _ => False
noncomputable abbrev E135 : Env := envOf Try.prog [] [(2, .spec [0, 1, 7, 8] [4] indexL)] 19 0
noncomputable abbrev E113 : Env := envOf Try.prog [(31, indexS)] [] 9 0
end Go.Ev

namespace Go.Ev
open Go Go.Proofs
set_option maxRecDepth 100000
theorem ex71 (n lo hi : Int) (K : AV → List Blk → Prop) : evFn E71 Try.f21 [.one (.int .i64 n), .one (.int .i64 lo), .one (.int .i64 hi)] [] K = ( bif decide (lo ≤ n) then K (.one (.bool (decide (n ≤ hi)))) [] else K (.one (.bool false)) []) := by kernel_rfl
theorem ex70 (b : Bool) (e : Int) (K : AV → List Blk → Prop) : evFn E70 Try.f20 [.one (.bool b), .one (.int .i64 e)] [] K = ( bif b then K (.one (.int .i64 0)) [] else K (.one (.int .i64 e)) []) := by kernel_rfl
theorem ex69 (l : List Int) (K : AV → List Blk → Prop) : evFn E69 Try.f18 [.one (.data (.ints .i64 l))] [] K = ( (l.length ≤ 1000 ∧ (0 :Int) ≤ (0 :Int) ∧ (↑l.length : Int) = (↑l.length : Int)) ∧ bif firstE l == 0 then K (.one (.int .i64 0)) [] else K (.one (.int .i64 (firstE l))) []) := by kernel_rfl
theorem ex69a (l : List Int) (n i : Int) (K : Ex → List AV → List Blk → Prop) : evBody E69 (lb Try.f18 0) [5, 6, 7] [2] [.one (.data (.ints .i64 l)), .one (.int .i64 n), .one (.int .i64 i)] [] K = ( bif decide (i < n) then bif decide (0 ≤ i) && decide (i < (↑l.length : Int)) then bif decide (i.toNat + 0 < l.length) then bif l.getD (i.toNat + 0) (0 :Int) != (0 :Int) then K .ret [.one (.int .i64 (l.getD (i.toNat + 0) 0))] [] else K .normal [.one (.data (Row.ints .i64 l)), .one (.int .i64 n), .one (.int .i64 (IntKind.i64.wrap (i + 1)))] [] else False else False else K (.exit 0) [AV.any] []) := by kernel_rfl
theorem ex25 (n lo hi : Int) (K : AV → List Blk → Prop) : evFn E25 Try.f12 [.one (.int .i64 n), .one (.int .i64 lo), .one (.int .i64 hi)] [] K = ( bif decide (lo ≤ n) then K (.one (.bool (decide (n ≤ hi)))) [] else K (.one (.bool false)) []) := by kernel_rfl
theorem ex30 (a b : List Int) (K : AV → List Blk → Prop) : evFn E30 Try.f6 [.one (.data (.ints .i64 a)), .one (.data (.ints .i64 b))] [] K = ( bif (↑a.length : Int) != (↑b.length : Int) then K (.one (.bool false)) [] else (a.length ≤ 1000000000 ∧ a.length = b.length ∧ (0 :Int) ≤ (0 :Int)) ∧ bif a == b then K (.one (.bool true)) [] else K (.one (.bool false)) []) := by kernel_rfl
theorem ex30a (a b : List Int) (i : Int) (K : Ex → List AV → List Blk → Prop) : evBody E30 (lb Try.f6 0) [0, 1, 5] [4] [.one (.data (.ints .i64 a)), .one (.data (.ints .i64 b)), .one (.int .i64 i)] [] K = ( bif decide (i < (↑a.length : Int)) then bif decide (0 ≤ i) && decide (i < (↑a.length : Int)) then bif decide (i.toNat + 0 < a.length) then bif decide (0 ≤ i) && decide (i < (↑b.length : Int)) then bif decide (i.toNat + 0 < b.length) then bif a.getD (i.toNat + 0) 0 != b.getD (i.toNat + 0) 0 then K .ret [.one (.bool false)] [] else K .normal [.one (.data (Row.ints .i64 a)), .one (.data (Row.ints .i64 b)), .one (.int .i64 (IntKind.i64.wrap (i + 1)))] [] else False else False else False else False else K (.exit 0) [AV.any] []) := by kernel_rfl
theorem ex35 (l : List Int) (K : AV → List Blk → Prop) : evFn E35 Try.f17 [.one (.data (.ints .i64 l))] [] K = ( bif decide (l.length * 8 ≤ 140737488355328 ∧ l.length ≤ 140737488355328) then K (.one (.own 0 1)) [Blk.row 3 (Row.ints .i64 l)] else False) := by kernel_rfl
theorem ex135 (l : List Int) (v : Int) (K : AV → List Blk → Prop) : evFn E135 Try.f31 [.one (.data (.ints .i64 l)), .one (.int .i64 v)] [] K = ( (l.length ≤ 1000000000 ∧ (0 :Int) ≤ (0 :Int) ∧ (↑l.length : Int) = (↑l.length : Int)) ∧ bif memB v l then K (.one (.int .i64 (idxOfI v 0 l))) [] else K (.one (.int .i64 (-1 : Int))) []) := by kernel_rfl
theorem ex135a (l : List Int) (v n i : Int) (K : Ex → List AV → List Blk → Prop) : evBody E135 (lb Try.f31 0) [0, 1, 7, 8] [4] [.one (.data (.ints .i64 l)), .one (.int .i64 v), .one (.int .i64 n), .one (.int .i64 i)] [] K = ( bif decide (i < n) then bif decide (0 ≤ i) && decide (i < (↑l.length : Int)) then bif decide (i.toNat + 0 < l.length) then bif v == l.getD (i.toNat + 0) 0 then K .ret [.one (.int .i64 i)] [] else K .normal [.one (.data (Row.ints .i64 l)), .one (.int .i64 v), .one (.int .i64 n), .one (.int .i64 (IntKind.i64.wrap (i + 1)))] [] else False else False else K (.exit 0) [AV.any] []) := by kernel_rfl
theorem ex113 (l : List Int) (v : Int) (K : AV → List Blk → Prop) : evFn E113 Try.f29 [.one (.data (.ints .i64 l)), .one (.int .i64 v)] [] K = ( l.length ≤ 1000000000 ∧ K (.one (.bool (decide (idxOfI v 0 l ≥ 0)))) []) := by kernel_rfl
end Go.Ev

/-
  Chapter 9: the contracts of C9A are kept.
-/
namespace Go.Ev
open Go Go.Proofs
attribute [local irreducible] evFn evBody evRound
set_option maxRecDepth 20000
theorem ok71 : SpecOK Try.prog 21 withinS := by
  refine specOK (n := 15) (m := 0) (lps := []) AllOK.nil Try.func21 (by kernel_rfl) (by kernel_rfl) (noLoops (by kernel_rfl)) fun args σ K h => ?_
  unfold withinS at h
  split at h
  · rename_i n lo hi
    refine (ex71 n lo hi K).mpr ?_
    cases hd : decide (lo ≤ n) <;> simpa [hd] using h
  · exact h.elim
theorem ok70 : SpecOK Try.prog 20 unlessS := by
  refine specOK (n := 7) (m := 0) (lps := []) AllOK.nil Try.func20 (by kernel_rfl) (by kernel_rfl) (noLoops (by kernel_rfl)) fun args σ K h => ?_
  unfold unlessS at h
  split at h
  · rename_i b e
    refine (ex70 b e K).mpr ?_
    cases b <;> exact h
  · exact h.elim
theorem firstE_step {l : List Int} {i : Int} (h0 : 0 ≤ i) (h : i < l.length) : firstE (l.drop i.toNat) = bif l.getD i.toNat 0 == 0 then firstE (l.drop (i + 1).toNat) else l.getD i.toNat 0 := by
  rw [drop_step 0 (by omega), show (i + 1).toNat = i.toNat + 1 by omega]
  rfl
theorem lok69 : LoopOK E69 (lb Try.f18 0) [5, 6, 7] [2] firstL := by
  refine loopOK AllOK.nil (noInner (by kernel_rfl)) (fun vs _ => match vs with
    | [.one (.data (.ints .i64 l)), _, .one (.int .i64 i)] => l.length - i.toNat
    | _ => 0) fun vs σ k h => ?_
  unfold firstL at h
  split at h
  · rename_i l n i
    obtain ⟨⟨h1, h2, rfl⟩, h⟩ := h
    refine (ex69a l _ i _).mpr ?_
    try simp only [count_ints, hasN_one, has_ints, Nat.add_zero]
    by_cases hi : i < l.length
    · have hw : IntKind.i64.wrap (i + 1) = i + 1 := wrap_id (by omega) (by omega)
      have hi' : i.toNat < l.length := by omega
      rw [firstE_step h2 hi] at h
      by_cases hz : l.getD i.toNat 0 = 0
      · simp only [hz, beq_self_eq_true, cond_true] at h
        simp only [hi, hi', h2, hw, hz, decide_true, Bool.and_self, cond_true, bne_self_eq_false, cond_false]
        exact ⟨⟨⟨h1, by omega, rfl⟩, h⟩, by omega⟩
      · have hb : (l.getD i.toNat 0 == 0) = false := by simpa using hz
        simp only [hb, cond_false] at h
        simp only [hi, hi', h2, bne, hb, decide_true, Bool.and_self, cond_true, Bool.not_false]
        exact h
    · rw [List.drop_eq_nil_of_le (by omega)] at h
      simp only [hi, decide_false, cond_false]
      exact h
  · exact h.elim
theorem ok69 : SpecOK Try.prog 18 firstS := by
  refine specOK (n := 15) (m := 0) (lps := [(2, .spec [5, 6, 7] [2] firstL)]) AllOK.nil Try.func18 (by kernel_rfl) (by kernel_rfl) (theLoops (n := 1) (by kernel_rfl) fun i hi => ?_) fun args σ K h => ?_
  · match i, hi with
    | 0, _ => exact loopHyp_of (key := 2) (by kernel_rfl) rfl lok69
  · unfold firstS at h
    split at h
    · rename_i l
      refine (ex69 l K).mpr ?_
      refine ⟨⟨h.1, by omega, rfl⟩, ?_⟩
      try simp only [List.drop_zero]
      by_cases hz : firstE l = 0
      · simpa [hz] using h.2
      · simpa [hz] using h.2
    · exact h.elim
theorem ok25 : SpecOK Try.prog 12 withinS := by
  refine specOK (n := 15) (m := 0) (lps := []) AllOK.nil Try.func12 (by kernel_rfl) (by kernel_rfl) (noLoops (by kernel_rfl)) fun args σ K h => ?_
  unfold withinS at h
  split at h
  · rename_i n lo hi
    refine (ex25 n lo hi K).mpr ?_
    cases hd : decide (lo ≤ n) <;> simpa [hd] using h
  · exact h.elim
theorem lok30 : LoopOK E30 (lb Try.f6 0) [0, 1, 5] [4] intsL := by
  refine loopOK .nil (noInner (by kernel_rfl)) (fun vs _ => match vs with
    | [.one (.data (.ints .i64 l)), _, .one (.int .i64 i)] => l.length - i.toNat
    | _ => 0) fun vs σ k h => ?_
  unfold intsL at h
  split at h
  · rename_i a b i
    obtain ⟨⟨h1, h2, h3⟩, h⟩ := h
    refine (ex30a a b i _).mpr ?_
    try simp only [count_ints, hasN_one, has_ints, Nat.add_zero]
    by_cases hi : i < a.length
    · have hw : IntKind.i64.wrap (i + 1) = i + 1 := wrap_id (by omega) (by omega)
      have hi' : i.toNat < a.length := by omega
      have hj : i < b.length := by omega
      have hj' : i.toNat < b.length := by omega
      rw [drop_step 0 hi', drop_step 0 hj', show i.toNat + 1 = (i + 1).toNat by omega, List.cons_beq_cons] at h
      simp only [hi, hi', hj, hj', h3, hw, decide_true, Bool.and_self, cond_true, bne]
      cases hs : a.getD i.toNat 0 == b.getD i.toNat 0 with
      | true =>
        rw [hs, Bool.true_and] at h
        exact ⟨⟨⟨h1, h2, by omega⟩, h⟩, by first | omega | (dsimp only; omega)⟩
      | false => rw [hs] at h; exact h
    · rw [List.drop_eq_nil_of_le (by omega), List.drop_eq_nil_of_le (by omega)] at h
      simp only [hi, decide_false, cond_false]
      exact h
  · exact h.elim
theorem ok30 : SpecOK Try.prog 6 intsS := by
  refine specOK (n := 26) (m := 0) (lps := [(4, .spec [0, 1, 5] [4] intsL)]) .nil Try.func6 (by kernel_rfl) (by kernel_rfl) (theLoops (n := 1) (by kernel_rfl) fun i hi => ?_) fun args σ K h => ?_
  · match i, hi with
    | 0, _ => exact loopHyp_of (key := 4) (by kernel_rfl) rfl lok30
  · unfold intsS at h
    split at h
    · rename_i a b
      refine (ex30 a b K).mpr ?_
      obtain ⟨h1, h⟩ := h
      try simp only [count_ints, bne]
      by_cases hl : a.length = b.length
      · have e : ((a.length : Int) == (b.length : Int)) = true := by simp [hl]
        rw [e]
        refine ⟨⟨h1, hl, by omega⟩, ?_⟩
        try simp only [List.drop_zero]
        cases hs : a == b <;> rw [hs] at h <;> exact h
      · have e : ((a.length : Int) == (b.length : Int)) = false := by simp; omega
        have e2 : (a == b) = false := beq_eq_false_iff_ne.2 fun hh => hl (by rw [hh])
        rw [e2] at h
        rw [e]
        exact h
    · exact h.elim
theorem ok35 : SpecOK Try.prog 17 copyIntsS := by
  refine specOK (n := 6) (m := 0) (lps := []) .nil Try.func17 (by kernel_rfl) (by kernel_rfl) (noLoops (by kernel_rfl)) fun args σ K h => ?_
  unfold copyIntsS at h
  split at h
  · rename_i l
    rw [ex35 l K]
    obtain ⟨h1, h⟩ := h
    rw [decide_eq_true (by omega), cond_true]
    exact h
  · exact h.elim
theorem any_step {p : Int → Bool} {l : List Int} {i : Int} (h0 : 0 ≤ i) (h : i < l.length) : (l.drop i.toNat).any p = (p (l.getD i.toNat 0) || (l.drop (i + 1).toNat).any p) := by
  rw [drop_step 0 (by omega), show (i + 1).toNat = i.toNat + 1 by omega]
  rfl
theorem wi_id {n : Int} (h1 : -9223372036854775808 ≤ n) (h2 : n < 9223372036854775808) : wi n = n := wrap_id h1 h2
theorem lok135 : LoopOK E135 (lb Try.f31 0) [0, 1, 7, 8] [4] indexL := by
  refine loopOK .nil (noInner (by kernel_rfl)) (fun vs _ => match vs with
    | [.one (.data (.ints .i64 l)), _, _, .one (.int .i64 i)] => l.length - i.toNat
    | _ => 0) fun vs σ k h => ?_
  unfold indexL at h
  split at h
  · rename_i l v n i
    rw [ex135a l v n i _]
    obtain ⟨⟨h1, h2, rfl⟩, h⟩ := h
    by_cases hi : i < l.length
    · have hw : IntKind.i64.wrap (i + 1) = i + 1 := wrap_id (by omega) (by omega)
      have hi' : i.toNat < l.length := by omega
      have hmu : l.length - (i + 1).toNat < l.length - i.toNat := by omega
      have e : idxOfI v i (l.drop i.toNat) = bif v == l.getD i.toNat 0 then i else idxOfI v (i + 1) (l.drop (i + 1).toNat) := by
        rw [drop_step 0 (by omega), show (i + 1).toNat = i.toNat + 1 by omega]
        rfl
      have e2 : memB v (l.drop i.toNat) = (v == l.getD i.toNat 0 || memB v (l.drop (i + 1).toNat)) := any_step h2 hi
      rw [e2, e] at h
      simp only [hi, hi', h2, hw, Nat.add_zero, decide_true, Bool.and_self, cond_true]
      cases hs : v == l.getD i.toNat 0 with
      | false => rw [hs] at h; exact ⟨⟨⟨h1, by omega, rfl⟩, h⟩, hmu⟩
      | true => rw [hs] at h; exact h
    · rw [List.drop_eq_nil_of_le (by omega)] at h
      simp only [hi, decide_false, cond_false]
      exact h
  · exact h.elim
theorem idxOf_none {v : Int} : ∀ {l : List Int} {i : Int}, memB v l = false → idxOfI v i l = -1
  | [], _, _ => rfl
  | b :: l, i, h => by
    simp only [memB, List.any_cons, Bool.or_eq_false_iff] at h
    simp only [idxOfI, h.1, cond_false]
    exact idxOf_none h.2
theorem idxOf_some {v : Int} : ∀ {l : List Int} {i : Int}, memB v l = true → i ≤ idxOfI v i l
  | [], _, h => by simp [memB] at h
  | b :: l, i, h => by
    simp only [idxOfI]
    cases hb : v == b with
    | true => exact Int.le_refl _
    | false =>
      simp only [memB, List.any_cons, hb, Bool.false_or] at h
      have := idxOf_some (v := v) (i := i + 1) h
      simp only [cond_false]
      omega
theorem ok135 : SpecOK Try.prog 31 indexS := by
  refine specOK (n := 19) (m := 0) (lps := [(2, .spec [0, 1, 7, 8] [4] indexL)]) .nil Try.func31 (by kernel_rfl) (by kernel_rfl) (theLoops (n := 1) (by kernel_rfl) fun i hi => ?_) fun args σ K h => ?_
  · match i, hi with
    | 0, _ => exact loopHyp_of (key := 2) (by kernel_rfl) rfl lok135
  · unfold indexS at h
    split at h
    · rename_i l v
      rw [ex135 l v K]
      obtain ⟨h1, h⟩ := h
      refine ⟨⟨h1, by omega, rfl⟩, ?_⟩
      cases hs : memB v l with
      | true => exact h
      | false => rw [idxOf_none hs] at h; exact h
    · exact h.elim
theorem ok113 : SpecOK Try.prog 29 containsS := by
  refine specOK (n := 9) (m := 0) (lps := []) (.cons ok135 .nil) Try.func29 (by kernel_rfl) (by kernel_rfl) (noLoops (by kernel_rfl)) fun args σ K h => ?_
  unfold containsS at h
  split at h
  · rename_i l v
    rw [ex113 l v K]
    have e : decide (idxOfI v 0 l ≥ 0) = memB v l := by
      cases hs : memB v l with
      | true => exact decide_eq_true (idxOf_some hs)
      | false => rw [idxOf_none hs]; rfl
    rw [e]
    exact h
  · exact h.elim
theorem natAbs_gcdG (a b : Int) : (gcdG a b).natAbs = Nat.gcd a.natAbs b.natAbs := by
  induction hb : b.natAbs using Nat.strongRecOn generalizing a b with
  | ind n ih =>
    subst hb
    rw [gcdG]
    by_cases h : b = 0
    · rw [if_pos h, h]; simp
    · rw [if_neg h, ih _ (by rw [Int.natAbs_tmod]; exact Nat.mod_lt _ (by omega)) b _ rfl, Int.natAbs_tmod, Nat.gcd_comm b.natAbs, ← Nat.gcd_rec, Nat.gcd_comm]
theorem sizeG_natAbs {n : Int} (h1 : -9223372036854775807 ≤ n) (h2 : n ≤ 9223372036854775807) : sizeG n = n.natAbs := by
  unfold sizeG
  rw [wi_id (by omega) (by omega)]
  split <;> omega
theorem gcdG_pos {a b : Int} (hb : 0 < b) (hb2 : b ≤ 9223372036854775807) : sizeG (gcdG a b) = (Nat.gcd a.natAbs b.natAbs : Int) ∧ 0 < sizeG (gcdG a b) ∧ sizeG (gcdG a b) ≤ b ∧ sizeG (gcdG a b) ∣ b ∧ sizeG (gcdG a b) ∣ a := by
  have hg := natAbs_gcdG a b
  have hle : Nat.gcd a.natAbs b.natAbs ≤ b.natAbs := Nat.gcd_le_right _ (by omega)
  have hpos : 0 < Nat.gcd a.natAbs b.natAbs := Nat.gcd_pos_of_pos_right _ (by omega)
  have e : sizeG (gcdG a b) = (Nat.gcd a.natAbs b.natAbs : Int) := by rw [sizeG_natAbs (by omega) (by omega), hg]
  refine ⟨e, by omega, by omega, ?_, ?_⟩
  · rw [e]; exact Int.ofNat_dvd_left.2 (Nat.gcd_dvd_right _ _)
  · rw [e]; exact Int.ofNat_dvd_left.2 (Nat.gcd_dvd_left _ _)
end Go.Ev
