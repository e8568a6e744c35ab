/-
  Part of the proof of a law.
-/
import Derived.Test.YtophekjofpahfaaC9F
set_option linter.unusedVariables false
set_option linter.unusedSimpArgs false
set_option linter.unusedSectionVars false
/-
  Chapter 9: the contracts of orders and of the best ranking are kept.
-/
namespace Go.Ev
open Go Go.Proofs
attribute [local irreducible] evFn evBody evRound
set_option maxRecDepth 20000
theorem okcln : SpecOK Try.prog 28 cloneS := by
  refine specOK (n := 8) (m := 0) (lps := []) .nil Try.func28 (by kernel_rfl) (by kernel_rfl) (noLoops (by kernel_rfl)) fun args σ K h => ?_
  unfold cloneS at h
  split at h
  · rename_i l
    rw [excln l K]
    obtain ⟨h1, h2, h3⟩ := h
    have c : decide (l.length * 8 ≤ 140737488355328 ∧ l.length ≤ 140737488355328) = true := decide_eq_true (by omega)
    by_cases hl : l.length = 0
    · exact cond_then' (decide_eq_true hl) ⟨h3 (List.length_eq_zero_iff.1 hl), cond_in' c h2⟩
    · exact cond_else' (decide_eq_false hl) (cond_in' c h2)
  · exact h.elim
theorem leads_iff {L : List (List AV)} {X : List (List Int)} : leadsTo L X ↔ ∃ R, L = X.map ordV ++ R := by
  constructor
  · exact fun h => ⟨_, h⟩
  · rintro ⟨R, rfl⟩
    unfold leadsTo
    rw [List.drop_left' (by simp)]
theorem leads_app {L : List (List AV)} {A B : List (List Int)} (h : leadsTo L (A ++ B)) : leadsTo L A ∧ leadsTo (L.drop A.length) B ∧ (L.drop A.length).drop B.length = L.drop (A ++ B).length := by
  obtain ⟨R, rfl⟩ := leads_iff.1 h
  rw [List.map_append, List.append_assoc]
  refine ⟨leads_iff.2 ⟨_, rfl⟩, ?_, by rw [List.drop_drop, List.length_append]⟩
  rw [List.drop_left' (by simp)]
  exact leads_iff.2 ⟨_, rfl⟩
theorem upTo_get {c i : Nat} (h : i < c) : (upTo c).getD i 0 = (i : Int) := by
  have h' : i < (upTo c).length := by simp [upTo, h]
  rw [getD_of_lt h']
  simp [upTo]
theorem extR_step {c n : Nat} {l : List Int} {i : Nat} (h : i < c) : extR c n l i = (bif memB i l then [] else extG c n (l ++ [(i : Int)])) ++ extR c n l (i + 1) := by
  unfold extR
  rw [drop_step 0 (show i < (upTo c).length by simp [upTo, h]), upTo_get h, List.flatMap_cons]
theorem extR_nil {c n : Nat} {l : List Int} {i : Nat} (h : c ≤ i) : extR c n l i = [] := by
  unfold extR
  rw [List.drop_eq_nil_of_le (by simp [upTo, h])]
  rfl
theorem lokext (n : Nat) (ih : SpecOK Try.prog 27 (extS n)) : LoopOK (Eext n) (lb Try.f27 0) [0, 3, 15, 16] [5] (extL n) := by
  refine loopOK (.cons okcln (.cons ok113 (.cons ih .nil))) (noInner (by kernel_rfl)) (fun vs _ => match vs with
    | [_, _, .one (.int .i64 m), .one (.int .i64 i)] => (m - i).toNat
    | _ => 0) fun vs σ k h => ?_
  unfold extL at h
  split at h
  · rename_i l m i c P J D L
    obtain ⟨⟨h1, hm, h2, h3, h4, h5, h6, h7⟩, h⟩ := h
    subst hm
    rw [exexta n l m i m P J D L _]
    by_cases hi : i < m
    · have hw : IntKind.i64.wrap (i + 1) = i + 1 := wrap_id (by omega) (by omega)
      have hmu : (m - (i + 1)).toNat < (m - i).toNat := by omega
      have hil : ((i.toNat : Nat) : Int) = i := by omega
      have e := extR_step (c := m.toNat) (n := n) (l := l) (i := i.toNat) (by omega)
      rw [hil, show i.toNat + 1 = (i + 1).toNat by omega] at e
      have hlen : (((l ++ [i]).length + n : Nat) : Int) = m := by simp only [List.length_append, List.length_cons, List.length_nil]; omega
      rw [hw]
      refine cond_then' (decide_eq_true hi) ⟨by omega, ?_⟩
      cases hb : memB i l with
      | true =>
        rw [hb, cond_true, List.nil_append] at e
        rw [e] at h h7
        refine cond_else' rfl ?_
        repeat' first
          | exact ⟨⟨⟨h1, rfl, h2, h3, h4, by omega, by omega, h7⟩, h⟩, hmu⟩
          | refine And.intro ?_ ?_
      | false =>
        rw [hb, cond_false] at e
        rw [e] at h h7
        obtain ⟨g1, g2, g3⟩ := leads_app h7
        rw [← g3] at h
        have hd : decide ((l ++ [i]).length * 8 ≤ 140737488355328 ∧ (l ++ [i]).length ≤ 140737488355328) = true := decide_eq_true (by omega)
        refine cond_then' rfl ?_
        repeat' first
          | exact (show l.length ≤ 1000000 by omega)
          | exact cond_in' hd ⟨⟨h1, h2, h3, hlen, g1⟩, fun D' => ⟨⟨⟨⟨h1, rfl, h2, h3, h4, by omega, by omega, g2⟩, h⟩, hmu⟩, (h D').2⟩⟩
          | refine And.intro ?_ ?_
        all_goals
          intro hl
          subst hl
          repeat' first
            | exact ⟨⟨h1, h2, h3, hlen, g1⟩, fun D' => ⟨⟨⟨⟨h1, rfl, h2, h3, h4, by omega, by omega, g2⟩, h⟩, hmu⟩, (h D').2⟩⟩
            | refine And.intro ?_ ?_
    · rw [extR_nil (by omega)] at h
      exact cond_else' (decide_eq_false hi) (h D).1
  · exact h.elim
theorem okext : ∀ n : Nat, SpecOK Try.prog 27 (extS n)
  | 0 => by
    refine specOK (n := 34) (m := 4) (lps := [(4, .spec [0, 3, 15, 16] [5] noL)]) (.cons okcln (.cons ok113 .nil)) Try.func27 (by kernel_rfl) (by kernel_rfl) (theLoops (n := 1) (by kernel_rfl) fun i hi => ?_) fun args σ K h => ?_
    · match i, hi with
      | 0, _ => exact loopHyp_of (key := 4) (by kernel_rfl) rfl (loopOK (.cons okcln (.cons ok113 .nil)) (noInner (by kernel_rfl)) (fun _ _ => 0) fun vs σ k h => h.elim)
    · unfold extS at h
      split at h
      · rename_i l c P J D L
        rw [exexz l c P J D L K]
        obtain ⟨⟨h1, h2, h3, h4, h5⟩, h⟩ := h
        have e : extG c.toNat 0 l = [l] := rfl
        rw [e] at h h5
        cases L with
        | nil => unfold leadsTo at h5; simp at h5
        | cons a L =>
          have ha : a = ordV l := by unfold leadsTo at h5; simpa using h5
          subst ha
          refine cond_in' (beq_iff_eq.2 (by omega)) ⟨by omega, ⟨h1, rfl, h⟩, fun hl => by subst hl; exact ⟨h1, rfl, h⟩⟩
      · exact h.elim
  | n + 1 => by
    refine specOK (n := 34) (m := 4) (lps := [(4, .spec [0, 3, 15, 16] [5] (extL n))]) (.cons okcln (.cons ok113 (.cons (okext n) .nil))) Try.func27 (by kernel_rfl) (by kernel_rfl) (theLoops (n := 1) (by kernel_rfl) fun i hi => ?_) fun args σ K h => ?_
    · match i, hi with
      | 0, _ => exact loopHyp_of (key := 4) (by kernel_rfl) rfl (lokext n (okext n))
    · unfold extS at h
      split at h
      · rename_i l c P J D L
        rw [exext n l c P J D L K]
        obtain ⟨⟨h1, h2, h3, h4, h5⟩, h⟩ := h
        exact cond_else' (beq_eq_false_iff_ne.2 (by omega)) ⟨⟨h1, by first | rfl | trivial, h2, h3, by omega, by decide, h2, h5⟩, h⟩
      · exact h.elim
theorem okextA : SpecOK Try.prog 27 extA := by
  refine ⟨(okext 0).body, fun args σ K h => ?_⟩
  unfold extA at h
  split at h
  · rename_i l c P J D L
    obtain ⟨⟨h1, h2, h3, h4, h5⟩, h⟩ := h
    exact (okext (c.toNat - l.length)).sound _ _ K ⟨⟨h1, h2, h3, by omega, h5⟩, h⟩
  · exact h.elim
theorem okor1 : SpecOK Try.prog 26 (seqSpec Try.prog ordersSq) := by
  refine specOK (n := 7) (m := 2) (lps := []) (.cons okextA .nil) Try.func26 (by kernel_rfl) (by kernel_rfl) (noLoops (by kernel_rfl)) fun args σ K h => ?_
  unfold seqSpec at h
  split at h
  · rename_i caps P J D L lent
    split at h
    · rename_i c xs hsq
      unfold ordersSq at hsq
      split at hsq
      · rename_i c
        simp only [Option.some.injEq, Prod.mk.injEq] at hsq
        obtain ⟨rfl, rfl⟩ := hsq
        obtain ⟨hc, h2, h3, h4⟩ := cond_pos h
        simp only [Bool.and_eq_true, decide_eq_true_eq] at hc
        obtain ⟨hl, hok⟩ := hc
        subst h2; subst h3
        rw [exor1 c _ J D _ K]
        have hlead : leadsTo ((allO c).map ordV) (allO c) := leads_iff.2 ⟨[], by simp⟩
        have hdrop : ((allO c).map ordV).drop (allO c).length = [] := List.drop_eq_nil_of_le (by simp)
        refine ⟨⟨rfl, hl, hok, hl, hlead⟩, fun D' => ⟨?_, (h4 D' _).2⟩⟩
        have := (h4 D' [.cells [.int .i64 c]]).1
        rw [← hdrop] at this
        exact this
      · cases hsq
    · exact h.elim
  · exact h.elim
theorem okord : SpecOK Try.prog 15 ordersS := by
  refine specOK (n := 4) (m := 0) (lps := []) .nil Try.func15 (by kernel_rfl) (by kernel_rfl) (noLoops (by kernel_rfl)) fun args σ K h => ?_
  unfold ordersS at h
  split at h
  · rename_i n
    rw [exord n K]; exact h
  · exact h.elim
theorem disF_nn {p : List (List D)} (hp : okP p) {o : List Int} : ∀ (l : List Int) (i : Nat), (∀ j ∈ l, 0 ≤ j ∧ j < (p.length : Int)) → 0 ≤ disF p o i l
  | [], _, _ => by simp [disF]
  | j :: l, i, h => by
    have hj := h j (by simp)
    have h1 := (disI_range (okP_row hp hj.1 hj.2).2 (o.take i)).1
    have h2 := disF_nn hp (o := o) l (i + 1) fun x hx => h x (by simp [hx])
    simp only [disF]
    omega
theorem disG_nn {p : List (List D)} {o : List Int} (hp : okP p) (ho : okO p o) : 0 ≤ disG p o := disF_nn hp o 0 ho.2
theorem rokbst : RangeOK Ebst 26 ordersSq (rangePs (lb Try.f7 0)) (rangeAssign (lb Try.f7 0)) (rangeBody (lb Try.f7 0)) [1, 6, 7] bestL := by
  refine ⟨okor1, fun x rest vs σ k h => ?_, fun vs σ k h => ?_⟩
  · unfold bestL at h
    split at h
    · rename_i p l
      obtain ⟨os, hos, ⟨h1, hl, h2, h3⟩, h⟩ := h
      subst hl
      cases os with
      | nil => simp at hos
      | cons o os =>
        simp only [List.map_cons, List.cons.injEq] at hos
        obtain ⟨rfl, rfl⟩ := hos
        have ho := h3 o (by simp)
        unfold ordV
        rw [exbsta p o (-1) _]
        exact ⟨⟨h1, ho⟩, cond_then' rfl ⟨os, rfl, ⟨h1, disG_nn h1 ho, fun x hx => h3 x (by simp [hx])⟩, h⟩⟩
    · rename_i p b l
      obtain ⟨os, hos, ⟨h1, h2, h3⟩, h⟩ := h
      cases os with
      | nil => simp at hos
      | cons o os =>
        simp only [List.map_cons, List.cons.injEq] at hos
        obtain ⟨rfl, rfl⟩ := hos
        have ho := h3 o (by simp)
        have hn : decide (l < 0) = false := decide_eq_false (by omega)
        unfold ordV
        rw [exbstb p o b l _]
        simp only [bestF, hn, Bool.false_or] at h
        refine ⟨⟨h1, ho⟩, cond_else' hn ?_⟩
        cases hc : decide (disG p o < l) with
        | true =>
          rw [hc] at h
          exact cond_then' rfl ⟨os, rfl, ⟨h1, disG_nn h1 ho, fun x hx => h3 x (by simp [hx])⟩, h⟩
        | false =>
          rw [hc] at h
          exact cond_else' rfl ⟨os, rfl, ⟨h1, h2, fun x hx => h3 x (by simp [hx])⟩, h⟩
    · exact h.elim
  · unfold bestL at h
    split at h
    · rename_i p l
      obtain ⟨os, hos, ⟨h1, hl, h2, h3⟩, h⟩ := h
      cases os with
      | nil => exact absurd rfl h2
      | cons o os => simp at hos
    · rename_i p b l
      obtain ⟨os, hos, ⟨h1, h2, h3⟩, h⟩ := h
      cases os with
      | nil => exact h
      | cons o os => simp at hos
    · exact h.elim
theorem allO_ok : ∀ c : Nat, c ≤ 6 → (allO c).isEmpty = false ∧ (allO c).all (fun o => decide (o.length ≤ 6) && o.all fun j => decide (0 ≤ j) && decide (j < (c : Int))) = true := by decide +kernel
theorem okbst : SpecOK Try.prog 7 bestS := by
  refine specOK (n := 33) (m := 0) (lps := [(1000007, .range 26 ordersSq [1, 6, 7] bestL)]) (.cons okprf (.cons okord (.cons okdis .nil))) Try.func7 (by kernel_rfl) (by kernel_rfl) (theLoops (n := 1) (by kernel_rfl) fun i hi => ?_) fun args σ K h => ?_
  · match i, hi with
    | 0, _ => exact loopHyp_range (key := 1000007) (by kernel_rfl) (by kernel_rfl) rfl rokbst
  · unfold bestS at h
    split at h
    · rename_i p
      rw [exbst p K]
      obtain ⟨h1, h⟩ := h
      refine ⟨h1, ?_⟩
      by_cases he : prefE p = 0
      · have hp := prefE_zero he
        rw [he] at h
        obtain ⟨a1, a2⟩ := allO_ok p.length hp.1
        have hl := hp.1
        refine cond_else' (bne_eq_false_iff_eq.2 he) (cond_in' (and_two (decide_eq_true (by omega)) (decide_eq_true (by omega))) ⟨allO p.length, rfl, ⟨hp, rfl, ?_, ?_⟩, h⟩)
        · intro e; rw [e] at a1; cases a1
        · intro o ho
          have := List.all_eq_true.1 a2 o ho
          simp only [Bool.and_eq_true, decide_eq_true_eq, List.all_eq_true] at this
          exact this
      · rw [beq_eq_false_iff_ne.2 he, cond_false] at h
        exact cond_then' (bne_iff_ne.2 he) h
    · exact h.elim
end Go.Ev
