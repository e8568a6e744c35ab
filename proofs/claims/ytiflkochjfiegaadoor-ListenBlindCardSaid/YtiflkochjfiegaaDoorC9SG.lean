/-
  Chapter 9: the law of blind listening: its contract is kept.
-/
import Derived.Test.YtiflkochjfiegaaDoorC9SE
import Derived.Test.YtiflkochjfiegaaDoorC9SF
import Derived.Test.YtiflkochjfiegaaDoorC9SC
set_option linter.unusedVariables false
set_option linter.unusedSimpArgs false
set_option linter.unusedSectionVars false
namespace Go.Ev
open Go Go.Proofs
attribute [local irreducible] evFn evBody evRound

set_option maxRecDepth 20000

theorem okbeg2 : SpecOK Tryd.prog 62 beg2S := by
  refine okbeg.froze fun args σ K h => ?_
  unfold beg2S at h
  split at h
  rotate_right
  · exact h.elim
  obtain ⟨h1, h⟩ := h
  refine ⟨rfl, h1, _, ?_, h⟩
  exact ⟨⟨rfl, rfl, rfl, rfl, .inr ⟨_, rfl, rfl⟩, trivial⟩, rfl, trivial⟩
theorem stE2_zero {h : List Int} {p : Int} {b0 b1 b2 : Bool} {a : List Int} : stE2 h p b0 b1 b2 a = 0 ↔ a.length ≤ h.length ∧ a.all ansG = true ∧ (decide ((a.length : Int) ≥ h.length) && (p != -1 || (b0 || (b1 || b2)))) = false ∧ (p == -1 || hrd p b0 b1 b2) = true := by
  unfold stE2
  by_cases hl : (a.length : Int) ≤ h.length
  · rw [decide_eq_true hl]
    generalize a.all ansG = x
    generalize (decide ((a.length : Int) ≥ h.length) && (p != -1 || (b0 || (b1 || b2)))) = y
    generalize (p == -1 || hrd p b0 b1 b2) = z
    have hl' : a.length ≤ h.length := by omega
    cases x <;> cases y <;> cases z <;> simp [hl']
  · rw [decide_eq_false hl]
    have hl' : ¬ a.length ≤ h.length := by omega
    simp [hl']
theorem boE_mk {h : List Int} {p : Int} {b0 b1 b2 : Bool} {a : List Int} (h1 : ruE h = 0) (h2 : withinG p (-1) 2 = true) (h3 : stE2 h p b0 b1 b2 a = 0) : boE h p b0 b1 b2 a = 0 := by
  unfold boE stE; rw [h1, h2]; exact h3
theorem prE_zero {h : List Int} {p : Int} {b0 b1 b2 : Bool} {l : Nat} {k n : Int} (he : prE h p b0 b1 b2 l k n = 0) :
    (k = 0 ∧ (n = 0 ∨ n = 1 ∨ n = 2) ∧ l < h.length) ∨ (k = 1 ∧ n = 0 ∧ p ≠ -1) ∨ (k = 2 ∧ 0 ≤ n ∧ n ≤ 1 ∧ b0 = true ∧ b1 = true ∧ b2 = true ∧ l < h.length) ∨ (k = 3 ∧ n = 0 ∧ p = -1 ∧ 0 < l) := by
  rcases k_cases k with (rfl | rfl | rfl | rfl) | hk
  · cases hw : withinG n 0 2 with
    | false => rw [prE_play0 hw] at he; exact absurd he (by decide)
    | true =>
      rw [prE_play hw] at he
      unfold withinG at hw
      rw [Bool.and_eq_true, decide_eq_true_eq, decide_eq_true_eq] at hw
      unfold plE at he
      by_cases hx : (l : Int) ≥ h.length
      · rw [decide_eq_true hx] at he; exact absurd (show (21 : Int) = 0 from he) (by decide)
      · exact .inl ⟨rfl, by omega, by omega⟩
  · cases hn : n == 0 with
    | false => rw [prE_stop0 hn] at he; exact absurd he (by decide)
    | true =>
      rw [prE_stop hn] at he
      by_cases hp : p = -1
      · subst hp; exact absurd (show (21 : Int) = 0 from he) (by decide)
      · exact .inr (.inl ⟨rfl, eq_of_beq hn, hp⟩)
  · cases hw : withinG n 0 1 with
    | false => rw [prE_ans0 hw] at he; exact absurd he (by decide)
    | true =>
      rw [prE_ans hw] at he
      unfold withinG at hw
      rw [Bool.and_eq_true, decide_eq_true_eq, decide_eq_true_eq] at hw
      unfold asE at he
      by_cases hx : (l : Int) ≥ h.length
      · rw [decide_eq_true hx] at he; exact absurd (show (21 : Int) = 0 from he) (by decide)
      · rw [decide_eq_false hx] at he
        refine .inr (.inr (.inl ⟨rfl, hw.1, hw.2, ?_⟩))
        cases b0 <;> cases b1 <;> cases b2 <;> first | exact ⟨rfl, rfl, rfl, by omega⟩ | exact absurd (show (14 : Int) = 0 from he) (by decide)
  · cases hn : n == 0 with
    | false => rw [prE_rep0 hn] at he; exact absurd he (by decide)
    | true =>
      rw [prE_rep hn] at he
      unfold reE at he
      by_cases hx : (l : Int) > 0
      · rw [decide_eq_true hx] at he
        by_cases hp : p = -1
        · exact .inr (.inr (.inr ⟨rfl, eq_of_beq hn, hp, by omega⟩))
        · rw [beq_ff hp] at he; exact absurd (show (17 : Int) = 0 from he) (by decide)
      · rw [decide_eq_false hx] at he; exact absurd (show (12 : Int) = 0 from he) (by decide)
  · rw [prE_odd hk] at he; exact absurd he (by decide)
theorem valid_next {h : List Int} {p : Int} {b0 b1 b2 : Bool} {a : List Int} {k n : Int} (hv : boE h p b0 b1 b2 a = 0) (he : prE h p b0 b1 b2 a.length k n = 0) : boE h (nxP p k n) (nxB 0 b0 k n) (nxB 1 b1 k n) (nxB 2 b2 k n) (nxA a k n) = 0 := by
  obtain ⟨v1, v2, v3⟩ := boE_facts hv
  obtain ⟨w1, w2, w3, w4⟩ := stE2_zero.1 v3
  rcases prE_zero he with ⟨rfl, hn, hl⟩ | ⟨rfl, rfl, hp⟩ | ⟨rfl, h0, h1, rfl, rfl, rfl, hl⟩ | ⟨rfl, rfl, rfl, hl⟩
  · have hd : decide ((a.length : Int) ≥ h.length) = false := decide_eq_false (by omega)
    rcases hn with rfl | rfl | rfl
    · refine boE_mk v1 rfl (stE2_zero.2 ⟨w1, w2, ?_, ?_⟩)
      · show (decide ((a.length : Int) ≥ h.length) && _) = false
        rw [hd]; rfl
      · show (_ || (b0 || true)) = true
        cases b0 <;> rfl
    · refine boE_mk v1 rfl (stE2_zero.2 ⟨w1, w2, ?_, ?_⟩)
      · show (decide ((a.length : Int) ≥ h.length) && _) = false
        rw [hd]; rfl
      · show (_ || (b1 || true)) = true
        cases b1 <;> rfl
    · refine boE_mk v1 rfl (stE2_zero.2 ⟨w1, w2, ?_, ?_⟩)
      · show (decide ((a.length : Int) ≥ h.length) && _) = false
        rw [hd]; rfl
      · show (_ || (b2 || true)) = true
        cases b2 <;> rfl
  · refine boE_mk v1 rfl (stE2_zero.2 ⟨w1, w2, ?_, rfl⟩)
    show (decide ((a.length : Int) ≥ h.length) && (b0 || (b1 || b2))) = false
    rw [bne_tt hp, Bool.true_or, Bool.and_true] at w3
    rw [w3]; rfl
  · refine boE_mk v1 rfl (stE2_zero.2 ⟨?_, ?_, ?_, rfl⟩)
    · show (a ++ [n]).length ≤ h.length
      rw [List.length_append, List.length_singleton]; omega
    · show (a ++ [n]).all ansG = true
      rw [List.all_append, w2, Bool.true_and]
      show (ansG n && true) = true
      unfold ansG withinG
      rw [decide_eq_true h0, decide_eq_true h1]; rfl
    · show (_ && false) = false
      rw [Bool.and_false]
  · refine boE_mk v1 rfl (stE2_zero.2 ⟨?_, ?_, ?_, rfl⟩)
    · show (a.take (a.length - 1)).length ≤ h.length
      rw [List.length_take]; omega
    · show (a.take (a.length - 1)).all ansG = true
      rw [List.all_eq_true] at w2 ⊢
      exact fun x hx => w2 x (List.mem_of_mem_take hx)
    · show (_ && false) = false
      rw [Bool.and_false]
theorem bli_x6 {l : List (List Int)} {i : Int} {h : List Int} {p : Int} {b0 b1 b2 : Bool} {a : List Int} {K : Ex → List AV → List Blk → Prop} (h0 : 0 ≤ i) (hl : i < l.length) (hv : boE h p b0 b1 b2 a = 0)
    (KN : ∀ (q : Int) (d0 d1 d2 : Bool) (z : List Int), boE h q d0 d1 d2 z = 0 → K .normal [.one (.data (.mat .i64 2 l)), .one (.ptr 0 1 0 0), .one (.ptr 1 1 0 0), .one (.ptr 2 1 0 0), .one (.int .i64 (IntKind.i64.wrap (i + 1)))]
      [.cells [.data (.ints .i64 h)], .cells [.int .i64 q, .bool d0, .bool d1, .bool d2, .data (.ints .i64 z)], .cells [.bool d0, .bool d1, .bool d2]]) :
    exbliA_x0 l i h p b0 b1 b2 a b0 b1 b2 (cutK Ebli (lb Tryd.f17 0) (bodyK Ebli [1, 2, 5, 7, 8] [2, 4, 5] K)) := by
  obtain ⟨v1, v2, v3⟩ := boE_facts hv
  obtain ⟨w1, w2, w3⟩ := ruE_len v1
  have wl := stE2_len v3
  unfold exbliA_x0
  refine And.intro ⟨by omega, by omega⟩ ?_
  refine (iff_of_eq (exbliB l i h p b0 b1 b2 a b0 b1 b2 K)).mpr ?_
  unfold exbliB_x4 exbliB_x5 exbliB_x0 exbliB_x1 exbliB_x2 exbliB_x3
  rw [decide_eq_true h0, decide_eq_true hl, decide_eq_true (show i.toNat < l.length by omega)]
  generalize (l.getD i.toNat []).getD 0 0 = k
  generalize (l.getD i.toNat []).getD 1 0 = n
  have e : apE h p b0 b1 b2 a k n = prE h p b0 b1 b2 a.length k n := by unfold apE; rw [hv]; rfl
  rw [e]
  by_cases he : prE h p b0 b1 b2 a.length k n = 0
  rotate_left
  · rw [bne_tt he]
    exact KN _ _ _ _ _ hv
  · rw [he]
    rw [show aoP 0 p k n = nxP p k n from rfl, show aoB 0 0 b0 k n = nxB 0 b0 k n from rfl, show aoB 0 1 b1 k n = nxB 1 b1 k n from rfl, show aoB 0 2 b2 k n = nxB 2 b2 k n from rfl, show aoA 0 a k n = nxA a k n from rfl]
    have hv' := valid_next hv he
    have KN' := KN _ _ _ _ _ hv'
    have hA : (nxA a k n).length ≤ 1000000000 := by
      have hh : (nxA a k n).length ≤ h.length := stE2_len (boE_facts hv').2.2
      omega
    have hst : stE h (nxP p k n) (nxB 0 b0 k n) (nxB 1 b1 k n) (nxB 2 b2 k n) (nxA a k n) = 0 := by
      unfold boE at hv'; rw [v1] at hv'; exact hv'
    refine And.intro hA ?_
    rw [hst]
    clear hst hv' KN
    have haa : (a == a) = true := beq_self_eq_true a
    rcases prE_zero he with ⟨rfl, hn, hl⟩ | ⟨rfl, rfl, hp⟩ | ⟨rfl, h0, h1, rfl, rfl, rfl, hl⟩ | ⟨rfl, rfl, rfl, hl⟩
    · rcases hn with rfl | rfl | rfl
      all_goals
        refine And.intro hA ?_
        rw [show ∀ m, (nxA a 0 m == a) = true from fun _ => haa]
        cases b0 <;> cases b1 <;> cases b2 <;> exact KN'
    · refine And.intro hA ?_
      rw [show ∀ m, (nxA a 1 m == a) = true from fun _ => haa]
      cases b0 <;> cases b1 <;> cases b2 <;> exact KN'
    · have hw : IntKind.i64.wrap ((a.length : Int) + 1) = a.length + 1 := wrap_id (by omega) (by omega)
      have hlen : (nxA a 2 n).length = a.length + 1 := by show (a ++ [n]).length = _; rw [List.length_append, List.length_singleton]
      rw [hlen, hw, show (((a.length + 1 : Nat) : Int) != (a.length : Int) + 1) = false from by
        rw [show ((a.length + 1 : Nat) : Int) = (a.length : Int) + 1 by omega, bne, beq_self_eq_true]; rfl]
      rw [show (a.length : Int).toNat = a.length by omega, decide_eq_true (show (0 : Int) ≤ (a.length : Int) by omega), decide_eq_true (show a.length ≤ a.length + 1 by omega), decide_eq_true (show (a.length : Int) < ((a.length + 1 : Nat) : Int) by omega), decide_eq_true (show a.length + 0 < a.length + 1 by omega)]
      have ht : List.take (a.length - 0) (nxA a 2 n) = a := by
        show List.take a.length (a ++ [n]) = a
        rw [List.take_left']; rfl
      have hg : (nxA a 2 n).getD (a.length + 0) 0 = n := by
        show (a ++ [n]).getD a.length 0 = n
        simp
      rw [ht, hg, haa]
      refine And.intro (by omega) ?_
      rw [show (n != n) = false from by rw [bne, beq_self_eq_true]; rfl]
      exact KN'
    · have hz : (decide ((0 : Int) ≤ ((a.length - 1 : Nat) : Int)) && (decide (((a.length - 1 : Nat) : Int).toNat ≤ a.length) && decide ((0 : Nat) ≤ ((a.length - 1 : Nat) : Int).toNat))) = true := by
        rw [decide_eq_true (by omega), decide_eq_true (by omega), decide_eq_true (by omega)]; rfl
      rw [wrap_len a.length (by omega) (by omega), hz, beq_ff (show (a.length : Int) ≠ 0 by omega)]
      refine And.intro hA ?_
      have ht : (nxA a 3 0 == List.take (((a.length - 1 : Nat) : Int).toNat - 0) a) = true := by
        show (a.take (a.length - 1) == a.take (((a.length - 1 : Nat) : Int).toNat - 0)) = true
        rw [show ((a.length - 1 : Nat) : Int).toNat - 0 = a.length - 1 by omega, beq_self_eq_true]
      rw [ht]
      exact KN'
theorem scG_bound : ∀ (a h : List Int), 0 ≤ scG a h ∧ scG a h ≤ a.length
  | [], h => by rw [scG_nil]; exact ⟨by decide, by decide⟩
  | x :: a, [] => ⟨by show (0 : Int) ≤ 0; decide, by show (0 : Int) ≤ _; omega⟩
  | x :: a, y :: h => by
    have := scG_bound a h
    simp only [scG, List.length_cons]
    cases x == y
    · rw [cond_false]; omega
    · rw [cond_true]; omega
theorem lokbli_0 : LoopOK Ebli (lb Tryd.f17 0) [1, 2, 5, 7, 8] [2, 4, 5] bliL := by
  refine loopOK (.cons okawk (.cons okrru (.cons okcpR (.cons okbeg2 (.cons okcpS (.cons okaplD (.cons okrst (.cons ok25 (.cons ok30 (.cons oksco .nil)))))))))) (noInner (by kernel_rfl)) (fun vs σ => match vs, σ with
    | [.one (.data (.mat .i64 2 l)), .one (.ptr 0 1 0 0), .one (.ptr 1 1 0 0), .one (.ptr 2 1 0 0), .one (.int .i64 i)], [.cells [.data (.ints .i64 _)], .cells [.int .i64 _, .bool _, .bool _, .bool _, .data (.ints .i64 _)], .cells [.bool _, .bool _, .bool _]] => (l.length - i).toNat
    | _, _ => 0) fun vs σ k h => ?_
  unfold bliL at h
  split at h
  rotate_right
  · exact h.elim
  · rename_i l i hs p b0 b1 b2 a c0 c1 c2
    rw [evBody_cut (by kernel_rfl), exbliA l i hs p b0 b1 b2 a c0 c1 c2 _]
    obtain ⟨⟨h1, h3, h4, hv, rfl, rfl, rfl⟩, h⟩ := h
    by_cases hi : i < (l.length : Int)
    · have hw : IntKind.i64.wrap (i + 1) = i + 1 := wrap_id (by omega) (by omega)
      have hmu : ((l.length : Int) - (i + 1)).toNat < ((l.length : Int) - i).toNat := by omega
      rw [decide_eq_true hi, decide_eq_true h3, decide_eq_true (show i.toNat < l.length by omega)]
      have wl := stE2_len (boE_facts hv).2.2
      obtain ⟨w1, w2, w3⟩ := ruE_len (boE_facts hv).1
      unfold exbliA_x1
      refine And.intro (And.intro (by omega) (And.intro (And.intro (by omega) (And.intro (bli_x6 h3 hi hv ?_) (bli_x6 h3 hi hv ?_))) (And.intro (by omega) (bli_x6 h3 hi hv ?_)))) (And.intro (by omega) (And.intro (by omega) (bli_x6 h3 hi hv ?_)))
      all_goals
        intro q d0 d1 d2 z hz
        rw [hw]
        exact ⟨⟨⟨h1, by omega, by omega, hz, rfl, rfl, rfl⟩, h⟩, hmu⟩
    · rw [decide_eq_false hi]
      refine (iff_of_eq (exbliC l i hs p c0 c1 c2 a c0 c1 c2 _)).mpr ?_
      exact h _ _ _ _ _ hv
theorem okbli : SpecOK Tryd.prog 17 lawBliS := by
  refine specOK (n := 190) (m := 0) (lps := [(10, .spec [1, 2, 5, 7, 8] [2, 4, 5] bliL)]) (.cons okawk (.cons okrru (.cons okcpR (.cons okbeg2 (.cons okcpS (.cons okaplD (.cons okrst (.cons ok25 (.cons ok30 (.cons oksco .nil)))))))))) Tryd.func17 (by kernel_rfl) (by kernel_rfl) (theLoops (n := 1) (by kernel_rfl) fun i hi => ?_) fun args σ K h => ?_
  · match i, hi with
    | 0, _ => exact loopHyp_of (key := 10) (by kernel_rfl) rfl lokbli_0
  unfold lawBliS at h
  split at h
  rotate_right
  · exact h.elim
  rename_i hs l
  rw [exbli hs l K]
  by_cases f1 : (hs.length : Int) > 10
  · rw [decide_eq_true f1]; exact h
  by_cases f2 : (l.length : Int) > 60
  · rw [decide_eq_false f1, decide_eq_true f2]; exact h
  rw [decide_eq_false f1, decide_eq_false f2]
  refine And.intro (by omega) ?_
  by_cases hr : ruE hs = 0
  · rw [hr]
    refine And.intro (by omega) (And.intro (by omega) (And.intro ⟨by omega, by decide, by omega, ?_, rfl, rfl, rfl⟩ ?_))
    · refine boE_mk hr rfl (stE2_zero.2 ⟨Nat.zero_le _, rfl, ?_, rfl⟩)
      show (_ && false) = false
      rw [Bool.and_false]
    · intro q d0 d1 d2 z hz
      have wl := stE2_len (boE_facts hz).2.2
      refine And.intro (by omega) (And.intro (by omega) (And.intro ⟨by omega, by omega⟩ ?_))
      rw [hz]
      have hb := scG_bound z hs
      show K (.one (.bool (decide ((0 : Int) ≤ scG z hs) && decide (scG z hs ≤ (z.length : Int))))) []
      rw [decide_eq_true hb.1, decide_eq_true hb.2]
      exact h
  · rw [bne_tt hr]; exact h
end Go.Ev
