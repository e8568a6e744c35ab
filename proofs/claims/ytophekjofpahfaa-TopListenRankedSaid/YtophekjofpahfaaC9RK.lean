/-
  Part of the proof of a law.
-/
import Derived.Test.YtophekjofpahfaaC9RB
import Derived.Test.YtophekjofpahfaaC9RJ
import Derived.Test.YtophekjofpahfaaC9RP
import Derived.Test.YtophekjofpahfaaC9RA
set_option linter.unusedVariables false
set_option linter.unusedSimpArgs false
set_option linter.unusedSectionVars false
/-
  Chapter 9: the layer's law of listeners' orders: its loops keep their contracts.
-/
namespace Go.Ev
open Go Go.Proofs
attribute [local irreducible] evFn evBody evRound
set_option maxRecDepth 20000
set_option linter.unusedVariables false
set_option linter.unusedSimpArgs false
theorem gX_ok {l : List (List D)} {h i : Int} {k : Int → Prop} (h0 : 0 ≤ h) (h1 : h < l.length) (i0 : 0 ≤ i) (i1 : i < (rowD l h.toNat).length) : gX l h i k = k ((rowD l h.toNat).getD i.toNat 0) := by
  unfold gX
  rw [show ((l.getD h.toNat []).getD 0 (D.int 0)).toInts = rowD l h.toNat from rfl, decide_eq_true h0, decide_eq_true h1, decide_eq_true (show h.toNat < l.length by omega), decide_eq_true i0, decide_eq_true i1, decide_eq_true (show i.toNat + 0 < (rowD l h.toNat).length by omega)]
  rfl
theorem spN_ok {x : Int} {f : Nat → Prop} : ∀ {n j : Nat}, (j : Int) ≤ x → x < (j : Int) + n → spN x f n j = f x.toNat
  | 0, j, h1, h2 => by omega
  | 1, j, h1, h2 => by
    have : x.toNat = j := by omega
    rw [this]; rfl
  | n + 2, j, h1, h2 => by
    show cond (x == (j : Int)) (f j) (spN x f (n + 1) (j + 1)) = _
    by_cases e : x = (j : Int)
    · rw [show (x == (j : Int)) = true by rw [e]; exact beq_self_eq_true _, cond_true]
      have : x.toNat = j := by omega
      rw [this]
    · rw [beq_ff' e, cond_false]
      exact spN_ok (by omega) (by omega)
theorem okA_row {A : List (List Int)} {m : Int} (h : okA A m) {x : Int} (h0 : 0 ≤ x) (h1 : x < A.length) : (A.getD x.toNat []).length = A.length ∧ ∀ y ∈ A.getD x.toNat [], 0 ≤ y ∧ y ≤ m := h _ (getD_mem (d := []) (by omega))
theorem okA_mono {A : List (List Int)} {m m' : Int} (h : okA A m) (hm : m ≤ m') : okA A m' := fun r hr => ⟨(h r hr).1, fun x hx => by have := (h r hr).2 x hx; omega⟩
theorem inc_len (A : List (List Int)) (x y : Int) : (incA A x y).length = A.length := by unfold incA; rw [List.length_set]
theorem okA_inc {A : List (List Int)} {m : Int} (h : okA A m) {x y : Int} (h0 : 0 ≤ x) (h1 : x < A.length) (y0 : 0 ≤ y) (y1 : y < A.length) : okA (incA A x y) (m + 1) := by
  intro r hr
  rw [inc_len]
  unfold incA at hr
  have hx := okA_row h h0 h1
  rcases List.mem_or_eq_of_mem_set hr with hr | rfl
  · exact ⟨(h r hr).1, fun z hz => by have := (h r hr).2 z hz; omega⟩
  · refine ⟨by rw [List.length_set]; exact hx.1, fun z hz => ?_⟩
    rcases List.mem_or_eq_of_mem_set hz with hz | rfl
    · have := hx.2 z hz; omega
    · have := hx.2 _ (getD_mem (d := 0) (show y.toNat < (A.getD x.toNat []).length by rw [hx.1]; omega))
      omega
theorem j_len (x : Int) : ∀ (r : List Int) (A : List (List Int)), (cntJ A x r).length = A.length
  | [], _ => rfl
  | y :: r, A => by simp only [cntJ]; rw [j_len x r, inc_len]
theorem i_len : ∀ (r : List Int) (A : List (List Int)), (cntI A r).length = A.length
  | [], _ => rfl
  | x :: r, A => by simp only [cntI]; rw [i_len r, j_len]
theorem okA_j {x : Int} : ∀ {r : List Int} {A : List (List Int)} {m : Int}, okA A m → 0 ≤ x → x < A.length → (∀ y ∈ r, 0 ≤ y ∧ y < (A.length : Int)) → okA (cntJ A x r) (m + r.length)
  | [], A, m, h, _, _, _ => by simp only [cntJ]; exact okA_mono h (by simp)
  | y :: r, A, m, h, h0, h1, hr => by
    have hy := hr y (by simp)
    simp only [cntJ]
    have h2 := okA_j (r := r) (okA_inc h h0 h1 hy.1 hy.2) h0 (by rw [inc_len]; exact h1) fun z hz => by rw [inc_len]; exact hr z (by simp [hz])
    exact okA_mono h2 (by rw [List.length_cons]; omega)
theorem okA_i : ∀ {r : List Int} {A : List (List Int)} {m : Int}, okA A m → (∀ y ∈ r, 0 ≤ y ∧ y < (A.length : Int)) → r.length ≤ 5 → okA (cntI A r) (m + 5 * r.length)
  | [], A, m, h, _, _ => by simp only [cntI]; exact okA_mono h (by simp)
  | x :: r, A, m, h, hr, h5 => by
    rw [List.length_cons] at h5
    have hx := hr x (by simp)
    simp only [cntI]
    have h1 := okA_j (r := r) h hx.1 hx.2 fun z hz => hr z (by simp [hz])
    have h2 := okA_i (r := r) h1 (fun z hz => by rw [j_len]; exact hr z (by simp [hz])) (by omega)
    exact okA_mono h2 (by rw [List.length_cons]; omega)
theorem rhsJ_ok {A : List (List Int)} {l : List (List D)} {h i j n : Int} {K6 : Prop} {Kn : List (List Int) → Prop} {m : Int} (hA : okA A m) (hm : m ≤ 1000) (hn : n = A.length) (h0 : 0 ≤ h) (h1 : h < l.length) (ho : isOrd A.length (rowD l h.toNat)) (i0 : 0 ≤ i) (i1 : i < n) (j0 : 0 ≤ j) (hj : j < n)
    (hk : Kn (incA A ((rowD l h.toNat).getD i.toNat 0) ((rowD l h.toNat).getD j.toNat 0))) : rhsJ A l h i j n K6 Kn := by
  have hl : ((rowD l h.toNat).length : Int) = A.length := by rw [ho.1]
  have hx := ho.2.1 _ (getD_mem (d := 0) (show i.toNat < (rowD l h.toNat).length by omega))
  have hy := ho.2.1 _ (getD_mem (d := 0) (show j.toNat < (rowD l h.toNat).length by omega))
  obtain ⟨x, ex⟩ : ∃ x, (rowD l h.toNat).getD i.toNat 0 = x := ⟨_, rfl⟩
  obtain ⟨y, ey⟩ : ∃ y, (rowD l h.toNat).getD j.toNat 0 = y := ⟨_, rfl⟩
  rw [ex] at hx hk
  rw [ey] at hy hk
  have hr := okA_row hA hx.1 hx.2
  have hv := hr.2 _ (getD_mem (d := 0) (show y.toNat < (A.getD x.toNat []).length by rw [hr.1]; omega))
  have hw : IntKind.i64.wrap ((A.getD x.toNat []).getD y.toNat 0 + 1) = (A.getD x.toNat []).getD y.toNat 0 + 1 := wrap_id (by omega) (by omega)
  unfold incA at hk
  rw [← hw] at hk
  unfold rhsJ
  rw [decide_eq_true hj, cond_true, gX_ok h0 h1 i0 (by omega), ex, decide_eq_true hx.1, decide_eq_true hx.2, Bool.and_self, cond_true, spN_ok (by omega) (by omega), gX_ok h0 h1 j0 (by omega), ey, gX_ok h0 h1 i0 (by omega), ex, decide_eq_true hx.1, decide_eq_true hx.2, Bool.and_self, cond_true, spN_ok (by omega) (by omega), gX_ok h0 h1 j0 (by omega), ey,
    hr.1, decide_eq_true hy.1, decide_eq_true hy.2, Bool.and_self, cond_true, decide_eq_true (show y.toNat + 0 < A.length by omega), cond_true, cond_true, cond_true]
  exact hk
theorem ll0 {l : List (List Int)} (h : l.length = 0) : l = [] := by
  match l, h with
  | [], _ => exact rfl
theorem ll1 {l : List (List Int)} (h : l.length = 1) : ∃ b0, l = [b0] := by
  match l, h with
  | [b0], _ => exact ⟨b0, rfl⟩
theorem ll2 {l : List (List Int)} (h : l.length = 2) : ∃ b0 b1, l = [b0, b1] := by
  match l, h with
  | [b0, b1], _ => exact ⟨b0, b1, rfl⟩
theorem ll3 {l : List (List Int)} (h : l.length = 3) : ∃ b0 b1 b2, l = [b0, b1, b2] := by
  match l, h with
  | [b0, b1, b2], _ => exact ⟨b0, b1, b2, rfl⟩
theorem ll4 {l : List (List Int)} (h : l.length = 4) : ∃ b0 b1 b2 b3, l = [b0, b1, b2, b3] := by
  match l, h with
  | [b0, b1, b2, b3], _ => exact ⟨b0, b1, b2, b3, rfl⟩
theorem ll5 {l : List (List Int)} (h : l.length = 5) : ∃ b0 b1 b2 b3 b4, l = [b0, b1, b2, b3, b4] := by
  match l, h with
  | [b0, b1, b2, b3, b4], _ => exact ⟨b0, b1, b2, b3, b4, rfl⟩
theorem lokrkd_3 : LoopOK Erkd (lb Try.f3 3) [0, 1, 5, 6, 8, 9, 10, 11] [0, 1, 5, 6, 8, 9, 10] rkJ := by
  refine loopOK (.cons oktak (.cons okordC (.cons ok30 (.cons okclC (.cons okbest2 (.cons okbnd (.cons oklag .nil))))))) (noInner (by kernel_rfl)) (fun vs σ => match vs, σ with
    | [.one (.data (.recs [.sints .i64] _)), .one (.data (.ints .i64 _)), .one (.int .i64 n), .one (.own 0 1), .one (.bool _), .one (.int .i64 _), .one (.int .i64 _), .one (.int .i64 j)], [.cells []] => (n - j).toNat
    | [.one (.data (.recs [.sints .i64] _)), .one (.data (.ints .i64 _)), .one (.int .i64 n), .one (.own 0 1), .one (.bool _), .one (.int .i64 _), .one (.int .i64 _), .one (.int .i64 j)], [.cells [.own 1 1], .row 3 (.ints .i64 _)] => (n - j).toNat
    | [.one (.data (.recs [.sints .i64] _)), .one (.data (.ints .i64 _)), .one (.int .i64 n), .one (.own 0 1), .one (.bool _), .one (.int .i64 _), .one (.int .i64 _), .one (.int .i64 j)], [.cells [.own 1 1, .own 2 1], .row 3 (.ints .i64 _), .row 3 (.ints .i64 _)] => (n - j).toNat
    | [.one (.data (.recs [.sints .i64] _)), .one (.data (.ints .i64 _)), .one (.int .i64 n), .one (.own 0 1), .one (.bool _), .one (.int .i64 _), .one (.int .i64 _), .one (.int .i64 j)], [.cells [.own 1 1, .own 2 1, .own 3 1], .row 3 (.ints .i64 _), .row 3 (.ints .i64 _), .row 3 (.ints .i64 _)] => (n - j).toNat
    | [.one (.data (.recs [.sints .i64] _)), .one (.data (.ints .i64 _)), .one (.int .i64 n), .one (.own 0 1), .one (.bool _), .one (.int .i64 _), .one (.int .i64 _), .one (.int .i64 j)], [.cells [.own 1 1, .own 2 1, .own 3 1, .own 4 1], .row 3 (.ints .i64 _), .row 3 (.ints .i64 _), .row 3 (.ints .i64 _), .row 3 (.ints .i64 _)] => (n - j).toNat
    | [.one (.data (.recs [.sints .i64] _)), .one (.data (.ints .i64 _)), .one (.int .i64 n), .one (.own 0 1), .one (.bool _), .one (.int .i64 _), .one (.int .i64 _), .one (.int .i64 j)], [.cells [.own 1 1, .own 2 1, .own 3 1, .own 4 1, .own 5 1], .row 3 (.ints .i64 _), .row 3 (.ints .i64 _), .row 3 (.ints .i64 _), .row 3 (.ints .i64 _), .row 3 (.ints .i64 _)] => (n - j).toNat
    | _, _ => 0) fun vs σ k h => ?_
  unfold rkJ at h
  split at h
  rotate_right
  · exact h.elim
  · rename_i l o n s g i j
    obtain ⟨⟨h1, hn, h2, h3, h4, h5, h6, h7, h8, hA⟩, hk⟩ := h
    exact absurd h6 (by omega)
  · rename_i l o n s g i j a0
    obtain ⟨⟨h1, hn, h2, h3, h4, h5, h6, h7, h8, hA⟩, hk⟩ := h
    have ho : isOrd 1 (rowD l g.toNat) := ordE_ord h4
    rw [exJ1 l o n s g i j a0 _]
    by_cases hj : j < n
    · have hx := ho.2.1 _ (getD_mem (d := 0) (show i.toNat < (rowD l g.toNat).length by rw [ho.1]; omega))
      have hy := ho.2.1 _ (getD_mem (d := 0) (show j.toNat < (rowD l g.toNat).length by rw [ho.1]; omega))
      have hA2 := okA_inc hA (x := (rowD l g.toNat).getD i.toNat 0) (y := (rowD l g.toNat).getD j.toNat 0) hx.1 hx.2 hy.1 hy.2
      have w1 : IntKind.i64.wrap (j + 1) = j + 1 := wrap_id (by omega) (by omega)
      rw [drop_step 0 (show j.toNat < (rowD l g.toNat).length by rw [ho.1]; omega), show j.toNat + 1 = (j + 1).toNat by omega] at hk
      simp only [cntJ] at hk
      refine rhsJ_ok hA (by omega) hn h2 h3 ho h5 h6 (by omega) hj ?_
      have hlen := inc_len [a0] ((rowD l g.toNat).getD i.toNat 0) ((rowD l g.toNat).getD j.toNat 0)
      obtain ⟨b0, hb⟩ := ll1 hlen
      rw [hb] at hk hA2 ⊢
      rw [w1]
      exact ⟨⟨⟨h1, hn, h2, h3, h4, h5, h6, by omega, by omega, okA_mono hA2 (by omega)⟩, hk⟩, by show (n - (j + 1)).toNat < (n - j).toNat; omega⟩
    · unfold rhsJ
      rw [decide_eq_false hj]
      rw [List.drop_eq_nil_of_le (by rw [ho.1]; omega)] at hk
      exact hk
  · rename_i l o n s g i j a0 a1
    obtain ⟨⟨h1, hn, h2, h3, h4, h5, h6, h7, h8, hA⟩, hk⟩ := h
    have ho : isOrd 2 (rowD l g.toNat) := ordE_ord h4
    rw [exJ2 l o n s g i j a0 a1 _]
    by_cases hj : j < n
    · have hx := ho.2.1 _ (getD_mem (d := 0) (show i.toNat < (rowD l g.toNat).length by rw [ho.1]; omega))
      have hy := ho.2.1 _ (getD_mem (d := 0) (show j.toNat < (rowD l g.toNat).length by rw [ho.1]; omega))
      have hA2 := okA_inc hA (x := (rowD l g.toNat).getD i.toNat 0) (y := (rowD l g.toNat).getD j.toNat 0) hx.1 hx.2 hy.1 hy.2
      have w1 : IntKind.i64.wrap (j + 1) = j + 1 := wrap_id (by omega) (by omega)
      rw [drop_step 0 (show j.toNat < (rowD l g.toNat).length by rw [ho.1]; omega), show j.toNat + 1 = (j + 1).toNat by omega] at hk
      simp only [cntJ] at hk
      refine rhsJ_ok hA (by omega) hn h2 h3 ho h5 h6 (by omega) hj ?_
      have hlen := inc_len [a0, a1] ((rowD l g.toNat).getD i.toNat 0) ((rowD l g.toNat).getD j.toNat 0)
      obtain ⟨b0, b1, hb⟩ := ll2 hlen
      rw [hb] at hk hA2 ⊢
      rw [w1]
      exact ⟨⟨⟨h1, hn, h2, h3, h4, h5, h6, by omega, by omega, okA_mono hA2 (by omega)⟩, hk⟩, by show (n - (j + 1)).toNat < (n - j).toNat; omega⟩
    · unfold rhsJ
      rw [decide_eq_false hj]
      rw [List.drop_eq_nil_of_le (by rw [ho.1]; omega)] at hk
      exact hk
  · rename_i l o n s g i j a0 a1 a2
    obtain ⟨⟨h1, hn, h2, h3, h4, h5, h6, h7, h8, hA⟩, hk⟩ := h
    have ho : isOrd 3 (rowD l g.toNat) := ordE_ord h4
    rw [exJ3 l o n s g i j a0 a1 a2 _]
    by_cases hj : j < n
    · have hx := ho.2.1 _ (getD_mem (d := 0) (show i.toNat < (rowD l g.toNat).length by rw [ho.1]; omega))
      have hy := ho.2.1 _ (getD_mem (d := 0) (show j.toNat < (rowD l g.toNat).length by rw [ho.1]; omega))
      have hA2 := okA_inc hA (x := (rowD l g.toNat).getD i.toNat 0) (y := (rowD l g.toNat).getD j.toNat 0) hx.1 hx.2 hy.1 hy.2
      have w1 : IntKind.i64.wrap (j + 1) = j + 1 := wrap_id (by omega) (by omega)
      rw [drop_step 0 (show j.toNat < (rowD l g.toNat).length by rw [ho.1]; omega), show j.toNat + 1 = (j + 1).toNat by omega] at hk
      simp only [cntJ] at hk
      refine rhsJ_ok hA (by omega) hn h2 h3 ho h5 h6 (by omega) hj ?_
      have hlen := inc_len [a0, a1, a2] ((rowD l g.toNat).getD i.toNat 0) ((rowD l g.toNat).getD j.toNat 0)
      obtain ⟨b0, b1, b2, hb⟩ := ll3 hlen
      rw [hb] at hk hA2 ⊢
      rw [w1]
      exact ⟨⟨⟨h1, hn, h2, h3, h4, h5, h6, by omega, by omega, okA_mono hA2 (by omega)⟩, hk⟩, by show (n - (j + 1)).toNat < (n - j).toNat; omega⟩
    · unfold rhsJ
      rw [decide_eq_false hj]
      rw [List.drop_eq_nil_of_le (by rw [ho.1]; omega)] at hk
      exact hk
  · rename_i l o n s g i j a0 a1 a2 a3
    obtain ⟨⟨h1, hn, h2, h3, h4, h5, h6, h7, h8, hA⟩, hk⟩ := h
    have ho : isOrd 4 (rowD l g.toNat) := ordE_ord h4
    rw [exJ4 l o n s g i j a0 a1 a2 a3 _]
    by_cases hj : j < n
    · have hx := ho.2.1 _ (getD_mem (d := 0) (show i.toNat < (rowD l g.toNat).length by rw [ho.1]; omega))
      have hy := ho.2.1 _ (getD_mem (d := 0) (show j.toNat < (rowD l g.toNat).length by rw [ho.1]; omega))
      have hA2 := okA_inc hA (x := (rowD l g.toNat).getD i.toNat 0) (y := (rowD l g.toNat).getD j.toNat 0) hx.1 hx.2 hy.1 hy.2
      have w1 : IntKind.i64.wrap (j + 1) = j + 1 := wrap_id (by omega) (by omega)
      rw [drop_step 0 (show j.toNat < (rowD l g.toNat).length by rw [ho.1]; omega), show j.toNat + 1 = (j + 1).toNat by omega] at hk
      simp only [cntJ] at hk
      refine rhsJ_ok hA (by omega) hn h2 h3 ho h5 h6 (by omega) hj ?_
      have hlen := inc_len [a0, a1, a2, a3] ((rowD l g.toNat).getD i.toNat 0) ((rowD l g.toNat).getD j.toNat 0)
      obtain ⟨b0, b1, b2, b3, hb⟩ := ll4 hlen
      rw [hb] at hk hA2 ⊢
      rw [w1]
      exact ⟨⟨⟨h1, hn, h2, h3, h4, h5, h6, by omega, by omega, okA_mono hA2 (by omega)⟩, hk⟩, by show (n - (j + 1)).toNat < (n - j).toNat; omega⟩
    · unfold rhsJ
      rw [decide_eq_false hj]
      rw [List.drop_eq_nil_of_le (by rw [ho.1]; omega)] at hk
      exact hk
  · rename_i l o n s g i j a0 a1 a2 a3 a4
    obtain ⟨⟨h1, hn, h2, h3, h4, h5, h6, h7, h8, hA⟩, hk⟩ := h
    have ho : isOrd 5 (rowD l g.toNat) := ordE_ord h4
    rw [exJ5 l o n s g i j a0 a1 a2 a3 a4 _]
    by_cases hj : j < n
    · have hx := ho.2.1 _ (getD_mem (d := 0) (show i.toNat < (rowD l g.toNat).length by rw [ho.1]; omega))
      have hy := ho.2.1 _ (getD_mem (d := 0) (show j.toNat < (rowD l g.toNat).length by rw [ho.1]; omega))
      have hA2 := okA_inc hA (x := (rowD l g.toNat).getD i.toNat 0) (y := (rowD l g.toNat).getD j.toNat 0) hx.1 hx.2 hy.1 hy.2
      have w1 : IntKind.i64.wrap (j + 1) = j + 1 := wrap_id (by omega) (by omega)
      rw [drop_step 0 (show j.toNat < (rowD l g.toNat).length by rw [ho.1]; omega), show j.toNat + 1 = (j + 1).toNat by omega] at hk
      simp only [cntJ] at hk
      refine rhsJ_ok hA (by omega) hn h2 h3 ho h5 h6 (by omega) hj ?_
      have hlen := inc_len [a0, a1, a2, a3, a4] ((rowD l g.toNat).getD i.toNat 0) ((rowD l g.toNat).getD j.toNat 0)
      obtain ⟨b0, b1, b2, b3, b4, hb⟩ := ll5 hlen
      rw [hb] at hk hA2 ⊢
      rw [w1]
      exact ⟨⟨⟨h1, hn, h2, h3, h4, h5, h6, by omega, by omega, okA_mono hA2 (by omega)⟩, hk⟩, by show (n - (j + 1)).toNat < (n - j).toNat; omega⟩
    · unfold rhsJ
      rw [decide_eq_false hj]
      rw [List.drop_eq_nil_of_le (by rw [ho.1]; omega)] at hk
      exact hk
theorem lokrkd_2 : LoopOK Erkd (lb Try.f3 2) [0, 1, 5, 6, 8, 9, 10] [0, 1, 5, 6, 8, 9] rkI := by
  refine loopOK (.cons oktak (.cons okordC (.cons ok30 (.cons okclC (.cons okbest2 (.cons okbnd (.cons oklag .nil))))))) (fun b' hb => by
    have hl : loopsOf (lb Try.f3 2) = [lb Try.f3 3] := by kernel_rfl
    rw [hl] at hb
    simp only [List.mem_cons, List.not_mem_nil, or_false] at hb
    subst hb
    exact loopHyp_of (key := 21) (by kernel_rfl) rfl lokrkd_3) (fun vs σ => match vs, σ with
    | [.one (.data (.recs [.sints .i64] _)), .one (.data (.ints .i64 _)), .one (.int .i64 n), .one (.own 0 1), .one (.bool _), .one (.int .i64 _), .one (.int .i64 i)], [.cells []] => (n - i).toNat
    | [.one (.data (.recs [.sints .i64] _)), .one (.data (.ints .i64 _)), .one (.int .i64 n), .one (.own 0 1), .one (.bool _), .one (.int .i64 _), .one (.int .i64 i)], [.cells [.own 1 1], .row 3 (.ints .i64 _)] => (n - i).toNat
    | [.one (.data (.recs [.sints .i64] _)), .one (.data (.ints .i64 _)), .one (.int .i64 n), .one (.own 0 1), .one (.bool _), .one (.int .i64 _), .one (.int .i64 i)], [.cells [.own 1 1, .own 2 1], .row 3 (.ints .i64 _), .row 3 (.ints .i64 _)] => (n - i).toNat
    | [.one (.data (.recs [.sints .i64] _)), .one (.data (.ints .i64 _)), .one (.int .i64 n), .one (.own 0 1), .one (.bool _), .one (.int .i64 _), .one (.int .i64 i)], [.cells [.own 1 1, .own 2 1, .own 3 1], .row 3 (.ints .i64 _), .row 3 (.ints .i64 _), .row 3 (.ints .i64 _)] => (n - i).toNat
    | [.one (.data (.recs [.sints .i64] _)), .one (.data (.ints .i64 _)), .one (.int .i64 n), .one (.own 0 1), .one (.bool _), .one (.int .i64 _), .one (.int .i64 i)], [.cells [.own 1 1, .own 2 1, .own 3 1, .own 4 1], .row 3 (.ints .i64 _), .row 3 (.ints .i64 _), .row 3 (.ints .i64 _), .row 3 (.ints .i64 _)] => (n - i).toNat
    | [.one (.data (.recs [.sints .i64] _)), .one (.data (.ints .i64 _)), .one (.int .i64 n), .one (.own 0 1), .one (.bool _), .one (.int .i64 _), .one (.int .i64 i)], [.cells [.own 1 1, .own 2 1, .own 3 1, .own 4 1, .own 5 1], .row 3 (.ints .i64 _), .row 3 (.ints .i64 _), .row 3 (.ints .i64 _), .row 3 (.ints .i64 _), .row 3 (.ints .i64 _)] => (n - i).toNat
    | _, _ => 0) fun vs σ k h => ?_
  unfold rkI at h
  split at h
  rotate_right
  · exact h.elim
  · rename_i l o n s g i
    obtain ⟨⟨h1, hn, h2, h3, h4, h5, h6, hA⟩, hk⟩ := h
    rw [exrkdl2a l o n s g i _]
    rw [decide_eq_false (show ¬ i < n by omega)]
    exact hk
  · rename_i l o n s g i a0
    obtain ⟨⟨h1, hn, h2, h3, h4, h5, h6, hA⟩, hk⟩ := h
    have ho : isOrd 1 (rowD l g.toNat) := ordE_ord h4
    rw [exrkdl2b l o n s g i a0 _]
    by_cases hi : i < n
    · rw [decide_eq_true hi, cond_true]
      have w1 : IntKind.i64.wrap (i + 1) = i + 1 := wrap_id (by omega) (by omega)
      have hd := drop_step 0 (show i.toNat < (rowD l g.toNat).length by rw [ho.1]; omega)
      rw [show i.toNat + 1 = (i + 1).toNat by omega] at hd
      rw [hd] at hk
      simp only [cntI] at hk
      rw [w1]
      refine And.intro ⟨h1, hn, h2, h3, h4, h5, hi, by omega, by omega, okA_mono hA (by omega)⟩ ?_
      have hr : ∀ y ∈ (rowD l g.toNat).drop (i + 1).toNat, 0 ≤ y ∧ y < (1 : Int) := fun y hy => ho.2.1 y (List.mem_of_mem_drop hy)
      have hx := ho.2.1 _ (getD_mem (d := 0) (show i.toNat < (rowD l g.toNat).length by rw [ho.1]; omega))
      have hA2 := okA_j (r := (rowD l g.toNat).drop (i + 1).toNat) hA hx.1 hx.2 hr
      rw [List.length_drop, ho.1] at hA2
      have hlen := j_len ((rowD l g.toNat).getD i.toNat 0) ((rowD l g.toNat).drop (i + 1).toNat) [a0]
      obtain ⟨b0, hb⟩ := ll1 hlen
      rw [hb] at hk hA2 ⊢
      exact ⟨⟨⟨h1, hn, h2, h3, h4, by omega, by omega, okA_mono hA2 (by omega)⟩, hk⟩, by show (n - (i + 1)).toNat < (n - i).toNat; omega⟩
    · rw [decide_eq_false hi]
      rw [List.drop_eq_nil_of_le (by rw [ho.1]; omega)] at hk
      exact hk
  · rename_i l o n s g i a0 a1
    obtain ⟨⟨h1, hn, h2, h3, h4, h5, h6, hA⟩, hk⟩ := h
    have ho : isOrd 2 (rowD l g.toNat) := ordE_ord h4
    rw [exrkdl2c l o n s g i a0 a1 _]
    by_cases hi : i < n
    · rw [decide_eq_true hi, cond_true]
      have w1 : IntKind.i64.wrap (i + 1) = i + 1 := wrap_id (by omega) (by omega)
      have hd := drop_step 0 (show i.toNat < (rowD l g.toNat).length by rw [ho.1]; omega)
      rw [show i.toNat + 1 = (i + 1).toNat by omega] at hd
      rw [hd] at hk
      simp only [cntI] at hk
      rw [w1]
      refine And.intro ⟨h1, hn, h2, h3, h4, h5, hi, by omega, by omega, okA_mono hA (by omega)⟩ ?_
      have hr : ∀ y ∈ (rowD l g.toNat).drop (i + 1).toNat, 0 ≤ y ∧ y < (2 : Int) := fun y hy => ho.2.1 y (List.mem_of_mem_drop hy)
      have hx := ho.2.1 _ (getD_mem (d := 0) (show i.toNat < (rowD l g.toNat).length by rw [ho.1]; omega))
      have hA2 := okA_j (r := (rowD l g.toNat).drop (i + 1).toNat) hA hx.1 hx.2 hr
      rw [List.length_drop, ho.1] at hA2
      have hlen := j_len ((rowD l g.toNat).getD i.toNat 0) ((rowD l g.toNat).drop (i + 1).toNat) [a0, a1]
      obtain ⟨b0, b1, hb⟩ := ll2 hlen
      rw [hb] at hk hA2 ⊢
      exact ⟨⟨⟨h1, hn, h2, h3, h4, by omega, by omega, okA_mono hA2 (by omega)⟩, hk⟩, by show (n - (i + 1)).toNat < (n - i).toNat; omega⟩
    · rw [decide_eq_false hi]
      rw [List.drop_eq_nil_of_le (by rw [ho.1]; omega)] at hk
      exact hk
  · rename_i l o n s g i a0 a1 a2
    obtain ⟨⟨h1, hn, h2, h3, h4, h5, h6, hA⟩, hk⟩ := h
    have ho : isOrd 3 (rowD l g.toNat) := ordE_ord h4
    rw [exrkdl2d l o n s g i a0 a1 a2 _]
    by_cases hi : i < n
    · rw [decide_eq_true hi, cond_true]
      have w1 : IntKind.i64.wrap (i + 1) = i + 1 := wrap_id (by omega) (by omega)
      have hd := drop_step 0 (show i.toNat < (rowD l g.toNat).length by rw [ho.1]; omega)
      rw [show i.toNat + 1 = (i + 1).toNat by omega] at hd
      rw [hd] at hk
      simp only [cntI] at hk
      rw [w1]
      refine And.intro ⟨h1, hn, h2, h3, h4, h5, hi, by omega, by omega, okA_mono hA (by omega)⟩ ?_
      have hr : ∀ y ∈ (rowD l g.toNat).drop (i + 1).toNat, 0 ≤ y ∧ y < (3 : Int) := fun y hy => ho.2.1 y (List.mem_of_mem_drop hy)
      have hx := ho.2.1 _ (getD_mem (d := 0) (show i.toNat < (rowD l g.toNat).length by rw [ho.1]; omega))
      have hA2 := okA_j (r := (rowD l g.toNat).drop (i + 1).toNat) hA hx.1 hx.2 hr
      rw [List.length_drop, ho.1] at hA2
      have hlen := j_len ((rowD l g.toNat).getD i.toNat 0) ((rowD l g.toNat).drop (i + 1).toNat) [a0, a1, a2]
      obtain ⟨b0, b1, b2, hb⟩ := ll3 hlen
      rw [hb] at hk hA2 ⊢
      exact ⟨⟨⟨h1, hn, h2, h3, h4, by omega, by omega, okA_mono hA2 (by omega)⟩, hk⟩, by show (n - (i + 1)).toNat < (n - i).toNat; omega⟩
    · rw [decide_eq_false hi]
      rw [List.drop_eq_nil_of_le (by rw [ho.1]; omega)] at hk
      exact hk
  · rename_i l o n s g i a0 a1 a2 a3
    obtain ⟨⟨h1, hn, h2, h3, h4, h5, h6, hA⟩, hk⟩ := h
    have ho : isOrd 4 (rowD l g.toNat) := ordE_ord h4
    rw [exrkdl2e l o n s g i a0 a1 a2 a3 _]
    by_cases hi : i < n
    · rw [decide_eq_true hi, cond_true]
      have w1 : IntKind.i64.wrap (i + 1) = i + 1 := wrap_id (by omega) (by omega)
      have hd := drop_step 0 (show i.toNat < (rowD l g.toNat).length by rw [ho.1]; omega)
      rw [show i.toNat + 1 = (i + 1).toNat by omega] at hd
      rw [hd] at hk
      simp only [cntI] at hk
      rw [w1]
      refine And.intro ⟨h1, hn, h2, h3, h4, h5, hi, by omega, by omega, okA_mono hA (by omega)⟩ ?_
      have hr : ∀ y ∈ (rowD l g.toNat).drop (i + 1).toNat, 0 ≤ y ∧ y < (4 : Int) := fun y hy => ho.2.1 y (List.mem_of_mem_drop hy)
      have hx := ho.2.1 _ (getD_mem (d := 0) (show i.toNat < (rowD l g.toNat).length by rw [ho.1]; omega))
      have hA2 := okA_j (r := (rowD l g.toNat).drop (i + 1).toNat) hA hx.1 hx.2 hr
      rw [List.length_drop, ho.1] at hA2
      have hlen := j_len ((rowD l g.toNat).getD i.toNat 0) ((rowD l g.toNat).drop (i + 1).toNat) [a0, a1, a2, a3]
      obtain ⟨b0, b1, b2, b3, hb⟩ := ll4 hlen
      rw [hb] at hk hA2 ⊢
      exact ⟨⟨⟨h1, hn, h2, h3, h4, by omega, by omega, okA_mono hA2 (by omega)⟩, hk⟩, by show (n - (i + 1)).toNat < (n - i).toNat; omega⟩
    · rw [decide_eq_false hi]
      rw [List.drop_eq_nil_of_le (by rw [ho.1]; omega)] at hk
      exact hk
  · rename_i l o n s g i a0 a1 a2 a3 a4
    obtain ⟨⟨h1, hn, h2, h3, h4, h5, h6, hA⟩, hk⟩ := h
    have ho : isOrd 5 (rowD l g.toNat) := ordE_ord h4
    rw [exrkdl2f l o n s g i a0 a1 a2 a3 a4 _]
    by_cases hi : i < n
    · rw [decide_eq_true hi, cond_true]
      have w1 : IntKind.i64.wrap (i + 1) = i + 1 := wrap_id (by omega) (by omega)
      have hd := drop_step 0 (show i.toNat < (rowD l g.toNat).length by rw [ho.1]; omega)
      rw [show i.toNat + 1 = (i + 1).toNat by omega] at hd
      rw [hd] at hk
      simp only [cntI] at hk
      rw [w1]
      refine And.intro ⟨h1, hn, h2, h3, h4, h5, hi, by omega, by omega, okA_mono hA (by omega)⟩ ?_
      have hr : ∀ y ∈ (rowD l g.toNat).drop (i + 1).toNat, 0 ≤ y ∧ y < (5 : Int) := fun y hy => ho.2.1 y (List.mem_of_mem_drop hy)
      have hx := ho.2.1 _ (getD_mem (d := 0) (show i.toNat < (rowD l g.toNat).length by rw [ho.1]; omega))
      have hA2 := okA_j (r := (rowD l g.toNat).drop (i + 1).toNat) hA hx.1 hx.2 hr
      rw [List.length_drop, ho.1] at hA2
      have hlen := j_len ((rowD l g.toNat).getD i.toNat 0) ((rowD l g.toNat).drop (i + 1).toNat) [a0, a1, a2, a3, a4]
      obtain ⟨b0, b1, b2, b3, b4, hb⟩ := ll5 hlen
      rw [hb] at hk hA2 ⊢
      exact ⟨⟨⟨h1, hn, h2, h3, h4, by omega, by omega, okA_mono hA2 (by omega)⟩, hk⟩, by show (n - (i + 1)).toNat < (n - i).toNat; omega⟩
    · rw [decide_eq_false hi]
      rw [List.drop_eq_nil_of_le (by rw [ho.1]; omega)] at hk
      exact hk
theorem lokrkd_1 : LoopOK Erkd (lb Try.f3 1) [0, 1, 5, 6, 8, 9] [0, 1, 4, 6, 8] rkK := by
  refine loopOK (.cons oktak (.cons okordC (.cons ok30 (.cons okclC (.cons okbest2 (.cons okbnd (.cons oklag .nil))))))) (fun b' hb => by
    have hl : loopsOf (lb Try.f3 1) = [lb Try.f3 2, lb Try.f3 3] := by kernel_rfl
    rw [hl] at hb
    simp only [List.mem_cons, List.not_mem_nil, or_false] at hb
    rcases hb with rfl | rfl
    · exact loopHyp_of (key := 18) (by kernel_rfl) rfl lokrkd_2
    · exact loopHyp_of (key := 21) (by kernel_rfl) rfl lokrkd_3) (fun vs σ => match vs, σ with
    | [.one (.data (.recs [.sints .i64] l)), .one (.data (.ints .i64 _)), .one (.int .i64 _), .one (.own 0 1), .one (.bool _), .one (.int .i64 h)], [.cells []] => (l.length - h).toNat
    | [.one (.data (.recs [.sints .i64] l)), .one (.data (.ints .i64 _)), .one (.int .i64 _), .one (.own 0 1), .one (.bool _), .one (.int .i64 h)], [.cells [.own 1 1], .row 3 (.ints .i64 _)] => (l.length - h).toNat
    | [.one (.data (.recs [.sints .i64] l)), .one (.data (.ints .i64 _)), .one (.int .i64 _), .one (.own 0 1), .one (.bool _), .one (.int .i64 h)], [.cells [.own 1 1, .own 2 1], .row 3 (.ints .i64 _), .row 3 (.ints .i64 _)] => (l.length - h).toNat
    | [.one (.data (.recs [.sints .i64] l)), .one (.data (.ints .i64 _)), .one (.int .i64 _), .one (.own 0 1), .one (.bool _), .one (.int .i64 h)], [.cells [.own 1 1, .own 2 1, .own 3 1], .row 3 (.ints .i64 _), .row 3 (.ints .i64 _), .row 3 (.ints .i64 _)] => (l.length - h).toNat
    | [.one (.data (.recs [.sints .i64] l)), .one (.data (.ints .i64 _)), .one (.int .i64 _), .one (.own 0 1), .one (.bool _), .one (.int .i64 h)], [.cells [.own 1 1, .own 2 1, .own 3 1, .own 4 1], .row 3 (.ints .i64 _), .row 3 (.ints .i64 _), .row 3 (.ints .i64 _), .row 3 (.ints .i64 _)] => (l.length - h).toNat
    | [.one (.data (.recs [.sints .i64] l)), .one (.data (.ints .i64 _)), .one (.int .i64 _), .one (.own 0 1), .one (.bool _), .one (.int .i64 h)], [.cells [.own 1 1, .own 2 1, .own 3 1, .own 4 1, .own 5 1], .row 3 (.ints .i64 _), .row 3 (.ints .i64 _), .row 3 (.ints .i64 _), .row 3 (.ints .i64 _), .row 3 (.ints .i64 _)] => (l.length - h).toNat
    | _, _ => 0) fun vs σ k h => ?_
  unfold rkK at h
  split at h
  rotate_right
  · exact h.elim
  · rename_i l o n s g 
    obtain ⟨⟨h1, hn, h2, h3, h4, hA⟩, hk⟩ := h
    rw [exrkdl1a l o n s g _]
    by_cases hi : g < (l.length : Int)
    · rw [decide_eq_true hi, decide_eq_true h2, decide_eq_true (show g.toNat < l.length by omega), decide_eq_true (show (0 : Int) < (l.length : Int) by omega), decide_eq_true (show 0 < l.length by omega), decide_eq_true (show 0 < 1 by decide), decide_eq_true (show (0 : Int) ≤ 0 by decide)]
      simp only [Bool.and_self, cond_true]
      rw [show ((l.getD g.toNat []).getD 0 (D.int 0)).toInts = rowD l g.toNat from rfl]
      have w1 : IntKind.i64.wrap (g + 1) = g + 1 := wrap_id (by omega) (by omega)
      have hd := drop_step [] (show g.toNat < l.length by omega)
      rw [show g.toNat + 1 = (g + 1).toNat by omega] at hd
      have hall : ordAll 0 (l.drop g.toNat) = (ordE 0 (rowD l g.toNat) == 0 && ordAll 0 (l.drop (g + 1).toNat)) := by rw [hd]; rfl
      have hsame : sameAll (rowD l 0) (l.drop g.toNat) = (rowD l g.toNat == rowD l 0 && sameAll (rowD l 0) (l.drop (g + 1).toNat)) := by rw [hd]; rfl
      cases he : (ordE 0 (rowD l g.toNat) != 0) with
      | true =>
        have he' : (ordE 0 (rowD l g.toNat) == 0) = false := by
          cases hq : (ordE 0 (rowD l g.toNat) == 0) with
          | true => unfold bne at he; rw [hq] at he; cases he
          | false => rfl
        rw [hall, he'] at hk
        exact hk s []
      | false =>
        have e0 : ordE 0 (rowD l g.toNat) = 0 := by simpa using he
        have ho : isOrd 0 (rowD l g.toNat) := ordE_ord e0
        rw [hall, e0, hsame] at hk
        rw [show ((0 : Int) == 0) = true from rfl, Bool.true_and] at hk
        rw [cond_false, w1]
        refine And.intro ⟨h1, hn, h2, hi, e0, by decide, by omega, okA_mono hA (by omega)⟩ ?_
        have hA2 : okA [] (25 * g) := hA
        have hmu : ((l.length : Int) - (g + 1)).toNat < ((l.length : Int) - g).toNat := by omega
        cases s with
        | true =>
          rw [Bool.true_and] at hk
          rw [cond_true]
          refine And.intro (by rw [ho.1]; decide) ?_
          exact ⟨⟨⟨h1, hn, by omega, by omega, h4, okA_mono hA2 (by omega)⟩, hk⟩, hmu⟩
        | false =>
          rw [Bool.false_and] at hk
          exact ⟨⟨⟨h1, hn, by omega, by omega, h4, okA_mono hA2 (by omega)⟩, by rw [Bool.false_and]; exact hk⟩, hmu⟩
    · rw [decide_eq_false hi]
      rw [List.drop_eq_nil_of_le (by omega)] at hk
      have e1 : ordAll 0 [] = true := rfl
      have e2 : sameAll (rowD l 0) [] = true := rfl
      rw [e1, e2, Bool.and_true] at hk
      exact hk
  · rename_i l o n s g a0
    obtain ⟨⟨h1, hn, h2, h3, h4, hA⟩, hk⟩ := h
    rw [exrkdl1b l o n s g a0 _]
    by_cases hi : g < (l.length : Int)
    · rw [decide_eq_true hi, decide_eq_true h2, decide_eq_true (show g.toNat < l.length by omega), decide_eq_true (show (0 : Int) < (l.length : Int) by omega), decide_eq_true (show 0 < l.length by omega), decide_eq_true (show 0 < 1 by decide), decide_eq_true (show (0 : Int) ≤ 0 by decide)]
      simp only [Bool.and_self, cond_true]
      rw [show ((l.getD g.toNat []).getD 0 (D.int 0)).toInts = rowD l g.toNat from rfl]
      have w1 : IntKind.i64.wrap (g + 1) = g + 1 := wrap_id (by omega) (by omega)
      have hd := drop_step [] (show g.toNat < l.length by omega)
      rw [show g.toNat + 1 = (g + 1).toNat by omega] at hd
      have hall : ordAll 1 (l.drop g.toNat) = (ordE 1 (rowD l g.toNat) == 0 && ordAll 1 (l.drop (g + 1).toNat)) := by rw [hd]; rfl
      have hsame : sameAll (rowD l 0) (l.drop g.toNat) = (rowD l g.toNat == rowD l 0 && sameAll (rowD l 0) (l.drop (g + 1).toNat)) := by rw [hd]; rfl
      cases he : (ordE 1 (rowD l g.toNat) != 0) with
      | true =>
        have he' : (ordE 1 (rowD l g.toNat) == 0) = false := by
          cases hq : (ordE 1 (rowD l g.toNat) == 0) with
          | true => unfold bne at he; rw [hq] at he; cases he
          | false => rfl
        rw [hall, he'] at hk
        exact hk s [a0]
      | false =>
        have e0 : ordE 1 (rowD l g.toNat) = 0 := by simpa using he
        have ho : isOrd 1 (rowD l g.toNat) := ordE_ord e0
        rw [hall, e0, hsame, hd] at hk
        rw [show ((0 : Int) == 0) = true from rfl, Bool.true_and] at hk
        simp only [cntK] at hk
        rw [show rowI (l.getD g.toNat []) = rowD l g.toNat from rfl] at hk
        rw [cond_false, w1]
        refine And.intro ⟨h1, hn, h2, hi, e0, by decide, by omega, okA_mono hA (by omega)⟩ ?_
        have hA2 := okA_i (r := rowD l g.toNat) hA ho.2.1 (by rw [ho.1]; decide)
        rw [ho.1] at hA2
        have hlen := i_len (rowD l g.toNat) [a0]
        obtain ⟨b0, hb⟩ := ll1 hlen
        rw [hb] at hk hA2 ⊢
        have hmu : ((l.length : Int) - (g + 1)).toNat < ((l.length : Int) - g).toNat := by omega
        cases s with
        | true =>
          rw [Bool.true_and] at hk
          rw [cond_true]
          refine And.intro (by rw [ho.1]; decide) ?_
          exact ⟨⟨⟨h1, hn, by omega, by omega, h4, okA_mono hA2 (by omega)⟩, hk⟩, hmu⟩
        | false =>
          rw [Bool.false_and] at hk
          exact ⟨⟨⟨h1, hn, by omega, by omega, h4, okA_mono hA2 (by omega)⟩, by rw [Bool.false_and]; exact hk⟩, hmu⟩
    · rw [decide_eq_false hi]
      rw [List.drop_eq_nil_of_le (by omega)] at hk
      have e1 : ordAll 1 [] = true := rfl
      have e2 : sameAll (rowD l 0) [] = true := rfl
      rw [e1, e2, Bool.and_true] at hk
      exact hk
  · rename_i l o n s g a0 a1
    obtain ⟨⟨h1, hn, h2, h3, h4, hA⟩, hk⟩ := h
    rw [exrkdl1c l o n s g a0 a1 _]
    by_cases hi : g < (l.length : Int)
    · rw [decide_eq_true hi, decide_eq_true h2, decide_eq_true (show g.toNat < l.length by omega), decide_eq_true (show (0 : Int) < (l.length : Int) by omega), decide_eq_true (show 0 < l.length by omega), decide_eq_true (show 0 < 1 by decide), decide_eq_true (show (0 : Int) ≤ 0 by decide)]
      simp only [Bool.and_self, cond_true]
      rw [show ((l.getD g.toNat []).getD 0 (D.int 0)).toInts = rowD l g.toNat from rfl]
      have w1 : IntKind.i64.wrap (g + 1) = g + 1 := wrap_id (by omega) (by omega)
      have hd := drop_step [] (show g.toNat < l.length by omega)
      rw [show g.toNat + 1 = (g + 1).toNat by omega] at hd
      have hall : ordAll 2 (l.drop g.toNat) = (ordE 2 (rowD l g.toNat) == 0 && ordAll 2 (l.drop (g + 1).toNat)) := by rw [hd]; rfl
      have hsame : sameAll (rowD l 0) (l.drop g.toNat) = (rowD l g.toNat == rowD l 0 && sameAll (rowD l 0) (l.drop (g + 1).toNat)) := by rw [hd]; rfl
      cases he : (ordE 2 (rowD l g.toNat) != 0) with
      | true =>
        have he' : (ordE 2 (rowD l g.toNat) == 0) = false := by
          cases hq : (ordE 2 (rowD l g.toNat) == 0) with
          | true => unfold bne at he; rw [hq] at he; cases he
          | false => rfl
        rw [hall, he'] at hk
        exact hk s [a0, a1]
      | false =>
        have e0 : ordE 2 (rowD l g.toNat) = 0 := by simpa using he
        have ho : isOrd 2 (rowD l g.toNat) := ordE_ord e0
        rw [hall, e0, hsame, hd] at hk
        rw [show ((0 : Int) == 0) = true from rfl, Bool.true_and] at hk
        simp only [cntK] at hk
        rw [show rowI (l.getD g.toNat []) = rowD l g.toNat from rfl] at hk
        rw [cond_false, w1]
        refine And.intro ⟨h1, hn, h2, hi, e0, by decide, by omega, okA_mono hA (by omega)⟩ ?_
        have hA2 := okA_i (r := rowD l g.toNat) hA ho.2.1 (by rw [ho.1]; decide)
        rw [ho.1] at hA2
        have hlen := i_len (rowD l g.toNat) [a0, a1]
        obtain ⟨b0, b1, hb⟩ := ll2 hlen
        rw [hb] at hk hA2 ⊢
        have hmu : ((l.length : Int) - (g + 1)).toNat < ((l.length : Int) - g).toNat := by omega
        cases s with
        | true =>
          rw [Bool.true_and] at hk
          rw [cond_true]
          refine And.intro (by rw [ho.1]; decide) ?_
          exact ⟨⟨⟨h1, hn, by omega, by omega, h4, okA_mono hA2 (by omega)⟩, hk⟩, hmu⟩
        | false =>
          rw [Bool.false_and] at hk
          exact ⟨⟨⟨h1, hn, by omega, by omega, h4, okA_mono hA2 (by omega)⟩, by rw [Bool.false_and]; exact hk⟩, hmu⟩
    · rw [decide_eq_false hi]
      rw [List.drop_eq_nil_of_le (by omega)] at hk
      have e1 : ordAll 2 [] = true := rfl
      have e2 : sameAll (rowD l 0) [] = true := rfl
      rw [e1, e2, Bool.and_true] at hk
      exact hk
  · rename_i l o n s g a0 a1 a2
    obtain ⟨⟨h1, hn, h2, h3, h4, hA⟩, hk⟩ := h
    rw [exrkdl1d l o n s g a0 a1 a2 _]
    by_cases hi : g < (l.length : Int)
    · rw [decide_eq_true hi, decide_eq_true h2, decide_eq_true (show g.toNat < l.length by omega), decide_eq_true (show (0 : Int) < (l.length : Int) by omega), decide_eq_true (show 0 < l.length by omega), decide_eq_true (show 0 < 1 by decide), decide_eq_true (show (0 : Int) ≤ 0 by decide)]
      simp only [Bool.and_self, cond_true]
      rw [show ((l.getD g.toNat []).getD 0 (D.int 0)).toInts = rowD l g.toNat from rfl]
      have w1 : IntKind.i64.wrap (g + 1) = g + 1 := wrap_id (by omega) (by omega)
      have hd := drop_step [] (show g.toNat < l.length by omega)
      rw [show g.toNat + 1 = (g + 1).toNat by omega] at hd
      have hall : ordAll 3 (l.drop g.toNat) = (ordE 3 (rowD l g.toNat) == 0 && ordAll 3 (l.drop (g + 1).toNat)) := by rw [hd]; rfl
      have hsame : sameAll (rowD l 0) (l.drop g.toNat) = (rowD l g.toNat == rowD l 0 && sameAll (rowD l 0) (l.drop (g + 1).toNat)) := by rw [hd]; rfl
      cases he : (ordE 3 (rowD l g.toNat) != 0) with
      | true =>
        have he' : (ordE 3 (rowD l g.toNat) == 0) = false := by
          cases hq : (ordE 3 (rowD l g.toNat) == 0) with
          | true => unfold bne at he; rw [hq] at he; cases he
          | false => rfl
        rw [hall, he'] at hk
        exact hk s [a0, a1, a2]
      | false =>
        have e0 : ordE 3 (rowD l g.toNat) = 0 := by simpa using he
        have ho : isOrd 3 (rowD l g.toNat) := ordE_ord e0
        rw [hall, e0, hsame, hd] at hk
        rw [show ((0 : Int) == 0) = true from rfl, Bool.true_and] at hk
        simp only [cntK] at hk
        rw [show rowI (l.getD g.toNat []) = rowD l g.toNat from rfl] at hk
        rw [cond_false, w1]
        refine And.intro ⟨h1, hn, h2, hi, e0, by decide, by omega, okA_mono hA (by omega)⟩ ?_
        have hA2 := okA_i (r := rowD l g.toNat) hA ho.2.1 (by rw [ho.1]; decide)
        rw [ho.1] at hA2
        have hlen := i_len (rowD l g.toNat) [a0, a1, a2]
        obtain ⟨b0, b1, b2, hb⟩ := ll3 hlen
        rw [hb] at hk hA2 ⊢
        have hmu : ((l.length : Int) - (g + 1)).toNat < ((l.length : Int) - g).toNat := by omega
        cases s with
        | true =>
          rw [Bool.true_and] at hk
          rw [cond_true]
          refine And.intro (by rw [ho.1]; decide) ?_
          exact ⟨⟨⟨h1, hn, by omega, by omega, h4, okA_mono hA2 (by omega)⟩, hk⟩, hmu⟩
        | false =>
          rw [Bool.false_and] at hk
          exact ⟨⟨⟨h1, hn, by omega, by omega, h4, okA_mono hA2 (by omega)⟩, by rw [Bool.false_and]; exact hk⟩, hmu⟩
    · rw [decide_eq_false hi]
      rw [List.drop_eq_nil_of_le (by omega)] at hk
      have e1 : ordAll 3 [] = true := rfl
      have e2 : sameAll (rowD l 0) [] = true := rfl
      rw [e1, e2, Bool.and_true] at hk
      exact hk
  · rename_i l o n s g a0 a1 a2 a3
    obtain ⟨⟨h1, hn, h2, h3, h4, hA⟩, hk⟩ := h
    rw [exrkdl1e l o n s g a0 a1 a2 a3 _]
    by_cases hi : g < (l.length : Int)
    · rw [decide_eq_true hi, decide_eq_true h2, decide_eq_true (show g.toNat < l.length by omega), decide_eq_true (show (0 : Int) < (l.length : Int) by omega), decide_eq_true (show 0 < l.length by omega), decide_eq_true (show 0 < 1 by decide), decide_eq_true (show (0 : Int) ≤ 0 by decide)]
      simp only [Bool.and_self, cond_true]
      rw [show ((l.getD g.toNat []).getD 0 (D.int 0)).toInts = rowD l g.toNat from rfl]
      have w1 : IntKind.i64.wrap (g + 1) = g + 1 := wrap_id (by omega) (by omega)
      have hd := drop_step [] (show g.toNat < l.length by omega)
      rw [show g.toNat + 1 = (g + 1).toNat by omega] at hd
      have hall : ordAll 4 (l.drop g.toNat) = (ordE 4 (rowD l g.toNat) == 0 && ordAll 4 (l.drop (g + 1).toNat)) := by rw [hd]; rfl
      have hsame : sameAll (rowD l 0) (l.drop g.toNat) = (rowD l g.toNat == rowD l 0 && sameAll (rowD l 0) (l.drop (g + 1).toNat)) := by rw [hd]; rfl
      cases he : (ordE 4 (rowD l g.toNat) != 0) with
      | true =>
        have he' : (ordE 4 (rowD l g.toNat) == 0) = false := by
          cases hq : (ordE 4 (rowD l g.toNat) == 0) with
          | true => unfold bne at he; rw [hq] at he; cases he
          | false => rfl
        rw [hall, he'] at hk
        exact hk s [a0, a1, a2, a3]
      | false =>
        have e0 : ordE 4 (rowD l g.toNat) = 0 := by simpa using he
        have ho : isOrd 4 (rowD l g.toNat) := ordE_ord e0
        rw [hall, e0, hsame, hd] at hk
        rw [show ((0 : Int) == 0) = true from rfl, Bool.true_and] at hk
        simp only [cntK] at hk
        rw [show rowI (l.getD g.toNat []) = rowD l g.toNat from rfl] at hk
        rw [cond_false, w1]
        refine And.intro ⟨h1, hn, h2, hi, e0, by decide, by omega, okA_mono hA (by omega)⟩ ?_
        have hA2 := okA_i (r := rowD l g.toNat) hA ho.2.1 (by rw [ho.1]; decide)
        rw [ho.1] at hA2
        have hlen := i_len (rowD l g.toNat) [a0, a1, a2, a3]
        obtain ⟨b0, b1, b2, b3, hb⟩ := ll4 hlen
        rw [hb] at hk hA2 ⊢
        have hmu : ((l.length : Int) - (g + 1)).toNat < ((l.length : Int) - g).toNat := by omega
        cases s with
        | true =>
          rw [Bool.true_and] at hk
          rw [cond_true]
          refine And.intro (by rw [ho.1]; decide) ?_
          exact ⟨⟨⟨h1, hn, by omega, by omega, h4, okA_mono hA2 (by omega)⟩, hk⟩, hmu⟩
        | false =>
          rw [Bool.false_and] at hk
          exact ⟨⟨⟨h1, hn, by omega, by omega, h4, okA_mono hA2 (by omega)⟩, by rw [Bool.false_and]; exact hk⟩, hmu⟩
    · rw [decide_eq_false hi]
      rw [List.drop_eq_nil_of_le (by omega)] at hk
      have e1 : ordAll 4 [] = true := rfl
      have e2 : sameAll (rowD l 0) [] = true := rfl
      rw [e1, e2, Bool.and_true] at hk
      exact hk
  · rename_i l o n s g a0 a1 a2 a3 a4
    obtain ⟨⟨h1, hn, h2, h3, h4, hA⟩, hk⟩ := h
    rw [exrkdl1f l o n s g a0 a1 a2 a3 a4 _]
    by_cases hi : g < (l.length : Int)
    · rw [decide_eq_true hi, decide_eq_true h2, decide_eq_true (show g.toNat < l.length by omega), decide_eq_true (show (0 : Int) < (l.length : Int) by omega), decide_eq_true (show 0 < l.length by omega), decide_eq_true (show 0 < 1 by decide), decide_eq_true (show (0 : Int) ≤ 0 by decide)]
      simp only [Bool.and_self, cond_true]
      rw [show ((l.getD g.toNat []).getD 0 (D.int 0)).toInts = rowD l g.toNat from rfl]
      have w1 : IntKind.i64.wrap (g + 1) = g + 1 := wrap_id (by omega) (by omega)
      have hd := drop_step [] (show g.toNat < l.length by omega)
      rw [show g.toNat + 1 = (g + 1).toNat by omega] at hd
      have hall : ordAll 5 (l.drop g.toNat) = (ordE 5 (rowD l g.toNat) == 0 && ordAll 5 (l.drop (g + 1).toNat)) := by rw [hd]; rfl
      have hsame : sameAll (rowD l 0) (l.drop g.toNat) = (rowD l g.toNat == rowD l 0 && sameAll (rowD l 0) (l.drop (g + 1).toNat)) := by rw [hd]; rfl
      cases he : (ordE 5 (rowD l g.toNat) != 0) with
      | true =>
        have he' : (ordE 5 (rowD l g.toNat) == 0) = false := by
          cases hq : (ordE 5 (rowD l g.toNat) == 0) with
          | true => unfold bne at he; rw [hq] at he; cases he
          | false => rfl
        rw [hall, he'] at hk
        exact hk s [a0, a1, a2, a3, a4]
      | false =>
        have e0 : ordE 5 (rowD l g.toNat) = 0 := by simpa using he
        have ho : isOrd 5 (rowD l g.toNat) := ordE_ord e0
        rw [hall, e0, hsame, hd] at hk
        rw [show ((0 : Int) == 0) = true from rfl, Bool.true_and] at hk
        simp only [cntK] at hk
        rw [show rowI (l.getD g.toNat []) = rowD l g.toNat from rfl] at hk
        rw [cond_false, w1]
        refine And.intro ⟨h1, hn, h2, hi, e0, by decide, by omega, okA_mono hA (by omega)⟩ ?_
        have hA2 := okA_i (r := rowD l g.toNat) hA ho.2.1 (by rw [ho.1]; decide)
        rw [ho.1] at hA2
        have hlen := i_len (rowD l g.toNat) [a0, a1, a2, a3, a4]
        obtain ⟨b0, b1, b2, b3, b4, hb⟩ := ll5 hlen
        rw [hb] at hk hA2 ⊢
        have hmu : ((l.length : Int) - (g + 1)).toNat < ((l.length : Int) - g).toNat := by omega
        cases s with
        | true =>
          rw [Bool.true_and] at hk
          rw [cond_true]
          refine And.intro (by rw [ho.1]; decide) ?_
          exact ⟨⟨⟨h1, hn, by omega, by omega, h4, okA_mono hA2 (by omega)⟩, hk⟩, hmu⟩
        | false =>
          rw [Bool.false_and] at hk
          exact ⟨⟨⟨h1, hn, by omega, by omega, h4, okA_mono hA2 (by omega)⟩, by rw [Bool.false_and]; exact hk⟩, hmu⟩
    · rw [decide_eq_false hi]
      rw [List.drop_eq_nil_of_le (by omega)] at hk
      have e1 : ordAll 5 [] = true := rfl
      have e2 : sameAll (rowD l 0) [] = true := rfl
      rw [e1, e2, Bool.and_true] at hk
      exact hk
theorem lokrkd_4 : LoopOK ErkdF0 (lb Try.f3 4) [0, 13, 17] [4] rkE := by
  refine loopOK (.cons oktak (.cons okordC (.cons ok30 (.cons okclC (.cons okbest2 (.cons okbnd (.cons oklag .nil))))))) (noInner (by kernel_rfl)) (fun vs σ => match vs, σ with
    | [.one (.data (.recs [.sints .i64] l)), .one (.int .i64 _), .one (.int .i64 h)], [] => (l.length - h).toNat
    | _, _ => 0) fun vs σ k h => ?_
  unfold rkE at h
  split at h
  rotate_right
  · exact h.elim
  rename_i l d g
  rw [exrkdl4a l d g _]
  obtain ⟨⟨h1, h2, h3, h4, h5⟩, hk⟩ := h
  by_cases hi : g < (l.length : Int)
  · have w1 : IntKind.i64.wrap (g + 1) = g + 1 := wrap_id (by omega) (by omega)
    rw [decide_eq_true hi, decide_eq_true h3, decide_eq_true (show g.toNat < l.length by omega), decide_eq_true (show 0 < 1 by decide), w1]
    simp only [Bool.and_self, cond_true]
    have hm : l.getD g.toNat [] ∈ l := getD_mem (by omega)
    rw [show ((l.getD g.toNat []).getD 0 (D.int 0)).toInts = rowI (l.getD g.toNat []) from rfl]
    refine And.intro ⟨h1, h2, h2 _ hm⟩ ?_
    rw [decide_eq_false (show ¬ agK (rowI (l.getD g.toNat [])) l < d by have := h5 _ hm; omega), cond_false]
    exact ⟨⟨⟨h1, h2, by omega, by omega, h5⟩, hk⟩, by show ((l.length : Int) - (g + 1)).toNat < ((l.length : Int) - g).toNat; omega⟩
  · rw [decide_eq_false hi]
    exact hk
end Go.Ev
