/-
  Chapter 1: the law that blocks are put together: the contract is kept.
-/
import Derived.Test.YtlejemnljojpgaaC1AD
import Derived.Test.YtlejemnljojpgaaC1AF
import Derived.Test.YtlejemnljojpgaaC1AB
set_option linter.unusedVariables false
set_option linter.unusedSimpArgs false
set_option linter.unusedSectionVars false
namespace Go.Ev
open Go Go.Proofs
attribute [local irreducible] evFn evBody evRound
set_option maxRecDepth 20000
set_option linter.unusedVariables false
set_option linter.unusedSimpArgs false
attribute [local irreducible] evStage evRest

theorem okboD : SpecOK Try.prog 34 boDS := by
  refine ok34.froze fun args σ K h => ?_
  unfold boDS at h
  split at h
  rotate_right
  · exact h.elim
  rename_i x ch c
  obtain ⟨h1, h⟩ := h
  refine ⟨rfl, h1, ?_⟩
  unfold boRows at h
  cases h0 : cutE x ch c == 0 with
  | false =>
    rw [h0] at h
    rw [cond_false]
    exact ⟨.tup [.one (.data (.mat .i64 11 [])), .one (.int .i64 (cutE x ch c))], ⟨.inr ⟨.mat .i64 11 [], rfl, rfl⟩, rfl, trivial⟩, h⟩
  | true =>
    rw [h0, cond_true] at h
    rw [cond_true]
    have e0 := beq_iff_eq.1 h0
    rw [e0] at h
    cases x with
    | nil => exact ⟨.tup [.one (.data (.mat .i64 11 [])), .one (.int .i64 0)], ⟨.inr ⟨.mat .i64 11 [], rfl, rfl⟩, rfl, trivial⟩, h⟩
    | cons y x => exact ⟨.tup [.one (.data (.mat .i64 11 (cutRows (y :: x) ch c))), .one (.int .i64 0)], ⟨⟨_, _, rfl, rfl, rfl⟩, rfl, trivial⟩, h⟩
theorem modB_range (a : Int) {b : Int} (h1 : 1 ≤ b) (h2 : b ≤ 1000) : 0 ≤ modB a b ∧ modB a b < b := by
  have hlt : a.tmod b < b := Int.tmod_lt_of_pos _ (by omega)
  have hgt : -b < a.tmod b := by
    have := Int.tmod_lt_of_pos (-a) (show 0 < b by omega)
    rw [Int.neg_tmod] at this
    omega
  unfold modB
  by_cases h : a.tmod b < 0
  · rw [decide_eq_true h, cond_true]
    have : wi (a.tmod b + b) = a.tmod b + b := wrap_id (by omega) (by omega)
    rw [this]
    omega
  · rw [decide_eq_false h, cond_false]
    omega
theorem ordR_step {l : List (List Int)} {n : Int} {o : List Int} {i : Nat} (hi : i < o.length) : ordR l n (o.take (i + 1)) = ordR l n (o.take i) ++ [l.getD (modB (o.getD i 0) n).toNat []] := by
  unfold ordR
  rw [List.take_succ_eq_append_getElem hi, List.map_append, List.getD_eq_getElem?_getD (l := o), List.getElem?_eq_getElem hi]
  rfl
theorem loktog_0 : LoopOK EtogF0 (lb Try.f12 0) [2, 7, 9, 10, 11] [10] togA := by
  refine loopOK (.cons ok15 (.cons ok36 (.cons ok35 (.cons okboD (.cons ok26 (.cons okcpb (.cons okstrD (.cons okmisD (.cons ok30 (.cons okrg (.cons ok25 .nil))))))))))) (noInner (by kernel_rfl)) (fun vs σ => match vs, σ with
    | [.one (.data (.ints .i64 o)), .one (.data (.mat .i64 11 _)), .one (.int .i64 _), .one .nil, .one (.int .i64 i)], [] => (o.length - i).toNat
    | [.one (.data (.ints .i64 o)), .one (.data (.mat .i64 11 _)), .one (.int .i64 _), .one (.own 0 11), .one (.int .i64 i)], [.row 37 (.mat .i64 11 _)] => (o.length - i).toNat
    | _, _ => 0) fun vs σ k h => ?_
  unfold togA at h
  split at h
  rotate_right
  · exact h.elim
  · rename_i o l n i
    rw [extogl0a o l n i _]
    obtain ⟨⟨⟨h1, h2, h3, h4, h5, h6, h7⟩, rfl⟩, h⟩ := h
    cases o with
    | nil => exact h
    | cons a o =>
      rw [List.isEmpty_cons, cond_false] at h
      obtain ⟨m1, m2⟩ := modB_range a h2 (by omega)
      have d1 : decide ((0 : Int) < ((a :: o).length : Int)) = true := decide_eq_true (by simp only [List.length_cons]; omega)
      have d2 : decide (Int.toNat 0 + 0 < (a :: o).length) = true := decide_eq_true (by simp)
      have e0 : (a :: o).getD (Int.toNat 0 + 0) 0 = a := rfl
      have d3 : decide (0 ≤ modB a n) = true := decide_eq_true m1
      have d4 : decide (modB a n < (l.length : Int)) = true := decide_eq_true (by omega)
      have hml : (modB a n).toNat < l.length := by omega
      have d5 : decide ((modB a n).toNat < l.length) = true := decide_eq_true hml
      have hw1 : IntKind.i64.wrap ((0 : Int) + 1) = 1 := by decide
      rw [e0, eta_row h5 hml, hw1]
      simp only [d1, d2, d3, d4, d5, show decide ((0 : Int) ≤ 0) = true by decide, show decide (10 < 11) = true by decide, Bool.and_self, cond_true]
      refine And.intro (by omega) ⟨⟨⟨⟨h1, h2, h3, h4, h5, by decide, by simp only [List.length_cons]; omega⟩, ?_⟩, h⟩, by simp only [List.length_cons]; omega⟩
      show _ = ordR l n [a]
      rfl
  · rename_i o l n i S
    rw [extogl0b o l n i S _]
    obtain ⟨⟨⟨h1, h2, h3, h4, h5, h6, h7⟩, rfl⟩, h⟩ := h
    by_cases hi : i < (o.length : Int)
    · have hil : i.toNat < o.length := by omega
      have hw : IntKind.i64.wrap (i + 1) = i + 1 := wrap_id (by omega) (by omega)
      obtain ⟨m1, m2⟩ := modB_range (o.getD i.toNat 0) h2 (by omega)
      have hml : (modB (o.getD i.toNat 0) n).toNat < l.length := by omega
      have d1 : decide (i < (o.length : Int)) = true := decide_eq_true hi
      have d2 : decide (0 ≤ i) = true := decide_eq_true h6
      have d3 : decide (i.toNat < o.length) = true := decide_eq_true hil
      have d4 : decide (0 ≤ modB (o.getD i.toNat 0) n) = true := decide_eq_true m1
      have d5 : decide (modB (o.getD i.toNat 0) n < (l.length : Int)) = true := decide_eq_true (by omega)
      have d6 : decide ((modB (o.getD i.toNat 0) n).toNat < l.length) = true := decide_eq_true hml
      have e1 : (i + 1).toNat = i.toNat + 1 := by omega
      have e0 : o.getD (i.toNat + 0) 0 = o.getD i.toNat 0 := rfl
      have d3' : decide (i.toNat + 0 < o.length) = true := d3
      rw [e0, eta_row h5 hml, hw, ← ordR_step hil]
      have hlen : (ordR l n (o.take (i.toNat + 1))).length = i.toNat + 1 := by unfold ordR; rw [List.length_map, List.length_take]; omega
      rw [hlen]
      simp only [d1, d2, d3, d3', d4, d5, d6, show decide (10 < 11) = true by decide, decide_eq_true (show (i.toNat + 1) * 88 ≤ 140737488355328 ∧ i.toNat + 1 ≤ 140737488355328 by omega), Bool.and_self, cond_true]
      refine And.intro (by omega) ⟨⟨⟨⟨h1, h2, h3, h4, h5, by omega, by omega⟩, by rw [e1]⟩, h⟩, by omega⟩
    · rw [decide_eq_false hi]
      have : i.toNat = o.length := by omega
      rw [this, List.take_length]
      exact h
theorem loktog_1 : LoopOK Etog (lb Try.f12 1) [2, 4, 9, 10, 12] [2, 4, 9, 10, 12] togB := by
  refine loopOK (.cons ok15 (.cons ok36 (.cons ok35 (.cons okboD (.cons ok26 (.cons okcpb (.cons okstrD (.cons okmisD (.cons ok30 (.cons okrg (.cons ok25 .nil))))))))))) (noInner (by kernel_rfl)) (fun vs σ => match vs, σ with
    | [.one (.data (.ints .i64 _)), .one (.ptr 0 1 0 0), .one (.int .i64 n), .one (.own 1 11), .one (.own 2 1)], [.cells [.int .i64 _, .int .i64 _], .row 37 (.mat .i64 11 _), .row 3 (.ints .i64 P)] => (8 * n - P.length).toNat
    | _, _ => 0) fun vs σ k h => ?_
  unfold togB at h
  split at h
  rotate_right
  · exact h.elim
  · rename_i o n ch c A P
    rw [extogl1a o n ch c A P _]
    obtain ⟨⟨h1, h2, h3⟩, h⟩ := h
    have hw : IntKind.i64.wrap (8 * n) = 8 * n := wrap_id (by omega) (by omega)
    rw [hw]
    by_cases hp : (P.length : Int) < 8 * n
    · have hl : (P ++ [0]).length = P.length + 1 := by simp
      rw [decide_eq_true hp, cond_true, hl, decide_eq_true (by omega), cond_true]
      refine ⟨⟨⟨h1, h2, by rw [hl]; omega⟩, ?_⟩, by show (8 * n - ((P ++ [0]).length : Int)).toNat < (8 * n - (P.length : Int)).toNat; rw [hl]; omega⟩
      have e : padR (P ++ [0]) n.toNat = padR P n.toNat := by
        unfold padR
        rw [hl, List.append_assoc, show 8 * n.toNat - P.length = (8 * n.toNat - (P.length + 1)) + 1 by omega, List.replicate_succ]
        rfl
      rw [e]
      exact h
    · rw [decide_eq_false hp]
      have e : padR P n.toNat = P := by
        unfold padR
        rw [show 8 * n.toNat - P.length = 0 by omega]; simp
      rw [e] at h
      exact h
theorem restR_step {A : List (List Int)} {q : Int} {i : Nat} (hi : i < A.length) : restR (A.drop i) q = bif (A.getD i []).getD 0 0 == q then restR (A.drop (i + 1)) q else A.getD i [] :: restR (A.drop (i + 1)) q := by
  unfold restR
  rw [List.drop_eq_getElem_cons hi, List.filter_cons, List.getD_eq_getElem?_getD (l := A), List.getElem?_eq_getElem hi]
  simp only [Option.getD_some]
  cases A[i].getD 0 0 == q <;> rfl
theorem loktog_2 : LoopOK EtogF2 (lb Try.f12 2) [4, 10, 17, 18, 19] [18] togC := by
  refine loopOK (.cons ok15 (.cons ok36 (.cons ok35 (.cons okboD (.cons ok26 (.cons okcpb (.cons okstrD (.cons okmisD (.cons ok30 (.cons okrg (.cons ok25 .nil))))))))))) (noInner (by kernel_rfl)) (fun vs σ => match vs, σ with
    | [.one (.ptr 0 1 0 0), .one (.own 1 11), .one (.int .i64 _), .one .nil, .one (.int .i64 i)], [.cells [.int .i64 _, .int .i64 _], .row 37 (.mat .i64 11 A)] => (A.length - i).toNat
    | [.one (.ptr 0 1 0 0), .one (.own 1 11), .one (.int .i64 _), .one (.own 2 11), .one (.int .i64 i)], [.cells [.int .i64 _, .int .i64 _], .row 37 (.mat .i64 11 A), .row 37 (.mat .i64 11 _)] => (A.length - i).toNat
    | _, _ => 0) fun vs σ k h => ?_
  unfold togC at h
  split at h
  rotate_right
  · exact h.elim
  · rename_i q i ch c A
    rw [extogl2a q i ch c A _]
    obtain ⟨⟨h1, h2, h3, h4, h5, h6, h7, h8⟩, h⟩ := h
    by_cases hi : i < (A.length : Int)
    · have hil : i.toNat < A.length := by omega
      have hw : IntKind.i64.wrap (i + 1) = i + 1 := wrap_id (by omega) (by omega)
      have hwc : IntKind.i64.wrap (c + q) = c + q := wrap_id (by omega) (by omega)
      have d1 : decide (i < (A.length : Int)) = true := decide_eq_true hi
      have d2 : decide (0 ≤ i) = true := decide_eq_true h3
      have d3 : decide (i.toNat < A.length) = true := decide_eq_true hil
      have e1 : (i + 1).toNat = i.toNat + 1 := by omega
      rw [restR_step hil] at h
      rw [hw, hwc, eta_row h2 hil]
      simp only [d1, d2, d3, show decide (0 < 11) = true by decide, show decide (10 < 11) = true by decide, Bool.and_self, cond_true]
      have hb : ((A.getD i.toNat []).getD 0 0 != c + q) = !((A.getD i.toNat []).getD 0 0 == c + q) := rfl
      rw [hb]
      cases hc : (A.getD i.toNat []).getD 0 0 == c + q with
      | true =>
        rw [hc, cond_true] at h
        exact ⟨⟨⟨h1, h2, by omega, by omega, h5, h6, h7, h8⟩, by rw [e1]; exact h⟩, by omega⟩
      | false =>
        rw [hc, cond_false, List.isEmpty_cons, cond_false] at h
        exact ⟨⟨⟨h1, h2, by omega, by omega, h5, h6, h7, h8, by simp; omega⟩, by rw [e1]; exact h⟩, by omega⟩
    · rw [decide_eq_false hi]
      rw [List.drop_eq_nil_of_le (by omega)] at h
      exact h
  · rename_i q i ch c A S
    rw [extogl2b q i ch c A S _]
    obtain ⟨⟨h1, h2, h3, h4, h5, h6, h7, h8, h9⟩, h⟩ := h
    by_cases hi : i < (A.length : Int)
    · have hil : i.toNat < A.length := by omega
      have hw : IntKind.i64.wrap (i + 1) = i + 1 := wrap_id (by omega) (by omega)
      have hwc : IntKind.i64.wrap (c + q) = c + q := wrap_id (by omega) (by omega)
      have d1 : decide (i < (A.length : Int)) = true := decide_eq_true hi
      have d2 : decide (0 ≤ i) = true := decide_eq_true h3
      have d3 : decide (i.toNat < A.length) = true := decide_eq_true hil
      have e1 : (i + 1).toNat = i.toNat + 1 := by omega
      rw [restR_step hil] at h
      rw [hw, hwc, eta_row h2 hil]
      simp only [d1, d2, d3, show decide (0 < 11) = true by decide, show decide (10 < 11) = true by decide, Bool.and_self, cond_true]
      have hb : ((A.getD i.toNat []).getD 0 0 != c + q) = !((A.getD i.toNat []).getD 0 0 == c + q) := rfl
      rw [hb]
      cases hc : (A.getD i.toNat []).getD 0 0 == c + q with
      | true =>
        rw [hc, cond_true] at h
        exact ⟨⟨⟨h1, h2, by omega, by omega, h5, h6, h7, h8, by omega⟩, by rw [e1]; exact h⟩, by omega⟩
      | false =>
        rw [hc, cond_false] at h
        have hl : (S ++ [A.getD i.toNat []]).length = S.length + 1 := by simp
        rw [Bool.not_false, cond_true, hl, decide_eq_true (by omega), cond_true]
        exact ⟨⟨⟨h1, h2, by omega, by omega, h5, h6, h7, h8, by rw [hl]; omega⟩, by rw [e1, List.append_assoc]; exact h⟩, by omega⟩
    · rw [decide_eq_false hi]
      rw [List.drop_eq_nil_of_le (by omega)] at h
      unfold restR at h
      rw [List.filter_nil, List.append_nil] at h
      exact h
theorem loktog_3 : LoopOK EtogF2 (lb Try.f12 3) [9, 12, 17, 20, 22] [6] togD := by
  refine loopOK (.cons ok15 (.cons ok36 (.cons ok35 (.cons okboD (.cons ok26 (.cons okcpb (.cons okstrD (.cons okmisD (.cons ok30 (.cons okrg (.cons ok25 .nil))))))))))) (noInner (by kernel_rfl)) (fun vs σ => match vs, σ with
    | [.one (.int .i64 n), .one (.own 0 1), .one (.int .i64 _), .one (.ptr 1 1 0 0), .one (.int .i64 i)], [.row 3 (.ints .i64 _), .cells [.int .i64 _, .data (.ints .i64 _), .data (.mat .i64 2 _)]] => (8 * n - i).toNat
    | _, _ => 0) fun vs σ k h => ?_
  unfold togD at h
  split at h
  rotate_right
  · exact h.elim
  · rename_i n q i P f U G
    rw [extogl3a n q i P f U G _]
    obtain ⟨⟨h1, h2, h3, h4, h5, h6, h7, h8, h9⟩, h⟩ := h
    have hw : IntKind.i64.wrap (8 * n) = 8 * n := wrap_id (by omega) (by omega)
    have hwq : IntKind.i64.wrap (8 * q) = 8 * q := wrap_id (by omega) (by omega)
    have hwq7 : IntKind.i64.wrap (8 * q + 7) = 8 * q + 7 := wrap_id (by omega) (by omega)
    rw [hw, hwq, hwq7]
    by_cases hi : i < 8 * n
    · have hw1 : IntKind.i64.wrap (i + 1) = i + 1 := wrap_id (by omega) (by omega)
      have d1 : decide (i < 8 * n) = true := decide_eq_true hi
      have d2 : decide (0 ≤ i) = true := decide_eq_true h5
      have d3 : decide (i < (P.length : Int)) = true := decide_eq_true (by omega)
      have d4 : decide (i.toNat < P.length) = true := decide_eq_true (by omega)
      have d5 : decide (i < (U.length : Int)) = true := decide_eq_true (by omega)
      have d6 : decide (i.toNat < U.length) = true := decide_eq_true (by omega)
      rw [hw1]
      simp only [d1, d2, d3, d4, d5, d6, Nat.add_zero, Bool.and_self, cond_true]
      have hc := h9 i.toNat (by omega)
      unfold chkT withinG at hc
      rw [show ((i.toNat : Nat) : Int) = i by omega] at hc
      have goal : togD [.one (.int .i64 n), .one (.own 0 1), .one (.int .i64 q), .one (.ptr 1 1 0 0), .one (.int .i64 (i + 1))] [.row 3 (.ints .i64 P), .cells [.int .i64 f, .data (.ints .i64 U), .data (.mat .i64 2 G)]] k ∧ (8 * n - (i + 1)).toNat < (8 * n - i).toNat := ⟨⟨⟨h1, h2, h3, h4, by omega, by omega, h7, h8, h9⟩, h⟩, by omega⟩
      cases hin : decide (8 * q ≤ i) && decide (i ≤ 8 * q + 7) with
      | true =>
        rw [hin, cond_true] at hc
        rw [cond_true, show (U.getD i.toNat 0 != 0) = false by rw [bne, hc]; rfl]
        exact goal
      | false =>
        rw [hin, cond_false] at hc
        rw [cond_false, show (U.getD i.toNat 0 != P.getD i.toNat 0) = false by rw [bne, hc]; rfl]
        exact goal
    · rw [decide_eq_false hi]
      exact h
theorem restR_mem {A : List (List Int)} {q : Int} {y : List Int} : y ∈ restR A q ↔ y ∈ A ∧ cnt y ≠ q := by
  unfold restR cnt
  rw [List.mem_filter]
  simp
theorem togC_ok (o P S M : List Int) (n ch c f : Int) (A G : List (List Int)) (a13 a14 a15 a16 a95 a96 a97 a98 a99 a100 a101 a102 a103 a104 a105 a106 a107 a108 a109 a110 a111 a112 a113 a114 a115 a116 a117 a118 a119 a120 a121 a122 a123 a124 a125 a126 a127 a128 a129 a130 a131 a132 a133 a134 a135 a136 a137 a138 a139 a140 a141 a142 a143 : AV) (K : AV → List Blk → Prop) {x : List Int} {cs : List (List Int)} {N : Nat} (C : Cut x ch c cs N) (hn : n = N) (h3 : 3 ≤ N) (hP : P = padR x N) (hA : ∀ a ∈ A, ∃ i, i < N ∧ a = rowI ch c cs i) (hl : A.length ≤ 40) (h1 : ∀ i, i < N → rowI ch c cs i ∈ A) (h : K (.one (.bool true)) []) :
    evRest Etog Try.f12 21 { t := ([AV.any, AV.any, AV.one (SV.data (Row.ints IntKind.i64 o)), AV.any, AV.one (SV.ptr (0 : Nat) (1 : Nat) (0 : Nat) (0 : Nat)), AV.any, AV.any, AV.any, AV.any, AV.one (SV.int IntKind.i64 n), AV.one (SV.own (1 : Nat) (11 : Nat)), AV.any, AV.one (SV.own (2 : Nat) (1 : Nat)), a13, a14, a15, a16, AV.any, AV.any, AV.any, AV.any, AV.any, AV.any, AV.any, AV.any, AV.any, AV.any, AV.any, AV.any, AV.any, AV.any, AV.any, AV.any, AV.any, AV.any, AV.any, AV.any, AV.any, AV.any, AV.any, AV.any, AV.any, AV.any, AV.any, AV.any, AV.any, AV.any, AV.any, AV.any, AV.any, AV.any, AV.any, AV.any, AV.any, AV.any, AV.any, AV.any, AV.any, AV.any, AV.any, AV.any, AV.any, AV.any, AV.any, AV.any, AV.any, AV.any, AV.any, AV.any, AV.any, AV.any, AV.any, AV.any, AV.any, AV.any, AV.any, AV.any, AV.any, AV.any, AV.any, AV.any, AV.any, AV.any, AV.any, AV.any, AV.any, AV.any, AV.any, AV.any, AV.any, AV.any, AV.any, AV.any, AV.any, AV.any, a95, a96, a97, a98, a99, a100, a101, a102, a103, a104, a105, a106, a107, a108, a109, a110, a111, a112, a113, a114, a115, a116, a117, a118, a119, a120, a121, a122, a123, a124, a125, a126, a127, a128, a129, a130, a131, a132, a133, a134, a135, a136, a137, a138, a139, a140, a141, a142, a143] ++ List.replicate 83 .any), σ := [Blk.cells [SV.int IntKind.i64 ch, SV.int IntKind.i64 c], Blk.row (37 : TypeId) (Row.mat IntKind.i64 (11 : Nat) A), Blk.row (3 : TypeId) (Row.ints IntKind.i64 P), Blk.dead, Blk.cells [SV.int IntKind.i64 f, SV.data (Row.ints IntKind.i64 S), SV.data (Row.mat IntKind.i64 (2 : Nat) G)], Blk.dead] } K := by
  rw [extogC (M := M)]
  subst hn; subst hP
  have hhi := C.hi
  obtain ⟨c1, c2⟩ := C.hc
  have hw : IntKind.i64.wrap ((N : Int) - 2) = N - 2 := wrap_id (by omega) (by omega)
  obtain ⟨m1, m2⟩ := modB_range (o.length : Int) (show 1 ≤ (N : Int) - 2 by omega) (by omega)
  have hw1 : IntKind.i64.wrap (1 + modB (o.length : Int) ((N : Int) - 2)) = 1 + modB (o.length : Int) ((N : Int) - 2) := wrap_id (by omega) (by omega)
  rw [hw, hw1]
  obtain ⟨q, hq⟩ : ∃ q : Nat, 1 + modB (o.length : Int) ((N : Int) - 2) = q := ⟨(1 + modB (o.length : Int) ((N : Int) - 2)).toNat, by omega⟩
  rw [hq]
  have hq1 : 1 ≤ q ∧ q ≤ N - 2 ∧ 3 ≤ N := by omega
  obtain ⟨t1, t2, t3, t4, t5, t6⟩ := C.lost (A := restR A (c + q)) hq1 (fun a ha => hA a (restR_mem.1 ha).1) (Nat.le_trans (List.length_filter_le _ _) hl) (fun i hi hne => restR_mem.2 ⟨h1 i hi, by rw [rowI_cnt]; omega⟩) (fun hm => (restR_mem.1 hm).2 (by rw [rowI_cnt]))
  have hall : A.all len11 = true := List.all_eq_true.2 fun a ha => by obtain ⟨i, _, rfl⟩ := hA a ha; exact rowI_len ch c cs i
  refine And.intro (by omega) (And.intro ⟨hl, hall, by decide, by omega, c1, by omega, by omega, by omega⟩ ?_)
  have he : (restR A (c + q)).isEmpty = false := by
    cases hr : restR A (c + q) with
    | nil => exact absurd hr t2
    | cons _ _ => rfl
  have hwN : IntKind.i64.wrap (8 * (N : Int)) = 8 * N := wrap_id (by omega) (by omega)
  have hwq : IntKind.i64.wrap (8 * (q : Int)) = 8 * q := wrap_id (by omega) (by omega)
  have hwq7 : IntKind.i64.wrap (8 * (q : Int) + 7) = 8 * q + 7 := wrap_id (by omega) (by omega)
  have hlen : (((stS (restR A (c + q)) ch).length : Int) != 8 * (N : Int)) = false := by
    rw [t4]
    have : ((8 * N : Nat) : Int) = 8 * (N : Int) := by omega
    rw [this]; simp
  rw [he, cond_false, t3, hwN, hwq, hwq7, hlen, t5]
  have hpl : (padR x N).length = 8 * N := by
    unfold padR
    have := C.xl
    simp; omega
  refine And.intro t1 ?_
  simp only [bne_self_eq_false, cond_false, beq_self_eq_true, Bool.not_true]
  refine And.intro ⟨by simp, rfl, rfl⟩ (And.intro ⟨by omega, by omega, by omega, by omega, Int.le_refl _, by omega, by rw [hpl, Int.toNat_natCast], by rw [t4, Int.toNat_natCast], fun j hj => t6 j (by simpa using hj)⟩ h)
theorem togC2_ok (o P S M : List Int) (n ch c f : Int) (A G : List (List Int)) (a13 a14 a15 a16 a95 a96 a97 a98 a99 a100 a101 a102 a103 a104 a105 a106 a107 a108 a109 a110 a111 a112 a113 a114 a115 a116 a117 a118 a119 a120 a121 a122 a123 a124 a125 a126 a127 a128 a129 a130 a131 a132 a133 a134 a135 a136 a137 a138 a139 a140 a141 a142 a143 : AV) (K : AV → List Blk → Prop) {x : List Int} {cs : List (List Int)} {N : Nat} (C : Cut x ch c cs N) (hn : n = N) (h3 : 3 ≤ N) (hP : P = padR x N) (hA : ∀ a ∈ A, ∃ i, i < N ∧ a = rowI ch c cs i) (hl : A.length ≤ 40) (h1 : ∀ i, i < N → rowI ch c cs i ∈ A) (h : K (.one (.bool true)) []) :
    evRest Etog Try.f12 21 { t := ([AV.any, AV.any, AV.one (SV.data (Row.ints IntKind.i64 o)), AV.any, AV.one (SV.ptr (0 : Nat) (1 : Nat) (0 : Nat) (0 : Nat)), AV.any, AV.any, AV.any, AV.any, AV.one (SV.int IntKind.i64 n), AV.one (SV.own (1 : Nat) (11 : Nat)), AV.any, AV.one (SV.own (2 : Nat) (1 : Nat)), a13, a14, a15, a16, AV.any, AV.any, AV.any, AV.any, AV.any, AV.any, AV.any, AV.any, AV.any, AV.any, AV.any, AV.any, AV.any, AV.any, AV.any, AV.any, AV.any, AV.any, AV.any, AV.any, AV.any, AV.any, AV.any, AV.any, AV.any, AV.any, AV.any, AV.any, AV.any, AV.any, AV.any, AV.any, AV.any, AV.any, AV.any, AV.any, AV.any, AV.any, AV.any, AV.any, AV.any, AV.any, AV.any, AV.any, AV.any, AV.any, AV.any, AV.any, AV.any, AV.any, AV.any, AV.any, AV.any, AV.any, AV.any, AV.any, AV.any, AV.any, AV.any, AV.any, AV.any, AV.any, AV.any, AV.any, AV.any, AV.any, AV.any, AV.any, AV.any, AV.any, AV.any, AV.any, AV.any, AV.any, AV.any, AV.any, AV.any, AV.any, a95, a96, a97, a98, a99, a100, a101, a102, a103, a104, a105, a106, a107, a108, a109, a110, a111, a112, a113, a114, a115, a116, a117, a118, a119, a120, a121, a122, a123, a124, a125, a126, a127, a128, a129, a130, a131, a132, a133, a134, a135, a136, a137, a138, a139, a140, a141, a142, a143] ++ List.replicate 83 .any), σ := [Blk.cells [SV.int IntKind.i64 ch, SV.int IntKind.i64 c], Blk.row (37 : TypeId) (Row.mat IntKind.i64 (11 : Nat) A), Blk.row (3 : TypeId) (Row.ints IntKind.i64 P), Blk.cells [SV.int IntKind.i64 f, SV.data (Row.ints IntKind.i64 S), SV.data (Row.mat IntKind.i64 (2 : Nat) G)], Blk.dead, Blk.dead] } K := by
  rw [extogC2 (M := M)]
  subst hn; subst hP
  have hhi := C.hi
  obtain ⟨c1, c2⟩ := C.hc
  have hw : IntKind.i64.wrap ((N : Int) - 2) = N - 2 := wrap_id (by omega) (by omega)
  obtain ⟨m1, m2⟩ := modB_range (o.length : Int) (show 1 ≤ (N : Int) - 2 by omega) (by omega)
  have hw1 : IntKind.i64.wrap (1 + modB (o.length : Int) ((N : Int) - 2)) = 1 + modB (o.length : Int) ((N : Int) - 2) := wrap_id (by omega) (by omega)
  rw [hw, hw1]
  obtain ⟨q, hq⟩ : ∃ q : Nat, 1 + modB (o.length : Int) ((N : Int) - 2) = q := ⟨(1 + modB (o.length : Int) ((N : Int) - 2)).toNat, by omega⟩
  rw [hq]
  have hq1 : 1 ≤ q ∧ q ≤ N - 2 ∧ 3 ≤ N := by omega
  obtain ⟨t1, t2, t3, t4, t5, t6⟩ := C.lost (A := restR A (c + q)) hq1 (fun a ha => hA a (restR_mem.1 ha).1) (Nat.le_trans (List.length_filter_le _ _) hl) (fun i hi hne => restR_mem.2 ⟨h1 i hi, by rw [rowI_cnt]; omega⟩) (fun hm => (restR_mem.1 hm).2 (by rw [rowI_cnt]))
  have hall : A.all len11 = true := List.all_eq_true.2 fun a ha => by obtain ⟨i, _, rfl⟩ := hA a ha; exact rowI_len ch c cs i
  refine And.intro (by omega) (And.intro ⟨hl, hall, by decide, by omega, c1, by omega, by omega, by omega⟩ ?_)
  have he : (restR A (c + q)).isEmpty = false := by
    cases hr : restR A (c + q) with
    | nil => exact absurd hr t2
    | cons _ _ => rfl
  have hwN : IntKind.i64.wrap (8 * (N : Int)) = 8 * N := wrap_id (by omega) (by omega)
  have hwq : IntKind.i64.wrap (8 * (q : Int)) = 8 * q := wrap_id (by omega) (by omega)
  have hwq7 : IntKind.i64.wrap (8 * (q : Int) + 7) = 8 * q + 7 := wrap_id (by omega) (by omega)
  have hlen : (((stS (restR A (c + q)) ch).length : Int) != 8 * (N : Int)) = false := by
    rw [t4]
    have : ((8 * N : Nat) : Int) = 8 * (N : Int) := by omega
    rw [this]; simp
  rw [he, cond_false, t3, hwN, hwq, hwq7, hlen, t5]
  have hpl : (padR x N).length = 8 * N := by
    unfold padR
    have := C.xl
    simp; omega
  refine And.intro t1 ?_
  simp only [bne_self_eq_false, cond_false, beq_self_eq_true, Bool.not_true]
  refine And.intro ⟨by simp, rfl, rfl⟩ (And.intro ⟨by omega, by omega, by omega, by omega, Int.le_refl _, by omega, by rw [hpl, Int.toNat_natCast], by rw [t4, Int.toNat_natCast], fun j hj => t6 j (by simpa using hj)⟩ h)
theorem togB_ok (o P : List Int) (n ch c : Int) (A : List (List Int)) (K : AV → List Blk → Prop) (B : St → Prop) {x : List Int} {cs : List (List Int)} {N : Nat} (C : Cut x ch c cs N) (hn : n = N) (hP : P = padR x N) (hA : ∀ a ∈ A, ∃ i, i < N ∧ a = rowI ch c cs i) (hl : A.length ≤ 40) (h1 : ∀ i, i < N → rowI ch c cs i ∈ A) (hB : B = fun s => evRest Etog Try.f12 21 s K) (h : K (.one (.bool true)) []) :
    evStage Etog Try.f12 15 6 { t := ([AV.any, AV.any, AV.one (SV.data (Row.ints IntKind.i64 o)), AV.any, AV.one (SV.ptr (0 : Nat) (1 : Nat) (0 : Nat) (0 : Nat)), AV.any, AV.any, AV.any, AV.any, AV.one (SV.int IntKind.i64 (n)), AV.one (SV.own (1 : Nat) (11 : Nat)), AV.any, AV.one (SV.own (2 : Nat) (1 : Nat))] ++ List.replicate 214 .any), σ := [Blk.cells [SV.int IntKind.i64 ch, SV.int IntKind.i64 c], Blk.row (37 : TypeId) (Row.mat IntKind.i64 (11 : Nat) (A)), Blk.row (3 : TypeId) (Row.ints IntKind.i64 (P))] } K B := by
  rw [extogB]
  obtain ⟨t1, t2, t3, t4, t5, t6⟩ := C.whole hA hl h1
  have hhi := C.hi
  have hpl : (padR x N).length ≤ 1000000000 := by
    unfold padR
    have := C.xl
    simp; omega
  subst hn; subst hP
  rw [t2, t3, t4, t5, t6]
  simp only [bne_self_eq_false, cond_false, beq_self_eq_true, Bool.not_true, List.length_nil, Int.natCast_zero]
  have hA' : A.length ≤ 1000 := by omega
  by_cases h3 : (N : Int) < 3
  · rw [decide_eq_true h3]
    simp only [cond_true]
    exact ⟨⟨hA', ⟨t1, hA', t1, hpl, h⟩, t1, hA', t1, hpl, h⟩, hA', t1, hA', t1, hpl, h⟩
  · rw [decide_eq_false h3]
    simp only [cond_false]
    subst hB
    have fin : ∀ s : St, True := fun _ => trivial
    exact ⟨⟨hA', ⟨t1, hA', t1, hpl, by show evRest Etog Try.f12 21 _ K; exact togC_ok _ _ _ [] _ _ _ _ _ _ _ _ _ _ _ _ _ _ _ _ _ _ _ _ _ _ _ _ _ _ _ _ _ _ _ _ _ _ _ _ _ _ _ _ _ _ _ _ _ _ _ _ _ _ _ _ _ _ _ _ _ _ _ _ C rfl (by omega) rfl hA hl h1 h⟩, t1, hA', t1, hpl, by show evRest Etog Try.f12 21 _ K; exact togC_ok _ _ _ [] _ _ _ _ _ _ _ _ _ _ _ _ _ _ _ _ _ _ _ _ _ _ _ _ _ _ _ _ _ _ _ _ _ _ _ _ _ _ _ _ _ _ _ _ _ _ _ _ _ _ _ _ _ _ _ _ _ _ _ _ C rfl (by omega) rfl hA hl h1 h⟩, hA', t1, hA', t1, hpl, by show evRest Etog Try.f12 21 _ K; exact togC2_ok _ _ _ [] _ _ _ _ _ _ _ _ _ _ _ _ _ _ _ _ _ _ _ _ _ _ _ _ _ _ _ _ _ _ _ _ _ _ _ _ _ _ _ _ _ _ _ _ _ _ _ _ _ _ _ _ _ _ _ _ _ _ _ _ C rfl (by omega) rfl hA hl h1 h⟩
theorem ordR_mem {l : List (List Int)} {n : Int} {o : List Int} (h1 : 1 ≤ n) (h2 : n ≤ 1000) (h3 : l.length = n) {a : List Int} (h : a ∈ ordR l n o) : a ∈ l := by
  obtain ⟨v, _, rfl⟩ := List.mem_map.1 h
  obtain ⟨m1, m2⟩ := modB_range v h1 h2
  rw [List.getD_eq_getElem?_getD, List.getElem?_eq_getElem (show (modB v n).toNat < l.length by omega)]
  exact List.getElem_mem _
theorem oktog : SpecOK Try.prog 12 togS := by
  refine specOKd (n := 227) (m := 0) (lps := [(11, .frm 0 [2, 7, 9, 10, 11] [10] togA), (16, .spec [2, 4, 9, 10, 12] [2, 4, 9, 10, 12] togB), (27, .frm 2 [4, 10, 17, 18, 19] [18] togC), (35, .frm 2 [9, 12, 17, 20, 22] [6] togD)]) [54, 55, 34] (.cons ok15 (.cons ok36 (.cons ok35 (.cons okboD (.cons ok26 (.cons okcpb (.cons okstrD (.cons okmisD (.cons ok30 (.cons okrg (.cons ok25 .nil))))))))))) Try.func12 (by kernel_rfl) (by kernel_rfl) (theLoops (n := 4) (by kernel_rfl) fun i hi => ?_) fun args σ K h => ?_
  · match i, hi with
    | 0, _ => exact loopHyp_frm (E' := EtogF0) (key := 11) (m := 0) (by kernel_rfl) rfl rfl loktog_0
    | 1, _ => exact loopHyp_of (key := 16) (by kernel_rfl) rfl loktog_1
    | 2, _ => exact loopHyp_frm (E' := EtogF2) (key := 27) (m := 2) (by kernel_rfl) rfl rfl loktog_2
    | 3, _ => exact loopHyp_frm (E' := EtogF2) (key := 35) (m := 2) (by kernel_rfl) rfl rfl loktog_3
  unfold togS at h
  split at h
  rotate_right
  · exact h.elim
  rename_i x ch c o
  rw [evFn_rest (by kernel_rfl) (by kernel_rfl), evRest_stage Etog Try.f12 0 15, extogA]
  by_cases hx0 : ((x.length : Int) == 0) = true
  · rw [hx0]; exact h
  · rw [Bool.eq_false_iff.2 hx0, cond_false]
    have hx0' : x.length ≠ 0 := fun e => hx0 (by rw [e]; rfl)
    by_cases hx1 : (x.length : Int) > 100
    · rw [decide_eq_true hx1]; exact h
    · rw [decide_eq_false hx1, cond_false]
      by_cases ho : (o.length : Int) > 20
      · rw [decide_eq_true ho]; exact h
      · rw [decide_eq_false ho, cond_false]
        refine And.intro (by omega) ?_
        by_cases hE : cutE x ch c = 0
        · have C := cut_of hE (by omega) (by omega)
          have hrows : boRows x ch c = blkRows ch c (chunkC x (countN x)) := by
            unfold boRows; rw [hE]; rfl
          have hr0 : (blkRows ch c (chunkC x (countN x))).length = countN x := by rw [(blkRows_len _ _ _).1, C.len]
          have hlo := C.lo
          have hhi := C.hi
          have hxl := C.xl
          have hNN : IntKind.i64.wrap ((IntKind.i64.wrap ((x.length : Int) + 7)).tdiv 8) = (countN x : Int) := by
            rw [wrap_id (n := (x.length : Int) + 7) (by omega) (by omega), Int.tdiv_eq_ediv_of_nonneg (by omega), wrap_id (by omega) (by omega)]
            unfold countN; omega
          rw [hNN, hrows, hE, hr0]
          simp only [bne_self_eq_false, cond_false, Int.toNat_natCast]
          have hall : (blkRows ch c (chunkC x (countN x))).all len11 = true := List.all_eq_true.2 fun a ha => by
            obtain ⟨i, _, rfl⟩ := blkRows_mem ha; exact rowI_len ch c _ i
          refine And.intro (by omega) (And.intro (by omega) (And.intro ⟨⟨by rw [hr0], by omega, by omega, by omega, hall, by decide, by omega⟩, trivial⟩ ?_))
          have hmem : ∀ a ∈ blkRows ch c (chunkC x (countN x)), ∃ i, i < countN x ∧ a = rowI ch c (chunkC x (countN x)) i := fun a ha => by
            obtain ⟨i, hi, e⟩ := blkRows_mem ha; exact ⟨i, by rw [← C.len]; exact hi, e⟩
          have hin : ∀ i, i < countN x → rowI ch c (chunkC x (countN x)) i ∈ blkRows ch c (chunkC x (countN x)) := fun i hi => rowI_mem (by rw [C.len]; exact hi)
          cases heo : o.isEmpty with
          | true =>
            rw [cond_true, decide_eq_true (show countN x * 88 ≤ 140737488355328 ∧ countN x ≤ 140737488355328 by omega), cond_true, decide_eq_false (show ¬ countN x = 0 by omega), cond_false]
            refine And.intro (by omega) (And.intro ⟨by omega, by omega, by omega⟩ ?_)
            show evRest Etog Try.f12 (0 + 15) _ K
            rw [evRest_stage Etog Try.f12 (0 + 15) 6]
            exact togB_ok _ _ _ _ _ _ _ _ C rfl rfl hmem (by omega) hin rfl h
          | false =>
            have hol : (ordR (blkRows ch c (chunkC x (countN x))) (countN x) o ++ blkRows ch c (chunkC x (countN x))).length ≤ 40 := by
              rw [List.length_append, hr0]; unfold ordR; rw [List.length_map]; omega
            rw [cond_false, decide_eq_true (show (ordR (blkRows ch c (chunkC x (countN x))) (countN x) o ++ blkRows ch c (chunkC x (countN x))).length * 88 ≤ 140737488355328 ∧ (ordR (blkRows ch c (chunkC x (countN x))) (countN x) o ++ blkRows ch c (chunkC x (countN x))).length ≤ 140737488355328 by omega), cond_true]
            refine And.intro (by omega) (And.intro ⟨by omega, by omega, by omega⟩ ?_)
            show evRest Etog Try.f12 (0 + 15) _ K
            rw [evRest_stage Etog Try.f12 (0 + 15) 6]
            refine togB_ok _ _ _ _ _ _ _ _ C rfl rfl (fun a ha => ?_) hol (fun i hi => List.mem_append_right _ (hin i hi)) rfl h
            rcases List.mem_append.1 ha with ha | ha
            · exact hmem a (ordR_mem (by omega) (by omega) (by rw [hr0]) ha)
            · exact hmem a ha
        · rw [show (cutE x ch c != 0) = true by simpa using hE]
          exact h
end Go.Ev
