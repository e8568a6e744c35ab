/-
  Part of the proof of a law.
-/
import Derived.Test.YtophekjofpahfaaC9RB
import Derived.Test.YtophekjofpahfaaC9RK
set_option linter.unusedVariables false
set_option linter.unusedSimpArgs false
set_option linter.unusedSectionVars false
/-
  Chapter 9: the layer's law of listeners' orders: the contract is kept.
-/
namespace Go.Ev
open Go Go.Proofs
attribute [local irreducible] evFn evBody evRound
attribute [local irreducible] evStage evRest
set_option maxRecDepth 20000
set_option linter.unusedVariables false
set_option linter.unusedSimpArgs false
theorem zero_sq (n : Nat) : sqA n (List.replicate n (List.replicate n 0)) := ⟨List.length_replicate, fun r hr => by rw [List.eq_of_mem_replicate hr]; exact List.length_replicate⟩
theorem zero_cel (n : Nat) (u v : Int) : celA (List.replicate n (List.replicate n 0)) u v = 0 := by
  unfold celA
  by_cases h : u.toNat < n
  · have e : (List.replicate n (List.replicate n (0 : Int))).getD u.toNat [] = List.replicate n 0 := by
      rw [List.getD, List.getElem?_replicate, if_pos h]; rfl
    rw [e, List.getD, List.getElem?_replicate]
    split <;> rfl
  · have e : (List.replicate n (List.replicate n (0 : Int))).getD u.toNat [] = [] := by
      rw [List.getD, List.getElem?_replicate, if_neg h]; rfl
    rw [e]; rfl
theorem k_len : ∀ (l : List (List D)) (A : List (List Int)), (cntK A l).length = A.length
  | [], _ => rfl
  | d :: l, A => by simp only [cntK]; rw [k_len l, i_len]
theorem ordAll_mem {n : Int} {l : List (List D)} (h : ordAll n l = true) : ∀ d ∈ l, ordE n (rowI d) = 0 := fun d hd => by
  have := List.all_eq_true.1 h d hd
  exact eq_of_beq this
theorem rhsE_ok {n : Nat} {p l : List (List D)} {o : List Int} {K : AV → List Blk → Prop} (hn : n ≤ 5) (h9 : l.length ≤ 9) (hl : ∀ d ∈ l, ordE (n : Int) (rowI d) = 0) (hm : ∀ o, ordE (n : Int) o = 0 → bsN p ≤ agK o l) (h : K (.one (.bool true)) []) : rhsE n p l o K := by
  have h8 : ∀ x ∈ l, (rowI x).length ≤ 8 := fun x hx => by rw [(ordE_ord (hl x hx)).1]; omega
  refine And.intro ⟨h9, h8, by decide, by omega, fun x hx => hm _ (hl x hx)⟩ ?_
  by_cases ho : (o.length : Int) > 8
  · rw [decide_eq_true ho]; exact h
  · rw [decide_eq_false ho, cond_false]
    cases he : (ordE (n : Int) o != 0) with
    | true => exact h
    | false =>
      have e0 : ordE (n : Int) o = 0 := by simpa using he
      rw [cond_false, decide_eq_true (show agK o l ≥ bsN p from hm o e0)]
      exact ⟨⟨h9, h8, by omega⟩, h⟩
theorem rhsT_ok {n : Nat} {p l : List (List D)} {o : List Int} {s : Bool} {K : AV → List Blk → Prop} (hn : n ≤ 5) (h1 : 1 ≤ l.length) (h9 : l.length ≤ 9) (hl : ∀ d ∈ l, ordE (n : Int) (rowI d) = 0)
    (f : prefE p = 0 ∧ ordE (n : Int) (bsO p) = 0 ∧ bsN p = agK (bsO p) l ∧ bdV p ≤ bsN p ∧ (∀ o, ordE (n : Int) o = 0 → bsN p ≤ agK o l) ∧ (s = true → bsN p = 0 ∧ bdV p = 0 ∧ bsO p = rowD l 0)) (h : K (.one (.bool true)) []) : rhsT n p l o s K := by
  obtain ⟨f1, f2, f3, f4, f5, f6⟩ := f
  have h8 : ∀ x ∈ l, (rowI x).length ≤ 8 := fun x hx => by rw [(ordE_ord (hl x hx)).1]; omega
  have hE := rhsE_ok (o := o) hn h9 hl f5 h
  have hb := (ordE_ord f2).1
  unfold rhsT
  rw [f1, f2, bne_self_eq_false, cond_false, cond_false, cond_false]
  refine And.intro ⟨h9, h8, by omega⟩ ?_
  rw [f3, bne_self_eq_false, cond_false, ← f3, decide_eq_false (show ¬ bdV p > bsN p by omega), cond_false]
  cases s with
  | false => exact hE
  | true =>
    obtain ⟨g1, g2, g3⟩ := f6 rfl
    rw [cond_true, g1, g2, bne_self_eq_false, cond_false, cond_false, decide_eq_true (show (0 : Int) ≤ 0 by decide), decide_eq_true (show (0 : Int) < (l.length : Int) by omega), decide_eq_true (show 0 < l.length by omega), decide_eq_true (show 0 < 1 by decide)]
    simp only [Bool.and_self, cond_true]
    refine And.intro (by omega) ?_
    rw [show ((l.getD 0 []).getD 0 (D.int 0)).toInts = rowD l 0 from rfl, g3, beq_self_eq_true]
    exact hE
theorem tD0 {l : List (List D)} {o : List Int} {s : Bool} {K : AV → List Blk → Prop} (h1 : 1 ≤ l.length) (h9 : l.length ≤ 9) (hl : ordAll 0 l = true) (hs : s = sameAll (rowD l 0) l) (hb : cntK ([] : List (List Int)) l = []) (h : K (.one (.bool true)) []) : evRest Erkd Try.f3 12 { t := ([AV.one (SV.data (Row.recs [CK.sints IntKind.i64] l)), AV.one (SV.data (Row.ints IntKind.i64 o)), AV.any, AV.any, AV.any, AV.any, AV.one (SV.own (0 : Nat) (1 : Nat)), AV.any, AV.one (SV.bool s)] ++ List.replicate 200 .any), σ := [.cells []] } K := by
  rw [exD0 l o s K]
  have hl' := ordAll_mem hl
  have f := rank_facts (n := 0) (by decide) (zero_sq 0) (zero_cel 0) (l := l) (fun d hd => ordE_ord (c := 0) (hl' d hd)) h9
  rw [show List.replicate 0 (List.replicate 0 (0 : Int)) = [] from rfl, hb] at f
  have hT := rhsT_ok (n := 0) (p := rowsD []) (o := o) (s := s) (by decide) h1 h9 hl' ⟨f.1, f.2.1, f.2.2.1, f.2.2.2.1, f.2.2.2.2.1, fun e => f.2.2.2.2.2 h1 (by rw [← hs]; exact e)⟩ h
  exact ⟨by simp, by simp, hT⟩
theorem tC0 {l : List (List D)} {o : List Int} {a7 a18 a19 a20 a21 a22 a23 a24 a25 a26 a27 a28 a29 a30 a31 a32 a33 a34 a35 a36 a37 a38 a39 a40 a41 a42 a43 : AV} {K : AV → List Blk → Prop} (h1 : 1 ≤ l.length) (h9 : l.length ≤ 9) (h : K (.one (.bool true)) []) : evRest Erkd Try.f3 11 { t := ([AV.one (SV.data (Row.recs [CK.sints IntKind.i64] l)), AV.one (SV.data (Row.ints IntKind.i64 o)), AV.any, AV.any, AV.one (SV.bool false), AV.one (SV.int IntKind.i64 (0 : Int)), AV.one (SV.own (0 : Nat) (1 : Nat)), a7, AV.one (SV.bool true), AV.one (SV.int IntKind.i64 (0 : Int)), AV.any, AV.any, AV.any, AV.any, AV.any, AV.any, AV.any, AV.any, a18, a19, a20, a21, a22, a23, a24, a25, a26, a27, a28, a29, a30, a31, a32, a33, a34, a35, a36, a37, a38, a39, a40, a41, a42, a43] ++ List.replicate 165 .any), σ := [.cells []] } K := by
  rw [evRest_stage Erkd Try.f3 11 1, exrkdC0]
  refine And.intro ⟨h9, rfl, by decide, by omega, h1, ?_⟩ ?_
  · exact fun r hr => by
      rw [show ([] : List (List Int)) = List.replicate 0 (List.replicate 0 0) from rfl] at hr ⊢
      rw [List.eq_of_mem_replicate hr]
      exact ⟨by simp, fun x hx => by rw [List.eq_of_mem_replicate hx]; decide⟩
  · cases hl : ordAll 0 l with
    | false => exact fun z X => h
    | true =>
      obtain hb := ll0 (k_len l [])
      show evRest Erkd Try.f3 12 _ K
      exact tD0 h1 h9 hl rfl hb h
theorem tB0 {l : List (List D)} {o : List Int} {a18 a19 a20 a21 a22 a23 a24 a25 a26 a27 a28 a29 a30 a31 a32 a33 a34 a35 a36 a37 a38 a39 a40 : AV} {K : AV → List Blk → Prop} (h1 : 1 ≤ l.length) (h9 : l.length ≤ 9) (h : K (.one (.bool true)) []) : evRest Erkd Try.f3 7 { t := ([AV.one (SV.data (Row.recs [CK.sints IntKind.i64] l)), AV.one (SV.data (Row.ints IntKind.i64 o)), AV.any, AV.any, AV.one (SV.bool false), AV.one (SV.int IntKind.i64 0), AV.one (SV.own 0 (1 : Nat)), AV.any, AV.any, AV.any, AV.any, AV.any, AV.any, AV.any, AV.any, AV.any, AV.any, AV.any, a18, a19, a20, a21, a22, a23, a24, a25, a26, a27, a28, a29, a30, a31, a32, a33, a34, a35, a36, a37, a38, a39, a40] ++ List.replicate 168 .any), σ := [.cells []] } K := by
  rw [evRest_stage Erkd Try.f3 7 4, exrkdB0]
  show evRest Erkd Try.f3 11 _ K
  exact tC0 h1 h9 h
theorem tD1 {l : List (List D)} {o : List Int} {s : Bool} {b0 : List Int} {K : AV → List Blk → Prop} (h1 : 1 ≤ l.length) (h9 : l.length ≤ 9) (hl : ordAll 1 l = true) (hs : s = sameAll (rowD l 0) l) (hb : cntK ([[0]] : List (List Int)) l = [b0]) (h : K (.one (.bool true)) []) : evRest Erkd Try.f3 12 { t := ([AV.one (SV.data (Row.recs [CK.sints IntKind.i64] l)), AV.one (SV.data (Row.ints IntKind.i64 o)), AV.any, AV.any, AV.any, AV.any, AV.one (SV.own (0 : Nat) (1 : Nat)), AV.any, AV.one (SV.bool s)] ++ List.replicate 200 .any), σ := [.cells [.own 1 1], .row 3 (.ints .i64 b0)] } K := by
  rw [exD1 l o s b0 K]
  have hl' := ordAll_mem hl
  have f := rank_facts (n := 1) (by decide) (zero_sq 1) (zero_cel 1) (l := l) (fun d hd => ordE_ord (c := 1) (hl' d hd)) h9
  rw [show List.replicate 1 (List.replicate 1 (0 : Int)) = [[0]] from rfl, hb] at f
  have hT := rhsT_ok (n := 1) (p := rowsD [b0]) (o := o) (s := s) (by decide) h1 h9 hl' ⟨f.1, f.2.1, f.2.2.1, f.2.2.2.1, f.2.2.2.2.1, fun e => f.2.2.2.2.2 h1 (by rw [← hs]; exact e)⟩ h
  have hq := (cnt_k l _ (zero_sq 1) fun d hd => ordE_ord (c := 1) (hl' d hd)).1
  rw [show List.replicate 1 (List.replicate 1 (0 : Int)) = [[0]] from rfl, hb] at hq
  have hlen : ∀ b ∈ [b0], List.length b ≤ 1000000 := fun b hb => by rw [hq.2 b hb]; decide
  have hL : b0.length ≤ 1000000 ∧ True := ⟨hlen _ (by simp), trivial⟩
  exact ⟨hL.1, by simp, hL.1, by simp, hT⟩
theorem tC1 {l : List (List D)} {o : List Int} {a7 a18 a19 a20 a21 a22 a23 a24 a25 a26 a27 a28 a29 a30 a31 a32 a33 a34 a35 a36 a37 a38 a39 a40 a41 a42 a43 a44 a45 a46 a47 a48 a49 a50 : AV} {K : AV → List Blk → Prop} (h1 : 1 ≤ l.length) (h9 : l.length ≤ 9) (h : K (.one (.bool true)) []) : evRest Erkd Try.f3 11 { t := ([AV.one (SV.data (Row.recs [CK.sints IntKind.i64] l)), AV.one (SV.data (Row.ints IntKind.i64 o)), AV.any, AV.any, AV.one (SV.bool false), AV.one (SV.int IntKind.i64 (1 : Int)), AV.one (SV.own (0 : Nat) (1 : Nat)), a7, AV.one (SV.bool true), AV.one (SV.int IntKind.i64 (0 : Int)), AV.any, AV.any, AV.any, AV.any, AV.any, AV.any, AV.any, AV.any, a18, a19, a20, a21, a22, a23, a24, a25, a26, a27, a28, a29, a30, a31, a32, a33, a34, a35, a36, a37, a38, a39, a40, a41, a42, a43, a44, a45, a46, a47, a48, a49, a50] ++ List.replicate 158 .any), σ := [.cells [.own 1 1], .row 3 (.ints .i64 [0])] } K := by
  rw [evRest_stage Erkd Try.f3 11 1, exrkdC1]
  refine And.intro ⟨h9, rfl, by decide, by omega, h1, ?_⟩ ?_
  · exact fun r hr => by
      rw [show ([[0]] : List (List Int)) = List.replicate 1 (List.replicate 1 0) from rfl] at hr ⊢
      rw [List.eq_of_mem_replicate hr]
      exact ⟨by simp, fun x hx => by rw [List.eq_of_mem_replicate hx]; decide⟩
  · cases hl : ordAll 1 l with
    | false => exact fun z X => h
    | true =>
      obtain ⟨b0, hb⟩ := ll1 (k_len l [[0]])
      show evRest Erkd Try.f3 12 _ K
      rw [hb]
      exact tD1 h1 h9 hl rfl hb h
theorem tB1 {l : List (List D)} {o : List Int} {a18 a19 a20 a21 a22 a23 a24 a25 a26 a27 a28 a29 a30 a31 a32 a33 a34 a35 a36 a37 a38 a39 a40 : AV} {K : AV → List Blk → Prop} (h1 : 1 ≤ l.length) (h9 : l.length ≤ 9) (h : K (.one (.bool true)) []) : evRest Erkd Try.f3 7 { t := ([AV.one (SV.data (Row.recs [CK.sints IntKind.i64] l)), AV.one (SV.data (Row.ints IntKind.i64 o)), AV.any, AV.any, AV.one (SV.bool false), AV.one (SV.int IntKind.i64 1), AV.one (SV.own 0 (1 : Nat)), AV.any, AV.any, AV.any, AV.any, AV.any, AV.any, AV.any, AV.any, AV.any, AV.any, AV.any, a18, a19, a20, a21, a22, a23, a24, a25, a26, a27, a28, a29, a30, a31, a32, a33, a34, a35, a36, a37, a38, a39, a40] ++ List.replicate 168 .any), σ := [.cells [.nil]] } K := by
  rw [evRest_stage Erkd Try.f3 7 4, exrkdB1]
  show evRest Erkd Try.f3 11 _ K
  exact tC1 h1 h9 h
theorem tD2 {l : List (List D)} {o : List Int} {s : Bool} {b0 b1 : List Int} {K : AV → List Blk → Prop} (h1 : 1 ≤ l.length) (h9 : l.length ≤ 9) (hl : ordAll 2 l = true) (hs : s = sameAll (rowD l 0) l) (hb : cntK ([[0, 0], [0, 0]] : List (List Int)) l = [b0, b1]) (h : K (.one (.bool true)) []) : evRest Erkd Try.f3 12 { t := ([AV.one (SV.data (Row.recs [CK.sints IntKind.i64] l)), AV.one (SV.data (Row.ints IntKind.i64 o)), AV.any, AV.any, AV.any, AV.any, AV.one (SV.own (0 : Nat) (1 : Nat)), AV.any, AV.one (SV.bool s)] ++ List.replicate 200 .any), σ := [.cells [.own 1 1, .own 2 1], .row 3 (.ints .i64 b0), .row 3 (.ints .i64 b1)] } K := by
  rw [exD2 l o s b0 b1 K]
  have hl' := ordAll_mem hl
  have f := rank_facts (n := 2) (by decide) (zero_sq 2) (zero_cel 2) (l := l) (fun d hd => ordE_ord (c := 2) (hl' d hd)) h9
  rw [show List.replicate 2 (List.replicate 2 (0 : Int)) = [[0, 0], [0, 0]] from rfl, hb] at f
  have hT := rhsT_ok (n := 2) (p := rowsD [b0, b1]) (o := o) (s := s) (by decide) h1 h9 hl' ⟨f.1, f.2.1, f.2.2.1, f.2.2.2.1, f.2.2.2.2.1, fun e => f.2.2.2.2.2 h1 (by rw [← hs]; exact e)⟩ h
  have hq := (cnt_k l _ (zero_sq 2) fun d hd => ordE_ord (c := 2) (hl' d hd)).1
  rw [show List.replicate 2 (List.replicate 2 (0 : Int)) = [[0, 0], [0, 0]] from rfl, hb] at hq
  have hlen : ∀ b ∈ [b0, b1], List.length b ≤ 1000000 := fun b hb => by rw [hq.2 b hb]; decide
  have hL : b0.length ≤ 1000000 ∧ b1.length ≤ 1000000 := ⟨hlen _ (by simp), hlen _ (by simp)⟩
  exact ⟨hL, by simp, hL, by simp, hT⟩
theorem tC2 {l : List (List D)} {o : List Int} {a7 a18 a19 a20 a21 a22 a23 a24 a25 a26 a27 a28 a29 a30 a31 a32 a33 a34 a35 a36 a37 a38 a39 a40 a41 a42 a43 a44 a45 a46 a47 a48 a49 a50 : AV} {K : AV → List Blk → Prop} (h1 : 1 ≤ l.length) (h9 : l.length ≤ 9) (h : K (.one (.bool true)) []) : evRest Erkd Try.f3 11 { t := ([AV.one (SV.data (Row.recs [CK.sints IntKind.i64] l)), AV.one (SV.data (Row.ints IntKind.i64 o)), AV.any, AV.any, AV.one (SV.bool false), AV.one (SV.int IntKind.i64 (2 : Int)), AV.one (SV.own (0 : Nat) (1 : Nat)), a7, AV.one (SV.bool true), AV.one (SV.int IntKind.i64 (0 : Int)), AV.any, AV.any, AV.any, AV.any, AV.any, AV.any, AV.any, AV.any, a18, a19, a20, a21, a22, a23, a24, a25, a26, a27, a28, a29, a30, a31, a32, a33, a34, a35, a36, a37, a38, a39, a40, a41, a42, a43, a44, a45, a46, a47, a48, a49, a50] ++ List.replicate 158 .any), σ := [.cells [.own 1 1, .own 2 1], .row 3 (.ints .i64 [0, 0]), .row 3 (.ints .i64 [0, 0])] } K := by
  rw [evRest_stage Erkd Try.f3 11 1, exrkdC2]
  refine And.intro ⟨h9, rfl, by decide, by omega, h1, ?_⟩ ?_
  · exact fun r hr => by
      rw [show ([[0, 0], [0, 0]] : List (List Int)) = List.replicate 2 (List.replicate 2 0) from rfl] at hr ⊢
      rw [List.eq_of_mem_replicate hr]
      exact ⟨by simp, fun x hx => by rw [List.eq_of_mem_replicate hx]; decide⟩
  · cases hl : ordAll 2 l with
    | false => exact fun z X => h
    | true =>
      obtain ⟨b0, b1, hb⟩ := ll2 (k_len l [[0, 0], [0, 0]])
      show evRest Erkd Try.f3 12 _ K
      rw [hb]
      exact tD2 h1 h9 hl rfl hb h
theorem tB2 {l : List (List D)} {o : List Int} {a18 a19 a20 a21 a22 a23 a24 a25 a26 a27 a28 a29 a30 a31 a32 a33 a34 a35 a36 a37 a38 a39 a40 : AV} {K : AV → List Blk → Prop} (h1 : 1 ≤ l.length) (h9 : l.length ≤ 9) (h : K (.one (.bool true)) []) : evRest Erkd Try.f3 7 { t := ([AV.one (SV.data (Row.recs [CK.sints IntKind.i64] l)), AV.one (SV.data (Row.ints IntKind.i64 o)), AV.any, AV.any, AV.one (SV.bool false), AV.one (SV.int IntKind.i64 2), AV.one (SV.own 0 (1 : Nat)), AV.any, AV.any, AV.any, AV.any, AV.any, AV.any, AV.any, AV.any, AV.any, AV.any, AV.any, a18, a19, a20, a21, a22, a23, a24, a25, a26, a27, a28, a29, a30, a31, a32, a33, a34, a35, a36, a37, a38, a39, a40] ++ List.replicate 168 .any), σ := [.cells [.nil, .nil]] } K := by
  rw [evRest_stage Erkd Try.f3 7 4, exrkdB2]
  show evRest Erkd Try.f3 11 _ K
  exact tC2 h1 h9 h
theorem tD3 {l : List (List D)} {o : List Int} {s : Bool} {b0 b1 b2 : List Int} {K : AV → List Blk → Prop} (h1 : 1 ≤ l.length) (h9 : l.length ≤ 9) (hl : ordAll 3 l = true) (hs : s = sameAll (rowD l 0) l) (hb : cntK ([[0, 0, 0], [0, 0, 0], [0, 0, 0]] : List (List Int)) l = [b0, b1, b2]) (h : K (.one (.bool true)) []) : evRest Erkd Try.f3 12 { t := ([AV.one (SV.data (Row.recs [CK.sints IntKind.i64] l)), AV.one (SV.data (Row.ints IntKind.i64 o)), AV.any, AV.any, AV.any, AV.any, AV.one (SV.own (0 : Nat) (1 : Nat)), AV.any, AV.one (SV.bool s)] ++ List.replicate 200 .any), σ := [.cells [.own 1 1, .own 2 1, .own 3 1], .row 3 (.ints .i64 b0), .row 3 (.ints .i64 b1), .row 3 (.ints .i64 b2)] } K := by
  rw [exD3 l o s b0 b1 b2 K]
  have hl' := ordAll_mem hl
  have f := rank_facts (n := 3) (by decide) (zero_sq 3) (zero_cel 3) (l := l) (fun d hd => ordE_ord (c := 3) (hl' d hd)) h9
  rw [show List.replicate 3 (List.replicate 3 (0 : Int)) = [[0, 0, 0], [0, 0, 0], [0, 0, 0]] from rfl, hb] at f
  have hT := rhsT_ok (n := 3) (p := rowsD [b0, b1, b2]) (o := o) (s := s) (by decide) h1 h9 hl' ⟨f.1, f.2.1, f.2.2.1, f.2.2.2.1, f.2.2.2.2.1, fun e => f.2.2.2.2.2 h1 (by rw [← hs]; exact e)⟩ h
  have hq := (cnt_k l _ (zero_sq 3) fun d hd => ordE_ord (c := 3) (hl' d hd)).1
  rw [show List.replicate 3 (List.replicate 3 (0 : Int)) = [[0, 0, 0], [0, 0, 0], [0, 0, 0]] from rfl, hb] at hq
  have hlen : ∀ b ∈ [b0, b1, b2], List.length b ≤ 1000000 := fun b hb => by rw [hq.2 b hb]; decide
  have hL : b0.length ≤ 1000000 ∧ b1.length ≤ 1000000 ∧ b2.length ≤ 1000000 := ⟨hlen _ (by simp), hlen _ (by simp), hlen _ (by simp)⟩
  exact ⟨hL, by simp, hL, by simp, hT⟩
theorem tC3 {l : List (List D)} {o : List Int} {a7 a18 a19 a20 a21 a22 a23 a24 a25 a26 a27 a28 a29 a30 a31 a32 a33 a34 a35 a36 a37 a38 a39 a40 a41 a42 a43 a44 a45 a46 a47 a48 a49 a50 : AV} {K : AV → List Blk → Prop} (h1 : 1 ≤ l.length) (h9 : l.length ≤ 9) (h : K (.one (.bool true)) []) : evRest Erkd Try.f3 11 { t := ([AV.one (SV.data (Row.recs [CK.sints IntKind.i64] l)), AV.one (SV.data (Row.ints IntKind.i64 o)), AV.any, AV.any, AV.one (SV.bool false), AV.one (SV.int IntKind.i64 (3 : Int)), AV.one (SV.own (0 : Nat) (1 : Nat)), a7, AV.one (SV.bool true), AV.one (SV.int IntKind.i64 (0 : Int)), AV.any, AV.any, AV.any, AV.any, AV.any, AV.any, AV.any, AV.any, a18, a19, a20, a21, a22, a23, a24, a25, a26, a27, a28, a29, a30, a31, a32, a33, a34, a35, a36, a37, a38, a39, a40, a41, a42, a43, a44, a45, a46, a47, a48, a49, a50] ++ List.replicate 158 .any), σ := [.cells [.own 1 1, .own 2 1, .own 3 1], .row 3 (.ints .i64 [0, 0, 0]), .row 3 (.ints .i64 [0, 0, 0]), .row 3 (.ints .i64 [0, 0, 0])] } K := by
  rw [evRest_stage Erkd Try.f3 11 1, exrkdC3]
  refine And.intro ⟨h9, rfl, by decide, by omega, h1, ?_⟩ ?_
  · exact fun r hr => by
      rw [show ([[0, 0, 0], [0, 0, 0], [0, 0, 0]] : List (List Int)) = List.replicate 3 (List.replicate 3 0) from rfl] at hr ⊢
      rw [List.eq_of_mem_replicate hr]
      exact ⟨by simp, fun x hx => by rw [List.eq_of_mem_replicate hx]; decide⟩
  · cases hl : ordAll 3 l with
    | false => exact fun z X => h
    | true =>
      obtain ⟨b0, b1, b2, hb⟩ := ll3 (k_len l [[0, 0, 0], [0, 0, 0], [0, 0, 0]])
      show evRest Erkd Try.f3 12 _ K
      rw [hb]
      exact tD3 h1 h9 hl rfl hb h
theorem tB3 {l : List (List D)} {o : List Int} {a18 a19 a20 a21 a22 a23 a24 a25 a26 a27 a28 a29 a30 a31 a32 a33 a34 a35 a36 a37 a38 a39 a40 : AV} {K : AV → List Blk → Prop} (h1 : 1 ≤ l.length) (h9 : l.length ≤ 9) (h : K (.one (.bool true)) []) : evRest Erkd Try.f3 7 { t := ([AV.one (SV.data (Row.recs [CK.sints IntKind.i64] l)), AV.one (SV.data (Row.ints IntKind.i64 o)), AV.any, AV.any, AV.one (SV.bool false), AV.one (SV.int IntKind.i64 3), AV.one (SV.own 0 (1 : Nat)), AV.any, AV.any, AV.any, AV.any, AV.any, AV.any, AV.any, AV.any, AV.any, AV.any, AV.any, a18, a19, a20, a21, a22, a23, a24, a25, a26, a27, a28, a29, a30, a31, a32, a33, a34, a35, a36, a37, a38, a39, a40] ++ List.replicate 168 .any), σ := [.cells [.nil, .nil, .nil]] } K := by
  rw [evRest_stage Erkd Try.f3 7 4, exrkdB3]
  show evRest Erkd Try.f3 11 _ K
  exact tC3 h1 h9 h
theorem tD4 {l : List (List D)} {o : List Int} {s : Bool} {b0 b1 b2 b3 : List Int} {K : AV → List Blk → Prop} (h1 : 1 ≤ l.length) (h9 : l.length ≤ 9) (hl : ordAll 4 l = true) (hs : s = sameAll (rowD l 0) l) (hb : cntK ([[0, 0, 0, 0], [0, 0, 0, 0], [0, 0, 0, 0], [0, 0, 0, 0]] : List (List Int)) l = [b0, b1, b2, b3]) (h : K (.one (.bool true)) []) : evRest Erkd Try.f3 12 { t := ([AV.one (SV.data (Row.recs [CK.sints IntKind.i64] l)), AV.one (SV.data (Row.ints IntKind.i64 o)), AV.any, AV.any, AV.any, AV.any, AV.one (SV.own (0 : Nat) (1 : Nat)), AV.any, AV.one (SV.bool s)] ++ List.replicate 200 .any), σ := [.cells [.own 1 1, .own 2 1, .own 3 1, .own 4 1], .row 3 (.ints .i64 b0), .row 3 (.ints .i64 b1), .row 3 (.ints .i64 b2), .row 3 (.ints .i64 b3)] } K := by
  rw [exD4 l o s b0 b1 b2 b3 K]
  have hl' := ordAll_mem hl
  have f := rank_facts (n := 4) (by decide) (zero_sq 4) (zero_cel 4) (l := l) (fun d hd => ordE_ord (c := 4) (hl' d hd)) h9
  rw [show List.replicate 4 (List.replicate 4 (0 : Int)) = [[0, 0, 0, 0], [0, 0, 0, 0], [0, 0, 0, 0], [0, 0, 0, 0]] from rfl, hb] at f
  have hT := rhsT_ok (n := 4) (p := rowsD [b0, b1, b2, b3]) (o := o) (s := s) (by decide) h1 h9 hl' ⟨f.1, f.2.1, f.2.2.1, f.2.2.2.1, f.2.2.2.2.1, fun e => f.2.2.2.2.2 h1 (by rw [← hs]; exact e)⟩ h
  have hq := (cnt_k l _ (zero_sq 4) fun d hd => ordE_ord (c := 4) (hl' d hd)).1
  rw [show List.replicate 4 (List.replicate 4 (0 : Int)) = [[0, 0, 0, 0], [0, 0, 0, 0], [0, 0, 0, 0], [0, 0, 0, 0]] from rfl, hb] at hq
  have hlen : ∀ b ∈ [b0, b1, b2, b3], List.length b ≤ 1000000 := fun b hb => by rw [hq.2 b hb]; decide
  have hL : b0.length ≤ 1000000 ∧ b1.length ≤ 1000000 ∧ b2.length ≤ 1000000 ∧ b3.length ≤ 1000000 := ⟨hlen _ (by simp), hlen _ (by simp), hlen _ (by simp), hlen _ (by simp)⟩
  exact ⟨hL, by simp, hL, by simp, hT⟩
theorem tC4 {l : List (List D)} {o : List Int} {a7 a18 a19 a20 a21 a22 a23 a24 a25 a26 a27 a28 a29 a30 a31 a32 a33 a34 a35 a36 a37 a38 a39 a40 a41 a42 a43 a44 a45 a46 a47 a48 a49 a50 : AV} {K : AV → List Blk → Prop} (h1 : 1 ≤ l.length) (h9 : l.length ≤ 9) (h : K (.one (.bool true)) []) : evRest Erkd Try.f3 11 { t := ([AV.one (SV.data (Row.recs [CK.sints IntKind.i64] l)), AV.one (SV.data (Row.ints IntKind.i64 o)), AV.any, AV.any, AV.one (SV.bool false), AV.one (SV.int IntKind.i64 (4 : Int)), AV.one (SV.own (0 : Nat) (1 : Nat)), a7, AV.one (SV.bool true), AV.one (SV.int IntKind.i64 (0 : Int)), AV.any, AV.any, AV.any, AV.any, AV.any, AV.any, AV.any, AV.any, a18, a19, a20, a21, a22, a23, a24, a25, a26, a27, a28, a29, a30, a31, a32, a33, a34, a35, a36, a37, a38, a39, a40, a41, a42, a43, a44, a45, a46, a47, a48, a49, a50] ++ List.replicate 158 .any), σ := [.cells [.own 1 1, .own 2 1, .own 3 1, .own 4 1], .row 3 (.ints .i64 [0, 0, 0, 0]), .row 3 (.ints .i64 [0, 0, 0, 0]), .row 3 (.ints .i64 [0, 0, 0, 0]), .row 3 (.ints .i64 [0, 0, 0, 0])] } K := by
  rw [evRest_stage Erkd Try.f3 11 1, exrkdC4]
  refine And.intro ⟨h9, rfl, by decide, by omega, h1, ?_⟩ ?_
  · exact fun r hr => by
      rw [show ([[0, 0, 0, 0], [0, 0, 0, 0], [0, 0, 0, 0], [0, 0, 0, 0]] : List (List Int)) = List.replicate 4 (List.replicate 4 0) from rfl] at hr ⊢
      rw [List.eq_of_mem_replicate hr]
      exact ⟨by simp, fun x hx => by rw [List.eq_of_mem_replicate hx]; decide⟩
  · cases hl : ordAll 4 l with
    | false => exact fun z X => h
    | true =>
      obtain ⟨b0, b1, b2, b3, hb⟩ := ll4 (k_len l [[0, 0, 0, 0], [0, 0, 0, 0], [0, 0, 0, 0], [0, 0, 0, 0]])
      show evRest Erkd Try.f3 12 _ K
      rw [hb]
      exact tD4 h1 h9 hl rfl hb h
theorem tB4 {l : List (List D)} {o : List Int} {a18 a19 a20 a21 a22 a23 a24 a25 a26 a27 a28 a29 a30 a31 a32 a33 a34 a35 a36 a37 a38 a39 a40 : AV} {K : AV → List Blk → Prop} (h1 : 1 ≤ l.length) (h9 : l.length ≤ 9) (h : K (.one (.bool true)) []) : evRest Erkd Try.f3 7 { t := ([AV.one (SV.data (Row.recs [CK.sints IntKind.i64] l)), AV.one (SV.data (Row.ints IntKind.i64 o)), AV.any, AV.any, AV.one (SV.bool false), AV.one (SV.int IntKind.i64 4), AV.one (SV.own 0 (1 : Nat)), AV.any, AV.any, AV.any, AV.any, AV.any, AV.any, AV.any, AV.any, AV.any, AV.any, AV.any, a18, a19, a20, a21, a22, a23, a24, a25, a26, a27, a28, a29, a30, a31, a32, a33, a34, a35, a36, a37, a38, a39, a40] ++ List.replicate 168 .any), σ := [.cells [.nil, .nil, .nil, .nil]] } K := by
  rw [evRest_stage Erkd Try.f3 7 4, exrkdB4]
  show evRest Erkd Try.f3 11 _ K
  exact tC4 h1 h9 h
theorem tD5 {l : List (List D)} {o : List Int} {s : Bool} {b0 b1 b2 b3 b4 : List Int} {K : AV → List Blk → Prop} (h1 : 1 ≤ l.length) (h9 : l.length ≤ 9) (hl : ordAll 5 l = true) (hs : s = sameAll (rowD l 0) l) (hb : cntK ([[0, 0, 0, 0, 0], [0, 0, 0, 0, 0], [0, 0, 0, 0, 0], [0, 0, 0, 0, 0], [0, 0, 0, 0, 0]] : List (List Int)) l = [b0, b1, b2, b3, b4]) (h : K (.one (.bool true)) []) : evRest Erkd Try.f3 12 { t := ([AV.one (SV.data (Row.recs [CK.sints IntKind.i64] l)), AV.one (SV.data (Row.ints IntKind.i64 o)), AV.any, AV.any, AV.any, AV.any, AV.one (SV.own (0 : Nat) (1 : Nat)), AV.any, AV.one (SV.bool s)] ++ List.replicate 200 .any), σ := [.cells [.own 1 1, .own 2 1, .own 3 1, .own 4 1, .own 5 1], .row 3 (.ints .i64 b0), .row 3 (.ints .i64 b1), .row 3 (.ints .i64 b2), .row 3 (.ints .i64 b3), .row 3 (.ints .i64 b4)] } K := by
  rw [exD5 l o s b0 b1 b2 b3 b4 K]
  have hl' := ordAll_mem hl
  have f := rank_facts (n := 5) (by decide) (zero_sq 5) (zero_cel 5) (l := l) (fun d hd => ordE_ord (c := 5) (hl' d hd)) h9
  rw [show List.replicate 5 (List.replicate 5 (0 : Int)) = [[0, 0, 0, 0, 0], [0, 0, 0, 0, 0], [0, 0, 0, 0, 0], [0, 0, 0, 0, 0], [0, 0, 0, 0, 0]] from rfl, hb] at f
  have hT := rhsT_ok (n := 5) (p := rowsD [b0, b1, b2, b3, b4]) (o := o) (s := s) (by decide) h1 h9 hl' ⟨f.1, f.2.1, f.2.2.1, f.2.2.2.1, f.2.2.2.2.1, fun e => f.2.2.2.2.2 h1 (by rw [← hs]; exact e)⟩ h
  have hq := (cnt_k l _ (zero_sq 5) fun d hd => ordE_ord (c := 5) (hl' d hd)).1
  rw [show List.replicate 5 (List.replicate 5 (0 : Int)) = [[0, 0, 0, 0, 0], [0, 0, 0, 0, 0], [0, 0, 0, 0, 0], [0, 0, 0, 0, 0], [0, 0, 0, 0, 0]] from rfl, hb] at hq
  have hlen : ∀ b ∈ [b0, b1, b2, b3, b4], List.length b ≤ 1000000 := fun b hb => by rw [hq.2 b hb]; decide
  have hL : b0.length ≤ 1000000 ∧ b1.length ≤ 1000000 ∧ b2.length ≤ 1000000 ∧ b3.length ≤ 1000000 ∧ b4.length ≤ 1000000 := ⟨hlen _ (by simp), hlen _ (by simp), hlen _ (by simp), hlen _ (by simp), hlen _ (by simp)⟩
  exact ⟨hL, by simp, hL, by simp, hT⟩
theorem tC5 {l : List (List D)} {o : List Int} {a7 a18 a19 a20 a21 a22 a23 a24 a25 a26 a27 a28 a29 a30 a31 a32 a33 a34 a35 a36 a37 a38 a39 a40 a41 a42 a43 a44 a45 a46 a47 a48 a49 a50 : AV} {K : AV → List Blk → Prop} (h1 : 1 ≤ l.length) (h9 : l.length ≤ 9) (h : K (.one (.bool true)) []) : evRest Erkd Try.f3 11 { t := ([AV.one (SV.data (Row.recs [CK.sints IntKind.i64] l)), AV.one (SV.data (Row.ints IntKind.i64 o)), AV.any, AV.any, AV.one (SV.bool false), AV.one (SV.int IntKind.i64 (5 : Int)), AV.one (SV.own (0 : Nat) (1 : Nat)), a7, AV.one (SV.bool true), AV.one (SV.int IntKind.i64 (0 : Int)), AV.any, AV.any, AV.any, AV.any, AV.any, AV.any, AV.any, AV.any, a18, a19, a20, a21, a22, a23, a24, a25, a26, a27, a28, a29, a30, a31, a32, a33, a34, a35, a36, a37, a38, a39, a40, a41, a42, a43, a44, a45, a46, a47, a48, a49, a50] ++ List.replicate 158 .any), σ := [.cells [.own 1 1, .own 2 1, .own 3 1, .own 4 1, .own 5 1], .row 3 (.ints .i64 [0, 0, 0, 0, 0]), .row 3 (.ints .i64 [0, 0, 0, 0, 0]), .row 3 (.ints .i64 [0, 0, 0, 0, 0]), .row 3 (.ints .i64 [0, 0, 0, 0, 0]), .row 3 (.ints .i64 [0, 0, 0, 0, 0])] } K := by
  rw [evRest_stage Erkd Try.f3 11 1, exrkdC5]
  refine And.intro ⟨h9, rfl, by decide, by omega, h1, ?_⟩ ?_
  · exact fun r hr => by
      rw [show ([[0, 0, 0, 0, 0], [0, 0, 0, 0, 0], [0, 0, 0, 0, 0], [0, 0, 0, 0, 0], [0, 0, 0, 0, 0]] : List (List Int)) = List.replicate 5 (List.replicate 5 0) from rfl] at hr ⊢
      rw [List.eq_of_mem_replicate hr]
      exact ⟨by simp, fun x hx => by rw [List.eq_of_mem_replicate hx]; decide⟩
  · cases hl : ordAll 5 l with
    | false => exact fun z X => h
    | true =>
      obtain ⟨b0, b1, b2, b3, b4, hb⟩ := ll5 (k_len l [[0, 0, 0, 0, 0], [0, 0, 0, 0, 0], [0, 0, 0, 0, 0], [0, 0, 0, 0, 0], [0, 0, 0, 0, 0]])
      show evRest Erkd Try.f3 12 _ K
      rw [hb]
      exact tD5 h1 h9 hl rfl hb h
theorem tB5 {l : List (List D)} {o : List Int} {a18 a19 a20 a21 a22 a23 a24 a25 a26 a27 a28 a29 a30 a31 a32 a33 a34 a35 a36 a37 a38 a39 a40 : AV} {K : AV → List Blk → Prop} (h1 : 1 ≤ l.length) (h9 : l.length ≤ 9) (h : K (.one (.bool true)) []) : evRest Erkd Try.f3 7 { t := ([AV.one (SV.data (Row.recs [CK.sints IntKind.i64] l)), AV.one (SV.data (Row.ints IntKind.i64 o)), AV.any, AV.any, AV.one (SV.bool false), AV.one (SV.int IntKind.i64 5), AV.one (SV.own 0 (1 : Nat)), AV.any, AV.any, AV.any, AV.any, AV.any, AV.any, AV.any, AV.any, AV.any, AV.any, AV.any, a18, a19, a20, a21, a22, a23, a24, a25, a26, a27, a28, a29, a30, a31, a32, a33, a34, a35, a36, a37, a38, a39, a40] ++ List.replicate 168 .any), σ := [.cells [.nil, .nil, .nil, .nil, .nil]] } K := by
  rw [evRest_stage Erkd Try.f3 7 4, exrkdB5]
  show evRest Erkd Try.f3 11 _ K
  exact tC5 h1 h9 h
theorem tA {l : List (List D)} {o : List Int} {n : Int} {a18 a19 a20 a21 a22 a23 a24 a25 a26 a27 a28 a29 a30 a31 a32 a33 a34 a35 a36 a37 a38 : AV} {K : AV → List Blk → Prop} (h1 : 1 ≤ l.length) (h9 : l.length ≤ 9) (n0 : 0 ≤ n) (n5 : n ≤ 5) (h : K (.one (.bool true)) []) : evRest Erkd Try.f3 6 { t := ([AV.one (SV.data (Row.recs [CK.sints IntKind.i64] l)), AV.one (SV.data (Row.ints IntKind.i64 o)), AV.any, AV.any, AV.one (SV.bool false), AV.one (SV.int IntKind.i64 n), AV.any, AV.any, AV.any, AV.any, AV.any, AV.any, AV.any, AV.any, AV.any, AV.any, AV.any, AV.any, a18, a19, a20, a21, a22, a23, a24, a25, a26, a27, a28, a29, a30, a31, a32, a33, a34, a35, a36, a37, a38] ++ List.replicate 170 .any), σ := [] } K := by
  rw [evRest_stage Erkd Try.f3 6 1, exrkdA2]
  rw [decide_eq_true n0, decide_eq_true (Int.le_refl n), decide_eq_true (show n * 24 ≤ 140737488355328 ∧ n ≤ 140737488355328 by omega), Bool.and_self, Bool.and_self, cond_true]
  have hn : n = 0 ∨ n = 1 ∨ n = 2 ∨ n = 3 ∨ n = 4 ∨ n = 5 := by omega
  rcases hn with rfl | rfl | rfl | rfl | rfl | rfl
  · rw [show ((0 : Int) == 0) = true from rfl, cond_true]
    show evRest Erkd Try.f3 7 _ K
    exact tB0 h1 h9 h
  · rw [show ((1 : Int) == 0) = false from rfl, cond_false, show ((1 : Int) == 1) = true from rfl, cond_true]
    show evRest Erkd Try.f3 7 _ K
    exact tB1 h1 h9 h
  · rw [show ((2 : Int) == 0) = false from rfl, cond_false, show ((2 : Int) == 1) = false from rfl, cond_false, show ((2 : Int) == 2) = true from rfl, cond_true]
    show evRest Erkd Try.f3 7 _ K
    exact tB2 h1 h9 h
  · rw [show ((3 : Int) == 0) = false from rfl, cond_false, show ((3 : Int) == 1) = false from rfl, cond_false, show ((3 : Int) == 2) = false from rfl, cond_false, show ((3 : Int) == 3) = true from rfl, cond_true]
    show evRest Erkd Try.f3 7 _ K
    exact tB3 h1 h9 h
  · rw [show ((4 : Int) == 0) = false from rfl, cond_false, show ((4 : Int) == 1) = false from rfl, cond_false, show ((4 : Int) == 2) = false from rfl, cond_false, show ((4 : Int) == 3) = false from rfl, cond_false, show ((4 : Int) == 4) = true from rfl, cond_true]
    show evRest Erkd Try.f3 7 _ K
    exact tB4 h1 h9 h
  · rw [show ((5 : Int) == 0) = false from rfl, cond_false, show ((5 : Int) == 1) = false from rfl, cond_false, show ((5 : Int) == 2) = false from rfl, cond_false, show ((5 : Int) == 3) = false from rfl, cond_false, show ((5 : Int) == 4) = false from rfl, cond_false, show ((5 : Int) == 5) = true from rfl, cond_true]
    show evRest Erkd Try.f3 7 _ K
    exact tB5 h1 h9 h
theorem okrkd : SpecOK Try.prog 3 rankS := by
  refine specOKc (n := 209) (m := 0) (lps := [(8, .unroll 6), (13, .spec [0, 1, 5, 6, 8, 9] [0, 1, 4, 6, 8] rkK), (18, .spec [0, 1, 5, 6, 8, 9, 10] [0, 1, 5, 6, 8, 9] rkI), (21, .spec [0, 1, 5, 6, 8, 9, 10, 11] [0, 1, 5, 6, 8, 9, 10] rkJ), (32, .frm 0 [0, 13, 17] [4] rkE)]) [] [23] (.cons oktak (.cons okordC (.cons ok30 (.cons okclC (.cons okbest2 (.cons okbnd (.cons oklag .nil))))))) Try.func3 (by kernel_rfl) (by kernel_rfl) (theLoops (n := 5) (by kernel_rfl) fun i hi => ?_) fun args σ K h => ?_
  · match i, hi with
    | 0, _ => exact loopHyp_none (key := 8) (n := 6) (by kernel_rfl) rfl
    | 1, _ => exact loopHyp_of (key := 13) (by kernel_rfl) rfl lokrkd_1
    | 2, _ => exact loopHyp_of (key := 18) (by kernel_rfl) rfl lokrkd_2
    | 3, _ => exact loopHyp_of (key := 21) (by kernel_rfl) rfl lokrkd_3
    | 4, _ => exact loopHyp_frm (E' := ErkdF0) (key := 32) (m := 0) (by kernel_rfl) rfl rfl lokrkd_4
  unfold rankS at h
  split at h
  rotate_right
  · exact h.elim
  rename_i l o
  rw [evFn_rest (by kernel_rfl) (by kernel_rfl), evRest_stage Erkd Try.f3 0 6, exrkdA]
  by_cases h0 : (l.length : Int) = 0
  · rw [h0]; exact h
  rw [beq_ff' h0, cond_false]
  by_cases h9 : (l.length : Int) > 9
  · rw [decide_eq_true h9]; exact h
  rw [decide_eq_false h9, cond_false, decide_eq_true (show (0 : Int) ≤ 0 by decide), decide_eq_true (show (0 : Int) < (l.length : Int) by omega), decide_eq_true (show 0 < l.length by omega), decide_eq_true (show 0 < 1 by decide), Bool.and_self, cond_true, cond_true]
  by_cases h5 : ((((l.getD 0 []).getD 0 (D.int 0)).toInts).length : Int) > 5
  · rw [decide_eq_true h5]; exact h
  rw [decide_eq_false h5, cond_false, cond_true, cond_true]
  show evRest Erkd Try.f3 6 _ K
  exact tA (by omega) (by omega) (by omega) (by omega) h
end Go.Ev
