/-
  Chapter 9, contracts: the law of rankings.
-/
import Derived.Test.YtiflkochjfiegaaDoorC9R
import Derived.Test.YtiflkochjfiegaaDoorC9G
import Derived.KernelRfl
import Derived.Test.YtiflkochjfiegaaDoorEvOpen2
set_option linter.unusedVariables false
set_option linter.unusedSimpArgs false
set_option linter.unusedSectionVars false
namespace Go.Ev
open Go Go.Proofs
set_option maxRecDepth 20000

def wfP (p : List (List D)) : Prop := ∀ d ∈ p, d = [.ints (rowI d)]
def lawRankS : Spec := fun args σ K => match args, σ with
  | [.one (.data (.recs [.sints .i64] p)), .one (.data (.ints .i64 o))], [] => wfP p ∧ K (.one (.bool true)) []
  | _, _ => False
def nbF (p : List (List D)) : Int → List Int → Bool
  | _, [] => true
  | x, y :: l => decide (celP p y x ≤ celP p x y) && nbF p y l
def nbL : LSpec := fun vs σ k => match vs, σ with
  | [.one (.data (.recs [.sints .i64] p)), .one (.data (.ints .i64 x)), .one (.data (.ints .i64 o)), .one (.int .i64 n), .one (.int .i64 i)], [] => (okP p ∧ okOb p.length o = true ∧ 1 ≤ i) ∧
    bif nbF p (o.getD (i - 1).toNat 0) (o.drop i.toNat) then k (.exit 0) [.one (.data (.recs [.sints .i64] p)), .one (.data (.ints .i64 x)), .any, .one (.data (.ints .i64 o)), .one (.int .i64 n)] [] else k .ret [.one (.data (.recs [.sints .i64] p)), .one (.data (.ints .i64 x)), .one (.bool false), .one (.data (.ints .i64 o)), .one (.int .i64 n)] []
  | _, _ => False
def lawNobS : Spec := fun args σ K => match args, σ with
  | [.one (.data (.recs [.sints .i64] p)), .one (.data (.ints .i64 o))], [] => wfP p ∧ K (.one (.bool true)) []
  | _, _ => False
noncomputable abbrev Erkg : Env := envOf Tryd.prog [(19, awakeS), (50, shpS), (52, clDS), (22, copyDS), (51, diS), (53, best2S), (54, bdS), (55, prefS), (56, rbeS), (27, intsS), (57, rbS), (58, ordSp), (59, rdiS)] [] 135 0
noncomputable abbrev Enob : Env := envOf Tryd.prog [(19, awakeS), (50, shpS), (55, prefS), (52, clDS), (53, best2S), (54, bdS), (58, ordSp), (22, copyDS), (51, diS), (60, befS)] [(13, .spec [0, 1, 5, 6, 12] [0, 1, 4, 5, 6] nbL)] 140 0
end Go.Ev

namespace Go.Ev
open Go Go.Proofs
set_option maxRecDepth 100000
theorem exrkg (p : List (List D)) (o : List Int) (K : AV → List Blk → Prop) : evFn Erkg Tryd.f8 [.one (.data (.recs [.sints .i64] p)), .one (.data (.ints .i64 o))] [] K = (
 bif !shortP p then K (AV.one (SV.bool true)) []
 else
 bif (↑p.length : Int) == (6 : Int) then K (AV.one (SV.bool true)) []
 else
 bif decide ((↑o.length : Int) > (8 : Int)) then K (AV.one (SV.bool true)) []
 else
 (p.length ≤ (1000000000 : Nat) ∧
 ∀ (d : List D), d ∈ p → d = [D.ints (rowI d)] ∧ (rowI d).length ≤ (1000000000000 : Nat)) ∧
 o.length ≤ (1000000000000 : Nat) ∧
 (p.length ≤ (1000000000 : Nat) ∧ o.length ≤ (1000000000 : Nat)) ∧
 (p.length ≤ (1000000000 : Nat) ∧
 ∀ (d : List D), d ∈ p → d = [D.ints (rowI d)] ∧ (rowI d).length ≤ (1000000000000 : Nat)) ∧
 p.length ≤ (1000000000 : Nat) ∧
 (p.length ≤ (1000000000 : Nat) ∧
 ∀ (d : List D), d ∈ p → d = [D.ints (rowI d)] ∧ (rowI d).length ≤ (1000000000000 : Nat)) ∧
 p.length ≤ (1000000000 : Nat) ∧
 p.length ≤ (1000000000 : Nat) ∧
 bif prefE p != (0 : Int) then
 bif diF p o == prefE p then
 bif prefE p == prefE p then
 bif prefE p == prefE p then
 bif diV p o == (0 : Int) then
 bif (↑(bsO p).length : Int) == (0 : Int) then
 bif bsN p == (0 : Int) then K (AV.one (SV.bool (bdV p == (0 : Int)))) []
 else K (AV.one (SV.bool false)) []
 else K (AV.one (SV.bool false)) []
 else K (AV.one (SV.bool false)) []
 else K (AV.one (SV.bool false)) []
 else K (AV.one (SV.bool false)) []
 else K (AV.one (SV.bool false)) []
 else
 (p.length ≤ (6 : Nat) ∧
 ∀ (d : List D),
 d ∈ p →
 (rowI d).length = p.length ∧
 ∀ (n : Int), n ∈ rowI d → (0 : Int) ≤ n ∧ n ≤ (1000 : Int)) ∧
 bif prefE p != (0 : Int) then K (AV.one (SV.bool false)) []
 else
 (bsO p).length ≤ (1000000000 : Nat) ∧
 bif !bsO p == (bestG p).1 then K (AV.one (SV.bool false)) []
 else
 bif bsN p != disG p (bestG p).1 then K (AV.one (SV.bool false)) []
 else
 bif prefE p != (0 : Int) then K (AV.one (SV.bool false)) []
 else
 (p.length ≤ (6 : Nat) ∧
 ∀ (d : List D),
 d ∈ p →
 (rowI d).length = p.length ∧
 ∀ (n : Int), n ∈ rowI d → (0 : Int) ≤ n ∧ n ≤ (1000 : Int)) ∧
 bif bdV p != bndG p then K (AV.one (SV.bool false)) []
 else
 (p.length ≤ (1000000000 : Nat) ∧ o.length ≤ (1000000000 : Nat)) ∧
 bif ordE (↑p.length : Int) o != (0 : Int) then
 bif diF p o == ordE (↑p.length : Int) o then
 K (AV.one (SV.bool (diV p o == (0 : Int)))) []
 else K (AV.one (SV.bool false)) []
 else
 bif diF p o == (0 : Int) then
 ((p.length ≤ (6 : Nat) ∧
 ∀ (d : List D),
 d ∈ p →
 (rowI d).length = p.length ∧
 ∀ (n : Int), n ∈ rowI d → (0 : Int) ≤ n ∧ n ≤ (1000 : Int)) ∧
 okOb p.length o = true) ∧
 K (AV.one (SV.bool (diV p o == disG p o))) []
 else K (AV.one (SV.bool false)) []) := by kernel_rfl
theorem exnob (p : List (List D)) (o : List Int) (K : AV → List Blk → Prop) : evFn Enob Tryd.f9 [.one (.data (.recs [.sints .i64] p)), .one (.data (.ints .i64 o))] [] K = (
 bif !shortP p then K (AV.one (SV.bool true)) []
 else
 p.length ≤ (1000000000 : Nat) ∧
 bif prefE p != (0 : Int) then K (AV.one (SV.bool true)) []
 else
 bif decide ((↑o.length : Int) > (8 : Int)) then K (AV.one (SV.bool true)) []
 else
 (p.length ≤ (1000000000 : Nat) ∧
 ∀ (d : List D), d ∈ p → d = [D.ints (rowI d)] ∧ (rowI d).length ≤ (1000000000000 : Nat)) ∧
 p.length ≤ (1000000000 : Nat) ∧
 (p.length ≤ (1000000000 : Nat) ∧
 ∀ (d : List D), d ∈ p → d = [D.ints (rowI d)] ∧ (rowI d).length ≤ (1000000000000 : Nat)) ∧
 p.length ≤ (1000000000 : Nat) ∧
 bif prefE p != (0 : Int) then K (AV.one (SV.bool false)) []
 else
 bif prefE p != (0 : Int) then K (AV.one (SV.bool false)) []
 else
 (p.length ≤ (1000000000 : Nat) ∧ (bsO p).length ≤ (1000000000 : Nat)) ∧
 bif ordE (↑p.length : Int) (bsO p) != (0 : Int) then K (AV.one (SV.bool false)) []
 else
 bif decide (bdV p > bsN p) then K (AV.one (SV.bool false)) []
 else
 (p.length ≤ (1000000000 : Nat) ∧
 ∀ (d : List D), d ∈ p → d = [D.ints (rowI d)] ∧ (rowI d).length ≤ (1000000000000 : Nat)) ∧
 (bsO p).length ≤ (1000000000000 : Nat) ∧
 (p.length ≤ (1000000000 : Nat) ∧ (bsO p).length ≤ (1000000000 : Nat)) ∧
 bif diF p (bsO p) != (0 : Int) then K (AV.one (SV.bool false)) []
 else
 bif diV p (bsO p) != bsN p then K (AV.one (SV.bool false)) []
 else
 ((p.length ≤ (6 : Nat) ∧
 ∀ (d : List D),
 d ∈ p →
 (rowI d).length = p.length ∧
 ∀ (n : Int), n ∈ rowI d → (0 : Int) ≤ n ∧ n ≤ (1000 : Int)) ∧
 okOb p.length (bsO p) = true ∧ (1 : Int) ≤ (1 : Int)) ∧
 bif nbF p ((bsO p).getD (0 : Nat) (0 : Int)) (List.drop (1 : Nat) (bsO p)) then
 (p.length ≤ (1000000000 : Nat) ∧ o.length ≤ (1000000000 : Nat)) ∧
 bif ordE (↑p.length : Int) o != (0 : Int) then K (AV.one (SV.bool true)) []
 else
 (p.length ≤ (1000000000 : Nat) ∧
 ∀ (d : List D),
 d ∈ p →
 d = [D.ints (rowI d)] ∧ (rowI d).length ≤ (1000000000000 : Nat)) ∧
 o.length ≤ (1000000000000 : Nat) ∧
 (p.length ≤ (1000000000 : Nat) ∧ o.length ≤ (1000000000 : Nat)) ∧
 bif diF p o == (0 : Int) then
 bif decide (diV p o > bsN p) then K (AV.one (SV.bool true)) []
 else
 bif diV p o == bsN p then
 (o.length ≤ (1000000000 : Nat) ∧
 (bsO p).length ≤ (1000000000 : Nat)) ∧
 K (AV.one (SV.bool !befG o (bsO p))) []
 else K (AV.one (SV.bool false)) []
 else K (AV.one (SV.bool false)) []
 else K (AV.one (SV.bool false)) []) := by kernel_rfl
theorem exnobl0a (p : List (List D)) (x o : List Int) (n i : Int) (K : Ex → List AV → List Blk → Prop) : evBody Enob (lb Tryd.f9 0) [0, 1, 5, 6, 12] [0, 1, 4, 5, 6] [.one (.data (.recs [.sints .i64] p)), .one (.data (.ints .i64 x)), .one (.data (.ints .i64 o)), .one (.int .i64 n), .one (.int .i64 i)] [] K = (
 bif decide (i < (↑o.length : Int)) then
 bif decide ((0 : Int) ≤ i) && decide (i < (↑o.length : Int)) then
 bif decide (i.toNat + (0 : Nat) < o.length) then
 bif
 decide ((0 : Int) ≤ o.getD (i.toNat + (0 : Nat)) (0 : Int)) &&
 decide (o.getD (i.toNat + (0 : Nat)) (0 : Int) < (↑p.length : Int)) then
 bif decide ((0 : Nat) < (1 : Nat)) && decide ((o.getD (i.toNat + (0 : Nat)) (0 : Int)).toNat < p.length) then
 bif
 decide ((0 : Int) ≤ IntKind.i64.wrap (i - (1 : Int))) &&
 decide (IntKind.i64.wrap (i - (1 : Int)) < (↑o.length : Int)) then
 bif decide ((IntKind.i64.wrap (i - (1 : Int))).toNat + (0 : Nat) < o.length) then
 bif
 decide ((0 : Int) ≤ o.getD ((IntKind.i64.wrap (i - (1 : Int))).toNat + (0 : Nat)) (0 : Int)) &&
 decide
 (o.getD ((IntKind.i64.wrap (i - (1 : Int))).toNat + (0 : Nat)) (0 : Int) <
 (↑((p.getD (o.getD (i.toNat + (0 : Nat)) (0 : Int)).toNat []).getD (0 : Nat)
 (D.int (0 : Int))).toInts.length :
 Int)) then
 bif
 decide
 ((o.getD ((IntKind.i64.wrap (i - (1 : Int))).toNat + (0 : Nat)) (0 : Int)).toNat + (0 : Nat) <
 ((p.getD (o.getD (i.toNat + (0 : Nat)) (0 : Int)).toNat []).getD (0 : Nat)
 (D.int (0 : Int))).toInts.length) then
 bif
 decide ((0 : Int) ≤ IntKind.i64.wrap (i - (1 : Int))) &&
 decide (IntKind.i64.wrap (i - (1 : Int)) < (↑o.length : Int)) then
 bif decide ((IntKind.i64.wrap (i - (1 : Int))).toNat + (0 : Nat) < o.length) then
 bif
 decide
 ((0 : Int) ≤ o.getD ((IntKind.i64.wrap (i - (1 : Int))).toNat + (0 : Nat)) (0 : Int)) &&
 decide
 (o.getD ((IntKind.i64.wrap (i - (1 : Int))).toNat + (0 : Nat)) (0 : Int) <
 (↑p.length : Int)) then
 bif
 decide ((0 : Nat) < (1 : Nat)) &&
 decide
 ((o.getD ((IntKind.i64.wrap (i - (1 : Int))).toNat + (0 : Nat)) (0 : Int)).toNat <
 p.length) then
 bif decide ((0 : Int) ≤ i) && decide (i < (↑o.length : Int)) then
 bif decide (i.toNat + (0 : Nat) < o.length) then
 bif
 decide ((0 : Int) ≤ o.getD (i.toNat + (0 : Nat)) (0 : Int)) &&
 decide
 (o.getD (i.toNat + (0 : Nat)) (0 : Int) <
 (↑((p.getD
 (o.getD ((IntKind.i64.wrap (i - (1 : Int))).toNat + (0 : Nat))
 (0 : Int)).toNat
 []).getD
 (0 : Nat) (D.int (0 : Int))).toInts.length :
 Int)) then
 bif
 decide
 ((o.getD (i.toNat + (0 : Nat)) (0 : Int)).toNat + (0 : Nat) <
 ((p.getD
 (o.getD ((IntKind.i64.wrap (i - (1 : Int))).toNat + (0 : Nat))
 (0 : Int)).toNat
 []).getD
 (0 : Nat) (D.int (0 : Int))).toInts.length) then
 bif
 decide
 (((p.getD (o.getD (i.toNat + (0 : Nat)) (0 : Int)).toNat []).getD (0 : Nat)
 (D.int (0 : Int))).toInts.getD
 ((o.getD ((IntKind.i64.wrap (i - (1 : Int))).toNat + (0 : Nat))
 (0 : Int)).toNat +
 (0 : Nat))
 (0 : Int) >
 ((p.getD
 (o.getD ((IntKind.i64.wrap (i - (1 : Int))).toNat + (0 : Nat))
 (0 : Int)).toNat
 []).getD
 (0 : Nat) (D.int (0 : Int))).toInts.getD
 ((o.getD (i.toNat + (0 : Nat)) (0 : Int)).toNat + (0 : Nat)) (0 : Int)) then
 K Ex.ret
 [AV.one (SV.data (Row.recs [CK.sints IntKind.i64] p)),
 AV.one (SV.data (Row.ints IntKind.i64 x)), AV.one (SV.bool false),
 AV.one (SV.data (Row.ints IntKind.i64 o)), AV.one (SV.int IntKind.i64 n)]
 []
 else
 K Ex.normal
 [AV.one (SV.data (Row.recs [CK.sints IntKind.i64] p)),
 AV.one (SV.data (Row.ints IntKind.i64 x)),
 AV.one (SV.data (Row.ints IntKind.i64 o)), AV.one (SV.int IntKind.i64 n),
 AV.one (SV.int IntKind.i64 (IntKind.i64.wrap (i + (1 : Int))))]
 []
 else False
 else False
 else False
 else False
 else False
 else False
 else False
 else False
 else False
 else False
 else False
 else False
 else False
 else False
 else False
 else False
 else
 K (Ex.exit (0 : Nat))
 [AV.one (SV.data (Row.recs [CK.sints IntKind.i64] p)), AV.one (SV.data (Row.ints IntKind.i64 x)), AV.any,
 AV.one (SV.data (Row.ints IntKind.i64 o)), AV.one (SV.int IntKind.i64 n)]
 []) := by kernel_rfl
end Go.Ev

namespace Go.Ev
open Go Go.Proofs
attribute [local irreducible] evFn evBody evRound
set_option maxRecDepth 20000

theorem wf_of {p : List (List D)} (h : okRecs [.sints .i64] p) : wfP p := by
  intro d hd
  have h2 := h.2 d hd
  match d, h2 with
  | [x], h3 =>
    have h4 := h3.1
    cases x with
    | ints xs => rfl
    | _ => exact h4.elim
theorem beq_ff' {a b : Int} (h : a ≠ b) : (a == b) = false := beq_eq_false_iff_ne.2 h
theorem bne_tt' {a b : Int} (h : a ≠ b) : (a != b) = true := by rw [bne, beq_ff' h]; rfl
theorem ordF_ok {c : Int} : ∀ {l pre : List Int}, (∀ x ∈ l, 0 ≤ x ∧ x < c) → l.Nodup → (∀ x ∈ l, x ∉ pre) → ordF c pre l = 0
  | [], _, _, _, _ => rfl
  | x :: l, pre, h1, h2, h3 => by
    rw [List.nodup_cons] at h2
    have hx := h1 x (by simp)
    have hw : withinG x 0 (c - 1) = true := by
      unfold withinG
      rw [decide_eq_true hx.1, decide_eq_true (show x ≤ c - 1 by omega)]; rfl
    simp only [ordF]
    rw [hw, memB_not.2 (h3 x (by simp)), cond_true, cond_false]
    refine ordF_ok (fun y hy => h1 y (by simp [hy])) h2.2 fun y hy => ?_
    rw [List.mem_append, List.mem_singleton]
    rintro (h | h)
    · exact h3 y (by simp [hy]) h
    · subst h; exact h2.1 hy
theorem ord_ordE {c : Nat} {o : List Int} (h : isOrd c o) : ordE c o = 0 := by
  unfold ordE
  rw [show ((o.length : Int) != (c : Int)) = false by rw [h.1]; exact bne_self_eq_false _, cond_false]
  exact ordF_ok h.2.1 h.2.2 fun x _ => by simp
theorem diE_bad {p : List (List D)} (o : List Int) (h : prefE p ≠ 0) : diF p o = prefE p ∧ diV p o = 0 := by
  have e : diE p o = prefE p := by
    unfold diE
    simp only [firstE, beq_ff' h, cond_false]
  have e2 : diF p o = prefE p := by unfold diF; rw [e, beq_ff' h]; rfl
  exact ⟨e2, by unfold diV; rw [e2, beq_ff' h]; rfl⟩
theorem diF_ord {p : List (List D)} (o : List Int) (h : prefE p = 0) : diF p o = ordE p.length o := by
  unfold diF diE ordE
  rw [h]
  by_cases hl : (o.length : Int) = (p.length : Int)
  · rw [hl]
    rw [show ((p.length : Int) == (p.length : Int)) = true from beq_self_eq_true _, show ((p.length : Int) != (p.length : Int)) = false from bne_self_eq_false _]
    rfl
  · rw [beq_ff' hl, bne_tt' hl]
    rfl
theorem best_facts {p : List (List D)} (h : prefE p = 0) : isOrd p.length (bsO p) ∧ bsN p = disG p (bsO p) ∧ bsO p = (bestG p).1 ∧ ∀ o, isOrd p.length o → bsN p ≤ disG p o ∧ (disG p o = bsN p → befG o (bsO p) = false) := by
  have hp := prefE_zero h
  obtain ⟨a1, _⟩ := allO_ok p.length hp.1
  have h0 : isOrd p.length ((allO p.length).getD 0 []) := by
    refine mem_allO.1 (getD_mem ?_)
    cases hA : allO (p.length : Int) with
    | nil => rw [hA] at a1; simp at a1
    | cons a l => simp
  obtain ⟨b1, b2, b3⟩ := bestG_best (fun o ho => disG_nn hp (isOrd_ok hp.1 ho)) h0
  have e1 : bsO p = (bestG p).1 := by unfold bsO; rw [h]; rfl
  have e2 : bsN p = (bestG p).2 := by unfold bsN; rw [h]; rfl
  rw [e1, e2]
  exact ⟨b1, b2, rfl, b3⟩
theorem nb_best {p : List (List D)} {best : List Int} (hb : isOrd p.length best) (hm : ∀ o, isOrd p.length o → disG p best ≤ disG p o) : ∀ (l a : List Int) (x : Int), best = a ++ x :: l → nbF p x l = true
  | [], _, _, _ => rfl
  | y :: l, a, x, h => by
    have h1 := hm (a ++ y :: x :: l) (isOrd_swap (by rw [← h]; exact hb))
    rw [h, dis_r, dis_r, triR_swap] at h1
    simp only [nbF]
    rw [decide_eq_true (show celP p y x ≤ celP p x y by omega), Bool.true_and]
    exact nb_best hb hm l (a ++ [x]) y (by rw [h]; simp)
theorem shortP_facts {p : List (List D)} (hw : wfP p) (h : shortP p = true) : okL p := by
  unfold shortP at h
  rw [Bool.and_eq_true] at h
  have h1 := of_decide_eq_true h.1
  refine ⟨by omega, fun d hd => ⟨hw d hd, ?_⟩⟩
  have h2 := List.all_eq_true.1 h.2 d hd
  have h3 := of_decide_eq_true (p := ((rowI d).length : Int) ≤ 8) h2
  omega
theorem okrkg : SpecOK Tryd.prog 8 lawRankS := by
  refine specOK (n := 135) (m := 0) (lps := []) (.cons okawk (.cons okshr (.cons okclD (.cons okcopyD (.cons okdis2 (.cons okbest2 (.cons okbnd (.cons okrpr (.cons okrbe (.cons ok30 (.cons okrbn (.cons okore (.cons okrdi .nil))))))))))))) Tryd.func8 (by kernel_rfl) (by kernel_rfl) (noLoops (by kernel_rfl)) fun args σ K h => ?_
  unfold lawRankS at h
  split at h
  rotate_right
  · exact h.elim
  rename_i p o
  rw [exrkg p o K]
  obtain ⟨hw, h⟩ := h
  cases hs : shortP p with
  | false => exact h
  | true =>
    have hL := shortP_facts hw hs
    have l1 : p.length ≤ 1000000000 := hL.1
    by_cases h6 : (p.length : Int) = 6
    · rw [h6]; exact h
    · rw [beq_ff' h6]
      by_cases ho : (o.length : Int) > 8
      · rw [decide_eq_true ho]; exact h
      · rw [decide_eq_false ho]
        have o1 : o.length ≤ 1000000000 := by omega
        have o2 : o.length ≤ 1000000000000 := by omega
        by_cases hp : prefE p = 0
        · have hP := prefE_zero hp
          obtain ⟨b1, b2, b3, b4⟩ := best_facts hp
          have bl : (bsO p).length ≤ 1000000000 := by have := b1.1; omega
          have e1 : bdV p = bndG p := by unfold bdV; rw [hp]; rfl
          rw [b3] at b2 bl
          rw [hp, diF_ord o hp, e1, b2, b3]
          simp only [bne_self_eq_false, beq_self_eq_true, cond_false, Bool.not_true]
          by_cases hO : ordE p.length o = 0
          · have hord := ordE_ord hO
            have e2 : diV p o = disG p o := by unfold diV; rw [diF_ord o hp, hO]; rfl
            have hob := okOb_iff.2 (isOrd_ok hP.1 hord)
            rw [hO, e2]
            simp only [bne_self_eq_false, beq_self_eq_true, cond_false, cond_true]
            exact ⟨hL, o2, ⟨l1, o1⟩, hL, l1, hL, l1, l1, hP, bl, hP, ⟨l1, o1⟩, ⟨hP, hob⟩, h⟩
          · have e2 : diV p o = 0 := by unfold diV; rw [diF_ord o hp, beq_ff' hO]; rfl
            rw [bne_tt' hO, e2]
            exact ⟨hL, o2, ⟨l1, o1⟩, hL, l1, hL, l1, l1, hP, bl, hP, ⟨l1, o1⟩, h⟩
        · obtain ⟨d1, d2⟩ := diE_bad o hp
          have e1 : bsO p = [] := by unfold bsO; rw [beq_ff' hp]; rfl
          have e2 : bsN p = 0 := by unfold bsN; rw [beq_ff' hp]; rfl
          have e3 : bdV p = 0 := by unfold bdV; rw [beq_ff' hp]; rfl
          rw [d1, d2, e1, e2, e3, bne_tt' hp, beq_self_eq_true (prefE p)]
          exact ⟨hL, o2, ⟨l1, o1⟩, hL, l1, hL, l1, l1, h⟩
theorem loknob_0 : LoopOK Enob (lb Tryd.f9 0) [0, 1, 5, 6, 12] [0, 1, 4, 5, 6] nbL := by
  refine loopOK (.cons okawk (.cons okshr (.cons okrpr (.cons okclD (.cons okbest2 (.cons okbnd (.cons okore (.cons okcopyD (.cons okdis2 (.cons okbef .nil)))))))))) (noInner (by kernel_rfl)) (fun vs σ => match vs, σ with
    | [.one (.data (.recs [.sints .i64] _)), .one (.data (.ints .i64 _)), .one (.data (.ints .i64 o)), .one (.int .i64 _), .one (.int .i64 i)], [] => (o.length - i).toNat
    | _, _ => 0) fun vs σ k h => ?_
  unfold nbL at h
  split at h
  rotate_right
  · exact h.elim
  · rename_i p x o n i
    rw [exnobl0a p x o n i _]
    obtain ⟨⟨hp, hob, h1⟩, h⟩ := h
    have ho := okOb_iff.1 hob
    have ho6 := ho.1
    by_cases hi : i < (o.length : Int)
    · have w1 : IntKind.i64.wrap (i - 1) = i - 1 := wrap_id (by omega) (by omega)
      have w2 : IntKind.i64.wrap (i + 1) = i + 1 := wrap_id (by omega) (by omega)
      have gi := okO_get ho (show i.toNat < o.length by omega)
      have gj := okO_get ho (show (i - 1).toNat < o.length by omega)
      obtain ⟨r1, _⟩ := okP_row hp gi.1 gi.2
      obtain ⟨r2, _⟩ := okP_row hp gj.1 gj.2
      have er1 : ((p.getD (o.getD i.toNat 0).toNat []).getD (0 : Nat) (D.int 0)).toInts = rowD p (o.getD i.toNat 0).toNat := rfl
      have er2 : ((p.getD (o.getD (i - 1).toNat 0).toNat []).getD (0 : Nat) (D.int 0)).toInts = rowD p (o.getD (i - 1).toNat 0).toNat := rfl
      have ec1 : (rowD p (o.getD i.toNat 0).toNat).getD (o.getD (i - 1).toNat 0).toNat 0 = celP p (o.getD i.toNat 0) (o.getD (i - 1).toNat 0) := rfl
      have ec2 : (rowD p (o.getD (i - 1).toNat 0).toNat).getD (o.getD i.toNat 0).toNat 0 = celP p (o.getD (i - 1).toNat 0) (o.getD i.toNat 0) := rfl
      rw [drop_step 0 (show i.toNat < o.length by omega), show i.toNat + 1 = (i + 1).toNat by omega] at h
      simp only [nbF] at h
      simp only [Nat.add_zero, w1, w2, er1, er2, ec1, ec2, decide_eq_true hi, decide_eq_true (show (0 : Int) ≤ i by omega), decide_eq_true (show i.toNat < o.length by omega), decide_eq_true gi.1, decide_eq_true gi.2,
        decide_eq_true (show (o.getD i.toNat 0).toNat < p.length by omega), decide_eq_true (show (0 : Int) ≤ i - 1 by omega), decide_eq_true (show i - 1 < (o.length : Int) by omega), decide_eq_true (show (i - 1).toNat < o.length by omega), decide_eq_true gj.1, decide_eq_true gj.2,
        decide_eq_true (show (o.getD (i - 1).toNat 0).toNat < p.length by omega), r1, r2, decide_true, Nat.zero_lt_one, cond_true, Bool.and_self]
      by_cases hc : celP p (o.getD i.toNat 0) (o.getD (i - 1).toNat 0) ≤ celP p (o.getD (i - 1).toNat 0) (o.getD i.toNat 0)
      · rw [decide_eq_true hc, Bool.true_and] at h
        rw [decide_eq_false (show ¬ celP p (o.getD i.toNat 0) (o.getD (i - 1).toNat 0) > celP p (o.getD (i - 1).toNat 0) (o.getD i.toNat 0) by omega)]
        refine ⟨⟨⟨hp, hob, by omega⟩, ?_⟩, by show ((o.length : Int) - (i + 1)).toNat < ((o.length : Int) - i).toNat; omega⟩
        rw [show (i + 1 - 1).toNat = i.toNat by omega]
        exact h
      · rw [decide_eq_false hc, Bool.false_and] at h
        rw [decide_eq_true (show celP p (o.getD i.toNat 0) (o.getD (i - 1).toNat 0) > celP p (o.getD (i - 1).toNat 0) (o.getD i.toNat 0) by omega)]
        exact h
    · rw [decide_eq_false hi]
      rw [List.drop_eq_nil_of_le (by omega)] at h
      exact h
theorem oknob : SpecOK Tryd.prog 9 lawNobS := by
  refine specOK (n := 140) (m := 0) (lps := [(13, .spec [0, 1, 5, 6, 12] [0, 1, 4, 5, 6] nbL)]) (.cons okawk (.cons okshr (.cons okrpr (.cons okclD (.cons okbest2 (.cons okbnd (.cons okore (.cons okcopyD (.cons okdis2 (.cons okbef .nil)))))))))) Tryd.func9 (by kernel_rfl) (by kernel_rfl) (theLoops (n := 1) (by kernel_rfl) fun i hi => ?_) fun args σ K h => ?_
  · match i, hi with
    | 0, _ => exact loopHyp_of (key := 13) (by kernel_rfl) rfl loknob_0
  unfold lawNobS at h
  split at h
  rotate_right
  · exact h.elim
  rename_i p o
  rw [exnob p o K]
  obtain ⟨hw, h⟩ := h
  cases hs : shortP p with
  | false => exact h
  | true =>
    have hL := shortP_facts hw hs
    have l1 : p.length ≤ 1000000000 := hL.1
    by_cases hp : prefE p = 0
    rotate_left
    · rw [bne_tt' hp]; exact ⟨l1, h⟩
    · by_cases ho : (o.length : Int) > 8
      · rw [decide_eq_true ho, hp]; exact ⟨l1, h⟩
      · have o1 : o.length ≤ 1000000000 := by omega
        have o2 : o.length ≤ 1000000000000 := by omega
        have hP := prefE_zero hp
        obtain ⟨b1, b2, b3, b4⟩ := best_facts hp
        have bl : (bsO p).length ≤ 1000000000 := by have := b1.1; omega
        have bl2 : (bsO p).length ≤ 1000000000000 := by have := b1.1; omega
        have e1 : bdV p = bndG p := by unfold bdV; rw [hp]; rfl
        have hob := okOb_iff.2 (isOrd_ok hP.1 b1)
        have q1 : ordE p.length (bsO p) = 0 := ord_ordE b1
        have q2 : diF p (bsO p) = 0 := by rw [diF_ord _ hp, q1]
        have q3 : diV p (bsO p) = bsN p := by unfold diV; rw [q2, b2]; rfl
        have q4 : ¬ bdV p > bsN p := by rw [e1, b2]; have := bnd_le hP.1 b1; omega
        have q5 : nbF p ((bsO p).getD 0 0) ((bsO p).drop 1) = true := by
          cases hB : bsO p with
          | nil => rfl
          | cons a l =>
            refine nb_best (p := p) (best := bsO p) b1 (fun o ho => by rw [← b2]; exact (b4 o ho).1) l [] a ?_
            rw [hB]; rfl
        rw [hp, q1, q2, q3, decide_eq_false q4, q5, decide_eq_false ho]
        simp only [bne_self_eq_false, cond_false, cond_true, Bool.not_true]
        by_cases hO : ordE p.length o = 0
        · have hord := ordE_ord hO
          have e2 : diF p o = 0 := by rw [diF_ord o hp, hO]
          have e3 : diV p o = disG p o := by unfold diV; rw [e2]; rfl
          obtain ⟨m1, m2⟩ := b4 o hord
          rw [hO, e2, e3]
          by_cases hgt : disG p o > bsN p
          · rw [decide_eq_true hgt]
            exact ⟨l1, hL, l1, hL, l1, ⟨l1, bl⟩, hL, bl2, ⟨l1, bl⟩, ⟨hP, hob, by decide⟩, ⟨l1, o1⟩, hL, o2, ⟨l1, o1⟩, h⟩
          · have heq : disG p o = bsN p := by omega
            have hb := m2 heq
            rw [decide_eq_false hgt, heq, hb, beq_self_eq_true (bsN p)]
            exact ⟨l1, hL, l1, hL, l1, ⟨l1, bl⟩, hL, bl2, ⟨l1, bl⟩, ⟨hP, hob, by decide⟩, ⟨l1, o1⟩, hL, o2, ⟨l1, o1⟩, ⟨o1, bl⟩, h⟩
        · rw [bne_tt' hO]
          exact ⟨l1, hL, l1, hL, l1, ⟨l1, bl⟩, hL, bl2, ⟨l1, bl⟩, ⟨hP, hob, by decide⟩, ⟨l1, o1⟩, h⟩
end Go.Ev
