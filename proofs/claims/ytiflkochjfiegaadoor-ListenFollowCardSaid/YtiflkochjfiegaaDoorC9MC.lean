/-
  Chapter 9, contracts: the law of moves.
-/
import Derived.Test.YtiflkochjfiegaaDoorC9MB
import Derived.KernelRfl
import Derived.Test.YtiflkochjfiegaaDoorEvOpen2
set_option linter.unusedVariables false
set_option linter.unusedSimpArgs false
set_option linter.unusedSectionVars false
namespace Go.Ev
open Go Go.Proofs
set_option maxRecDepth 20000

def short44 (d : List D) : Bool := decide (((toS d 2).length : Int) ≤ 44)
def lmvL : LSpec := fun vs σ k => match vs, σ with
  | [.one (.data (.recs [.int .i64, .int .i64, .str] p)), .one (.data (.recs [.bool, .int .i64, .int .i64] q)), .one (.int .i64 i)], [] =>
    (p.length ≤ 22 ∧ 0 ≤ i) ∧ bif (p.drop i.toNat).all short44 then k (.exit 0) [.one (.data (.recs [.int .i64, .int .i64, .str] p)), .one (.data (.recs [.bool, .int .i64, .int .i64] q)), .any] []
      else k .ret [.one (.data (.recs [.int .i64, .int .i64, .str] p)), .one (.data (.recs [.bool, .int .i64, .int .i64] q)), .one (.bool true)] []
  | _, _ => False
def cpnDS : Spec := fun args σ K => match args, σ with
  | [.one (.data (.recs [.int .i64, .int .i64, .str] p))], [] => p.length ≤ 1000000000 ∧ K (.one (.data (.recs [.int .i64, .int .i64, .str] p))) []
  | _, _ => False
def cpeDS : Spec := fun args σ K => match args, σ with
  | [.one (.data (.recs [.bool, .int .i64, .int .i64] q))], [] => q.length ≤ 1000000000 ∧ K (.one (.data (.recs [.bool, .int .i64, .int .i64] q))) []
  | _, _ => False
def lawMoveS : Spec := fun args σ K => match args, σ with
  | [.one (.data (.recs [.int .i64, .int .i64, .str] p)), .one (.data (.recs [.bool, .int .i64, .int .i64] q))], [] => (p.all wfN = true ∧ q.all wfE = true) ∧ K (.one (.bool true)) []
  | _, _ => False
noncomputable abbrev Elmv : Env := envOf Tryd.prog [(19, awakeS), (81, cpnDS), (82, cpeDS), (80, mvDS), (83, nrS), (85, rmDS), (84, snS)] [(6, .spec [0, 1, 5] [0, 1, 4] lmvL)] 62 0
end Go.Ev

namespace Go.Ev
open Go Go.Proofs
set_option maxRecDepth 100000
theorem exlmv (p q : List (List D)) (K : AV → List Blk → Prop) : evFn Elmv Tryd.f13 [.one (.data (.recs [.int .i64, .int .i64, .str] p)), .one (.data (.recs [.bool, .int .i64, .int .i64] q))] [] K = (
 bif decide ((↑p.length : Int) > (22 : Int)) then K (AV.one (SV.bool true)) []
 else
 bif decide ((↑q.length : Int) > (22 : Int)) then K (AV.one (SV.bool true)) []
 else
 (p.length ≤ (22 : Nat) ∧ (0 : Int) ≤ (0 : Int)) ∧
 bif p.all short44 then
 p.length ≤ (1000000000 : Nat) ∧
 q.length ≤ (1000000000 : Nat) ∧
 (p.all wfN = true ∧ q.all wfE = true ∧ q.length ≤ (1000000000 : Nat)) ∧
 bif nrE p q != (0 : Int) then
 bif mvE p q == nrE p q then K (AV.one (SV.bool ((↑(mvR p q).length : Int) == (0 : Int)))) []
 else K (AV.one (SV.bool false)) []
 else
 bif mvE p q == (0 : Int) then
 (q.all okE1 = true ∧
 q.length ≤ (20 : Nat) ∧ p.length ≤ (1000 : Nat) ∧ p.all (okN1 (1000000 : Int)) = true) ∧
 (mvR p q).length ≤ (1000000000 : Nat) ∧ K (AV.one (SV.bool (sameG (mvR p q) (movA p q)))) []
 else K (AV.one (SV.bool false)) []
 else K (AV.one (SV.bool true)) []) := by kernel_rfl
theorem exlmvl0a (p q : List (List D)) (i : Int) (K : Ex → List AV → List Blk → Prop) : evBody Elmv (lb Tryd.f13 0) [0, 1, 5] [0, 1, 4] [.one (.data (.recs [.int .i64, .int .i64, .str] p)), .one (.data (.recs [.bool, .int .i64, .int .i64] q)), .one (.int .i64 i)] [] K = (
 bif decide (i < (↑p.length : Int)) then
 bif decide ((0 : Int) ≤ i) && decide (i < (↑p.length : Int)) then
 bif decide ((2 : Nat) < (3 : Nat)) && decide (i.toNat < p.length) then
 bif decide ((↑((p.getD i.toNat []).getD (2 : Nat) (D.int (0 : Int))).toStr.length : Int) > (44 : Int)) then
 K Ex.ret
 [AV.one (SV.data (Row.recs [CK.int IntKind.i64, CK.int IntKind.i64, CK.str] p)),
 AV.one (SV.data (Row.recs [CK.bool, CK.int IntKind.i64, CK.int IntKind.i64] q)), AV.one (SV.bool true)]
 []
 else
 K Ex.normal
 [AV.one (SV.data (Row.recs [CK.int IntKind.i64, CK.int IntKind.i64, CK.str] p)),
 AV.one (SV.data (Row.recs [CK.bool, CK.int IntKind.i64, CK.int IntKind.i64] q)),
 AV.one (SV.int IntKind.i64 (IntKind.i64.wrap (i + (1 : Int))))]
 []
 else False
 else False
 else
 K (Ex.exit (0 : Nat))
 [AV.one (SV.data (Row.recs [CK.int IntKind.i64, CK.int IntKind.i64, CK.str] p)),
 AV.one (SV.data (Row.recs [CK.bool, CK.int IntKind.i64, CK.int IntKind.i64] q)), AV.any]
 []) := by kernel_rfl
end Go.Ev

namespace Go.Ev
open Go Go.Proofs
attribute [local irreducible] evFn evBody evRound
set_option maxRecDepth 20000

theorem okcpnD : SpecOK Tryd.prog 81 cpnDS := by
  refine okcpn.froze fun args σ K h => ?_
  unfold cpnDS at h
  split at h
  · obtain ⟨h1, h⟩ := h
    refine ⟨rfl, h1, _, ?_, h⟩
    exact ⟨_, _, rfl, rfl, rfl⟩
  · exact h.elim
theorem okcpeD : SpecOK Tryd.prog 82 cpeDS := by
  refine okcpe.froze fun args σ K h => ?_
  unfold cpeDS at h
  split at h
  · obtain ⟨h1, h⟩ := h
    refine ⟨rfl, h1, _, ?_, h⟩
    exact ⟨_, _, rfl, rfl, rfl⟩
  · exact h.elim
theorem edsE_any : ∀ q : List (List D), edsE q = bif q.any oddD then 2 else 0
  | [] => rfl
  | e :: q => by
    simp only [edsE, List.any_cons]
    cases oddD e with
    | true => rfl
    | false => rw [cond_false, Bool.false_or]; exact edsE_any q
theorem nrE_mv (p q : List (List D)) : mvE p q = nrE p q := by
  unfold mvE nrE edE
  by_cases hn : notE p = 0
  · rw [hn, edsE_any]
    by_cases hl : (q.length : Int) ≤ 20
    · rw [decide_eq_true hl, decide_eq_false (show ¬ (q.length : Int) > 20 by omega)]
      cases q.any oddD <;> rfl
    · rw [decide_eq_false hl, decide_eq_true (show (q.length : Int) > 20 by omega)]
      cases q.any oddD <;> rfl
  · have c1 : (notE p == 0) = false := beq_eq_false_iff_ne.2 hn
    rw [c1]
    simp only [firstE, c1, cond_false]
theorem movA_le : ∀ (q p : List (List D)), (movA p q).length ≤ p.length
  | [], _ => Nat.le_refl _
  | e :: q, p => Nat.le_trans (movA_le q _) (movL_le _ _ _ p)
theorem wfN_of {p : List (List D)} (h : okRecs [.int .i64, .int .i64, .str] p) : p.all wfN = true := by
  rw [List.all_eq_true]
  intro d hd
  have h2 := h.2 d hd
  match d, h2 with
  | [x, y, z], h3 =>
    have hx := h3.1
    have hy := h3.2.1
    have hz := h3.2.2.1
    cases x with
    | int a => cases y with
      | int l => cases z with
        | str t => rfl
        | _ => exact hz.elim
      | _ => exact hy.elim
    | _ => exact hx.elim
theorem wfE_of {q : List (List D)} (h : okRecs [.bool, .int .i64, .int .i64] q) : q.all wfE = true := by
  rw [List.all_eq_true]
  intro d hd
  have h2 := h.2 d hd
  match d, h2 with
  | [x, y, z], h3 =>
    have hx := h3.1
    have hy := h3.2.1
    have hz := h3.2.2.1
    cases x with
    | bool a => cases y with
      | int l => cases z with
        | int t => rfl
        | _ => exact hz.elim
      | _ => exact hy.elim
    | _ => exact hx.elim
theorem loklmv_0 : LoopOK Elmv (lb Tryd.f13 0) [0, 1, 5] [0, 1, 4] lmvL := by
  refine loopOK (.cons okawk (.cons okcpnD (.cons okcpeD (.cons okmvD (.cons oknre (.cons okrmD (.cons oksnt .nil))))))) (noInner (by kernel_rfl)) (fun vs σ => match vs, σ with
    | [.one (.data (.recs [.int .i64, .int .i64, .str] p)), .one (.data (.recs [.bool, .int .i64, .int .i64] _)), .one (.int .i64 i)], [] => (p.length - i).toNat
    | _, _ => 0) fun vs σ k h => ?_
  unfold lmvL at h
  split at h
  rotate_right
  · exact h.elim
  · rename_i p q i
    rw [exlmvl0a p q i _]
    obtain ⟨⟨h1, h0⟩, h⟩ := h
    by_cases hi : i < (p.length : Int)
    · have hw : IntKind.i64.wrap (i + 1) = i + 1 := wrap_id (by omega) (by omega)
      rw [drop_step [] (show i.toNat < p.length by omega), List.all_cons, show i.toNat + 1 = (i + 1).toNat by omega] at h
      have g2 : ((p.getD i.toNat []).getD 2 (D.int 0)).toStr = toS (p.getD i.toNat []) 2 := rfl
      simp only [g2]
      rw [hw, decide_eq_true hi, decide_eq_true h0, decide_eq_true (show i.toNat < p.length by omega)]
      by_cases ht : ((toS (p.getD i.toNat []) 2).length : Int) > 44
      · have e : short44 (p.getD i.toNat []) = false := decide_eq_false (by omega)
        rw [e, Bool.false_and] at h
        rw [decide_eq_true ht]
        exact h
      · have e : short44 (p.getD i.toNat []) = true := decide_eq_true (by omega)
        rw [e, Bool.true_and] at h
        rw [decide_eq_false ht]
        exact ⟨⟨⟨h1, by omega⟩, h⟩, by show ((p.length : Int) - (i + 1)).toNat < ((p.length : Int) - i).toNat; omega⟩
    · rw [decide_eq_false hi]
      rw [List.drop_eq_nil_of_le (by omega)] at h
      exact h
theorem oklmv : SpecOK Tryd.prog 13 lawMoveS := by
  refine specOK (n := 62) (m := 0) (lps := [(6, .spec [0, 1, 5] [0, 1, 4] lmvL)]) (.cons okawk (.cons okcpnD (.cons okcpeD (.cons okmvD (.cons oknre (.cons okrmD (.cons oksnt .nil))))))) Tryd.func13 (by kernel_rfl) (by kernel_rfl) (theLoops (n := 1) (by kernel_rfl) fun i hi => ?_) fun args σ K h => ?_
  · match i, hi with
    | 0, _ => exact loopHyp_of (key := 6) (by kernel_rfl) rfl loklmv_0
  unfold lawMoveS at h
  split at h
  rotate_right
  · exact h.elim
  rename_i p q
  rw [exlmv p q K]
  obtain ⟨⟨hp, hq⟩, h⟩ := h
  by_cases h1 : (p.length : Int) > 22
  · rw [decide_eq_true h1]; exact h
  rw [decide_eq_false h1]
  by_cases h2 : (q.length : Int) > 22
  · rw [decide_eq_true h2]; exact h
  rw [decide_eq_false h2]
  refine ⟨⟨by omega, by decide⟩, ?_⟩
  cases hs : p.all short44 with
  | false => exact h
  | true =>
    refine ⟨by omega, by omega, ⟨hp, hq, by omega⟩, ?_⟩
    rw [← nrE_mv]
    by_cases he : mvE p q = 0
    · obtain ⟨e1, e2⟩ := firstE2 he
      obtain ⟨n1, n2⟩ := notE_ok hp e1
      obtain ⟨d1, d2⟩ := edE_ok hq e2
      have hr : mvR p q = movA p q := by unfold mvR; rw [he]; rfl
      have hl := movA_le q p
      rw [he, hr, sameG_refl]
      exact ⟨⟨d2, d1, by omega, n2⟩, by omega, h⟩
    · have c1 : (mvE p q == 0) = false := beq_eq_false_iff_ne.2 he
      have hr : mvR p q = [] := by unfold mvR; rw [c1]; rfl
      rw [hr, show (mvE p q != 0) = true by rw [bne, c1]; rfl, beq_self_eq_true (mvE p q)]
      exact h
end Go.Ev
