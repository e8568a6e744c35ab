/-
  Part of the proof of a law.
-/
import Derived.Test.YtophekjofpahfaaC9C
import Derived.KernelRfl
set_option linter.unusedVariables false
set_option linter.unusedSimpArgs false
set_option linter.unusedSectionVars false
/-
  Chapter 9, contracts: tails.
-/
namespace Go.Ev
open Go Go.Proofs
set_option maxRecDepth 20000
def trialsS : Spec := fun args σ K => match args, σ with
  | [.one (.int .i64 n)], [] => K (.one (.int .i64 (bif withinG n 0 29 then 0 else 2))) []
  | _, _ => False
def tlOut (t i w : Int) (out : List Int) : List Int :=
  bif decide (i > 0) then (out.set (t - i).toNat w).set (t - i).toNat (wi ((out.set (t - i).toNat w).getD (t - i).toNat 0 + (out.set (t - i).toNat w).getD (t - i + 1).toNat 0)) else out.set (t - i).toNat w
def tlW (t i w : Int) : Int := wi ((wi (w * (t - i))).tdiv (i + 1))
def tlG (t : Int) : Nat → Int → Int → List Int → List Int
  | 0, _, _, out => out
  | n + 1, i, w, out => tlG t n (i + 1) (tlW t i w) (tlOut t i w out)
def tailsG (t : Int) : List Int := tlG t (t + 1).toNat 0 1 (List.replicate (t + 1).toNat 0)
def tlL : LSpec := fun vs σ k => match vs, σ with
  | [.one (.int .i64 t), .one (.own 0 1), .one (.int .i64 w), .one (.int .i64 n), .one (.int .i64 i)], [.row 3 (.ints .i64 out)] =>
    (0 ≤ t ∧ t ≤ 29 ∧ (out.length : Int) = t + 1 ∧ n = t + 1 ∧ 0 ≤ i ∧ i ≤ n) ∧ k (.exit 0) [.one (.own 0 1)] [.row 3 (.ints .i64 (tlG t (n - i).toNat i w out))]
  | _, _ => False
def tailsS : Spec := fun args σ K => match args, σ with
  | [.one (.int .i64 t)], [] => (0 ≤ t ∧ t ≤ 29) ∧ K (.one (.own 0 1)) [.row 3 (.ints .i64 (tailsG t))]
  | _, _ => False
def tailE (t r : Int) : Int := firstE [bif withinG t 0 29 then 0 else 2, bif withinG r 0 t then 0 else 2]
def powD (t : Int) : Int := wi (1 * 2 ^ (min t.toNat 64))
def tailS : Spec := fun args σ K => match args, σ with
  | [.one (.int .i64 t), .one (.int .i64 r)], [] =>
    bif tailE t r == 0 then K (.tup [.agg [.int .i64 (wi (((tailsG t).getD r.toNat 0).tdiv (gcdG ((tailsG t).getD r.toNat 0) (powD t)))), .int .i64 (wi ((powD t).tdiv (gcdG ((tailsG t).getD r.toNat 0) (powD t))))], .one (.int .i64 0)]) []
    else K (.tup [.agg [.int .i64 0, .int .i64 0], .one (.int .i64 (tailE t r))]) []
  | _, _ => False
noncomputable abbrev Etrl : Env := envOf Try.prog [(21, withinS), (20, unlessS)] [] 6 0
noncomputable abbrev Etls : Env := envOf Try.prog [] [(4, .spec [0, 3, 4, 10, 11] [3] tlL)] 47 0
noncomputable abbrev Etail : Env := envOf Try.prog [(19, trialsS), (21, withinS), (20, unlessS), (18, firstS), (23, tailsS), (22, lowS)] [] 27 0
end Go.Ev

namespace Go.Ev
open Go Go.Proofs
set_option maxRecDepth 100000
theorem extrl (n : Int) (K : AV → List Blk → Prop) : evFn Etrl Try.f19 [.one (.int .i64 n)] [] K = ( K (.one (.int .i64 (bif decide (0 ≤ n) && decide (n ≤ 29) then (0 :Int) else (2 :Int)))) []) := by kernel_rfl
theorem extls (t : Int) (K : AV → List Blk → Prop) : evFn Etls Try.f23 [.one (.int .i64 t)] [] K = ( bif decide (0 ≤ IntKind.i64.wrap (t + 1)) && (decide (IntKind.i64.wrap (t + 1) ≤ IntKind.i64.wrap (t + 1)) && decide (IntKind.i64.wrap (t + 1) * (8 :Int) ≤ (140737488355328 :Int) ∧ IntKind.i64.wrap (t + 1) ≤ 140737488355328)) then (0 ≤ t ∧ t ≤ 29 ∧ (↑(List.replicate (IntKind.i64.wrap (t + 1)).toNat (0 :Int)).length : Int) = t + 1 ∧ (↑(List.replicate (IntKind.i64.wrap (t + 1)).toNat (0 :Int)).length : Int) = t + 1 ∧ (0 :Int) ≤ (0 :Int) ∧ 0 ≤ (↑(List.replicate (IntKind.i64.wrap (t + 1)).toNat (0 :Int)).length : Int)) ∧ K (.one (.own 0 1)) [Blk.row 3 (Row.ints .i64 (tlG t ((↑(List.replicate (IntKind.i64.wrap (t + 1)).toNat (0 :Int)).length : Int) - 0).toNat (0 :Int) 1 (List.replicate (IntKind.i64.wrap (t + 1)).toNat (0 :Int))))] else False) := by kernel_rfl
theorem extlsa (t w n i : Int) (out : List Int) (K : Ex → List AV → List Blk → Prop) : evBody Etls (lb Try.f23 0) [0, 3, 4, 10, 11] [3] [.one (.int .i64 t), .one (.own 0 1), .one (.int .i64 w), .one (.int .i64 n), .one (.int .i64 i)] [.row 3 (.ints .i64 out)] K = ( bif decide (i < n) then bif decide (0 ≤ IntKind.i64.wrap (t - i)) && decide (IntKind.i64.wrap (t - i) < (↑out.length : Int)) then bif decide ((IntKind.i64.wrap (t - i)).toNat + 0 < out.length) then bif decide (i > 0) then bif decide (0 ≤ IntKind.i64.wrap (t - i)) && decide (IntKind.i64.wrap (t - i) < (↑(out.set ((IntKind.i64.wrap (t - i)).toNat + 0) w).length : Int)) then bif decide ((IntKind.i64.wrap (t - i)).toNat + 0 < (out.set ((IntKind.i64.wrap (t - i)).toNat + 0) w).length) then bif decide (0 ≤ IntKind.i64.wrap (IntKind.i64.wrap (t - i) + 1)) && decide (IntKind.i64.wrap (IntKind.i64.wrap (t - i) + 1) < (↑(out.set ((IntKind.i64.wrap (t - i)).toNat + 0) w).length : Int)) then bif decide ((IntKind.i64.wrap (IntKind.i64.wrap (t - i) + 1)).toNat + 0 < (out.set ((IntKind.i64.wrap (t - i)).toNat + 0) w).length) then bif decide (0 ≤ IntKind.i64.wrap (t - i)) && decide (IntKind.i64.wrap (t - i) < (↑(out.set ((IntKind.i64.wrap (t - i)).toNat + 0) w).length : Int)) then bif decide ((IntKind.i64.wrap (t - i)).toNat + 0 < (out.set ((IntKind.i64.wrap (t - i)).toNat + 0) w).length) then bif !decide (IntKind.i64.wrap (i + 1) = 0) then K .normal [.one (.int .i64 t), .one (.own 0 1), .one (.int .i64 (IntKind.i64.wrap ((IntKind.i64.wrap (w * IntKind.i64.wrap (t - i))).tdiv (IntKind.i64.wrap (i + 1))))), .one (.int .i64 n), .one (.int .i64 (IntKind.i64.wrap (i + 1)))] [Blk.row 3 (Row.ints .i64 ((out.set ((IntKind.i64.wrap (t - i)).toNat + 0) w).set ((IntKind.i64.wrap (t - i)).toNat + 0) (IntKind.i64.wrap ((out.set ((IntKind.i64.wrap (t - i)).toNat + 0) w).getD ((IntKind.i64.wrap (t - i)).toNat + 0) 0 + (out.set ((IntKind.i64.wrap (t - i)).toNat + 0) w).getD ((IntKind.i64.wrap (IntKind.i64.wrap (t - i) + 1)).toNat + 0) 0))))] else False else False else False else False else False else False else False else bif !decide (IntKind.i64.wrap (i + 1) = 0) then K .normal [.one (.int .i64 t), .one (.own 0 1), .one (.int .i64 (IntKind.i64.wrap ((IntKind.i64.wrap (w * IntKind.i64.wrap (t - i))).tdiv (IntKind.i64.wrap (i + 1))))), .one (.int .i64 n), .one (.int .i64 (IntKind.i64.wrap (i + 1)))] [Blk.row 3 (Row.ints .i64 (out.set ((IntKind.i64.wrap (t - i)).toNat + 0) w))] else False else False else False else K (.exit 0) [.one (.own 0 1)] [Blk.row 3 (Row.ints .i64 out)]) := by kernel_rfl
theorem extail (t r : Int) (K : AV → List Blk → Prop) : evFn Etail Try.f11 [.one (.int .i64 t), .one (.int .i64 r)] [] K = ( [bif withinG t 0 29 then (0 :Int) else (2 :Int), bif decide (0 ≤ r) && decide (r ≤ t) then (0 :Int) else (2 :Int)].length ≤ 1000 ∧ bif firstE [bif withinG t 0 29 then (0 :Int) else (2 :Int), bif decide (0 ≤ r) && decide (r ≤ t) then (0 :Int) else (2 :Int)] != 0 then K (AV.tup [TV.agg [SV.int .i64 0, SV.int .i64 0], .one (.int .i64 (firstE [bif withinG t 0 29 then (0 :Int) else (2 :Int), bif decide (0 ≤ r) && decide (r ≤ t) then (0 :Int) else (2 :Int)]))]) [] else bif !decide (t < 0) then (0 ≤ t ∧ t ≤ 29) ∧ bif decide (0 ≤ r) && decide (r < (↑(tailsG t).length : Int)) then bif decide (r.toNat + 0 < (tailsG t).length) then gcdG ((tailsG t).getD (r.toNat + 0) 0) (IntKind.i64.wrap ((1 :Int) * (2 :Int) ^ min t.toNat 64)) ≠ 0 ∧ K (AV.tup [TV.agg [SV.int .i64 (wi (((tailsG t).getD (r.toNat + 0) 0).tdiv (gcdG ((tailsG t).getD (r.toNat + 0) 0) (IntKind.i64.wrap ((1 :Int) * (2 :Int) ^ min t.toNat 64))))), SV.int .i64 (wi ((IntKind.i64.wrap ((1 :Int) * (2 :Int) ^ min t.toNat 64)).tdiv (gcdG ((tailsG t).getD (r.toNat + 0) 0) (IntKind.i64.wrap ((1 :Int) * (2 :Int) ^ min t.toNat 64)))))], .one (.int .i64 0)]) [] else False else False else False) := by kernel_rfl
end Go.Ev

/-
  Chapter 9: the contracts of tails are kept.
-/
namespace Go.Ev
open Go Go.Proofs
attribute [local irreducible] evFn evBody evRound
set_option maxRecDepth 20000
theorem oktrl : SpecOK Try.prog 19 trialsS := by
  refine specOK (n := 6) (m := 0) (lps := []) (.cons ok71 (.cons ok70 .nil)) Try.func19 (by kernel_rfl) (by kernel_rfl) (noLoops (by kernel_rfl)) fun args σ K h => ?_
  unfold trialsS at h
  split at h
  · rename_i n
    rw [extrl n K]; exact h
  · exact h.elim
theorem tlG_length (t : Int) : ∀ (n : Nat) (i w : Int) (out : List Int), (tlG t n i w out).length = out.length
  | 0, _, _, _ => rfl
  | n + 1, i, w, out => by
    rw [tlG, tlG_length t n]
    unfold tlOut
    cases decide (i > 0) <;> simp
theorem tailsG_length {t : Int} (h : 0 ≤ t) : ((tailsG t).length : Int) = t + 1 := by
  unfold tailsG
  rw [tlG_length, List.length_replicate]
  omega
theorem loktls : LoopOK Etls (lb Try.f23 0) [0, 3, 4, 10, 11] [3] tlL := by
  refine loopOK .nil (noInner (by kernel_rfl)) (fun vs _ => match vs with
    | [_, _, _, .one (.int .i64 n), .one (.int .i64 i)] => (n - i).toNat
    | _ => 0) fun vs σ k h => ?_
  unfold tlL at h
  split at h
  · rename_i t w n i out
    rw [extlsa t w n i out _]
    obtain ⟨⟨h1, h2, h3, rfl, h4, h5⟩, h⟩ := h
    by_cases hi : i < t + 1
    · have w1 : IntKind.i64.wrap (t - i) = t - i := wrap_id (by omega) (by omega)
      have w2 : IntKind.i64.wrap (t - i + 1) = t - i + 1 := wrap_id (by omega) (by omega)
      have w3 : IntKind.i64.wrap (i + 1) = i + 1 := wrap_id (by omega) (by omega)
      have hmu : (t + 1 - (i + 1)).toNat < (t + 1 - i).toNat := by omega
      have e : (t + 1 - i).toNat = (t + 1 - (i + 1)).toNat + 1 := by omega
      have e2 : tlG t ((t + 1 - (i + 1)).toNat + 1) i w out = tlG t (t + 1 - (i + 1)).toNat (i + 1) (tlW t i w) (tlOut t i w out) := rfl
      have e3 : tlW t i w = IntKind.i64.wrap ((IntKind.i64.wrap (w * (t - i))).tdiv (i + 1)) := rfl
      rw [e, e2, e3] at h
      have a1 : (t - i).toNat < out.length := by omega
      have a2 : 0 ≤ t - i := by omega
      have a3 : t - i < out.length := by omega
      have a4 : ¬ i + 1 = 0 := by omega
      simp only [Nat.add_zero, w1, w2, w3, List.length_set, hi, a1, a2, a3, a4, decide_true, decide_false, Bool.and_self, Bool.not_false, cond_true]
      by_cases hp : i > 0
      · have a5 : 0 ≤ t - i + 1 := by omega
        have a6 : t - i + 1 < out.length := by omega
        have a7 : (t - i + 1).toNat < out.length := by omega
        have eo : tlOut t i w out = (out.set (t - i).toNat w).set (t - i).toNat (IntKind.i64.wrap ((out.set (t - i).toNat w).getD (t - i).toNat 0 + (out.set (t - i).toNat w).getD (t - i + 1).toNat 0)) := by
          unfold tlOut; rw [decide_eq_true hp]; rfl
        rw [eo] at h
        simp only [hp, a5, a6, a7, decide_true, Bool.and_self, cond_true]
        exact ⟨⟨⟨h1, h2, by simp only [List.length_set]; exact h3, rfl, by omega, by omega⟩, h⟩, hmu⟩
      · have eo : tlOut t i w out = out.set (t - i).toNat w := by
          unfold tlOut; rw [decide_eq_false hp]; rfl
        rw [eo] at h
        simp only [hp, decide_false, cond_false]
        exact ⟨⟨⟨h1, h2, by simp only [List.length_set]; exact h3, rfl, by omega, by omega⟩, h⟩, hmu⟩
    · have e : (t + 1 - i).toNat = 0 := by omega
      rw [e] at h
      simp only [hi, decide_false, cond_false]
      exact h
  · exact h.elim
theorem oktls : SpecOK Try.prog 23 tailsS := by
  refine specOK (n := 47) (m := 0) (lps := [(4, .spec [0, 3, 4, 10, 11] [3] tlL)]) .nil Try.func23 (by kernel_rfl) (by kernel_rfl) (theLoops (n := 1) (by kernel_rfl) fun i hi => ?_) fun args σ K h => ?_
  · match i, hi with
    | 0, _ => exact loopHyp_of (key := 4) (by kernel_rfl) rfl loktls
  · unfold tailsS at h
    split at h
    · rename_i t
      rw [extls t K]
      obtain ⟨⟨h1, h2⟩, h⟩ := h
      rw [wrap_id (n := t + 1) (by omega) (by omega)]
      have c : (decide ((0 : Int) ≤ t + 1) && (decide (t + 1 ≤ t + 1) && decide ((t + 1) * 8 ≤ 140737488355328 ∧ t + 1 ≤ 140737488355328))) = true := by
        rw [decide_eq_true (by omega), decide_eq_true (by omega), decide_eq_true (by omega)]; rfl
      have e : ((List.replicate (t + 1).toNat (0 : Int)).length : Int) = t + 1 := by rw [List.length_replicate]; omega
      rw [c, cond_true, e, Int.sub_zero]
      exact ⟨⟨h1, h2, by first | rfl | trivial, by first | rfl | trivial, by decide, by omega⟩, h⟩
    · exact h.elim
theorem powD_range {t : Int} (h1 : 0 ≤ t) (h2 : t ≤ 29) : 1 ≤ powD t ∧ powD t ≤ 536870912 := by
  obtain ⟨n, rfl⟩ := Int.eq_ofNat_of_zero_le h1
  have h : ∀ n : Nat, n ≤ 29 → 1 ≤ powD n ∧ powD n ≤ 536870912 := by decide +kernel
  exact h n (by omega)
theorem tailE_zero {t r : Int} (h : tailE t r = 0) : (0 ≤ t ∧ t ≤ 29) ∧ 0 ≤ r ∧ r ≤ t := by
  obtain ⟨h1, h2⟩ := firstE2 h
  constructor
  · cases hw : withinG t 0 29 with
    | true => unfold withinG at hw; simpa using hw
    | false => rw [hw] at h1; cases h1
  · cases hw : withinG r 0 t with
    | true => unfold withinG at hw; simpa using hw
    | false => rw [hw] at h2; cases h2
theorem oktail : SpecOK Try.prog 11 tailS := by
  refine specOK (n := 27) (m := 0) (lps := []) (.cons oktrl (.cons ok71 (.cons ok70 (.cons ok69 (.cons oktls (.cons oklow .nil)))))) Try.func11 (by kernel_rfl) (by kernel_rfl) (noLoops (by kernel_rfl)) fun args σ K h => ?_
  unfold tailS at h
  split at h
  · rename_i t r
    rw [extail t r K]
    refine ⟨by simp, ?_⟩
    by_cases he : tailE t r = 0
    · obtain ⟨⟨t1, t2⟩, r1, r2⟩ := tailE_zero he
      rw [he] at h
      simp only [beq_self_eq_true, cond_true] at h
      have he' : firstE [bif withinG t (0 : Int) (29 : Int) then (0 : Int) else (2 : Int), bif decide ((0 : Int) ≤ r) && decide (r ≤ t) then (0 : Int) else (2 : Int)] = 0 := he
      rw [he']
      simp only [bne_self_eq_false, cond_false]
      have hl := tailsG_length t1
      obtain ⟨p1, p2⟩ := powD_range t1 t2
      have hg : gcdG ((tailsG t).getD r.toNat 0) (powD t) ≠ 0 := by
        intro e
        obtain ⟨_, g2, _⟩ := gcdG_pos (a := (tailsG t).getD r.toNat 0) (b := powD t) (by omega) (by omega)
        rw [e] at g2
        have : sizeG 0 = 0 := by decide
        omega
      have c1 : decide (t < 0) = false := decide_eq_false (by omega)
      have c2 : decide (r < ((tailsG t).length : Int)) = true := decide_eq_true (by omega)
      have c3 : decide (r.toNat < (tailsG t).length) = true := decide_eq_true (by omega)
      rw [c1, c2, decide_eq_true r1]
      simp only [Nat.add_zero, c3, Bool.not_false, Bool.and_self, cond_true]
      exact ⟨⟨t1, t2⟩, hg, h⟩
    · have e1 : (tailE t r == 0) = false := beq_eq_false_iff_ne.2 he
      have e2 : (firstE [bif withinG t (0 : Int) (29 : Int) then (0 : Int) else (2 : Int), bif decide ((0 : Int) ≤ r) && decide (r ≤ t) then (0 : Int) else (2 : Int)] != 0) = true := bne_iff_ne.2 (show ¬ tailE t r = 0 from he)
      rw [e1, cond_false] at h
      rw [e2, cond_true]
      exact h
  · exact h.elim
end Go.Ev
