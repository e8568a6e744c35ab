/-
  Chapter 9, contracts: results without branches.
-/
import Derived.Test.YtiflkochjfiegaaDoorC9E
import Derived.Test.YtiflkochjfiegaaDoorC9T
import Derived.Test.YtiflkochjfiegaaDoorC9F
import Derived.Test.YtiflkochjfiegaaDoorEvFrz
import Derived.Test.YtiflkochjfiegaaDoorC9I
set_option linter.unusedVariables false
set_option linter.unusedSimpArgs false
set_option linter.unusedSectionVars false
namespace Go.Ev
open Go Go.Proofs
set_option maxRecDepth 20000

def ldE (len hop gate pct : Int) (x : List Int) : Int := bif meE len hop gate pct x == 0 then (bif (ldI len hop gate pct x).isEmpty then 12 else 0) else meE len hop gate pct x
def ldP (len hop gate pct : Int) (x : List Int) : Int := bif ldE len hop gate pct x == 0 then wi ((ldN len hop gate pct x).tdiv (gcdG (ldN len hop gate pct x) (ldD len hop gate pct x))) else 0
def ldQ (len hop gate pct : Int) (x : List Int) : Int := bif ldE len hop gate pct x == 0 then wi ((ldD len hop gate pct x).tdiv (gcdG (ldN len hop gate pct x) (ldD len hop gate pct x))) else 0
def loud2S : Spec := fun args σ K => match args, σ with
  | [.agg [.int .i64 len, .int .i64 hop, .int .i64 gate, .int .i64 pct], .one (.data (.ints .i64 x))], [] => x.length ≤ 1000000000 ∧
    K (.tup [.agg [.int .i64 (ldP len hop gate pct x), .int .i64 (ldQ len hop gate pct x)], .one (.int .i64 (ldE len hop gate pct x))]) []
  | _, _ => False
def gbI (len hop gate pct : Int) (x : List Int) : List Int := bif meE len hop gate pct x == 0 then ldI len hop gate pct x else []
def gb2S : Spec := fun args σ K => match args, σ with
  | [.agg [.int .i64 len, .int .i64 hop, .int .i64 gate, .int .i64 pct], .one (.data (.ints .i64 x))], [] => x.length ≤ 1000000000 ∧
    bif (gbI len hop gate pct x).isEmpty then K (.tup [.one .nil, .one (.int .i64 (meE len hop gate pct x))]) [] else K (.tup [.one (.own 0 1), .one (.int .i64 (meE len hop gate pct x))]) [.row 3 (.ints .i64 (gbI len hop gate pct x))]
  | _, _ => False
def gbDS : Spec := fun args σ K => match args, σ with
  | [.agg [.int .i64 len, .int .i64 hop, .int .i64 gate, .int .i64 pct], .one (.data (.ints .i64 x))], [] => x.length ≤ 1000000000 ∧
    K (.tup [.one (.data (.ints .i64 (gbI len hop gate pct x))), .one (.int .i64 (meE len hop gate pct x))]) []
  | _, _ => False
def rgatDS : Spec := fun args σ K => match args, σ with
  | [.agg [.int .i64 len, .int .i64 hop, .int .i64 gate, .int .i64 pct], .one (.data (.ints .i64 x))], [] => (okX x len hop ∧ meterG len hop gate pct = true) ∧ K (.one (.data (.ints .i64 (ldI len hop gate pct x)))) []
  | _, _ => False
def copyDS : Spec := fun args σ K => match args, σ with
  | [.one (.data (.ints .i64 l))], [] => l.length ≤ 1000000000000 ∧ K (.one (.data (.ints .i64 l))) []
  | _, _ => False
def rldP (len hop gate pct : Int) (x : List Int) : Int := bif (ldI len hop gate pct x).isEmpty then 0 else wi ((ldN len hop gate pct x).tdiv (gcdG (ldN len hop gate pct x) (ldD len hop gate pct x)))
def rldQ (len hop gate pct : Int) (x : List Int) : Int := bif (ldI len hop gate pct x).isEmpty then 0 else wi ((ldD len hop gate pct x).tdiv (gcdG (ldN len hop gate pct x) (ldD len hop gate pct x)))
def rloud2S : Spec := fun args σ K => match args, σ with
  | [.agg [.int .i64 len, .int .i64 hop, .int .i64 gate, .int .i64 pct], .one (.data (.ints .i64 x))], [] => (okX x len hop ∧ meterG len hop gate pct = true) ∧
    K (.tup [.agg [.int .i64 (rldP len hop gate pct x), .int .i64 (rldQ len hop gate pct x)], .one (.bool (!(ldI len hop gate pct x).isEmpty))]) []
  | _, _ => False
def tpE (x : List Int) : Int := sigE x
def tpP (x : List Int) : Int := bif sigE x == 0 then wi ((peakG x).tdiv (gcdG (peakG x) 128)) else 0
def tpQ (x : List Int) : Int := bif sigE x == 0 then wi ((128 : Int).tdiv (gcdG (peakG x) 128)) else 0
def true2S : Spec := fun args σ K => match args, σ with
  | [.one (.data (.ints .i64 x))], [] => (x.length ≤ 1000000000 ∧ (sigE x = 0 → peakOk x = true)) ∧ K (.tup [.agg [.int .i64 (tpP x), .int .i64 (tpQ x)], .one (.int .i64 (sigE x))]) []
  | _, _ => False
def tlP (t r : Int) : Int := bif tailE t r == 0 then wi (((tailsG t).getD r.toNat 0).tdiv (gcdG ((tailsG t).getD r.toNat 0) (powD t))) else 0
def tlQ (t r : Int) : Int := bif tailE t r == 0 then wi ((powD t).tdiv (gcdG ((tailsG t).getD r.toNat 0) (powD t))) else 0
def tail2S : Spec := fun args σ K => match args, σ with
  | [.one (.int .i64 t), .one (.int .i64 r)], [] => K (.tup [.agg [.int .i64 (tlP t r), .int .i64 (tlQ t r)], .one (.int .i64 (tailE t r))]) []
  | _, _ => False
def mnE (t n d : Int) : Int := bif minE t n d == 0 then (bif decide (minI t n d < 0) then 12 else 0) else minE t n d
def mnV (t n d : Int) : Int := bif mnE t n d == 0 then minI t n d else 0
def min2S : Spec := fun args σ K => match args, σ with
  | [.one (.int .i64 t), .agg [.int .i64 n, .int .i64 d]], [] => K (.tup [.one (.int .i64 (mnV t n d)), .one (.int .i64 (mnE t n d))]) []
  | _, _ => False
def rmV (t n d : Int) : Int := bif decide (rminI t n d (t + 1).toNat 0 < 0) then 0 else rminI t n d (t + 1).toNat 0
def rmin2S : Spec := fun args σ K => match args, σ with
  | [.one (.int .i64 t), .agg [.int .i64 n, .int .i64 d]], [] => (0 ≤ t ∧ t ≤ 29) ∧ K (.tup [.one (.int .i64 (rmV t n d)), .one (.bool (!decide (rminI t n d (t + 1).toNat 0 < 0)))]) []
  | _, _ => False
def bsO (p : List (List D)) : List Int := bif prefE p == 0 then (bestG p).1 else []
def bsN (p : List (List D)) : Int := bif prefE p == 0 then (bestG p).2 else 0
def best2S : Spec := fun args σ K => match args, σ with
  | [.one (.data (.recs [.sints .i64] p))], [] => p.length ≤ 1000000000 ∧
    K (.tup [.one (.data (.ints .i64 (bsO p))), .one (.int .i64 (bsN p)), .one (.int .i64 (prefE p))]) []
  | _, _ => False
end Go.Ev

namespace Go.Ev
open Go Go.Proofs
attribute [local irreducible] evFn evBody evRound
set_option maxRecDepth 20000

theorem okloud2 : SpecOK Tryd.prog 23 loud2S := by
  refine okloud.weak fun args σ K h => ?_
  unfold loud2S at h
  split at h
  · rename_i len hop gate pct x
    obtain ⟨h1, h⟩ := h
    refine ⟨h1, ?_⟩
    unfold ldP ldQ ldE at h
    by_cases he : meE len hop gate pct x = 0
    · rw [he] at h ⊢
      cases hg : (ldI len hop gate pct x).isEmpty with
      | true => rw [hg] at h; exact h
      | false => rw [hg] at h; exact h
    · have e1 : (meE len hop gate pct x == 0) = false := beq_eq_false_iff_ne.2 he
      rw [e1] at h ⊢
      simp only [cond_false, e1] at h
      exact h
  · exact h.elim
theorem okgb2 : SpecOK Tryd.prog 21 gb2S := by
  refine okgb.weak fun args σ K h => ?_
  unfold gb2S at h
  split at h
  · rename_i len hop gate pct x
    obtain ⟨h1, h⟩ := h
    refine ⟨h1, ?_⟩
    unfold gbI at h
    by_cases he : meE len hop gate pct x = 0
    · rw [he] at h ⊢
      exact h
    · have e1 : (meE len hop gate pct x == 0) = false := beq_eq_false_iff_ne.2 he
      rw [e1] at h ⊢
      exact h
  · exact h.elim
theorem okgbD : SpecOK Tryd.prog 21 gbDS := by
  refine okgb.froze fun args σ K h => ?_
  unfold gbDS at h
  split at h
  · rename_i len hop gate pct x
    obtain ⟨h1, h⟩ := h
    refine ⟨rfl, h1, ?_⟩
    unfold gbI at h
    by_cases he : meE len hop gate pct x = 0
    · have e1 : (meE len hop gate pct x == 0) = true := by rw [he]; rfl
      rw [e1] at h ⊢
      rw [he] at h
      simp only [cond_true] at h ⊢
      cases hg : (ldI len hop gate pct x).isEmpty with
      | true =>
        refine cond_then hg ⟨_, ?_, h⟩
        exact ⟨.inr ⟨_, (by show (ldI len hop gate pct x).length = 0; rw [List.isEmpty_iff.1 hg]; rfl), rfl⟩, rfl, trivial⟩
      | false =>
        refine cond_else hg ⟨_, ?_, h⟩
        exact ⟨⟨_, _, rfl, rfl, rfl⟩, rfl, trivial⟩
    · have e1 : (meE len hop gate pct x == 0) = false := beq_eq_false_iff_ne.2 he
      rw [e1] at h ⊢
      refine ⟨_, ?_, h⟩
      exact ⟨.inr ⟨.ints .i64 [], rfl, rfl⟩, rfl, trivial⟩
  · exact h.elim
theorem okrgatD : SpecOK Tryd.prog 28 rgatDS := by
  refine okrgat.froze fun args σ K h => ?_
  unfold rgatDS at h
  split at h
  · rename_i len hop gate pct x
    obtain ⟨h1, h⟩ := h
    refine ⟨rfl, h1, ?_⟩
    cases hg : (ldI len hop gate pct x).isEmpty with
    | true =>
      refine ⟨_, ?_, h⟩
      exact .inr ⟨_, (by show (ldI len hop gate pct x).length = 0; rw [List.isEmpty_iff.1 hg]; rfl), rfl⟩
    | false =>
      refine ⟨_, ?_, h⟩
      exact ⟨_, _, rfl, rfl, rfl⟩
  · exact h.elim
theorem okcopyD : SpecOK Tryd.prog 22 copyDS := by
  refine ok35.froze fun args σ K h => ?_
  unfold copyDS at h
  split at h
  · rename_i l
    obtain ⟨h1, h⟩ := h
    refine ⟨rfl, h1, _, ?_, h⟩
    exact ⟨_, _, rfl, rfl, rfl⟩
  · exact h.elim
theorem okrloud2 : SpecOK Tryd.prog 29 rloud2S := by
  refine okrloud.weak fun args σ K h => ?_
  unfold rloud2S at h
  split at h
  · rename_i len hop gate pct x
    obtain ⟨h1, h⟩ := h
    refine ⟨h1, ?_⟩
    unfold rldP rldQ at h
    cases hg : (ldI len hop gate pct x).isEmpty with
    | true => rw [hg] at h; exact h
    | false => rw [hg] at h; exact h
  · exact h.elim
theorem oktrue2 : SpecOK Tryd.prog 34 true2S := by
  refine oktp.weak fun args σ K h => ?_
  unfold true2S at h
  split at h
  · rename_i x
    obtain ⟨h1, h⟩ := h
    refine ⟨h1, ?_⟩
    unfold tpP tpQ at h
    by_cases he : sigE x = 0
    · rw [he] at h ⊢
      exact h
    · have e1 : (sigE x == 0) = false := beq_eq_false_iff_ne.2 he
      rw [e1] at h ⊢
      exact h
  · exact h.elim
theorem oktail2 : SpecOK Tryd.prog 39 tail2S := by
  refine oktail.weak fun args σ K h => ?_
  unfold tail2S at h
  split at h
  · rename_i t r
    unfold tlP tlQ at h
    show bif tailE t r == 0 then _ else _
    by_cases he : tailE t r = 0
    · rw [he] at h ⊢
      exact h
    · have e1 : (tailE t r == 0) = false := beq_eq_false_iff_ne.2 he
      rw [e1] at h ⊢
      exact h
  · exact h.elim
theorem okmin2 : SpecOK Tryd.prog 40 min2S := by
  refine okmin.weak fun args σ K h => ?_
  unfold min2S at h
  split at h
  · rename_i t n d
    unfold mnV mnE at h
    show bif minE t n d == 0 then _ else _
    by_cases he : minE t n d = 0
    · rw [he] at h ⊢
      cases hc : decide (minI t n d < 0) with
      | true => rw [hc] at h; exact h
      | false => rw [hc] at h; exact h
    · have e1 : (minE t n d == 0) = false := beq_eq_false_iff_ne.2 he
      rw [e1] at h ⊢
      simp only [cond_false, e1] at h
      exact h
  · exact h.elim
theorem okrmin2 : SpecOK Tryd.prog 45 rmin2S := by
  refine okrmin.weak fun args σ K h => ?_
  unfold rmin2S at h
  split at h
  · rename_i t n d
    obtain ⟨h1, h⟩ := h
    refine ⟨h1, ?_⟩
    unfold rmV at h
    cases hc : decide (rminI t n d (t + 1).toNat 0 < 0) with
    | true => rw [hc] at h; exact h
    | false => rw [hc] at h; exact h
  · exact h.elim
theorem okbest2 : SpecOK Tryd.prog 53 best2S := by
  refine okbst.froze fun args σ K h => ?_
  unfold best2S at h
  split at h
  · rename_i p
    obtain ⟨h1, h⟩ := h
    refine ⟨rfl, h1, ?_⟩
    unfold bsO bsN at h
    by_cases he : prefE p = 0
    · have e1 : (prefE p == 0) = true := by rw [he]; rfl
      rw [e1] at h ⊢
      rw [he] at h
      refine ⟨_, ?_, h⟩
      exact ⟨rfl, rfl, rfl, trivial⟩
    · have e1 : (prefE p == 0) = false := beq_eq_false_iff_ne.2 he
      rw [e1] at h ⊢
      refine ⟨_, ?_, h⟩
      exact ⟨.inr ⟨.ints .i64 [], rfl, rfl⟩, rfl, rfl, trivial⟩
  · exact h.elim
end Go.Ev
