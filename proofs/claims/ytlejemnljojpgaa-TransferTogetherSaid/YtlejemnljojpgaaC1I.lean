/-
  Chapter 1, contracts: checked blocks.
-/
import Derived.Test.YtlejemnljojpgaaC1H
import Derived.KernelRfl
set_option linter.unusedVariables false
set_option linter.unusedSimpArgs false
set_option linter.unusedSectionVars false
namespace Go.Ev
open Go Go.Proofs
set_option maxRecDepth 20000

def isSampleS : Spec := fun args σ K => match args, σ with
  | [.one (.int .i64 n)], [] => K (.one (.bool (sampleG n))) []
  | _, _ => False
def areL : LSpec := fun vs σ k => match vs, σ with
  | [.one (.data (.ints .i64 l)), .one (.int .i64 i)], [] =>
    (l.length ≤ 1000000000 ∧ 0 ≤ i) ∧ bif (l.drop i.toNat).all sampleG then k (.exit 0) [.any] [] else k .ret [.one (.bool false)] []
  | _, _ => False
def areS : Spec := fun args σ K => match args, σ with
  | [.one (.data (.ints .i64 l))], [] => l.length ≤ 1000000000 ∧ K (.one (.bool (l.all sampleG))) []
  | _, _ => False
def modB (n by_ : Int) : Int := bif decide (n.tmod by_ < 0) then wi (n.tmod by_ + by_) else n.tmod by_
def modS : Spec := fun args σ K => match args, σ with
  | [.one (.int .i64 n), .one (.int .i64 b)], [] => b ≠ 0 ∧ K (.one (.int .i64 (modB n b))) []
  | _, _ => False
def mod11S : Spec := fun args σ K => match args, σ with
  | [.one (.int .i64 n), .one (.int .i64 b)], [] => b = 11 ∧ (modB n 11 = 0 → K (.one (.int .i64 0)) []) ∧ (modB n 11 = 1 → K (.one (.int .i64 1)) []) ∧ (modB n 11 = 2 → K (.one (.int .i64 2)) []) ∧ (modB n 11 = 3 → K (.one (.int .i64 3)) []) ∧
    (modB n 11 = 4 → K (.one (.int .i64 4)) []) ∧ (modB n 11 = 5 → K (.one (.int .i64 5)) []) ∧ (modB n 11 = 6 → K (.one (.int .i64 6)) []) ∧ (modB n 11 = 7 → K (.one (.int .i64 7)) []) ∧ (modB n 11 = 8 → K (.one (.int .i64 8)) []) ∧
    (modB n 11 = 9 → K (.one (.int .i64 9)) []) ∧ (modB n 11 = 10 → K (.one (.int .i64 10)) [])
  | _, _ => False
def blockE (c ch : Int) (xs : List Int) (sm : Int) : Int := bif contentG c ch xs then (bif sm != sumG c ch xs then 20 else 0) else 2
def blockS : Spec := fun args σ K => match args, σ with
  | [.agg [.int .i64 c, .int .i64 ch, .int .i64 x0, .int .i64 x1, .int .i64 x2, .int .i64 x3, .int .i64 x4, .int .i64 x5, .int .i64 x6, .int .i64 x7, .int .i64 sm]], [] => K (.one (.int .i64 (blockE c ch [x0, x1, x2, x3, x4, x5, x6, x7] sm))) []
  | _, _ => False
noncomputable abbrev E108 : Env := envOf Try.prog [(25, withinS)] [] 5 0
noncomputable abbrev E81 : Env := envOf Try.prog [(108, isSampleS)] [(2, .spec [0, 3] [2] areL)] 16 0
noncomputable abbrev E80 : Env := envOf Try.prog [(25, withinS)] [] 6 0
noncomputable abbrev E23 : Env := envOf Try.prog [(25, withinS), (80, channelS), (81, areS)] [] 19 0
noncomputable abbrev E26 : Env := envOf Try.prog [] [] 14 0
noncomputable abbrev E24 : Env := envOf Try.prog [(26, modS)] [(3, .unroll 9)] 28 0
noncomputable abbrev E22 : Env := envOf Try.prog [(23, contentS), (24, sumS)] [] 14 0
noncomputable abbrev E21 : Env := envOf Try.prog [(20, sumOfS), (70, unlessS), (69, firstS)] [] 18 0
noncomputable abbrev E4 : Env := envOf Try.prog [(15, trueS), (20, sumOfS), (21, blockS), (22, blockS), (23, contentS), (24, sumS)] [] 37 0
noncomputable abbrev E5 : Env := envOf Try.prog [(15, trueS), (20, sumOfS), (21, blockS), (23, contentS), (25, withinS), (26, mod11S)] [] 78 0
end Go.Ev

namespace Go.Ev
open Go Go.Proofs
set_option maxRecDepth 100000
theorem ex108 (n : Int) (K : AV → List Blk → Prop) : evFn E108 Try.f108 [.one (.int .i64 n)] [] K = (
 K (AV.one (SV.bool (decide ((-32767 : Int) ≤ n) && decide (n ≤ (32767 : Int))))) []) := by kernel_rfl
theorem ex81 (l : List Int) (K : AV → List Blk → Prop) : evFn E81 Try.f81 [.one (.data (.ints .i64 l))] [] K = (
 (l.length ≤ (1000000000 : Nat) ∧ (0 : Int) ≤ (0 : Int)) ∧
 bif l.all sampleG then K (AV.one (SV.bool true)) [] else K (AV.one (SV.bool false)) []) := by kernel_rfl
theorem ex81a (l : List Int) (i : Int) (K : Ex → List AV → List Blk → Prop) : evBody E81 (lb Try.f81 0) [0, 3] [2] [.one (.data (.ints .i64 l)), .one (.int .i64 i)] [] K = (
 bif decide (i < (↑l.length : Int)) then
 bif decide ((0 : Int) ≤ i) && decide (i < (↑l.length : Int)) then
 bif decide (i.toNat + (0 : Nat) < l.length) then
 bif !sampleG (l.getD (i.toNat + (0 : Nat)) (0 : Int)) then K Ex.ret [AV.one (SV.bool false)] []
 else
 K Ex.normal
 [AV.one (SV.data (Row.ints IntKind.i64 l)), AV.one (SV.int IntKind.i64 (IntKind.i64.wrap (i + (1 : Int))))] []
 else False
 else False
 else K (Ex.exit (0 : Nat)) [AV.any] []) := by kernel_rfl
theorem ex80 (n : Int) (K : AV → List Blk → Prop) : evFn E80 Try.f80 [.one (.int .i64 n)] [] K = (
 bif !(decide ((0 : Int) ≤ n) && decide (n ≤ (3 : Int))) then K (AV.one (SV.int IntKind.i64 (2 : Int))) []
 else K (AV.one (SV.int IntKind.i64 (0 : Int))) []) := by kernel_rfl
theorem ex23 (c ch x0 x1 x2 x3 x4 x5 x6 x7 sm : Int) (K : AV → List Blk → Prop) : evFn E23 Try.f23 [.agg [.int .i64 c, .int .i64 ch, .int .i64 x0, .int .i64 x1, .int .i64 x2, .int .i64 x3, .int .i64 x4, .int .i64 x5, .int .i64 x6, .int .i64 x7, .int .i64 sm]] [] K = (
 bif !(decide ((0 : Int) ≤ c) && decide (c ≤ (65535 : Int))) then K (AV.one (SV.int IntKind.i64 (2 : Int))) []
 else
 bif (bif withinG ch (0 : Int) (3 : Int) then (0 : Int) else (2 : Int)) != (0 : Int) then
 K (AV.one (SV.int IntKind.i64 (2 : Int))) []
 else
 [x0, x1, x2, x3, x4, x5, x6, x7].length ≤ (1000000000 : Nat) ∧
 bif ![x0, x1, x2, x3, x4, x5, x6, x7].all sampleG then K (AV.one (SV.int IntKind.i64 (2 : Int))) []
 else K (AV.one (SV.int IntKind.i64 (0 : Int))) []) := by kernel_rfl
theorem ex26 (n b : Int) (K : AV → List Blk → Prop) : evFn E26 Try.f26 [.one (.int .i64 n), .one (.int .i64 b)] [] K = (
 bif !decide (b = (0 : Int)) then
 bif decide (n.tmod b < (0 : Int)) then K (AV.one (SV.int IntKind.i64 (IntKind.i64.wrap (n.tmod b + b)))) []
 else K (AV.one (SV.int IntKind.i64 (n.tmod b))) []
 else False) := by kernel_rfl
theorem ex24 (c ch x0 x1 x2 x3 x4 x5 x6 x7 sm : Int) (K : AV → List Blk → Prop) : evFn E24 Try.f24 [.agg [.int .i64 c, .int .i64 ch, .int .i64 x0, .int .i64 x1, .int .i64 x2, .int .i64 x3, .int .i64 x4, .int .i64 x5, .int .i64 x6, .int .i64 x7, .int .i64 sm]] [] K = (
 (65537 : Int) ≠ (0 : Int) ∧
 K
 (AV.one
 (SV.int IntKind.i64
 (modB
 (IntKind.i64.wrap
 (IntKind.i64.wrap
 (IntKind.i64.wrap
 (IntKind.i64.wrap
 (IntKind.i64.wrap
 (IntKind.i64.wrap
 (IntKind.i64.wrap
 (IntKind.i64.wrap
 (IntKind.i64.wrap
 (IntKind.i64.wrap ((9 : Int) * c) + IntKind.i64.wrap ((10 : Int) * ch)) +
 IntKind.i64.wrap ((1 : Int) * IntKind.i64.wrap (x0 + (32768 : Int)))) +
 IntKind.i64.wrap ((2 : Int) * IntKind.i64.wrap (x1 + (32768 : Int)))) +
 IntKind.i64.wrap ((3 : Int) * IntKind.i64.wrap (x2 + (32768 : Int)))) +
 IntKind.i64.wrap ((4 : Int) * IntKind.i64.wrap (x3 + (32768 : Int)))) +
 IntKind.i64.wrap ((5 : Int) * IntKind.i64.wrap (x4 + (32768 : Int)))) +
 IntKind.i64.wrap ((6 : Int) * IntKind.i64.wrap (x5 + (32768 : Int)))) +
 IntKind.i64.wrap ((7 : Int) * IntKind.i64.wrap (x6 + (32768 : Int)))) +
 IntKind.i64.wrap ((8 : Int) * IntKind.i64.wrap (x7 + (32768 : Int)))))
 (65537 : Int))))
 []) := by kernel_rfl
theorem ex22 (c ch x0 x1 x2 x3 x4 x5 x6 x7 sm : Int) (K : AV → List Blk → Prop) : evFn E22 Try.f22 [.agg [.int .i64 c, .int .i64 ch, .int .i64 x0, .int .i64 x1, .int .i64 x2, .int .i64 x3, .int .i64 x4, .int .i64 x5, .int .i64 x6, .int .i64 x7, .int .i64 sm]] [] K = (
 bif (bif contentG c ch [x0, x1, x2, x3, x4, x5, x6, x7] then (0 : Int) else (2 : Int)) != (0 : Int) then
 K (AV.one (SV.int IntKind.i64 (bif contentG c ch [x0, x1, x2, x3, x4, x5, x6, x7] then (0 : Int) else (2 : Int)))) []
 else
 contentG c ch [x0, x1, x2, x3, x4, x5, x6, x7] = true ∧
 bif sm != sumG c ch [x0, x1, x2, x3, x4, x5, x6, x7] then K (AV.one (SV.int IntKind.i64 (20 : Int))) []
 else K (AV.one (SV.int IntKind.i64 (0 : Int))) []) := by kernel_rfl
theorem ex21 (c ch x0 x1 x2 x3 x4 x5 x6 x7 sm : Int) (K : AV → List Blk → Prop) : evFn E21 Try.f21 [.agg [.int .i64 c, .int .i64 ch, .int .i64 x0, .int .i64 x1, .int .i64 x2, .int .i64 x3, .int .i64 x4, .int .i64 x5, .int .i64 x6, .int .i64 x7, .int .i64 sm]] [] K = (
 bif contentG c ch [x0, x1, x2, x3, x4, x5, x6, x7] then
 [(0 : Int), bif sm == sumG c ch [x0, x1, x2, x3, x4, x5, x6, x7] then (0 : Int) else (20 : Int)].length ≤
 (1000 : Nat) ∧
 K
 (AV.one
 (SV.int IntKind.i64
 (firstE [(0 : Int), bif sm == sumG c ch [x0, x1, x2, x3, x4, x5, x6, x7] then (0 : Int) else (20 : Int)])))
 []
 else
 [(2 : Int), bif sm == (0 : Int) then (0 : Int) else (20 : Int)].length ≤ (1000 : Nat) ∧
 K (AV.one (SV.int IntKind.i64 (firstE [(2 : Int), bif sm == (0 : Int) then (0 : Int) else (20 : Int)]))) []) := by kernel_rfl
theorem ex4 (c ch x0 x1 x2 x3 x4 x5 x6 x7 sm : Int) (K : AV → List Blk → Prop) : evFn E4 Try.f4 [.agg [.int .i64 c, .int .i64 ch, .int .i64 x0, .int .i64 x1, .int .i64 x2, .int .i64 x3, .int .i64 x4, .int .i64 x5, .int .i64 x6, .int .i64 x7, .int .i64 sm]] [] K = (
 bif contentG c ch [x0, x1, x2, x3, x4, x5, x6, x7] then
 bif blockE c ch [x0, x1, x2, x3, x4, x5, x6, x7] sm != blockE c ch [x0, x1, x2, x3, x4, x5, x6, x7] sm then
 K (AV.one (SV.bool false)) []
 else
 bif (bif contentG c ch [x0, x1, x2, x3, x4, x5, x6, x7] then (0 : Int) else (2 : Int)) != (0 : Int) then
 bif (0 : Int) == bif contentG c ch [x0, x1, x2, x3, x4, x5, x6, x7] then (0 : Int) else (2 : Int) then
 K (AV.one (SV.bool (sumG c ch [x0, x1, x2, x3, x4, x5, x6, x7] == (0 : Int)))) []
 else K (AV.one (SV.bool false)) []
 else
 contentG c ch [x0, x1, x2, x3, x4, x5, x6, x7] = true ∧
 K (AV.one (SV.bool (sumG c ch [x0, x1, x2, x3, x4, x5, x6, x7] == sumG c ch [x0, x1, x2, x3, x4, x5, x6, x7])))
 []
 else
 bif blockE c ch [x0, x1, x2, x3, x4, x5, x6, x7] sm != blockE c ch [x0, x1, x2, x3, x4, x5, x6, x7] sm then
 K (AV.one (SV.bool false)) []
 else
 bif (bif contentG c ch [x0, x1, x2, x3, x4, x5, x6, x7] then (0 : Int) else (2 : Int)) != (0 : Int) then
 bif (2 : Int) == bif contentG c ch [x0, x1, x2, x3, x4, x5, x6, x7] then (0 : Int) else (2 : Int) then
 K (AV.one (SV.bool true)) []
 else K (AV.one (SV.bool false)) []
 else K (AV.one (SV.bool false)) []) := by kernel_rfl
theorem ex5 (c ch x0 x1 x2 x3 x4 x5 x6 x7 sm at_ by_ : Int) (K : AV → List Blk → Prop) : evFn E5 Try.f5 [.agg [.int .i64 c, .int .i64 ch, .int .i64 x0, .int .i64 x1, .int .i64 x2, .int .i64 x3, .int .i64 x4, .int .i64 x5, .int .i64 x6, .int .i64 x7, .int .i64 sm], .one (.int .i64 at_), .one (.int .i64 by_)] [] K = (
 bif (bif contentG c ch [x0, x1, x2, x3, x4, x5, x6, x7] then (0 : Int) else (2 : Int)) != (0 : Int) then
 K (AV.one (SV.bool true)) []
 else
 bif contentG c ch [x0, x1, x2, x3, x4, x5, x6, x7] then
 bif blockE c ch [x0, x1, x2, x3, x4, x5, x6, x7] (sumG c ch [x0, x1, x2, x3, x4, x5, x6, x7]) != (0 : Int) then
 K (AV.one (SV.bool false)) []
 else
 bif
 !(decide ((0 : Int) ≤ sumG c ch [x0, x1, x2, x3, x4, x5, x6, x7]) &&
 decide (sumG c ch [x0, x1, x2, x3, x4, x5, x6, x7] ≤ (65536 : Int))) then
 K (AV.one (SV.bool false)) []
 else
 bif !(decide ((-200000 : Int) ≤ by_) && decide (by_ ≤ (200000 : Int))) then K (AV.one (SV.bool true)) []
 else
 bif by_.tmod (65537 : Int) == (0 : Int) then K (AV.one (SV.bool true)) []
 else
 (11 : Int) = (11 : Int) ∧
 (modB at_ (11 : Int) = (0 : Int) →
 K
 (AV.one
 (SV.bool
 (blockE c ch [IntKind.i64.wrap (x0 + by_), x1, x2, x3, x4, x5, x6, x7]
 (sumG c ch [x0, x1, x2, x3, x4, x5, x6, x7]) !=
 (0 : Int))))
 []) ∧
 (modB at_ (11 : Int) = (1 : Int) →
 K
 (AV.one
 (SV.bool
 (blockE c ch [x0, IntKind.i64.wrap (x1 + by_), x2, x3, x4, x5, x6, x7]
 (sumG c ch [x0, x1, x2, x3, x4, x5, x6, x7]) !=
 (0 : Int))))
 []) ∧
 (modB at_ (11 : Int) = (2 : Int) →
 K
 (AV.one
 (SV.bool
 (blockE c ch [x0, x1, IntKind.i64.wrap (x2 + by_), x3, x4, x5, x6, x7]
 (sumG c ch [x0, x1, x2, x3, x4, x5, x6, x7]) !=
 (0 : Int))))
 []) ∧
 (modB at_ (11 : Int) = (3 : Int) →
 K
 (AV.one
 (SV.bool
 (blockE c ch [x0, x1, x2, IntKind.i64.wrap (x3 + by_), x4, x5, x6, x7]
 (sumG c ch [x0, x1, x2, x3, x4, x5, x6, x7]) !=
 (0 : Int))))
 []) ∧
 (modB at_ (11 : Int) = (4 : Int) →
 K
 (AV.one
 (SV.bool
 (blockE c ch [x0, x1, x2, x3, IntKind.i64.wrap (x4 + by_), x5, x6, x7]
 (sumG c ch [x0, x1, x2, x3, x4, x5, x6, x7]) !=
 (0 : Int))))
 []) ∧
 (modB at_ (11 : Int) = (5 : Int) →
 K
 (AV.one
 (SV.bool
 (blockE c ch [x0, x1, x2, x3, x4, IntKind.i64.wrap (x5 + by_), x6, x7]
 (sumG c ch [x0, x1, x2, x3, x4, x5, x6, x7]) !=
 (0 : Int))))
 []) ∧
 (modB at_ (11 : Int) = (6 : Int) →
 K
 (AV.one
 (SV.bool
 (blockE c ch [x0, x1, x2, x3, x4, x5, IntKind.i64.wrap (x6 + by_), x7]
 (sumG c ch [x0, x1, x2, x3, x4, x5, x6, x7]) !=
 (0 : Int))))
 []) ∧
 (modB at_ (11 : Int) = (7 : Int) →
 K
 (AV.one
 (SV.bool
 (blockE c ch [x0, x1, x2, x3, x4, x5, x6, IntKind.i64.wrap (x7 + by_)]
 (sumG c ch [x0, x1, x2, x3, x4, x5, x6, x7]) !=
 (0 : Int))))
 []) ∧
 (modB at_ (11 : Int) = (8 : Int) →
 K
 (AV.one
 (SV.bool
 (blockE (IntKind.i64.wrap (c + by_)) ch [x0, x1, x2, x3, x4, x5, x6, x7]
 (sumG c ch [x0, x1, x2, x3, x4, x5, x6, x7]) !=
 (0 : Int))))
 []) ∧
 (modB at_ (11 : Int) = (9 : Int) →
 K
 (AV.one
 (SV.bool
 (blockE c (IntKind.i64.wrap (ch + by_)) [x0, x1, x2, x3, x4, x5, x6, x7]
 (sumG c ch [x0, x1, x2, x3, x4, x5, x6, x7]) !=
 (0 : Int))))
 []) ∧
 (modB at_ (11 : Int) = (10 : Int) →
 K
 (AV.one
 (SV.bool
 (blockE c ch [x0, x1, x2, x3, x4, x5, x6, x7]
 (IntKind.i64.wrap (sumG c ch [x0, x1, x2, x3, x4, x5, x6, x7] + by_)) !=
 (0 : Int))))
 [])
 else K (AV.one (SV.bool false)) []) := by kernel_rfl
end Go.Ev

namespace Go.Ev
open Go Go.Proofs
attribute [local irreducible] evFn evBody
set_option maxRecDepth 20000

theorem ok108 : SpecOK Try.prog 108 isSampleS := by
  refine specOK (n := 5) (m := 0) (lps := []) (.cons ok25 .nil) Try.func108 (by kernel_rfl) (by kernel_rfl) (noLoops (by kernel_rfl)) fun args σ K h => ?_
  unfold isSampleS at h
  split at h
  · rw [ex108 _ K]; exact h
  · exact h.elim
theorem lok81 : LoopOK E81 (lb Try.f81 0) [0, 3] [2] areL := by
  refine loopOK (.cons ok108 .nil) (noInner (by kernel_rfl)) (fun vs _ => match vs with
    | [.one (.data (.ints .i64 l)), .one (.int .i64 i)] => l.length - i.toNat
    | _ => 0) fun vs σ k h => ?_
  unfold areL at h
  split at h
  · rename_i l i
    rw [ex81a l i _]
    obtain ⟨⟨h1, h2⟩, h⟩ := h
    by_cases hi : i < l.length
    · have hw : IntKind.i64.wrap (i + 1) = i + 1 := wrap_id (by omega) (by omega)
      have hi' : i.toNat < l.length := by omega
      have hmu : l.length - (i + 1).toNat < l.length - i.toNat := by omega
      rw [all_step h2 hi] at h
      simp only [hi, hi', h2, hw, Nat.add_zero, decide_true, Bool.and_self, cond_true]
      cases hs : sampleG (l.getD i.toNat 0) with
      | true => rw [hs] at h; exact ⟨⟨⟨h1, by omega⟩, h⟩, hmu⟩
      | false => rw [hs] at h; exact h
    · rw [List.drop_eq_nil_of_le (by omega)] at h
      simp only [hi, decide_false, cond_false]
      exact h
  · exact h.elim
theorem ok81 : SpecOK Try.prog 81 areS := by
  refine specOK (n := 16) (m := 0) (lps := [(2, .spec [0, 3] [2] areL)]) (.cons ok108 .nil) Try.func81 (by kernel_rfl) (by kernel_rfl) (theLoops (n := 1) (by kernel_rfl) fun i hi => ?_) fun args σ K h => ?_
  · match i, hi with
    | 0, _ => exact loopHyp_of (key := 2) (by kernel_rfl) rfl lok81
  · unfold areS at h
    split at h
    · rename_i l
      rw [ex81 l K]
      obtain ⟨h1, h⟩ := h
      refine ⟨⟨h1, by omega⟩, ?_⟩
      cases hs : l.all sampleG <;> rw [hs] at h <;> exact h
    · exact h.elim
theorem ok80 : SpecOK Try.prog 80 channelS := by
  refine specOK (n := 6) (m := 0) (lps := []) (.cons ok25 .nil) Try.func80 (by kernel_rfl) (by kernel_rfl) (noLoops (by kernel_rfl)) fun args σ K h => ?_
  unfold channelS at h
  split at h
  · rename_i n
    rw [ex80 _ K]
    unfold withinG at h
    cases hs : (decide (0 ≤ n) && decide (n ≤ 3)) <;> rw [hs] at h <;> exact h
  · exact h.elim
theorem ok23 : SpecOK Try.prog 23 contentS := by
  refine specOK (n := 19) (m := 0) (lps := []) (.cons ok25 (.cons ok80 (.cons ok81 .nil))) Try.func23 (by kernel_rfl) (by kernel_rfl) (noLoops (by kernel_rfl)) fun args σ K h => ?_
  unfold contentS at h
  split at h
  · rename_i c ch x0 x1 x2 x3 x4 x5 x6 x7 sm
    rw [ex23 c ch x0 x1 x2 x3 x4 x5 x6 x7 sm K]
    unfold contentG at h
    change (bif !withinG c 0 65535 then _ else _)
    cases h1 : withinG c 0 65535 with
    | false => rw [h1] at h; exact h
    | true =>
      cases h2 : withinG ch 0 3 with
      | false => rw [h1, h2] at h; exact h
      | true =>
        refine ⟨by simp, ?_⟩
        cases h3 : [x0, x1, x2, x3, x4, x5, x6, x7].all sampleG <;> rw [h1, h2, h3] at h <;> exact h
  · exact h.elim
theorem ok26 : SpecOK Try.prog 26 modS := by
  refine specOK (n := 14) (m := 0) (lps := []) .nil Try.func26 (by kernel_rfl) (by kernel_rfl) (noLoops (by kernel_rfl)) fun args σ K h => ?_
  unfold modS at h
  split at h
  · rename_i n b
    rw [ex26 n b K]
    obtain ⟨h1, h⟩ := h
    unfold modB at h
    simp only [h1, decide_false, Bool.not_false, cond_true]
    cases hs : decide (n.tmod b < 0) <;> rw [hs] at h <;> exact h
  · exact h.elim
theorem mod11_range (n : Int) : 0 ≤ modB n 11 ∧ modB n 11 ≤ 10 := by
  unfold modB
  have h1 := Int.lt_tmod_of_pos n (show (0 : Int) < 11 by decide)
  have h2 := Int.tmod_lt_of_pos n (show (0 : Int) < 11 by decide)
  by_cases h : n.tmod 11 < 0
  · simp only [h, decide_true, cond_true]
    rw [wi_id (by omega) (by omega)]
    omega
  · simp only [h, decide_false, cond_false]
    omega
theorem ok26b : SpecOK Try.prog 26 mod11S := ok26.weak fun args σ K h => by
  unfold mod11S at h
  split at h
  · rename_i n b
    obtain ⟨rfl, h0, h1, h2, h3, h4, h5, h6, h7, h8, h9, h10⟩ := h
    refine ⟨by decide, ?_⟩
    have hr := mod11_range n
    have hc : modB n 11 = 0 ∨ modB n 11 = 1 ∨ modB n 11 = 2 ∨ modB n 11 = 3 ∨ modB n 11 = 4 ∨ modB n 11 = 5 ∨ modB n 11 = 6 ∨ modB n 11 = 7 ∨ modB n 11 = 8 ∨ modB n 11 = 9 ∨ modB n 11 = 10 := by omega
    rcases hc with e | e | e | e | e | e | e | e | e | e | e <;> rw [e]
    · exact h0 e
    · exact h1 e
    · exact h2 e
    · exact h3 e
    · exact h4 e
    · exact h5 e
    · exact h6 e
    · exact h7 e
    · exact h8 e
    · exact h9 e
    · exact h10 e
  · exact h.elim

theorem content_range {c ch x0 x1 x2 x3 x4 x5 x6 x7 : Int} (h : contentG c ch [x0, x1, x2, x3, x4, x5, x6, x7] = true) : (0 ≤ c ∧ c ≤ 65535) ∧ (0 ≤ ch ∧ ch ≤ 3) ∧ (-32767 ≤ x0 ∧ x0 ≤ 32767) ∧ (-32767 ≤ x1 ∧ x1 ≤ 32767) ∧ (-32767 ≤ x2 ∧ x2 ≤ 32767) ∧ (-32767 ≤ x3 ∧ x3 ≤ 32767) ∧ (-32767 ≤ x4 ∧ x4 ≤ 32767) ∧ (-32767 ≤ x5 ∧ x5 ≤ 32767) ∧ (-32767 ≤ x6 ∧ x6 ≤ 32767) ∧ (-32767 ≤ x7 ∧ x7 ≤ 32767) := by
  unfold contentG withinG at h
  simp only [Bool.and_eq_true, decide_eq_true_eq, List.all_cons, List.all_nil, and_true] at h
  obtain ⟨⟨a, b⟩, s0, s1, s2, s3, s4, s5, s6, s7⟩ := h
  exact ⟨a, b, sample_range s0, sample_range s1, sample_range s2, sample_range s3, sample_range s4, sample_range s5, sample_range s6, sample_range s7⟩
theorem sumG_mod {c ch x0 x1 x2 x3 x4 x5 x6 x7 : Int} (h : contentG c ch [x0, x1, x2, x3, x4, x5, x6, x7] = true) : sumG c ch [x0, x1, x2, x3, x4, x5, x6, x7] = (9 * c + 10 * ch + 1 * (x0 + 32768) + 2 * (x1 + 32768) + 3 * (x2 + 32768) + 4 * (x3 + 32768) + 5 * (x4 + 32768) + 6 * (x5 + 32768) + 7 * (x6 + 32768) + 8 * (x7 + 32768)) % 65537 := by
  obtain ⟨a, b, r0, r1, r2, r3, r4, r5, r6, r7⟩ := content_range h
  unfold sumG
  simp only [sumA]
  rw [Int.tmod_eq_emod_of_nonneg (by omega)]
  congr 1
  omega

theorem ok24 : SpecOK Try.prog 24 sumS := by
  refine specOK (n := 28) (m := 0) (lps := [(3, .unroll 9)]) (.cons ok26 .nil) Try.func24 (by kernel_rfl) (by kernel_rfl) (theLoops (n := 1) (by kernel_rfl) fun i hi => ?_) fun args σ K h => ?_
  · match i, hi with
    | 0, _ => exact loopHyp_none (key := 3) (n := 9) (by kernel_rfl) rfl
  unfold sumS at h
  split at h
  · rename_i c ch x0 x1 x2 x3 x4 x5 x6 x7 sm
    rw [ex24 c ch x0 x1 x2 x3 x4 x5 x6 x7 sm K]
    obtain ⟨hc, h⟩ := h
    rw [sumG_mod hc] at h
    obtain ⟨a, b, r0, r1, r2, r3, r4, r5, r6, r7⟩ := content_range hc
    simp (disch := omega) only [wrap_id]
    refine ⟨by decide, ?_⟩
    refine cast (congrArg (fun n => K (.one (.int .i64 n)) []) ?_) h
    unfold modB
    rw [Int.tmod_eq_emod_of_nonneg (by omega)]
    rw [decide_eq_false (by omega), cond_false]
  · exact h.elim

theorem ok22 : SpecOK Try.prog 22 blockS := by
  refine specOK (n := 14) (m := 0) (lps := []) (.cons ok23 (.cons ok24 .nil)) Try.func22 (by kernel_rfl) (by kernel_rfl) (noLoops (by kernel_rfl)) fun args σ K h => ?_
  unfold blockS at h
  split at h
  · rename_i c ch x0 x1 x2 x3 x4 x5 x6 x7 sm
    rw [ex22 c ch x0 x1 x2 x3 x4 x5 x6 x7 sm K]
    unfold blockE at h
    cases hc : contentG c ch [x0, x1, x2, x3, x4, x5, x6, x7] with
    | false => rw [hc] at h; exact h
    | true =>
      rw [hc] at h
      refine ⟨rfl, ?_⟩
      cases hs : sm != sumG c ch [x0, x1, x2, x3, x4, x5, x6, x7] <;> rw [hs] at h <;> exact h
  · exact h.elim
theorem ok21 : SpecOK Try.prog 21 blockS := by
  refine specOK (n := 18) (m := 0) (lps := []) (.cons ok20 (.cons ok70 (.cons ok69 .nil))) Try.func21 (by kernel_rfl) (by kernel_rfl) (noLoops (by kernel_rfl)) fun args σ K h => ?_
  unfold blockS at h
  split at h
  · rename_i c ch x0 x1 x2 x3 x4 x5 x6 x7 sm
    rw [ex21 c ch x0 x1 x2 x3 x4 x5 x6 x7 sm K]
    unfold blockE at h
    cases hc : contentG c ch [x0, x1, x2, x3, x4, x5, x6, x7] with
    | false => rw [hc] at h; exact ⟨by simp, h⟩
    | true =>
      rw [hc] at h
      refine ⟨by simp, ?_⟩
      unfold bne at h
      cases hs : sm == sumG c ch [x0, x1, x2, x3, x4, x5, x6, x7] <;> rw [hs] at h <;> exact h
  · exact h.elim

def blocksLawS : Spec := fun args σ K => match args, σ with
  | [.agg [.int .i64 _, .int .i64 _, .int .i64 _, .int .i64 _, .int .i64 _, .int .i64 _, .int .i64 _, .int .i64 _, .int .i64 _, .int .i64 _, .int .i64 _]], [] => K (.one (.bool true)) []
  | _, _ => False
theorem ok4 : SpecOK Try.prog 4 blocksLawS := by
  refine specOK (n := 37) (m := 0) (lps := []) (.cons ok15 (.cons ok20 (.cons ok21 (.cons ok22 (.cons ok23 (.cons ok24 .nil)))))) Try.func4 (by kernel_rfl) (by kernel_rfl) (noLoops (by kernel_rfl)) fun args σ K h => ?_
  unfold blocksLawS at h
  split at h
  · rename_i c ch x0 x1 x2 x3 x4 x5 x6 x7 sm
    rw [ex4 c ch x0 x1 x2 x3 x4 x5 x6 x7 sm K]
    cases hc : contentG c ch [x0, x1, x2, x3, x4, x5, x6, x7] with
    | false => simp only [cond_false, bne_self_eq_false]; exact h
    | true => simp only [cond_false, cond_true, bne_self_eq_false, beq_self_eq_true]; exact ⟨trivial, h⟩
  · exact h.elim

theorem damage {c ch c' ch' sm : Int} {xs xs' : List Int} (h : contentG c' ch' xs' = true → sumG c ch xs ≠ sumG c' ch' xs') : (blockE c' ch' xs' (sumG c ch xs) != 0) = true := by
  unfold blockE
  cases hc : contentG c' ch' xs' with
  | false => rfl
  | true =>
    have hb : (sumG c ch xs != sumG c' ch' xs') = true := by simpa using h hc
    rw [hb]
    rfl
theorem dk (k : Nat) (hk : Nat.Coprime 65537 k) (b : Int) (h : ((k : Int) * b) % 65537 = 0) : b % 65537 = 0 := by
  have h1 : (65537 : Int) ∣ (k : Int) * b := Int.dvd_of_emod_eq_zero h
  have h2 : 65537 ∣ ((k : Int) * b).natAbs := Int.natAbs_dvd_natAbs.2 h1
  rw [Int.natAbs_mul] at h2
  have h3 : 65537 ∣ b.natAbs := hk.dvd_of_dvd_mul_left h2
  exact Int.emod_eq_zero_of_dvd (Int.natAbs_dvd_natAbs.1 h3)
theorem dmg {S S' b : Int} (k : Int) (hk : ∀ b : Int, (k * b) % 65537 = 0 → b % 65537 = 0) (hm : b % 65537 ≠ 0) (h : S' = S + k * b) : S % 65537 ≠ S' % 65537 := by
  intro e
  refine hm (hk b ?_)
  generalize k * b = x at *
  omega
theorem lin0 (c ch x0 x1 x2 x3 x4 x5 x6 x7 b : Int) : 9 * c + 10 * ch + 1 * (x0 + b + 32768) + 2 * (x1 + 32768) + 3 * (x2 + 32768) + 4 * (x3 + 32768) + 5 * (x4 + 32768) + 6 * (x5 + 32768) + 7 * (x6 + 32768) + 8 * (x7 + 32768) = 9 * c + 10 * ch + 1 * (x0 + 32768) + 2 * (x1 + 32768) + 3 * (x2 + 32768) + 4 * (x3 + 32768) + 5 * (x4 + 32768) + 6 * (x5 + 32768) + 7 * (x6 + 32768) + 8 * (x7 + 32768) + 1 * b := by omega
theorem lin1 (c ch x0 x1 x2 x3 x4 x5 x6 x7 b : Int) : 9 * c + 10 * ch + 1 * (x0 + 32768) + 2 * (x1 + b + 32768) + 3 * (x2 + 32768) + 4 * (x3 + 32768) + 5 * (x4 + 32768) + 6 * (x5 + 32768) + 7 * (x6 + 32768) + 8 * (x7 + 32768) = 9 * c + 10 * ch + 1 * (x0 + 32768) + 2 * (x1 + 32768) + 3 * (x2 + 32768) + 4 * (x3 + 32768) + 5 * (x4 + 32768) + 6 * (x5 + 32768) + 7 * (x6 + 32768) + 8 * (x7 + 32768) + 2 * b := by omega
theorem lin2 (c ch x0 x1 x2 x3 x4 x5 x6 x7 b : Int) : 9 * c + 10 * ch + 1 * (x0 + 32768) + 2 * (x1 + 32768) + 3 * (x2 + b + 32768) + 4 * (x3 + 32768) + 5 * (x4 + 32768) + 6 * (x5 + 32768) + 7 * (x6 + 32768) + 8 * (x7 + 32768) = 9 * c + 10 * ch + 1 * (x0 + 32768) + 2 * (x1 + 32768) + 3 * (x2 + 32768) + 4 * (x3 + 32768) + 5 * (x4 + 32768) + 6 * (x5 + 32768) + 7 * (x6 + 32768) + 8 * (x7 + 32768) + 3 * b := by omega
theorem lin3 (c ch x0 x1 x2 x3 x4 x5 x6 x7 b : Int) : 9 * c + 10 * ch + 1 * (x0 + 32768) + 2 * (x1 + 32768) + 3 * (x2 + 32768) + 4 * (x3 + b + 32768) + 5 * (x4 + 32768) + 6 * (x5 + 32768) + 7 * (x6 + 32768) + 8 * (x7 + 32768) = 9 * c + 10 * ch + 1 * (x0 + 32768) + 2 * (x1 + 32768) + 3 * (x2 + 32768) + 4 * (x3 + 32768) + 5 * (x4 + 32768) + 6 * (x5 + 32768) + 7 * (x6 + 32768) + 8 * (x7 + 32768) + 4 * b := by omega
theorem lin4 (c ch x0 x1 x2 x3 x4 x5 x6 x7 b : Int) : 9 * c + 10 * ch + 1 * (x0 + 32768) + 2 * (x1 + 32768) + 3 * (x2 + 32768) + 4 * (x3 + 32768) + 5 * (x4 + b + 32768) + 6 * (x5 + 32768) + 7 * (x6 + 32768) + 8 * (x7 + 32768) = 9 * c + 10 * ch + 1 * (x0 + 32768) + 2 * (x1 + 32768) + 3 * (x2 + 32768) + 4 * (x3 + 32768) + 5 * (x4 + 32768) + 6 * (x5 + 32768) + 7 * (x6 + 32768) + 8 * (x7 + 32768) + 5 * b := by omega
theorem lin5 (c ch x0 x1 x2 x3 x4 x5 x6 x7 b : Int) : 9 * c + 10 * ch + 1 * (x0 + 32768) + 2 * (x1 + 32768) + 3 * (x2 + 32768) + 4 * (x3 + 32768) + 5 * (x4 + 32768) + 6 * (x5 + b + 32768) + 7 * (x6 + 32768) + 8 * (x7 + 32768) = 9 * c + 10 * ch + 1 * (x0 + 32768) + 2 * (x1 + 32768) + 3 * (x2 + 32768) + 4 * (x3 + 32768) + 5 * (x4 + 32768) + 6 * (x5 + 32768) + 7 * (x6 + 32768) + 8 * (x7 + 32768) + 6 * b := by omega
theorem lin6 (c ch x0 x1 x2 x3 x4 x5 x6 x7 b : Int) : 9 * c + 10 * ch + 1 * (x0 + 32768) + 2 * (x1 + 32768) + 3 * (x2 + 32768) + 4 * (x3 + 32768) + 5 * (x4 + 32768) + 6 * (x5 + 32768) + 7 * (x6 + b + 32768) + 8 * (x7 + 32768) = 9 * c + 10 * ch + 1 * (x0 + 32768) + 2 * (x1 + 32768) + 3 * (x2 + 32768) + 4 * (x3 + 32768) + 5 * (x4 + 32768) + 6 * (x5 + 32768) + 7 * (x6 + 32768) + 8 * (x7 + 32768) + 7 * b := by omega
theorem lin7 (c ch x0 x1 x2 x3 x4 x5 x6 x7 b : Int) : 9 * c + 10 * ch + 1 * (x0 + 32768) + 2 * (x1 + 32768) + 3 * (x2 + 32768) + 4 * (x3 + 32768) + 5 * (x4 + 32768) + 6 * (x5 + 32768) + 7 * (x6 + 32768) + 8 * (x7 + b + 32768) = 9 * c + 10 * ch + 1 * (x0 + 32768) + 2 * (x1 + 32768) + 3 * (x2 + 32768) + 4 * (x3 + 32768) + 5 * (x4 + 32768) + 6 * (x5 + 32768) + 7 * (x6 + 32768) + 8 * (x7 + 32768) + 8 * b := by omega
theorem lin8 (c ch x0 x1 x2 x3 x4 x5 x6 x7 b : Int) : 9 * (c + b) + 10 * ch + 1 * (x0 + 32768) + 2 * (x1 + 32768) + 3 * (x2 + 32768) + 4 * (x3 + 32768) + 5 * (x4 + 32768) + 6 * (x5 + 32768) + 7 * (x6 + 32768) + 8 * (x7 + 32768) = 9 * c + 10 * ch + 1 * (x0 + 32768) + 2 * (x1 + 32768) + 3 * (x2 + 32768) + 4 * (x3 + 32768) + 5 * (x4 + 32768) + 6 * (x5 + 32768) + 7 * (x6 + 32768) + 8 * (x7 + 32768) + 9 * b := by omega
theorem lin9 (c ch x0 x1 x2 x3 x4 x5 x6 x7 b : Int) : 9 * c + 10 * (ch + b) + 1 * (x0 + 32768) + 2 * (x1 + 32768) + 3 * (x2 + 32768) + 4 * (x3 + 32768) + 5 * (x4 + 32768) + 6 * (x5 + 32768) + 7 * (x6 + 32768) + 8 * (x7 + 32768) = 9 * c + 10 * ch + 1 * (x0 + 32768) + 2 * (x1 + 32768) + 3 * (x2 + 32768) + 4 * (x3 + 32768) + 5 * (x4 + 32768) + 6 * (x5 + 32768) + 7 * (x6 + 32768) + 8 * (x7 + 32768) + 10 * b := by omega
def damageLawS : Spec := fun args σ K => match args, σ with
  | [.agg [.int .i64 _, .int .i64 _, .int .i64 _, .int .i64 _, .int .i64 _, .int .i64 _, .int .i64 _, .int .i64 _, .int .i64 _, .int .i64 _, .int .i64 _], .one (.int .i64 _), .one (.int .i64 _)], [] => K (.one (.bool true)) []
  | _, _ => False
set_option maxHeartbeats 1000000 in
theorem ok5 : SpecOK Try.prog 5 damageLawS := by
  refine specOK (n := 78) (m := 0) (lps := []) (.cons ok15 (.cons ok20 (.cons ok21 (.cons ok23 (.cons ok25 (.cons ok26b .nil)))))) Try.func5 (by kernel_rfl) (by kernel_rfl) (noLoops (by kernel_rfl)) fun args σ K h => ?_
  unfold damageLawS at h
  split at h
  · rename_i c ch x0 x1 x2 x3 x4 x5 x6 x7 sm at_ by_
    rw [ex5 c ch x0 x1 x2 x3 x4 x5 x6 x7 sm at_ by_ K]
    cases hc : contentG c ch [x0, x1, x2, x3, x4, x5, x6, x7] with
    | false => exact h
    | true =>
      have hs := sumG_mod hc
      have hb0 : blockE c ch [x0, x1, x2, x3, x4, x5, x6, x7] (sumG c ch [x0, x1, x2, x3, x4, x5, x6, x7]) = 0 := by
        unfold blockE
        rw [hc]
        simp
      have hsr : 0 ≤ sumG c ch [x0, x1, x2, x3, x4, x5, x6, x7] ∧ sumG c ch [x0, x1, x2, x3, x4, x5, x6, x7] ≤ 65536 := by rw [hs]; omega
      simp only [hb0, hsr, bne_self_eq_false, decide_true, Bool.and_self, Bool.not_true, cond_false, cond_true]
      by_cases hb : -200000 ≤ by_ ∧ by_ ≤ 200000
      · simp only [hb, decide_true, Bool.and_self, Bool.not_true, cond_false]
        by_cases hz : by_.tmod 65537 = 0
        · simp only [hz, beq_self_eq_true, cond_true]; exact h
        · have hz' : (by_.tmod 65537 == 0) = false := beq_eq_false_iff_ne.2 hz
          have hm : by_ % 65537 ≠ 0 := fun e => hz (Int.tmod_eq_zero_of_dvd (Int.dvd_of_emod_eq_zero e))
          simp only [hz', cond_false]
          obtain ⟨a, b, r0, r1, r2, r3, r4, r5, r6, r7⟩ := content_range hc
          have D : ∀ {c' ch' : Int} {xs' : List Int}, (contentG c' ch' xs' = true → sumG c ch [x0, x1, x2, x3, x4, x5, x6, x7] ≠ sumG c' ch' xs') → K (.one (.bool (blockE c' ch' xs' (sumG c ch [x0, x1, x2, x3, x4, x5, x6, x7]) != 0))) [] := fun hh => by rw [damage (sm := 0) hh]; exact h
          have W : ∀ x : Int, -32767 ≤ x ∧ x ≤ 32767 → IntKind.i64.wrap (x + by_) = x + by_ := fun x hx => wrap_id (by omega) (by omega)
          refine ⟨trivial, fun _ => D fun hc' => ?_, fun _ => D fun hc' => ?_, fun _ => D fun hc' => ?_, fun _ => D fun hc' => ?_, fun _ => D fun hc' => ?_, fun _ => D fun hc' => ?_, fun _ => D fun hc' => ?_, fun _ => D fun hc' => ?_, fun _ => D fun hc' => ?_, fun _ => D fun hc' => ?_, fun _ => ?_⟩
          · rw [W _ r0] at hc' ⊢; rw [hs, sumG_mod hc']; exact dmg 1 (dk 1 (by decide)) hm (lin0 _ _ _ _ _ _ _ _ _ _ _)
          · rw [W _ r1] at hc' ⊢; rw [hs, sumG_mod hc']; exact dmg 2 (dk 2 (by decide)) hm (lin1 _ _ _ _ _ _ _ _ _ _ _)
          · rw [W _ r2] at hc' ⊢; rw [hs, sumG_mod hc']; exact dmg 3 (dk 3 (by decide)) hm (lin2 _ _ _ _ _ _ _ _ _ _ _)
          · rw [W _ r3] at hc' ⊢; rw [hs, sumG_mod hc']; exact dmg 4 (dk 4 (by decide)) hm (lin3 _ _ _ _ _ _ _ _ _ _ _)
          · rw [W _ r4] at hc' ⊢; rw [hs, sumG_mod hc']; exact dmg 5 (dk 5 (by decide)) hm (lin4 _ _ _ _ _ _ _ _ _ _ _)
          · rw [W _ r5] at hc' ⊢; rw [hs, sumG_mod hc']; exact dmg 6 (dk 6 (by decide)) hm (lin5 _ _ _ _ _ _ _ _ _ _ _)
          · rw [W _ r6] at hc' ⊢; rw [hs, sumG_mod hc']; exact dmg 7 (dk 7 (by decide)) hm (lin6 _ _ _ _ _ _ _ _ _ _ _)
          · rw [W _ r7] at hc' ⊢; rw [hs, sumG_mod hc']; exact dmg 8 (dk 8 (by decide)) hm (lin7 _ _ _ _ _ _ _ _ _ _ _)
          · have w1 : IntKind.i64.wrap (c + by_) = c + by_ := wrap_id (by omega) (by omega)
            rw [w1] at hc' ⊢; rw [hs, sumG_mod hc']; exact dmg 9 (dk 9 (by decide)) hm (lin8 _ _ _ _ _ _ _ _ _ _ _)
          · have w1 : IntKind.i64.wrap (ch + by_) = ch + by_ := wrap_id (by omega) (by omega)
            rw [w1] at hc' ⊢; rw [hs, sumG_mod hc']; exact dmg 10 (dk 10 (by decide)) hm (lin9 _ _ _ _ _ _ _ _ _ _ _)
          · have w1 : IntKind.i64.wrap (sumG c ch [x0, x1, x2, x3, x4, x5, x6, x7] + by_) = sumG c ch [x0, x1, x2, x3, x4, x5, x6, x7] + by_ := wrap_id (by omega) (by omega)
            rw [w1]
            have : (blockE c ch [x0, x1, x2, x3, x4, x5, x6, x7] (sumG c ch [x0, x1, x2, x3, x4, x5, x6, x7] + by_) != 0) = true := by
              unfold blockE
              rw [hc]
              have hb : (sumG c ch [x0, x1, x2, x3, x4, x5, x6, x7] + by_ != sumG c ch [x0, x1, x2, x3, x4, x5, x6, x7]) = true := by simp; omega
              rw [hb]
              rfl
            rw [this]
            exact h
      · have hb' : (decide (-200000 ≤ by_) && decide (by_ ≤ 200000)) = false := by
          rw [Bool.eq_false_iff]; intro e; simp at e; exact hb e
        simp only [hb', Bool.not_false, cond_true]
        exact h
  · exact h.elim
end Go.Ev
