/-
  Chapter 1, contracts: the reference of packing.
-/
import Derived.Test.YtlejemnljojpgaaC1I
import Derived.KernelRfl
set_option linter.unusedVariables false
set_option linter.unusedSimpArgs false
namespace Go.Ev
open Go Go.Proofs
set_option maxRecDepth 20000

def foldedS : Spec := fun args σ K => match args, σ with
  | [.one (.int .i64 r)], [] => K (.one (.int .i64 (foldG r))) []
  | _, _ => False
def lastG (xs : List Int) (i : Int) : Int := bif decide (i > 0) then xs.getD (i - 1).toNat 0 else 0
def befG (xs : List Int) (i : Int) : Int := bif decide (i > 1) then xs.getD (i - 2).toNat 0 else 0
def refExpS : Spec := fun args σ K => match args, σ with
  | [.agg [.int .i64 x0, .int .i64 x1, .int .i64 x2, .int .i64 x3, .int .i64 x4, .int .i64 x5, .int .i64 x6, .int .i64 x7], .one (.int .i64 i), .one (.int .i64 p)], [] => (0 ≤ i ∧ i ≤ 7) ∧ K (.one (.int .i64 (expG p (lastG [x0, x1, x2, x3, x4, x5, x6, x7] i) (befG [x0, x1, x2, x3, x4, x5, x6, x7] i)))) []
  | _, _ => False
def powL : LSpec := fun vs σ k => match vs, σ with
  | [.one (.int .i64 n), .one (.int .i64 x), .one (.int .i64 i)], [] => (0 ≤ i ∧ i ≤ n ∧ n ≤ 62 ∧ x = 2 ^ i.toNat) ∧ k (.exit 0) [.one (.int .i64 (2 ^ n.toNat))] []
  | _, _ => False
def powS : Spec := fun args σ K => match args, σ with
  | [.one (.int .i64 n)], [] => (0 ≤ n ∧ n ≤ 62) ∧ K (.one (.int .i64 (2 ^ n.toNat))) []
  | _, _ => False
def bits2 (n : Int) : Nat → List Int
  | 0 => []
  | c + 1 => bits2 (n / 2) c ++ [n % 2]
def bitsL : LSpec := fun vs σ k => match vs, σ with
  | [.one (.int .i64 n), .one (.own 0 1), .one (.int .i64 i)], [.row 3 (.ints .i64 out)] =>
    (0 ≤ n ∧ n ≤ 4611686018427387904 ∧ -1 ≤ i ∧ i < out.length ∧ out.length ≤ 100) ∧ k (.exit 0) [.one (.own 0 1)] [.row 3 (.ints .i64 (bits2 n (i + 1).toNat ++ out.drop (i + 1).toNat))]
  | _, _ => False
def bitsOfS : Spec := fun args σ K => match args, σ with
  | [.one (.int .i64 n), .one (.int .i64 c)], [] => (0 ≤ n ∧ n ≤ 4611686018427387904 ∧ 0 ≤ c ∧ c ≤ 100) ∧ K (.one (.own 0 1)) [.row 3 (.ints .i64 (bits2 n c.toNat))]
  | _, _ => False
def paramG (p k : Int) : Bool := withinG p 0 2 && withinG k 0 17
def paramS : Spec := fun args σ K => match args, σ with
  | [.one (.int .i64 p), .one (.int .i64 k)], [] => K (.one (.int .i64 (bif paramG p k then 0 else 2))) []
  | _, _ => False
noncomputable abbrev E88 : Env := envOf Try.prog [] [] 10 0
noncomputable abbrev E89 : Env := envOf Try.prog [] [] 31 0
noncomputable abbrev E90 : Env := envOf Try.prog [] [(3, .spec [0, 3, 4] [3] powL)] 13 0
noncomputable abbrev E87 : Env := envOf Try.prog [] [(3, .spec [0, 5, 6] [5] bitsL)] 23 0
noncomputable abbrev E29 : Env := envOf Try.prog [(81, areS)] [] 6 0
noncomputable abbrev E32 : Env := envOf Try.prog [(25, withinS)] [] 13 0
noncomputable abbrev E33 : Env := envOf Try.prog [(89, refExpS), (88, foldedS), (90, powS)] [(3, .unroll 9)] 31 0
end Go.Ev

namespace Go.Ev
open Go Go.Proofs
set_option maxRecDepth 100000
theorem ex88 (r : Int) (K : AV → List Blk → Prop) : evFn E88 Try.f88 [.one (.int .i64 r)] [] K = (
 bif decide (r ≥ (0 : Int)) then K (AV.one (SV.int IntKind.i64 (IntKind.i64.wrap ((2 : Int) * r)))) []
 else K (AV.one (SV.int IntKind.i64 (IntKind.i64.wrap (IntKind.i64.wrap ((-2 : Int) * r) - (1 : Int))))) []) := by kernel_rfl
theorem ex89 (x0 x1 x2 x3 x4 x5 x6 x7 i p : Int) (K : AV → List Blk → Prop) : evFn E89 Try.f89 [.agg [.int .i64 x0, .int .i64 x1, .int .i64 x2, .int .i64 x3, .int .i64 x4, .int .i64 x5, .int .i64 x6, .int .i64 x7], .one (.int .i64 i), .one (.int .i64 p)] [] K = (
 bif decide (i > (0 : Int)) then
 bif
 decide ((0 : Int) ≤ IntKind.i64.wrap (i - (1 : Int))) &&
 decide (IntKind.i64.wrap (i - (1 : Int)) < (8 : Int)) then
 bif
 decide
 ((0 : Nat) + (IntKind.i64.wrap (i - (1 : Int))).toNat + (0 : Nat) <
 [x0, x1, x2, x3, x4, x5, x6, x7].length) then
 bif decide (i > (1 : Int)) then
 bif
 decide ((0 : Int) ≤ IntKind.i64.wrap (i - (2 : Int))) &&
 decide (IntKind.i64.wrap (i - (2 : Int)) < (8 : Int)) then
 bif
 decide
 ((0 : Nat) + (IntKind.i64.wrap (i - (2 : Int))).toNat + (0 : Nat) <
 [x0, x1, x2, x3, x4, x5, x6, x7].length) then
 bif p == (1 : Int) then
 K
 (AV.one
 (SV.int IntKind.i64
 ([x0, x1, x2, x3, x4, x5, x6, x7].getD
 ((0 : Nat) + (IntKind.i64.wrap (i - (1 : Int))).toNat + (0 : Nat)) (0 : Int))))
 []
 else
 bif p == (2 : Int) then
 K
 (AV.one
 (SV.int IntKind.i64
 (IntKind.i64.wrap
 (IntKind.i64.wrap
 ((2 : Int) *
 [x0, x1, x2, x3, x4, x5, x6, x7].getD
 ((0 : Nat) + (IntKind.i64.wrap (i - (1 : Int))).toNat + (0 : Nat)) (0 : Int)) -
 [x0, x1, x2, x3, x4, x5, x6, x7].getD
 ((0 : Nat) + (IntKind.i64.wrap (i - (2 : Int))).toNat + (0 : Nat)) (0 : Int)))))
 []
 else K (AV.one (SV.int IntKind.i64 (0 : Int))) []
 else False
 else False
 else
 bif p == (1 : Int) then
 K
 (AV.one
 (SV.int IntKind.i64
 ([x0, x1, x2, x3, x4, x5, x6, x7].getD
 ((0 : Nat) + (IntKind.i64.wrap (i - (1 : Int))).toNat + (0 : Nat)) (0 : Int))))
 []
 else
 bif p == (2 : Int) then
 K
 (AV.one
 (SV.int IntKind.i64
 (IntKind.i64.wrap
 (IntKind.i64.wrap
 ((2 : Int) *
 [x0, x1, x2, x3, x4, x5, x6, x7].getD
 ((0 : Nat) + (IntKind.i64.wrap (i - (1 : Int))).toNat + (0 : Nat)) (0 : Int)) -
 (0 : Int)))))
 []
 else K (AV.one (SV.int IntKind.i64 (0 : Int))) []
 else False
 else False
 else
 bif decide (i > (1 : Int)) then
 bif
 decide ((0 : Int) ≤ IntKind.i64.wrap (i - (2 : Int))) &&
 decide (IntKind.i64.wrap (i - (2 : Int)) < (8 : Int)) then
 bif
 decide
 ((0 : Nat) + (IntKind.i64.wrap (i - (2 : Int))).toNat + (0 : Nat) <
 [x0, x1, x2, x3, x4, x5, x6, x7].length) then
 bif p == (1 : Int) then K (AV.one (SV.int IntKind.i64 (0 : Int))) []
 else
 bif p == (2 : Int) then
 K
 (AV.one
 (SV.int IntKind.i64
 (IntKind.i64.wrap
 ((0 : Int) -
 [x0, x1, x2, x3, x4, x5, x6, x7].getD
 ((0 : Nat) + (IntKind.i64.wrap (i - (2 : Int))).toNat + (0 : Nat)) (0 : Int)))))
 []
 else K (AV.one (SV.int IntKind.i64 (0 : Int))) []
 else False
 else False
 else
 bif p == (1 : Int) then K (AV.one (SV.int IntKind.i64 (0 : Int))) []
 else
 bif p == (2 : Int) then K (AV.one (SV.int IntKind.i64 (0 : Int))) []
 else K (AV.one (SV.int IntKind.i64 (0 : Int))) []) := by kernel_rfl
theorem ex90 (n : Int) (K : AV → List Blk → Prop) : evFn E90 Try.f90 [.one (.int .i64 n)] [] K = (
 ((0 : Int) ≤ (0 : Int) ∧ (0 : Int) ≤ n ∧ n ≤ (62 : Int) ∧ (1 : Int) = (1 : Int)) ∧
 K (AV.one (SV.int IntKind.i64 ((2 : Int) ^ n.toNat))) []) := by kernel_rfl
theorem ex90a (n x i : Int) (K : Ex → List AV → List Blk → Prop) : evBody E90 (lb Try.f90 0) [0, 3, 4] [3] [.one (.int .i64 n), .one (.int .i64 x), .one (.int .i64 i)] [] K = (
 bif decide (i < n) then
 K Ex.normal
 [AV.one (SV.int IntKind.i64 n), AV.one (SV.int IntKind.i64 (IntKind.i64.wrap ((2 : Int) * x))),
 AV.one (SV.int IntKind.i64 (IntKind.i64.wrap (i + (1 : Int))))]
 []
 else K (Ex.exit (0 : Nat)) [AV.one (SV.int IntKind.i64 x)] []) := by kernel_rfl
theorem ex87 (n c : Int) (K : AV → List Blk → Prop) : evFn E87 Try.f87 [.one (.int .i64 n), .one (.int .i64 c)] [] K = (
 bif
 decide ((0 : Int) ≤ c) &&
 (decide (c ≤ c) && decide (c * (8 : Int) ≤ (140737488355328 : Int) ∧ c ≤ (140737488355328 : Int))) then
 ((0 : Int) ≤ n ∧
 n ≤ (4611686018427387904 : Int) ∧
 (-1 : Int) ≤ IntKind.i64.wrap (c - (1 : Int)) ∧
 IntKind.i64.wrap (c - (1 : Int)) < (↑(List.replicate c.toNat (0 : Int)).length : Int) ∧
 (List.replicate c.toNat (0 : Int)).length ≤ (100 : Nat)) ∧
 K (AV.one (SV.own (0 : Nat) (1 : Nat)))
 [Blk.row (3 : TypeId)
 (Row.ints IntKind.i64
 (bits2 n (IntKind.i64.wrap (c - (1 : Int)) + (1 : Int)).toNat ++
 List.drop (IntKind.i64.wrap (c - (1 : Int)) + (1 : Int)).toNat (List.replicate c.toNat (0 : Int))))]
 else False) := by kernel_rfl
theorem ex87a (n i : Int) (out : List Int) (K : Ex → List AV → List Blk → Prop) : evBody E87 (lb Try.f87 0) [0, 5, 6] [5] [.one (.int .i64 n), .one (.own 0 1), .one (.int .i64 i)] [.row 3 (.ints .i64 out)] K = (
 bif decide (i ≥ (0 : Int)) then
 bif decide ((0 : Int) ≤ i) && decide (i < (↑out.length : Int)) then
 bif decide (i.toNat + (0 : Nat) < out.length) then
 K Ex.normal
 [AV.one (SV.int IntKind.i64 (IntKind.i64.wrap (n.tdiv (2 : Int)))), AV.one (SV.own (0 : Nat) (1 : Nat)),
 AV.one (SV.int IntKind.i64 (IntKind.i64.wrap (i - (1 : Int))))]
 [Blk.row (3 : TypeId) (Row.ints IntKind.i64 (out.set (i.toNat + (0 : Nat)) (n.tmod (2 : Int))))]
 else False
 else False
 else K (Ex.exit (0 : Nat)) [AV.one (SV.own (0 : Nat) (1 : Nat))] [Blk.row (3 : TypeId) (Row.ints IntKind.i64 out)]) := by kernel_rfl
theorem ex29 (x0 x1 x2 x3 x4 x5 x6 x7 : Int) (K : AV → List Blk → Prop) : evFn E29 Try.f29 [.agg [.int .i64 x0, .int .i64 x1, .int .i64 x2, .int .i64 x3, .int .i64 x4, .int .i64 x5, .int .i64 x6, .int .i64 x7]] [] K = (
 [x0, x1, x2, x3, x4, x5, x6, x7].length ≤ (1000000000 : Nat) ∧
 bif ![x0, x1, x2, x3, x4, x5, x6, x7].all sampleG then K (AV.one (SV.int IntKind.i64 (2 : Int))) []
 else K (AV.one (SV.int IntKind.i64 (0 : Int))) []) := by kernel_rfl
theorem ex32 (p k : Int) (K : AV → List Blk → Prop) : evFn E32 Try.f32 [.one (.int .i64 p), .one (.int .i64 k)] [] K = (
 bif !(decide ((0 : Int) ≤ p) && decide (p ≤ (2 : Int))) then K (AV.one (SV.int IntKind.i64 (2 : Int))) []
 else
 bif !(decide ((0 : Int) ≤ k) && decide (k ≤ (17 : Int))) then K (AV.one (SV.int IntKind.i64 (2 : Int))) []
 else K (AV.one (SV.int IntKind.i64 (0 : Int))) []) := by kernel_rfl
theorem ex33 (x0 x1 x2 x3 x4 x5 x6 x7 p k : Int) (K : AV → List Blk → Prop) : evFn E33 Try.f33 [.agg [.int .i64 x0, .int .i64 x1, .int .i64 x2, .int .i64 x3, .int .i64 x4, .int .i64 x5, .int .i64 x6, .int .i64 x7], .one (.int .i64 p), .one (.int .i64 k)] [] K = (
 ((0 : Int) ≤ (0 : Int) ∧ (0 : Int) ≤ (7 : Int)) ∧
 ((0 : Int) ≤ k ∧ k ≤ (62 : Int)) ∧
 bif !decide ((2 : Int) ^ k.toNat = (0 : Int)) then
 ((0 : Int) ≤ (1 : Int) ∧ (1 : Int) ≤ (7 : Int)) ∧
 ((0 : Int) ≤ k ∧ k ≤ (62 : Int)) ∧
 bif !decide ((2 : Int) ^ k.toNat = (0 : Int)) then
 ((0 : Int) ≤ (2 : Int) ∧ (2 : Int) ≤ (7 : Int)) ∧
 ((0 : Int) ≤ k ∧ k ≤ (62 : Int)) ∧
 bif !decide ((2 : Int) ^ k.toNat = (0 : Int)) then
 ((0 : Int) ≤ (3 : Int) ∧ (3 : Int) ≤ (7 : Int)) ∧
 ((0 : Int) ≤ k ∧ k ≤ (62 : Int)) ∧
 bif !decide ((2 : Int) ^ k.toNat = (0 : Int)) then
 ((0 : Int) ≤ (4 : Int) ∧ (4 : Int) ≤ (7 : Int)) ∧
 ((0 : Int) ≤ k ∧ k ≤ (62 : Int)) ∧
 bif !decide ((2 : Int) ^ k.toNat = (0 : Int)) then
 ((0 : Int) ≤ (5 : Int) ∧ (5 : Int) ≤ (7 : Int)) ∧
 ((0 : Int) ≤ k ∧ k ≤ (62 : Int)) ∧
 bif !decide ((2 : Int) ^ k.toNat = (0 : Int)) then
 ((0 : Int) ≤ (6 : Int) ∧ (6 : Int) ≤ (7 : Int)) ∧
 ((0 : Int) ≤ k ∧ k ≤ (62 : Int)) ∧
 bif !decide ((2 : Int) ^ k.toNat = (0 : Int)) then
 ((0 : Int) ≤ (7 : Int) ∧ (7 : Int) ≤ (7 : Int)) ∧
 ((0 : Int) ≤ k ∧ k ≤ (62 : Int)) ∧
 bif !decide ((2 : Int) ^ k.toNat = (0 : Int)) then
 K
 (AV.one
 (SV.int IntKind.i64
 (IntKind.i64.wrap
 (IntKind.i64.wrap
 (IntKind.i64.wrap
 (IntKind.i64.wrap
 (IntKind.i64.wrap
 (IntKind.i64.wrap
 (IntKind.i64.wrap
 (IntKind.i64.wrap
 (IntKind.i64.wrap
 (IntKind.i64.wrap
 (IntKind.i64.wrap
 (IntKind.i64.wrap
 (IntKind.i64.wrap
 (IntKind.i64.wrap
 (IntKind.i64.wrap
 (IntKind.i64.wrap
 (IntKind.i64.wrap
 (IntKind.i64.wrap
 (IntKind.i64.wrap
 (IntKind.i64.wrap
 (IntKind.i64.wrap
 (IntKind.i64.wrap
 (IntKind.i64.wrap
 (IntKind.i64.wrap
 ((7 :
 Int) +
 IntKind.i64.wrap
 ((foldG
 (IntKind.i64.wrap
 (x0 -
 expG
 p
 (lastG
 [x0,
 x1,
 x2,
 x3,
 x4,
 x5,
 x6,
 x7]
 (0 :
 Int))
 (befG
 [x0,
 x1,
 x2,
 x3,
 x4,
 x5,
 x6,
 x7]
 (0 :
 Int))))).tdiv
 ((2 :
 Int) ^
 k.toNat))) +
 (1 :
 Int)) +
 k) +
 IntKind.i64.wrap
 ((foldG
 (IntKind.i64.wrap
 (x1 -
 expG
 p
 (lastG
 [x0,
 x1,
 x2,
 x3,
 x4,
 x5,
 x6,
 x7]
 (1 :
 Int))
 (befG
 [x0,
 x1,
 x2,
 x3,
 x4,
 x5,
 x6,
 x7]
 (1 :
 Int))))).tdiv
 ((2 :
 Int) ^
 k.toNat))) +
 (1 :
 Int)) +
 k) +
 IntKind.i64.wrap
 ((foldG
 (IntKind.i64.wrap
 (x2 -
 expG
 p
 (lastG
 [x0,
 x1,
 x2,
 x3,
 x4,
 x5,
 x6,
 x7]
 (2 :
 Int))
 (befG
 [x0,
 x1,
 x2,
 x3,
 x4,
 x5,
 x6,
 x7]
 (2 :
 Int))))).tdiv
 ((2 :
 Int) ^
 k.toNat))) +
 (1 :
 Int)) +
 k) +
 IntKind.i64.wrap
 ((foldG
 (IntKind.i64.wrap
 (x3 -
 expG
 p
 (lastG
 [x0,
 x1,
 x2,
 x3,
 x4,
 x5,
 x6,
 x7]
 (3 :
 Int))
 (befG
 [x0,
 x1,
 x2,
 x3,
 x4,
 x5,
 x6,
 x7]
 (3 :
 Int))))).tdiv
 ((2 :
 Int) ^
 k.toNat))) +
 (1 :
 Int)) +
 k) +
 IntKind.i64.wrap
 ((foldG
 (IntKind.i64.wrap
 (x4 -
 expG p
 (lastG
 [x0,
 x1,
 x2,
 x3,
 x4,
 x5,
 x6,
 x7]
 (4 :
 Int))
 (befG
 [x0,
 x1,
 x2,
 x3,
 x4,
 x5,
 x6,
 x7]
 (4 :
 Int))))).tdiv
 ((2 : Int) ^
 k.toNat))) +
 (1 : Int)) +
 k) +
 IntKind.i64.wrap
 ((foldG
 (IntKind.i64.wrap
 (x5 -
 expG p
 (lastG
 [x0, x1, x2,
 x3, x4, x5,
 x6, x7]
 (5 : Int))
 (befG
 [x0, x1, x2,
 x3, x4, x5,
 x6, x7]
 (5 :
 Int))))).tdiv
 ((2 : Int) ^ k.toNat))) +
 (1 : Int)) +
 k) +
 IntKind.i64.wrap
 ((foldG
 (IntKind.i64.wrap
 (x6 -
 expG p
 (lastG
 [x0, x1, x2, x3, x4, x5,
 x6, x7]
 (6 : Int))
 (befG
 [x0, x1, x2, x3, x4, x5,
 x6, x7]
 (6 : Int))))).tdiv
 ((2 : Int) ^ k.toNat))) +
 (1 : Int)) +
 k) +
 IntKind.i64.wrap
 ((foldG
 (IntKind.i64.wrap
 (x7 -
 expG p
 (lastG [x0, x1, x2, x3, x4, x5, x6, x7]
 (7 : Int))
 (befG [x0, x1, x2, x3, x4, x5, x6, x7]
 (7 : Int))))).tdiv
 ((2 : Int) ^ k.toNat))) +
 (1 : Int)) +
 k))))
 []
 else False
 else False
 else False
 else False
 else False
 else False
 else False
 else False) := by kernel_rfl
end Go.Ev

namespace Go.Ev
open Go Go.Proofs
attribute [local irreducible] evFn evBody
set_option maxRecDepth 20000

theorem ok88 : SpecOK Try.prog 88 foldedS := by
  refine specOK (n := 10) (m := 0) (lps := []) .nil Try.func88 (by kernel_rfl) (by kernel_rfl) (noLoops (by kernel_rfl)) fun args σ K h => ?_
  unfold foldedS at h
  split at h
  · rename_i r
    rw [ex88 r K]
    unfold foldG at h
    cases hr : decide (r ≥ 0) <;> rw [hr] at h <;> exact h
  · exact h.elim

theorem ok89 : SpecOK Try.prog 89 refExpS := by
  refine specOK (n := 31) (m := 0) (lps := []) .nil Try.func89 (by kernel_rfl) (by kernel_rfl) (noLoops (by kernel_rfl)) fun args σ K h => ?_
  unfold refExpS at h
  split at h
  · rename_i x0 x1 x2 x3 x4 x5 x6 x7 i p
    rw [ex89 x0 x1 x2 x3 x4 x5 x6 x7 i p K]
    obtain ⟨⟨h0, h1⟩, h⟩ := h
    have hlen : [x0, x1, x2, x3, x4, x5, x6, x7].length = 8 := rfl
    unfold expG lastG befG at h
    generalize [x0, x1, x2, x3, x4, x5, x6, x7] = xs at *
    simp only [Nat.zero_add, Nat.add_zero, hlen]
    have w1 : IntKind.i64.wrap (i - 1) = i - 1 := wrap_id (by omega) (by omega)
    have w2 : IntKind.i64.wrap (i - 2) = i - 2 := wrap_id (by omega) (by omega)
    rw [w1, w2]
    have hz : ∀ x : Int, wi (0 - x) = IntKind.i64.wrap (0 - x) := fun _ => rfl
    by_cases c1 : i > 0
    · have d1 : 0 ≤ i - 1 := by omega
      have d2 : i - 1 < 8 := by omega
      have d3 : (i - 1).toNat < 8 := by omega
      by_cases c2 : i > 1
      · have d4 : 0 ≤ i - 2 := by omega
        have d5 : i - 2 < 8 := by omega
        have d6 : (i - 2).toNat < 8 := by omega
        simp only [c1, c2, d1, d2, d3, d4, d5, d6, decide_true, Bool.and_self, cond_true] at h ⊢
        cases hp1 : p == 1 with
        | true => rw [hp1] at h; exact h
        | false => cases hp2 : p == 2 <;> rw [hp1, hp2] at h <;> exact h
      · simp only [c1, c2, d1, d2, d3, decide_true, decide_false, Bool.and_self, cond_true, cond_false] at h ⊢
        cases hp1 : p == 1 with
        | true => rw [hp1] at h; exact h
        | false => cases hp2 : p == 2 <;> rw [hp1, hp2] at h <;> exact h
    · have c2 : ¬ i > 1 := by omega
      simp only [c1, c2, decide_false, cond_false] at h ⊢
      cases hp1 : p == 1 with
      | true => rw [hp1] at h; exact h
      | false => cases hp2 : p == 2 <;> rw [hp1, hp2] at h <;> exact h
  · exact h.elim

theorem pow_bound {k : Nat} (h : k ≤ 62) : (1 : Int) ≤ 2 ^ k ∧ (2 : Int) ^ k ≤ 4611686018427387904 := by
  have h1 : (2 : Nat) ^ k ≤ 2 ^ 62 := Nat.pow_le_pow_right (by decide) h
  have h2 : 0 < (2 : Nat) ^ k := Nat.pow_pos (by decide)
  have ep : ((2 ^ k : Nat) : Int) = (2 : Int) ^ k := by simp
  have e62 : (2 : Nat) ^ 62 = 4611686018427387904 := by decide
  omega
theorem lok90 : LoopOK E90 (lb Try.f90 0) [0, 3, 4] [3] powL := by
  refine loopOK .nil (noInner (by kernel_rfl)) (fun vs _ => match vs with
    | [.one (.int .i64 n), _, .one (.int .i64 i)] => (n - i).toNat
    | _ => 0) fun vs σ k h => ?_
  unfold powL at h
  split at h
  · rename_i n x i
    rw [ex90a n x i _]
    obtain ⟨⟨h1, h2, h3, rfl⟩, h⟩ := h
    by_cases hi : i < n
    · have hw : IntKind.i64.wrap (i + 1) = i + 1 := wrap_id (by omega) (by omega)
      have e : (2 : Int) * 2 ^ i.toNat = 2 ^ (i + 1).toNat := by
        rw [show (i + 1).toNat = i.toNat + 1 by omega, Int.pow_succ, Int.mul_comm]
      have hb := pow_bound (k := (i + 1).toNat) (by omega)
      have hw2 : IntKind.i64.wrap ((2 : Int) ^ (i + 1).toNat) = 2 ^ (i + 1).toNat := wrap_id (by omega) (by omega)
      have hmu : (n - (i + 1)).toNat < (n - i).toNat := by omega
      simp only [hi, decide_true, cond_true, hw, e, hw2]
      exact ⟨⟨⟨by omega, by omega, h3, rfl⟩, h⟩, hmu⟩
    · have e : i = n := by omega
      subst e
      simp only [hi, decide_false, cond_false]
      exact h
  · exact h.elim
theorem ok90 : SpecOK Try.prog 90 powS := by
  refine specOK (n := 13) (m := 0) (lps := [(3, .spec [0, 3, 4] [3] powL)]) .nil Try.func90 (by kernel_rfl) (by kernel_rfl) (theLoops (n := 1) (by kernel_rfl) fun i hi => ?_) fun args σ K h => ?_
  · match i, hi with
    | 0, _ => exact loopHyp_of (key := 3) (by kernel_rfl) rfl lok90
  · unfold powS at h
    split at h
    · rename_i n
      rw [ex90 n K]
      obtain ⟨⟨h1, h2⟩, h⟩ := h
      exact ⟨⟨by omega, h1, h2, rfl⟩, h⟩
    · exact h.elim

theorem bits_step {n : Int} {i : Nat} {out : List Int} (hi : i < out.length) : bits2 (n / 2) i ++ (out.set i (n % 2)).drop i = bits2 n (i + 1) ++ out.drop (i + 1) := by
  have e : (out.set i (n % 2)).drop i = (n % 2) :: out.drop (i + 1) := by
    rw [List.set_eq_take_append_cons_drop, if_pos hi, List.drop_append_of_le_length (by simp; omega), List.drop_take]
    simp
  rw [e]
  simp [bits2]
theorem lok87 : LoopOK E87 (lb Try.f87 0) [0, 5, 6] [5] bitsL := by
  refine loopOK .nil (noInner (by kernel_rfl)) (fun vs _ => match vs with
    | [_, _, .one (.int .i64 i)] => (i + 1).toNat
    | _ => 0) fun vs σ k h => ?_
  unfold bitsL at h
  split at h
  · rename_i n i out
    rw [ex87a n i out _]
    obtain ⟨⟨h1, h2, h3, h4, h5⟩, h⟩ := h
    by_cases hi : i ≥ 0
    · have hw : IntKind.i64.wrap (i - 1) = i - 1 := wrap_id (by omega) (by omega)
      have hd : n.tdiv 2 = n / 2 := Int.tdiv_eq_ediv_of_nonneg h1
      have hm : n.tmod 2 = n % 2 := Int.tmod_eq_emod_of_nonneg h1
      have hw2 : IntKind.i64.wrap (n / 2) = n / 2 := wrap_id (by omega) (by omega)
      have hi' : i.toNat < out.length := by omega
      have hmu : (i - 1 + 1).toNat < (i + 1).toNat := by omega
      have h0 : 0 ≤ i := hi
      simp only [hi, h0, h4, hi', hw, hd, hm, hw2, Nat.add_zero, Nat.zero_add, decide_true, Bool.and_self, cond_true]
      refine ⟨⟨⟨by omega, by omega, by omega, by rw [List.length_set]; omega, by rw [List.length_set]; exact h5⟩, ?_⟩, hmu⟩
      rw [show i - 1 + 1 = i by omega, bits_step hi', show i.toNat + 1 = (i + 1).toNat by omega]
      exact h
    · have e : (i + 1).toNat = 0 := by omega
      rw [e] at h
      simp only [hi, decide_false, cond_false]
      exact h
  · exact h.elim
theorem ok87 : SpecOK Try.prog 87 bitsOfS := by
  refine specOK (n := 23) (m := 0) (lps := [(3, .spec [0, 5, 6] [5] bitsL)]) .nil Try.func87 (by kernel_rfl) (by kernel_rfl) (theLoops (n := 1) (by kernel_rfl) fun i hi => ?_) fun args σ K h => ?_
  · match i, hi with
    | 0, _ => exact loopHyp_of (key := 3) (by kernel_rfl) rfl lok87
  · unfold bitsOfS at h
    split at h
    · rename_i n c
      rw [ex87 n c K]
      obtain ⟨⟨h1, h2, h3, h4⟩, h⟩ := h
      have hw : IntKind.i64.wrap (c - 1) = c - 1 := wrap_id (by omega) (by omega)
      have hb : c * 8 ≤ 140737488355328 ∧ c ≤ 140737488355328 := by omega
      have e : c - 1 + 1 = c := by omega
      simp only [h3, hb, hw, e, Int.le_refl, and_self, decide_true, Bool.and_self, cond_true, List.length_replicate]
      refine ⟨⟨h1, h2, by omega, by omega, by omega⟩, ?_⟩
      rw [List.drop_eq_nil_of_le (by simp), List.append_nil]
      exact h
    · exact h.elim
theorem ok29 : SpecOK Try.prog 29 samplesS := by
  refine specOK (n := 6) (m := 0) (lps := []) (.cons ok81 .nil) Try.func29 (by kernel_rfl) (by kernel_rfl) (noLoops (by kernel_rfl)) fun args σ K h => ?_
  unfold samplesS at h
  split at h
  · rename_i x0 x1 x2 x3 x4 x5 x6 x7
    rw [ex29 x0 x1 x2 x3 x4 x5 x6 x7 K]
    refine ⟨by simp, ?_⟩
    cases hs : [x0, x1, x2, x3, x4, x5, x6, x7].all sampleG <;> rw [hs] at h <;> exact h
  · exact h.elim
theorem ok32 : SpecOK Try.prog 32 paramS := by
  refine specOK (n := 13) (m := 0) (lps := []) (.cons ok25 .nil) Try.func32 (by kernel_rfl) (by kernel_rfl) (noLoops (by kernel_rfl)) fun args σ K h => ?_
  unfold paramS at h
  split at h
  · rename_i p k
    rw [ex32 p k K]
    unfold paramG withinG at h
    cases hp : (decide (0 ≤ p) && decide (p ≤ 2)) <;> cases hk : (decide (0 ≤ k) && decide (k ≤ 17)) <;> rw [hp, hk] at h <;> exact h
  · exact h.elim

theorem quo_pow {u : Int} {k : Nat} (h0 : 0 ≤ u) (hk : k ≤ 62) : u.tdiv (2 ^ k) = u.fdiv (2 ^ min k 64) := by
  rw [Nat.min_eq_left (by omega), fdiv_pow, Int.tdiv_eq_ediv_of_nonneg h0]
theorem ok33 : SpecOK Try.prog 33 lengthS := by
  refine specOK (n := 31) (m := 0) (lps := [(3, .unroll 9)]) (.cons ok89 (.cons ok88 (.cons ok90 .nil))) Try.func33 (by kernel_rfl) (by kernel_rfl) (theLoops (n := 1) (by kernel_rfl) fun i hi => ?_) fun args σ K h => ?_
  · match i, hi with
    | 0, _ => exact loopHyp_none (key := 3) (n := 9) (by kernel_rfl) rfl
  · unfold lengthS at h
    split at h
    · rename_i x0 x1 x2 x3 x4 x5 x6 x7 p k
      rw [ex33 x0 x1 x2 x3 x4 x5 x6 x7 p k K]
      obtain ⟨⟨hs, hk0, hk1⟩, h⟩ := h
      have hp : ¬ (2 : Int) ^ k.toNat = 0 := by have := pow_bound (k := k.toNat) (by omega); omega
      have hk62 : k ≤ 62 := by omega
      have hk2 : k.toNat ≤ 62 := by omega
      have hr := cod_range (p := p) hs
      simp only [codG, codR, List.mem_cons, List.not_mem_nil, or_false, forall_eq_or_imp, forall_eq] at hr
      simp only [lenG, codG, codR, lenR, shrG] at h
      have e0 : foldG (IntKind.i64.wrap (x0 - expG p (lastG [x0, x1, x2, x3, x4, x5, x6, x7] 0) (befG [x0, x1, x2, x3, x4, x5, x6, x7] 0))) = foldG (wi (x0 - expG p 0 0)) := rfl
      have e1 : foldG (IntKind.i64.wrap (x1 - expG p (lastG [x0, x1, x2, x3, x4, x5, x6, x7] 1) (befG [x0, x1, x2, x3, x4, x5, x6, x7] 1))) = foldG (wi (x1 - expG p x0 0)) := rfl
      have e2 : foldG (IntKind.i64.wrap (x2 - expG p (lastG [x0, x1, x2, x3, x4, x5, x6, x7] 2) (befG [x0, x1, x2, x3, x4, x5, x6, x7] 2))) = foldG (wi (x2 - expG p x1 x0)) := rfl
      have e3 : foldG (IntKind.i64.wrap (x3 - expG p (lastG [x0, x1, x2, x3, x4, x5, x6, x7] 3) (befG [x0, x1, x2, x3, x4, x5, x6, x7] 3))) = foldG (wi (x3 - expG p x2 x1)) := rfl
      have e4 : foldG (IntKind.i64.wrap (x4 - expG p (lastG [x0, x1, x2, x3, x4, x5, x6, x7] 4) (befG [x0, x1, x2, x3, x4, x5, x6, x7] 4))) = foldG (wi (x4 - expG p x3 x2)) := rfl
      have e5 : foldG (IntKind.i64.wrap (x5 - expG p (lastG [x0, x1, x2, x3, x4, x5, x6, x7] 5) (befG [x0, x1, x2, x3, x4, x5, x6, x7] 5))) = foldG (wi (x5 - expG p x4 x3)) := rfl
      have e6 : foldG (IntKind.i64.wrap (x6 - expG p (lastG [x0, x1, x2, x3, x4, x5, x6, x7] 6) (befG [x0, x1, x2, x3, x4, x5, x6, x7] 6))) = foldG (wi (x6 - expG p x5 x4)) := rfl
      have e7 : foldG (IntKind.i64.wrap (x7 - expG p (lastG [x0, x1, x2, x3, x4, x5, x6, x7] 7) (befG [x0, x1, x2, x3, x4, x5, x6, x7] 7))) = foldG (wi (x7 - expG p x6 x5)) := rfl
      simp only [hp, decide_false, Bool.not_false, cond_true]
      refine ⟨⟨by decide, by decide⟩, ⟨hk0, hk62⟩, ⟨by decide, by decide⟩, ⟨hk0, hk62⟩, ⟨by decide, by decide⟩, ⟨hk0, hk62⟩, ⟨by decide, by decide⟩, ⟨hk0, hk62⟩, ⟨by decide, by decide⟩, ⟨hk0, hk62⟩, ⟨by decide, by decide⟩, ⟨hk0, hk62⟩, ⟨by decide, by decide⟩, ⟨hk0, hk62⟩, ⟨by decide, by decide⟩, ⟨hk0, hk62⟩, ?_⟩
      rw [e0, e1, e2, e3, e4, e5, e6, e7]
      clear e0 e1 e2 e3 e4 e5 e6 e7
      generalize foldG (wi (x0 - expG p 0 0)) = u0 at *
      generalize foldG (wi (x1 - expG p x0 0)) = u1 at *
      generalize foldG (wi (x2 - expG p x1 x0)) = u2 at *
      generalize foldG (wi (x3 - expG p x2 x1)) = u3 at *
      generalize foldG (wi (x4 - expG p x3 x2)) = u4 at *
      generalize foldG (wi (x5 - expG p x4 x3)) = u5 at *
      generalize foldG (wi (x6 - expG p x5 x4)) = u6 at *
      generalize foldG (wi (x7 - expG p x6 x5)) = u7 at *
      obtain ⟨r0, r1, r2, r3, r4, r5, r6, r7⟩ := hr
      rw [quo_pow r0.1 hk2, quo_pow r1.1 hk2, quo_pow r2.1 hk2, quo_pow r3.1 hk2, quo_pow r4.1 hk2, quo_pow r5.1 hk2, quo_pow r6.1 hk2, quo_pow r7.1 hk2]
      replace r0 := fdiv_range (min k.toNat 64) r0
      replace r1 := fdiv_range (min k.toNat 64) r1
      replace r2 := fdiv_range (min k.toNat 64) r2
      replace r3 := fdiv_range (min k.toNat 64) r3
      replace r4 := fdiv_range (min k.toNat 64) r4
      replace r5 := fdiv_range (min k.toNat 64) r5
      replace r6 := fdiv_range (min k.toNat 64) r6
      replace r7 := fdiv_range (min k.toNat 64) r7
      generalize u0.fdiv (2 ^ min k.toNat 64) = s0 at *
      generalize u1.fdiv (2 ^ min k.toNat 64) = s1 at *
      generalize u2.fdiv (2 ^ min k.toNat 64) = s2 at *
      generalize u3.fdiv (2 ^ min k.toNat 64) = s3 at *
      generalize u4.fdiv (2 ^ min k.toNat 64) = s4 at *
      generalize u5.fdiv (2 ^ min k.toNat 64) = s5 at *
      generalize u6.fdiv (2 ^ min k.toNat 64) = s6 at *
      generalize u7.fdiv (2 ^ min k.toNat 64) = s7 at *
      simp (disch := omega) only [wrap_id]
      refine cast (congrArg (fun n => K (.one (.int .i64 n)) []) ?_) h
      omega
    · exact h.elim
end Go.Ev
