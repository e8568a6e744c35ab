/-
  Chapter 1, contracts: the reference of packed samples; the law of packing.
-/
import Derived.Test.YtlejemnljojpgaaC1J
import Derived.KernelRfl
set_option linter.unusedVariables false
set_option linter.unusedSimpArgs false
namespace Go.Ev
open Go Go.Proofs
set_option maxRecDepth 20000

def inner2L : LSpec := fun vs σ k => match vs, σ with
  | [.one (.ptr 0 1 0 0), .one (.int .i64 bp), .one (.int .i64 bk), .one (.int .i64 p), .one (.int .i64 i)], [.row 35 (.ints .i64 [x0, x1, x2, x3, x4, x5, x6, x7])] =>
    ([x0, x1, x2, x3, x4, x5, x6, x7].all sampleG = true ∧ 0 ≤ i ∧ i ≤ 18 ∧ 0 ≤ bk ∧ bk ≤ 17) ∧ k (.exit 2) [.one (.ptr 0 1 0 0), .one (.int .i64 (bestK [x0, x1, x2, x3, x4, x5, x6, x7] p (18 - i).toNat i (lenG bp bk [x0, x1, x2, x3, x4, x5, x6, x7], bp, bk)).2.1),
      .one (.int .i64 (bestK [x0, x1, x2, x3, x4, x5, x6, x7] p (18 - i).toNat i (lenG bp bk [x0, x1, x2, x3, x4, x5, x6, x7], bp, bk)).2.2), .one (.int .i64 p)] [.row 35 (.ints .i64 [x0, x1, x2, x3, x4, x5, x6, x7])]
  | _, _ => False
def outer2L : LSpec := fun vs σ k => match vs, σ with
  | [.one (.ptr 0 1 0 0), .one (.int .i64 bp), .one (.int .i64 bk), .one (.int .i64 p)], [.row 35 (.ints .i64 [x0, x1, x2, x3, x4, x5, x6, x7])] =>
    ([x0, x1, x2, x3, x4, x5, x6, x7].all sampleG = true ∧ 0 ≤ p ∧ p ≤ 3 ∧ 0 ≤ bk ∧ bk ≤ 17 ∧ 0 ≤ bp ∧ bp ≤ 2) ∧ k (.exit 0) [.one (.ptr 0 1 0 0), .one (.int .i64 (bestP [x0, x1, x2, x3, x4, x5, x6, x7] (3 - p).toNat p (lenG bp bk [x0, x1, x2, x3, x4, x5, x6, x7], bp, bk)).2.1), .one (.int .i64 (bestP [x0, x1, x2, x3, x4, x5, x6, x7] (3 - p).toNat p (lenG bp bk [x0, x1, x2, x3, x4, x5, x6, x7], bp, bk)).2.2)] [.row 35 (.ints .i64 [x0, x1, x2, x3, x4, x5, x6, x7])]
  | _, _ => False
def onesL : LSpec := fun vs σ k => match vs, σ with
  | [.one (.ptr 0 1 0 0), .one (.int .i64 p), .one (.int .i64 c), .one (.own 1 1), .one (.int .i64 i), .one (.int .i64 u), .one (.int .i64 n)], [.row 35 (.ints .i64 [x0, x1, x2, x3, x4, x5, x6, x7]), .row 3 (.ints .i64 out)] =>
    (0 ≤ n ∧ (out.length : Int) + n ≤ 2000000000) ∧ k (.exit 6) [.one (.ptr 0 1 0 0), .one (.int .i64 p), .one (.int .i64 c), .one (.own 1 1), .one (.int .i64 i), .one (.int .i64 u)] [.row 35 (.ints .i64 [x0, x1, x2, x3, x4, x5, x6, x7]), .row 3 (.ints .i64 (out ++ List.replicate n.toNat 1))]
  | _, _ => False
def codes2L : LSpec := fun vs σ k => match vs, σ with
  | [.one (.ptr 0 1 0 0), .one (.int .i64 p), .one (.int .i64 c), .one (.own 1 1), .one (.int .i64 i)], [.row 35 (.ints .i64 [x0, x1, x2, x3, x4, x5, x6, x7]), .row 3 (.ints .i64 out)] =>
    ([x0, x1, x2, x3, x4, x5, x6, x7].all sampleG = true ∧ 0 ≤ c ∧ c ≤ 17 ∧ 0 ≤ i ∧ i ≤ 8 ∧ (out.length : Int) ≤ 1000000 * (i + 1)) ∧
    k (.exit 4) [.one (.own 0 1)] [.row 3 (.ints .i64 (out ++ codesG c (codR p (lastG [x0, x1, x2, x3, x4, x5, x6, x7] i) (befG [x0, x1, x2, x3, x4, x5, x6, x7] i) ([x0, x1, x2, x3, x4, x5, x6, x7].drop i.toNat))))]
  | _, _ => False
def refPackS : Spec := fun args σ K => match args, σ with
  | [.agg [.int .i64 x0, .int .i64 x1, .int .i64 x2, .int .i64 x3, .int .i64 x4, .int .i64 x5, .int .i64 x6, .int .i64 x7]], [] => [x0, x1, x2, x3, x4, x5, x6, x7].all sampleG = true ∧ K (.one (.own 0 1)) [.row 3 (.ints .i64 (packG [x0, x1, x2, x3, x4, x5, x6, x7]))]
  | _, _ => False
noncomputable abbrev E31 : Env := envOf Try.prog [(33, lengthS), (87, bitsOfS), (89, refExpS), (88, foldedS), (90, powS)]
  [(3, .spec [1, 3, 4, 5] [1, 3, 4] outer2L), (6, .spec [1, 3, 4, 5, 6] [1, 3, 4, 5] inner2L), (12, .spec [1, 3, 4, 7, 8] [7] codes2L), (16, .spec [1, 3, 4, 7, 8, 9, 10] [1, 3, 4, 7, 8, 9] onesL)] 70 0
noncomputable abbrev E6 : Env := envOf Try.prog [(15, trueS), (27, bitsForS), (28, packedS), (29, samplesS), (30, intsS), (31, refPackS), (32, paramS), (33, lengthS)] [] 78 0
end Go.Ev

namespace Go.Ev
open Go Go.Proofs
set_option maxRecDepth 100000
theorem ex31 (x0 x1 x2 x3 x4 x5 x6 x7 : Int) (K : AV → List Blk → Prop) : evFn E31 Try.f31 [.agg [.int .i64 x0, .int .i64 x1, .int .i64 x2, .int .i64 x3, .int .i64 x4, .int .i64 x5, .int .i64 x6, .int .i64 x7]] [] K = (
  ([x0, x1, x2, x3, x4, x5, x6, x7].all sampleG = true ∧
      (0 : Int) ≤ (0 : Int) ∧
        (0 : Int) ≤ (3 : Int) ∧
          (0 : Int) ≤ (0 : Int) ∧ (0 : Int) ≤ (17 : Int) ∧ (0 : Int) ≤ (0 : Int) ∧ (0 : Int) ≤ (2 : Int)) ∧
    ((0 : Int) ≤
          (bestP [x0, x1, x2, x3, x4, x5, x6, x7] (3 : Nat) (0 : Int)
                (lenG (0 : Int) (0 : Int) [x0, x1, x2, x3, x4, x5, x6, x7], (0 : Int), (0 : Int))).snd.fst ∧
        (bestP [x0, x1, x2, x3, x4, x5, x6, x7] (3 : Nat) (0 : Int)
                  (lenG (0 : Int) (0 : Int) [x0, x1, x2, x3, x4, x5, x6, x7], (0 : Int), (0 : Int))).snd.fst ≤
            (4611686018427387904 : Int) ∧
          (0 : Int) ≤ (2 : Int) ∧ (2 : Int) ≤ (100 : Int)) ∧
      ((0 : Int) ≤
            (bestP [x0, x1, x2, x3, x4, x5, x6, x7] (3 : Nat) (0 : Int)
                  (lenG (0 : Int) (0 : Int) [x0, x1, x2, x3, x4, x5, x6, x7], (0 : Int), (0 : Int))).snd.snd ∧
          (bestP [x0, x1, x2, x3, x4, x5, x6, x7] (3 : Nat) (0 : Int)
                    (lenG (0 : Int) (0 : Int) [x0, x1, x2, x3, x4, x5, x6, x7], (0 : Int), (0 : Int))).snd.snd ≤
              (4611686018427387904 : Int) ∧
            (0 : Int) ≤ (5 : Int) ∧ (5 : Int) ≤ (100 : Int)) ∧
        ([x0, x1, x2, x3, x4, x5, x6, x7].all sampleG = true ∧
            (0 : Int) ≤
                (bestP [x0, x1, x2, x3, x4, x5, x6, x7] (3 : Nat) (0 : Int)
                      (lenG (0 : Int) (0 : Int) [x0, x1, x2, x3, x4, x5, x6, x7], (0 : Int), (0 : Int))).snd.snd ∧
              (bestP [x0, x1, x2, x3, x4, x5, x6, x7] (3 : Nat) (0 : Int)
                        (lenG (0 : Int) (0 : Int) [x0, x1, x2, x3, x4, x5, x6, x7], (0 : Int), (0 : Int))).snd.snd ≤
                  (17 : Int) ∧
                (0 : Int) ≤ (0 : Int) ∧
                  (0 : Int) ≤ (8 : Int) ∧
                    (↑(bits2
                                (bestP [x0, x1, x2, x3, x4, x5, x6, x7] (3 : Nat) (0 : Int)
                                      (lenG (0 : Int) (0 : Int) [x0, x1, x2, x3, x4, x5, x6, x7], (0 : Int),
                                        (0 : Int))).snd.fst
                                (2 : Nat) ++
                              bits2
                                (bestP [x0, x1, x2, x3, x4, x5, x6, x7] (3 : Nat) (0 : Int)
                                      (lenG (0 : Int) (0 : Int) [x0, x1, x2, x3, x4, x5, x6, x7], (0 : Int),
                                        (0 : Int))).snd.snd
                                (5 : Nat)).length :
                        Int) ≤
                      (1000000 : Int)) ∧
          K (AV.one (SV.own (0 : Nat) (1 : Nat)))
            [Blk.row (3 : TypeId)
                (Row.ints IntKind.i64
                  (bits2
                        (bestP [x0, x1, x2, x3, x4, x5, x6, x7] (3 : Nat) (0 : Int)
                              (lenG (0 : Int) (0 : Int) [x0, x1, x2, x3, x4, x5, x6, x7], (0 : Int), (0 : Int))).snd.fst
                        (2 : Nat) ++
                      bits2
                        (bestP [x0, x1, x2, x3, x4, x5, x6, x7] (3 : Nat) (0 : Int)
                              (lenG (0 : Int) (0 : Int) [x0, x1, x2, x3, x4, x5, x6, x7], (0 : Int), (0 : Int))).snd.snd
                        (5 : Nat) ++
                    codesG
                      (bestP [x0, x1, x2, x3, x4, x5, x6, x7] (3 : Nat) (0 : Int)
                            (lenG (0 : Int) (0 : Int) [x0, x1, x2, x3, x4, x5, x6, x7], (0 : Int), (0 : Int))).snd.snd
                      (codR
                        (bestP [x0, x1, x2, x3, x4, x5, x6, x7] (3 : Nat) (0 : Int)
                              (lenG (0 : Int) (0 : Int) [x0, x1, x2, x3, x4, x5, x6, x7], (0 : Int), (0 : Int))).snd.fst
                        (lastG [x0, x1, x2, x3, x4, x5, x6, x7] (0 : Int))
                        (befG [x0, x1, x2, x3, x4, x5, x6, x7] (0 : Int)) [x0, x1, x2, x3, x4, x5, x6, x7])))]) := by kernel_rfl
theorem ex31a (x0 x1 x2 x3 x4 x5 x6 x7 bp bk p : Int) (K : Ex → List AV → List Blk → Prop) : evBody E31 (lb Try.f31 0) [1, 3, 4, 5] [1, 3, 4] [.one (.ptr 0 1 0 0), .one (.int .i64 bp), .one (.int .i64 bk), .one (.int .i64 p)] [.row 35 (.ints .i64 [x0, x1, x2, x3, x4, x5, x6, x7])] K = (
  bif decide (p < (3 : Int)) then
    ([x0, x1, x2, x3, x4, x5, x6, x7].all sampleG = true ∧
        (0 : Int) ≤ (0 : Int) ∧ (0 : Int) ≤ (18 : Int) ∧ (0 : Int) ≤ bk ∧ bk ≤ (17 : Int)) ∧
      K Ex.normal
        [AV.one (SV.ptr (0 : Nat) (1 : Nat) (0 : Nat) (0 : Nat)),
          AV.one
            (SV.int IntKind.i64
              (bestK [x0, x1, x2, x3, x4, x5, x6, x7] p (18 : Nat) (0 : Int)
                    (lenG bp bk [x0, x1, x2, x3, x4, x5, x6, x7], bp, bk)).snd.fst),
          AV.one
            (SV.int IntKind.i64
              (bestK [x0, x1, x2, x3, x4, x5, x6, x7] p (18 : Nat) (0 : Int)
                    (lenG bp bk [x0, x1, x2, x3, x4, x5, x6, x7], bp, bk)).snd.snd),
          AV.one (SV.int IntKind.i64 (IntKind.i64.wrap (p + (1 : Int))))]
        [Blk.row (35 : TypeId) (Row.ints IntKind.i64 [x0, x1, x2, x3, x4, x5, x6, x7])]
  else
    K (Ex.exit (0 : Nat))
      [AV.one (SV.ptr (0 : Nat) (1 : Nat) (0 : Nat) (0 : Nat)), AV.one (SV.int IntKind.i64 bp),
        AV.one (SV.int IntKind.i64 bk)]
      [Blk.row (35 : TypeId) (Row.ints IntKind.i64 [x0, x1, x2, x3, x4, x5, x6, x7])]) := by kernel_rfl
theorem ex31b (x0 x1 x2 x3 x4 x5 x6 x7 bp bk p i : Int) (K : Ex → List AV → List Blk → Prop) : evBody E31 (lb Try.f31 1) [1, 3, 4, 5, 6] [1, 3, 4, 5] [.one (.ptr 0 1 0 0), .one (.int .i64 bp), .one (.int .i64 bk), .one (.int .i64 p), .one (.int .i64 i)] [.row 35 (.ints .i64 [x0, x1, x2, x3, x4, x5, x6, x7])] K = (
  bif decide (i < (18 : Int)) then
    ([x0, x1, x2, x3, x4, x5, x6, x7].all sampleG = true ∧ (0 : Int) ≤ i ∧ i ≤ (17 : Int)) ∧
      ([x0, x1, x2, x3, x4, x5, x6, x7].all sampleG = true ∧ (0 : Int) ≤ bk ∧ bk ≤ (17 : Int)) ∧
        bif decide (lenG p i [x0, x1, x2, x3, x4, x5, x6, x7] < lenG bp bk [x0, x1, x2, x3, x4, x5, x6, x7]) then
          K Ex.normal
            [AV.one (SV.ptr (0 : Nat) (1 : Nat) (0 : Nat) (0 : Nat)), AV.one (SV.int IntKind.i64 p),
              AV.one (SV.int IntKind.i64 i), AV.one (SV.int IntKind.i64 p),
              AV.one (SV.int IntKind.i64 (IntKind.i64.wrap (i + (1 : Int))))]
            [Blk.row (35 : TypeId) (Row.ints IntKind.i64 [x0, x1, x2, x3, x4, x5, x6, x7])]
        else
          K Ex.normal
            [AV.one (SV.ptr (0 : Nat) (1 : Nat) (0 : Nat) (0 : Nat)), AV.one (SV.int IntKind.i64 bp),
              AV.one (SV.int IntKind.i64 bk), AV.one (SV.int IntKind.i64 p),
              AV.one (SV.int IntKind.i64 (IntKind.i64.wrap (i + (1 : Int))))]
            [Blk.row (35 : TypeId) (Row.ints IntKind.i64 [x0, x1, x2, x3, x4, x5, x6, x7])]
  else
    K (Ex.exit (2 : Nat))
      [AV.one (SV.ptr (0 : Nat) (1 : Nat) (0 : Nat) (0 : Nat)), AV.one (SV.int IntKind.i64 bp),
        AV.one (SV.int IntKind.i64 bk), AV.one (SV.int IntKind.i64 p)]
      [Blk.row (35 : TypeId) (Row.ints IntKind.i64 [x0, x1, x2, x3, x4, x5, x6, x7])]) := by kernel_rfl
theorem ex31c (x0 x1 x2 x3 x4 x5 x6 x7 p c i : Int) (out : List Int) (K : Ex → List AV → List Blk → Prop) : evBody E31 (lb Try.f31 2) [1, 3, 4, 7, 8] [7] [.one (.ptr 0 1 0 0), .one (.int .i64 p), .one (.int .i64 c), .one (.own 1 1), .one (.int .i64 i)] [.row 35 (.ints .i64 [x0, x1, x2, x3, x4, x5, x6, x7]), .row 3 (.ints .i64 out)] K = (
  bif decide (i < (8 : Int)) then
    bif decide ((0 : Int) ≤ i) && decide (i < (8 : Int)) then
      bif decide ((0 : Nat) + i.toNat + (0 : Nat) < [x0, x1, x2, x3, x4, x5, x6, x7].length) then
        ((0 : Int) ≤ i ∧ i ≤ (7 : Int)) ∧
          ((0 : Int) ≤ c ∧ c ≤ (62 : Int)) ∧
            bif !decide ((2 : Int) ^ c.toNat = (0 : Int)) then
              ((0 : Int) ≤
                    IntKind.i64.wrap
                      ((foldG
                            (IntKind.i64.wrap
                              ([x0, x1, x2, x3, x4, x5, x6, x7].getD ((0 : Nat) + i.toNat + (0 : Nat)) (0 : Int) -
                                expG p (lastG [x0, x1, x2, x3, x4, x5, x6, x7] i)
                                  (befG [x0, x1, x2, x3, x4, x5, x6, x7] i)))).tdiv
                        ((2 : Int) ^ c.toNat)) ∧
                  (↑out.length : Int) +
                      IntKind.i64.wrap
                        ((foldG
                              (IntKind.i64.wrap
                                ([x0, x1, x2, x3, x4, x5, x6, x7].getD ((0 : Nat) + i.toNat + (0 : Nat)) (0 : Int) -
                                  expG p (lastG [x0, x1, x2, x3, x4, x5, x6, x7] i)
                                    (befG [x0, x1, x2, x3, x4, x5, x6, x7] i)))).tdiv
                          ((2 : Int) ^ c.toNat)) ≤
                    (2000000000 : Int)) ∧
                bif
                    decide
                      ((out ++
                                  List.replicate
                                    (IntKind.i64.wrap
                                        ((foldG
                                              (IntKind.i64.wrap
                                                ([x0, x1, x2, x3, x4, x5, x6, x7].getD ((0 : Nat) + i.toNat + (0 : Nat))
                                                    (0 : Int) -
                                                  expG p (lastG [x0, x1, x2, x3, x4, x5, x6, x7] i)
                                                    (befG [x0, x1, x2, x3, x4, x5, x6, x7] i)))).tdiv
                                          ((2 : Int) ^ c.toNat))).toNat
                                    (1 : Int) ++
                                [(0 : Int)]).length *
                            (8 : Nat) ≤
                          (140737488355328 : Nat) ∧
                        (out ++
                                List.replicate
                                  (IntKind.i64.wrap
                                      ((foldG
                                            (IntKind.i64.wrap
                                              ([x0, x1, x2, x3, x4, x5, x6, x7].getD ((0 : Nat) + i.toNat + (0 : Nat))
                                                  (0 : Int) -
                                                expG p (lastG [x0, x1, x2, x3, x4, x5, x6, x7] i)
                                                  (befG [x0, x1, x2, x3, x4, x5, x6, x7] i)))).tdiv
                                        ((2 : Int) ^ c.toNat))).toNat
                                  (1 : Int) ++
                              [(0 : Int)]).length ≤
                          (140737488355328 : Nat)) then
                  ((0 : Int) ≤ c ∧ c ≤ (62 : Int)) ∧
                    bif !decide ((2 : Int) ^ c.toNat = (0 : Int)) then
                      ((0 : Int) ≤
                            (foldG
                                  (IntKind.i64.wrap
                                    ([x0, x1, x2, x3, x4, x5, x6, x7].getD ((0 : Nat) + i.toNat + (0 : Nat)) (0 : Int) -
                                      expG p (lastG [x0, x1, x2, x3, x4, x5, x6, x7] i)
                                        (befG [x0, x1, x2, x3, x4, x5, x6, x7] i)))).tmod
                              ((2 : Int) ^ c.toNat) ∧
                          (foldG
                                    (IntKind.i64.wrap
                                      ([x0, x1, x2, x3, x4, x5, x6, x7].getD ((0 : Nat) + i.toNat + (0 : Nat)) (0 : Int) -
                                        expG p (lastG [x0, x1, x2, x3, x4, x5, x6, x7] i)
                                          (befG [x0, x1, x2, x3, x4, x5, x6, x7] i)))).tmod
                                ((2 : Int) ^ c.toNat) ≤
                              (4611686018427387904 : Int) ∧
                            (0 : Int) ≤ c ∧ c ≤ (100 : Int)) ∧
                        bif
                            decide
                              ((out ++
                                            List.replicate
                                              (IntKind.i64.wrap
                                                  ((foldG
                                                        (IntKind.i64.wrap
                                                          ([x0, x1, x2, x3, x4, x5, x6, x7].getD
                                                              ((0 : Nat) + i.toNat + (0 : Nat)) (0 : Int) -
                                                            expG p (lastG [x0, x1, x2, x3, x4, x5, x6, x7] i)
                                                              (befG [x0, x1, x2, x3, x4, x5, x6, x7] i)))).tdiv
                                                    ((2 : Int) ^ c.toNat))).toNat
                                              (1 : Int) ++
                                          [(0 : Int)] ++
                                        bits2
                                          ((foldG
                                                (IntKind.i64.wrap
                                                  ([x0, x1, x2, x3, x4, x5, x6, x7].getD ((0 : Nat) + i.toNat + (0 : Nat))
                                                      (0 : Int) -
                                                    expG p (lastG [x0, x1, x2, x3, x4, x5, x6, x7] i)
                                                      (befG [x0, x1, x2, x3, x4, x5, x6, x7] i)))).tmod
                                            ((2 : Int) ^ c.toNat))
                                          c.toNat).length *
                                    (8 : Nat) ≤
                                  (140737488355328 : Nat) ∧
                                (out ++
                                          List.replicate
                                            (IntKind.i64.wrap
                                                ((foldG
                                                      (IntKind.i64.wrap
                                                        ([x0, x1, x2, x3, x4, x5, x6, x7].getD
                                                            ((0 : Nat) + i.toNat + (0 : Nat)) (0 : Int) -
                                                          expG p (lastG [x0, x1, x2, x3, x4, x5, x6, x7] i)
                                                            (befG [x0, x1, x2, x3, x4, x5, x6, x7] i)))).tdiv
                                                  ((2 : Int) ^ c.toNat))).toNat
                                            (1 : Int) ++
                                        [(0 : Int)] ++
                                      bits2
                                        ((foldG
                                              (IntKind.i64.wrap
                                                ([x0, x1, x2, x3, x4, x5, x6, x7].getD ((0 : Nat) + i.toNat + (0 : Nat))
                                                    (0 : Int) -
                                                  expG p (lastG [x0, x1, x2, x3, x4, x5, x6, x7] i)
                                                    (befG [x0, x1, x2, x3, x4, x5, x6, x7] i)))).tmod
                                          ((2 : Int) ^ c.toNat))
                                        c.toNat).length ≤
                                  (140737488355328 : Nat)) then
                          K Ex.normal
                            [AV.one (SV.ptr (0 : Nat) (1 : Nat) (0 : Nat) (0 : Nat)), AV.one (SV.int IntKind.i64 p),
                              AV.one (SV.int IntKind.i64 c), AV.one (SV.own (1 : Nat) (1 : Nat)),
                              AV.one (SV.int IntKind.i64 (IntKind.i64.wrap (i + (1 : Int))))]
                            [Blk.row (35 : TypeId) (Row.ints IntKind.i64 [x0, x1, x2, x3, x4, x5, x6, x7]),
                              Blk.row (3 : Nat)
                                (Row.ints IntKind.i64
                                  (out ++
                                        List.replicate
                                          (IntKind.i64.wrap
                                              ((foldG
                                                    (IntKind.i64.wrap
                                                      ([x0, x1, x2, x3, x4, x5, x6, x7].getD
                                                          ((0 : Nat) + i.toNat + (0 : Nat)) (0 : Int) -
                                                        expG p (lastG [x0, x1, x2, x3, x4, x5, x6, x7] i)
                                                          (befG [x0, x1, x2, x3, x4, x5, x6, x7] i)))).tdiv
                                                ((2 : Int) ^ c.toNat))).toNat
                                          (1 : Int) ++
                                      [(0 : Int)] ++
                                    bits2
                                      ((foldG
                                            (IntKind.i64.wrap
                                              ([x0, x1, x2, x3, x4, x5, x6, x7].getD ((0 : Nat) + i.toNat + (0 : Nat))
                                                  (0 : Int) -
                                                expG p (lastG [x0, x1, x2, x3, x4, x5, x6, x7] i)
                                                  (befG [x0, x1, x2, x3, x4, x5, x6, x7] i)))).tmod
                                        ((2 : Int) ^ c.toNat))
                                      c.toNat))]
                        else False
                    else False
                else False
            else False
      else False
    else False
  else K (Ex.exit (4 : Nat)) [AV.one (SV.own (0 : Nat) (1 : Nat))] [Blk.row (3 : TypeId) (Row.ints IntKind.i64 out)]) := by kernel_rfl
theorem ex31d (x0 x1 x2 x3 x4 x5 x6 x7 p c i u n : Int) (out : List Int) (K : Ex → List AV → List Blk → Prop) : evBody E31 (lb Try.f31 3) [1, 3, 4, 7, 8, 9, 10] [1, 3, 4, 7, 8, 9] [.one (.ptr 0 1 0 0), .one (.int .i64 p), .one (.int .i64 c), .one (.own 1 1), .one (.int .i64 i), .one (.int .i64 u), .one (.int .i64 n)] [.row 35 (.ints .i64 [x0, x1, x2, x3, x4, x5, x6, x7]), .row 3 (.ints .i64 out)] K = (
  bif decide (n > (0 : Int)) then
    bif
        decide
          ((out ++ [(1 : Int)]).length * (8 : Nat) ≤ (140737488355328 : Nat) ∧
            (out ++ [(1 : Int)]).length ≤ (140737488355328 : Nat)) then
      K Ex.normal
        [AV.one (SV.ptr (0 : Nat) (1 : Nat) (0 : Nat) (0 : Nat)), AV.one (SV.int IntKind.i64 p),
          AV.one (SV.int IntKind.i64 c), AV.one (SV.own (1 : Nat) (1 : Nat)), AV.one (SV.int IntKind.i64 i),
          AV.one (SV.int IntKind.i64 u), AV.one (SV.int IntKind.i64 (IntKind.i64.wrap (n - (1 : Int))))]
        [Blk.row (35 : TypeId) (Row.ints IntKind.i64 [x0, x1, x2, x3, x4, x5, x6, x7]),
          Blk.row (3 : Nat) (Row.ints IntKind.i64 (out ++ [(1 : Int)]))]
    else False
  else
    K (Ex.exit (6 : Nat))
      [AV.one (SV.ptr (0 : Nat) (1 : Nat) (0 : Nat) (0 : Nat)), AV.one (SV.int IntKind.i64 p),
        AV.one (SV.int IntKind.i64 c), AV.one (SV.own (1 : Nat) (1 : Nat)), AV.one (SV.int IntKind.i64 i),
        AV.one (SV.int IntKind.i64 u)]
      [Blk.row (35 : TypeId) (Row.ints IntKind.i64 [x0, x1, x2, x3, x4, x5, x6, x7]),
        Blk.row (3 : TypeId) (Row.ints IntKind.i64 out)]) := by kernel_rfl
theorem ex6 (x0 x1 x2 x3 x4 x5 x6 x7 p k : Int) (K : AV → List Blk → Prop) : evFn E6 Try.f6 [.agg [.int .i64 x0, .int .i64 x1, .int .i64 x2, .int .i64 x3, .int .i64 x4, .int .i64 x5, .int .i64 x6, .int .i64 x7], .one (.int .i64 p), .one (.int .i64 k)] [] K = (
  bif bitsForE [x0, x1, x2, x3, x4, x5, x6, x7] p k == (0 : Int) then
    bif [x0, x1, x2, x3, x4, x5, x6, x7].all sampleG then
      bif (bif [x0, x1, x2, x3, x4, x5, x6, x7].all sampleG then (0 : Int) else (2 : Int)) != (0 : Int) then
        bif (0 : Int) == bif [x0, x1, x2, x3, x4, x5, x6, x7].all sampleG then (0 : Int) else (2 : Int) then
          bif (0 : Int) == bif [x0, x1, x2, x3, x4, x5, x6, x7].all sampleG then (0 : Int) else (2 : Int) then
            bif lenG p k [x0, x1, x2, x3, x4, x5, x6, x7] == (0 : Int) then
              K (AV.one (SV.bool ((↑(packG [x0, x1, x2, x3, x4, x5, x6, x7]).length : Int) == (0 : Int)))) []
            else K (AV.one (SV.bool false)) []
          else K (AV.one (SV.bool false)) []
        else K (AV.one (SV.bool false)) []
      else
        [x0, x1, x2, x3, x4, x5, x6, x7].all sampleG = true ∧
          (packG [x0, x1, x2, x3, x4, x5, x6, x7]).length ≤ (1000000000 : Nat) ∧
            bif !packG [x0, x1, x2, x3, x4, x5, x6, x7] == packG [x0, x1, x2, x3, x4, x5, x6, x7] then
              K (AV.one (SV.bool false)) []
            else
              bif (bif paramG p k then (0 : Int) else (2 : Int)) != (0 : Int) then
                bif (0 : Int) == bif paramG p k then (0 : Int) else (2 : Int) then
                  K (AV.one (SV.bool (lenG p k [x0, x1, x2, x3, x4, x5, x6, x7] == (0 : Int)))) []
                else K (AV.one (SV.bool false)) []
              else
                ([x0, x1, x2, x3, x4, x5, x6, x7].all sampleG = true ∧ (0 : Int) ≤ k ∧ k ≤ (17 : Int)) ∧
                  K
                    (AV.one
                      (SV.bool (lenG p k [x0, x1, x2, x3, x4, x5, x6, x7] == lenG p k [x0, x1, x2, x3, x4, x5, x6, x7])))
                    []
    else
      bif (bif [x0, x1, x2, x3, x4, x5, x6, x7].all sampleG then (0 : Int) else (2 : Int)) != (0 : Int) then
        bif (0 : Int) == bif [x0, x1, x2, x3, x4, x5, x6, x7].all sampleG then (0 : Int) else (2 : Int) then
          bif (2 : Int) == bif [x0, x1, x2, x3, x4, x5, x6, x7].all sampleG then (0 : Int) else (2 : Int) then
            bif lenG p k [x0, x1, x2, x3, x4, x5, x6, x7] == (0 : Int) then K (AV.one (SV.bool true)) []
            else K (AV.one (SV.bool false)) []
          else K (AV.one (SV.bool false)) []
        else K (AV.one (SV.bool false)) []
      else K (AV.one (SV.bool false)) []
  else
    bif [x0, x1, x2, x3, x4, x5, x6, x7].all sampleG then
      bif (bif [x0, x1, x2, x3, x4, x5, x6, x7].all sampleG then (0 : Int) else (2 : Int)) != (0 : Int) then
        bif (2 : Int) == bif [x0, x1, x2, x3, x4, x5, x6, x7].all sampleG then (0 : Int) else (2 : Int) then
          bif (0 : Int) == bif [x0, x1, x2, x3, x4, x5, x6, x7].all sampleG then (0 : Int) else (2 : Int) then
            K (AV.one (SV.bool ((↑(packG [x0, x1, x2, x3, x4, x5, x6, x7]).length : Int) == (0 : Int)))) []
          else K (AV.one (SV.bool false)) []
        else K (AV.one (SV.bool false)) []
      else
        [x0, x1, x2, x3, x4, x5, x6, x7].all sampleG = true ∧
          (packG [x0, x1, x2, x3, x4, x5, x6, x7]).length ≤ (1000000000 : Nat) ∧
            bif !packG [x0, x1, x2, x3, x4, x5, x6, x7] == packG [x0, x1, x2, x3, x4, x5, x6, x7] then
              K (AV.one (SV.bool false)) []
            else
              bif (bif paramG p k then (0 : Int) else (2 : Int)) != (0 : Int) then
                bif (2 : Int) == bif paramG p k then (0 : Int) else (2 : Int) then K (AV.one (SV.bool true)) []
                else K (AV.one (SV.bool false)) []
              else K (AV.one (SV.bool false)) []
    else
      bif (bif [x0, x1, x2, x3, x4, x5, x6, x7].all sampleG then (0 : Int) else (2 : Int)) != (0 : Int) then
        bif (2 : Int) == bif [x0, x1, x2, x3, x4, x5, x6, x7].all sampleG then (0 : Int) else (2 : Int) then
          bif (2 : Int) == bif [x0, x1, x2, x3, x4, x5, x6, x7].all sampleG then (0 : Int) else (2 : Int) then
            K (AV.one (SV.bool true)) []
          else K (AV.one (SV.bool false)) []
        else K (AV.one (SV.bool false)) []
      else K (AV.one (SV.bool false)) []) := by kernel_rfl
end Go.Ev

namespace Go.Ev
open Go Go.Proofs
attribute [local irreducible] evFn evBody
set_option maxRecDepth 20000

/-! ### Bits -/
theorem bitG_eq {n : Int} {i : Nat} (h0 : 0 ≤ n) (h1 : n < 9223372036854775808) (hi : i ≤ 62) : bitG n i = (n / 2 ^ i) % 2 := by
  unfold bitG
  rw [Nat.min_eq_left (by omega)]
  have hr := fdiv_range (B := 9223372036854775807) i ⟨h0, by omega⟩
  rw [and_mask hr.1 (by omega) 1 1 (by decide) (by decide), fdiv_pow]
  rw [wi_id (by omega) (by omega)]
  rfl
theorem bits2_cons (n : Int) : ∀ c, bits2 n (c + 1) = (n / 2 ^ c) % 2 :: bits2 n c
  | 0 => by simp [bits2]
  | c + 1 => by
    have ih := bits2_cons (n / 2) c
    have e : n / 2 / 2 ^ c = n / 2 ^ (c + 1) := by
      rw [Int.ediv_ediv_of_nonneg (by decide), Int.pow_succ, Int.mul_comm]
    rw [show bits2 n (c + 1 + 1) = bits2 (n / 2) (c + 1) ++ [n % 2] from rfl, ih, e]
    rfl
theorem bits2_eq {n : Int} (h0 : 0 ≤ n) (h1 : n < 9223372036854775808) : ∀ c, c ≤ 63 → bits2 n c = bitsN n c
  | 0, _ => rfl
  | c + 1, h => by rw [bits2_cons, bits2_eq h0 h1 c (by omega)]; show _ = bitG n c :: bitsN n c; rw [bitG_eq h0 h1 (by omega)]
theorem bits2_mod : ∀ (c : Nat) (n : Int), bits2 (n % 2 ^ c) c = bits2 n c
  | 0, _ => rfl
  | c + 1, n => by
    have hp : (0 : Int) < 2 ^ c := Int.pow_pos (by decide)
    have e1 : (n % 2 ^ (c + 1)) / 2 = (n / 2) % 2 ^ c := by
      rw [Int.pow_succ, Int.mul_comm]
      have h1 := Int.emod_add_mul_ediv n (2 * 2 ^ c)
      have h2 := Int.emod_add_mul_ediv (n / 2) (2 ^ c)
      have h3 : n / 2 / 2 ^ c = n / (2 * 2 ^ c) := Int.ediv_ediv_of_nonneg (by decide)
      rw [h3] at h2
      generalize n / (2 * 2 ^ c) = q at *
      have h4 : 2 * 2 ^ c * q = 2 * (2 ^ c * q) := Int.mul_assoc _ _ _
      rw [h4] at h1
      generalize (2 : Int) ^ c * q = z at *
      omega
    have e2 : (n % 2 ^ (c + 1)) % 2 = n % 2 := Int.emod_emod_of_dvd _ ⟨2 ^ c, by rw [Int.pow_succ, Int.mul_comm]⟩
    show bits2 ((n % 2 ^ (c + 1)) / 2) c ++ [(n % 2 ^ (c + 1)) % 2] = bits2 (n / 2) c ++ [n % 2]
    rw [e1, e2, bits2_mod c]

/-! ### Lengths -/
theorem codesG_length {k : Int} : ∀ {us : List Int}, (∀ u ∈ us, 0 ≤ u ∧ u ≤ 262136) → (0 ≤ k ∧ k ≤ 17) → (codesG k us).length ≤ 262154 * us.length
  | [], _, _ => by simp [codesG]
  | u :: us, h, hk => by
    have ih := codesG_length (us := us) (fun v hv => h v (by simp [hv])) hk
    have hu := fdiv_range (min k.toNat 64) (h u (by simp))
    simp only [codesG, List.length_append, List.length_replicate, List.length_cons, List.length_nil, bitsN_length]
    omega
theorem best_range (xs : List Int) : 0 ≤ (bestG xs).2.2 ∧ (bestG xs).2.2 ≤ 17 := bestP_range 3 0 _ (by decide)
theorem packG_length {x0 x1 x2 x3 x4 x5 x6 x7 : Int} (h : [x0, x1, x2, x3, x4, x5, x6, x7].all sampleG = true) : (packG [x0, x1, x2, x3, x4, x5, x6, x7]).length ≤ 10000000 := by
  have h1 := codesG_length (k := (bestG [x0, x1, x2, x3, x4, x5, x6, x7]).2.2) (us := codG (bestG [x0, x1, x2, x3, x4, x5, x6, x7]).2.1 [x0, x1, x2, x3, x4, x5, x6, x7]) (cod_range h) (best_range _)
  have h2 : (codG (bestG [x0, x1, x2, x3, x4, x5, x6, x7]).2.1 [x0, x1, x2, x3, x4, x5, x6, x7]).length = 8 := rfl
  unfold packG
  simp only [List.length_append, bitsN_length]
  omega

/-! ### The reference's search -/
theorem lenG_pos {p k : Int} {xs : List Int} (h : xs.all sampleG = true) (hk : 0 ≤ k) : 0 < lenG p k xs := by
  have : ∀ us : List Int, (∀ u ∈ us, 0 ≤ u ∧ u ≤ 262136) → 0 ≤ lenR k us := by
    intro us
    induction us with
    | nil => intro _; exact Int.le_refl _
    | cons u us ih =>
      intro hu
      have h1 := ih fun v hv => hu v (by simp [hv])
      have h2 := fdiv_range (min k.toNat 64) (hu u (by simp))
      simp only [lenR, shrG]
      omega
  have := this _ (cod_range (p := p) h)
  unfold lenG
  omega
/-- The state of the search, told by its two last parts. -/
def Told (xs : List Int) (s : Tri) : Prop := s.1 = lenG s.2.1 s.2.2 xs
theorem bst_told {xs : List Int} {p k : Int} {s : Tri} (h : Told xs s) : Told xs (bst xs p k s) := by
  unfold bst
  cases s.1 == 0 with
  | true => rfl
  | false =>
    cases decide (lenG p k xs < s.1) with
    | true => rfl
    | false => exact h
theorem bestK_told {xs : List Int} {p : Int} : ∀ (n : Nat) (k : Int) (s : Tri), Told xs s → Told xs (bestK xs p n k s)
  | 0, _, _, h => h
  | n + 1, k, s, h => bestK_told n (k + 1) _ (bst_told h)
theorem told_eta {xs : List Int} {s : Tri} (h : Told xs s) : s = (lenG s.2.1 s.2.2 xs, s.2.1, s.2.2) := by
  rw [← h]
theorem bst_one {xs : List Int} {p k bp bk : Int} (h : xs.all sampleG = true) (hk : 0 ≤ bk) : bst xs p k (lenG bp bk xs, bp, bk) = bif decide (lenG p k xs < lenG bp bk xs) then (lenG p k xs, p, k) else (lenG bp bk xs, bp, bk) := by
  unfold bst
  have hb : (lenG bp bk xs == 0) = false := beq_eq_false_iff_ne.2 (by have := lenG_pos (p := bp) h hk; omega)
  dsimp only
  rw [hb]
  rfl
theorem best_start {xs : List Int} (h : xs.all sampleG = true) : bestP xs 3 0 (lenG 0 0 xs, 0, 0) = bestG xs := by
  have e1 : bst xs 0 0 (lenG 0 0 xs, 0, 0) = (lenG 0 0 xs, 0, 0) := by
    rw [bst_one h (by decide)]
    cases decide (lenG 0 0 xs < lenG 0 0 xs) <;> rfl
  have e2 : bst xs 0 0 (0, 0, 0) = (lenG 0 0 xs, 0, 0) := rfl
  unfold bestG
  show bestP xs 2 1 (bestK xs 0 17 1 (bst xs 0 0 (lenG 0 0 xs, 0, 0))) = bestP xs 2 1 (bestK xs 0 17 1 (bst xs 0 0 (0, 0, 0)))
  rw [e1, e2]

theorem ok31L : AllOK Try.prog [(33, lengthS), (87, bitsOfS), (89, refExpS), (88, foldedS), (90, powS)] := .cons ok33 (.cons ok87 (.cons ok89 (.cons ok88 (.cons ok90 .nil))))

theorem lok31b : LoopOK E31 (lb Try.f31 1) [1, 3, 4, 5, 6] [1, 3, 4, 5] inner2L := by
  refine loopOK ok31L (noInner (by kernel_rfl)) (fun vs _ => match vs with
    | [_, _, _, _, .one (.int .i64 i)] => (18 - i).toNat
    | _ => 0) fun vs σ k h => ?_
  unfold inner2L at h
  split at h
  · rename_i bp bk p i x0 x1 x2 x3 x4 x5 x6 x7
    rw [ex31b x0 x1 x2 x3 x4 x5 x6 x7 bp bk p i _]
    obtain ⟨⟨h1, h2, h3, h4, h5⟩, h⟩ := h
    by_cases hi : i < 18
    · have hw : IntKind.i64.wrap (i + 1) = i + 1 := wrap_id (by omega) (by omega)
      have e1 : (18 - i).toNat = (18 - (i + 1)).toNat + 1 := by omega
      have hmu : (18 - (i + 1)).toNat < (18 - i).toNat := by omega
      rw [e1] at h
      simp only [bestK] at h
      rw [bst_one h1 h4] at h
      simp only [hi, decide_true, cond_true, hw]
      refine ⟨⟨h1, h2, by omega⟩, ⟨h1, h4, h5⟩, ?_⟩
      cases hl : decide (lenG p i [x0, x1, x2, x3, x4, x5, x6, x7] < lenG bp bk [x0, x1, x2, x3, x4, x5, x6, x7]) with
      | true => rw [hl] at h; exact ⟨⟨⟨h1, by omega, by omega, by omega, by omega⟩, h⟩, hmu⟩
      | false => rw [hl] at h; exact ⟨⟨⟨h1, by omega, by omega, h4, h5⟩, h⟩, hmu⟩
    · have e : i = 18 := by omega
      subst e
      simp only [hi, decide_false, cond_false]
      exact h
  · exact h.elim
theorem bestK_first {xs : List Int} {p : Int} : ∀ (n : Nat) (k : Int) (s : Tri), (0 ≤ p ∧ p ≤ 2) → (0 ≤ s.2.1 ∧ s.2.1 ≤ 2) → (0 ≤ (bestK xs p n k s).2.1 ∧ (bestK xs p n k s).2.1 ≤ 2)
  | 0, _, _, _, h => h
  | n + 1, k, s, hp, h => by
    refine bestK_first n (k + 1) _ hp ?_
    unfold bst
    cases s.1 == 0 with
    | true => exact hp
    | false =>
      cases decide (lenG p k xs < s.1) with
      | true => exact hp
      | false => exact h
theorem bestP_first {xs : List Int} : ∀ (n : Nat) (p : Int) (s : Tri), 0 ≤ p → p + n ≤ 3 → (0 ≤ s.2.1 ∧ s.2.1 ≤ 2) → (0 ≤ (bestP xs n p s).2.1 ∧ (bestP xs n p s).2.1 ≤ 2)
  | 0, _, _, _, _, h => h
  | n + 1, p, s, hp, hn, h => bestP_first n (p + 1) _ (by omega) (by omega) (bestK_first 18 0 s (by omega) h)
theorem best_first (xs : List Int) : 0 ≤ (bestG xs).2.1 ∧ (bestG xs).2.1 ≤ 2 := bestP_first 3 0 _ (by decide) (by decide) (by decide)

theorem inner31 {F : List Code} (hl : F = [lb Try.f31 1]) : ∀ b' ∈ F, LoopHyp E31 b' := by
  rw [hl]
  intro b' hb
  rw [List.mem_singleton] at hb
  subst hb
  exact loopHyp_of (key := 6) (by kernel_rfl) rfl lok31b
theorem lok31a : LoopOK E31 (lb Try.f31 0) [1, 3, 4, 5] [1, 3, 4] outer2L := by
  refine loopOK ok31L (inner31 (by kernel_rfl)) (fun vs _ => match vs with
    | [_, _, _, .one (.int .i64 i)] => (3 - i).toNat
    | _ => 0) fun vs σ k h => ?_
  unfold outer2L at h
  split at h
  · rename_i bp bk p x0 x1 x2 x3 x4 x5 x6 x7
    rw [ex31a x0 x1 x2 x3 x4 x5 x6 x7 bp bk p _]
    obtain ⟨⟨h1, h2, h3, h4, h5, h6, h7⟩, h⟩ := h
    by_cases hi : p < 3
    · have hw : IntKind.i64.wrap (p + 1) = p + 1 := wrap_id (by omega) (by omega)
      have e1 : (3 - p).toNat = (3 - (p + 1)).toNat + 1 := by omega
      have hmu : (3 - (p + 1)).toNat < (3 - p).toNat := by omega
      have ht := bestK_told (xs := [x0, x1, x2, x3, x4, x5, x6, x7]) (p := p) 18 0 (lenG bp bk [x0, x1, x2, x3, x4, x5, x6, x7], bp, bk) rfl
      have hr1 := bestK_range (xs := [x0, x1, x2, x3, x4, x5, x6, x7]) (p := p) 18 0 (lenG bp bk [x0, x1, x2, x3, x4, x5, x6, x7], bp, bk) (by decide) (by decide) ⟨h4, h5⟩
      have hr2 := bestK_first (xs := [x0, x1, x2, x3, x4, x5, x6, x7]) (p := p) 18 0 (lenG bp bk [x0, x1, x2, x3, x4, x5, x6, x7], bp, bk) (by omega) ⟨h6, h7⟩
      rw [e1] at h
      simp only [bestP] at h
      rw [told_eta ht] at h
      simp only [hi, decide_true, cond_true, hw]
      exact ⟨⟨h1, by omega, by omega, h4, h5⟩, ⟨⟨h1, by omega, by omega, hr1.1, hr1.2, hr2.1, hr2.2⟩, h⟩, hmu⟩
    · have e : p = 3 := by omega
      subst e
      simp only [hi, decide_false, cond_false]
      exact h
  · exact h.elim
theorem lok31d : LoopOK E31 (lb Try.f31 3) [1, 3, 4, 7, 8, 9, 10] [1, 3, 4, 7, 8, 9] onesL := by
  refine loopOK ok31L (noInner (by kernel_rfl)) (fun vs _ => match vs with
    | [_, _, _, _, _, _, .one (.int .i64 n)] => n.toNat
    | _ => 0) fun vs σ k h => ?_
  unfold onesL at h
  split at h
  · rename_i p c i u n x0 x1 x2 x3 x4 x5 x6 x7 out
    rw [ex31d x0 x1 x2 x3 x4 x5 x6 x7 p c i u n out _]
    obtain ⟨⟨h1, h2⟩, h⟩ := h
    by_cases hn : n > 0
    · have hw : IntKind.i64.wrap (n - 1) = n - 1 := wrap_id (by omega) (by omega)
      have hl : (out ++ [(1 : Int)]).length * 8 ≤ 140737488355328 ∧ (out ++ [(1 : Int)]).length ≤ 140737488355328 := by simp; omega
      have hmu : (n - 1).toNat < n.toNat := by omega
      simp only [hn, hl, and_self, decide_true, cond_true, hw]
      refine ⟨⟨⟨by omega, by simp; omega⟩, ?_⟩, hmu⟩
      rw [show n.toNat = (n - 1).toNat + 1 by omega, List.replicate_succ] at h
      rw [List.append_assoc]
      exact h
    · have e : n.toNat = 0 := by omega
      rw [e, List.replicate_zero, List.append_nil] at h
      simp only [hn, decide_false, cond_false]
      exact h
  · exact h.elim
theorem inner31c {F : List Code} (hl : F = [lb Try.f31 3]) : ∀ b' ∈ F, LoopHyp E31 b' := by
  rw [hl]
  intro b' hb
  rw [List.mem_singleton] at hb
  subst hb
  exact loopHyp_of (key := 16) (by kernel_rfl) rfl lok31d

theorem cod_step {p c : Int} {xs : List Int} {i : Int} (h0 : 0 ≤ i) (hi : i < xs.length) : codesG c (codR p (lastG xs i) (befG xs i) (xs.drop i.toNat)) =
    (List.replicate ((foldG (wi (xs.getD i.toNat 0 - expG p (lastG xs i) (befG xs i)))).fdiv (2 ^ min c.toNat 64)).toNat 1 ++ [0] ++ bitsN (foldG (wi (xs.getD i.toNat 0 - expG p (lastG xs i) (befG xs i)))) c.toNat) ++
      codesG c (codR p (lastG xs (i + 1)) (befG xs (i + 1)) (xs.drop (i + 1).toNat)) := by
  have e1 : lastG xs (i + 1) = xs.getD i.toNat 0 := by
    unfold lastG
    rw [decide_eq_true (by omega), cond_true, show i + 1 - 1 = i by omega]
  have e2 : befG xs (i + 1) = lastG xs i := by
    unfold befG lastG
    rw [show i + 1 - 2 = i - 1 by omega, show decide (i + 1 > 1) = decide (i > 0) from decide_eq_decide.2 (by omega)]
  rw [e1, e2, drop_step 0 (by omega), show (i + 1).toNat = i.toNat + 1 by omega]
  rfl
theorem last_range {xs : List Int} (h : xs.all sampleG = true) (i : Int) : (-32767 ≤ lastG xs i ∧ lastG xs i ≤ 32767) ∧ (-32767 ≤ befG xs i ∧ befG xs i ≤ 32767) := by
  have hg : ∀ j : Nat, -32767 ≤ xs.getD j 0 ∧ xs.getD j 0 ≤ 32767 := fun j => by
    by_cases hj : j < xs.length
    · rw [getD_of_lt hj]; exact sample_range (List.all_eq_true.1 h _ (List.getElem_mem hj))
    · rw [List.getD, List.getElem?_eq_none (by omega)]; decide
  unfold lastG befG
  constructor
  · cases decide (i > 0) with
    | true => exact hg _
    | false => exact ⟨by show (-32767 : Int) ≤ 0; decide, by show (0 : Int) ≤ 32767; decide⟩
  · cases decide (i > 1) with
    | true => exact hg _
    | false => exact ⟨by show (-32767 : Int) ≤ 0; decide, by show (0 : Int) ≤ 32767; decide⟩
theorem u_range {xs : List Int} (h : xs.all sampleG = true) {p i : Int} (h0 : 0 ≤ i) (hi : i < xs.length) : 0 ≤ foldG (wi (xs.getD i.toNat 0 - expG p (lastG xs i) (befG xs i))) ∧ foldG (wi (xs.getD i.toNat 0 - expG p (lastG xs i) (befG xs i))) ≤ 262136 := by
  obtain ⟨h1, h2⟩ := last_range h i
  have he := exp_range (p := p) h1 h2
  have hx : -32767 ≤ xs.getD i.toNat 0 ∧ xs.getD i.toNat 0 ≤ 32767 := by
    rw [getD_of_lt (by omega)]; exact sample_range (List.all_eq_true.1 h _ (List.getElem_mem _))
  rw [wi_id (by omega) (by omega)]
  exact fold_range (by omega)

set_option maxHeartbeats 400000 in
theorem lok31c : LoopOK E31 (lb Try.f31 2) [1, 3, 4, 7, 8] [7] codes2L := by
  refine loopOK ok31L (inner31c (by kernel_rfl)) (fun vs _ => match vs with
    | [_, _, _, _, .one (.int .i64 i)] => (8 - i).toNat
    | _ => 0) fun vs σ k h => ?_
  unfold codes2L at h
  split at h
  · rename_i p c i x0 x1 x2 x3 x4 x5 x6 x7 out
    rw [ex31c x0 x1 x2 x3 x4 x5 x6 x7 p c i out _]
    obtain ⟨⟨h1, h2, h3, h4, h5, h6⟩, h⟩ := h
    have hlen : [x0, x1, x2, x3, x4, x5, x6, x7].length = 8 := rfl
    generalize hxs : [x0, x1, x2, x3, x4, x5, x6, x7] = xs at *
    by_cases hi : i < 8
    · have hw : IntKind.i64.wrap (i + 1) = i + 1 := wrap_id (by omega) (by omega)
      have hmu : (8 - (i + 1)).toNat < (8 - i).toNat := by omega
      have hi' : i.toNat < 8 := by omega
      have hu := u_range h1 (p := p) h4 (by omega)
      rw [cod_step h4 (by omega)] at h
      simp only [Nat.zero_add, Nat.add_zero, hlen, hi, hi', h4, decide_true, Bool.and_self, cond_true, hw]
      change _ ∧ _ ∧ (bif !decide ((2 : Int) ^ c.toNat = 0) then ((0 : Int) ≤ IntKind.i64.wrap ((foldG (wi (xs.getD i.toNat 0 - expG p (lastG xs i) (befG xs i)))).tdiv (2 ^ c.toNat)) ∧ _) ∧ _ else _)
      have hfold : foldG (IntKind.i64.wrap (xs.getD i.toNat 0 - expG p (lastG xs i) (befG xs i))) = foldG (wi (xs.getD i.toNat 0 - expG p (lastG xs i) (befG xs i))) := rfl
      rw [hfold]
      clear hfold
      generalize foldG (wi (xs.getD i.toNat 0 - expG p (lastG xs i) (befG xs i))) = u at *
      have hp : ¬ (2 : Int) ^ c.toNat = 0 := by have := pow_bound (k := c.toNat) (by omega); omega
      have hpb := pow_bound (k := c.toNat) (by omega)
      have hq : u.tdiv (2 ^ c.toNat) = u.fdiv (2 ^ min c.toNat 64) := quo_pow hu.1 (by omega)
      have hs := fdiv_range (min c.toNat 64) hu
      have hmod : u.tmod (2 ^ c.toNat) = u % 2 ^ c.toNat := Int.tmod_eq_emod_of_nonneg hu.1
      have hm1 : 0 ≤ u % 2 ^ c.toNat := Int.emod_nonneg _ hp
      have hm2 : u % 2 ^ c.toNat < 2 ^ c.toNat := Int.emod_lt_of_pos _ (by omega)
      have hbits : bits2 (u % 2 ^ c.toNat) c.toNat = bitsN u c.toNat := by rw [bits2_mod, bits2_eq hu.1 (by omega) _ (by omega)]
      rw [hq, hmod, hbits]
      generalize u.fdiv (2 ^ min c.toNat 64) = s at *
      have hws : IntKind.i64.wrap s = s := wrap_id (by omega) (by omega)
      rw [hws]
      have hrl : (List.replicate s.toNat (1 : Int)).length = s.toNat := by simp
      generalize List.replicate s.toNat (1 : Int) = rep at *
      have hb1 : (out ++ rep ++ [(0 : Int)]).length * 8 ≤ 140737488355328 ∧ (out ++ rep ++ [(0 : Int)]).length ≤ 140737488355328 := by
        simp only [List.length_append, List.length_cons, List.length_nil, hrl]; omega
      have hb2 : (out ++ rep ++ [(0 : Int)] ++ bitsN u c.toNat).length * 8 ≤ 140737488355328 ∧ (out ++ rep ++ [(0 : Int)] ++ bitsN u c.toNat).length ≤ 140737488355328 := by
        simp only [List.length_append, List.length_cons, List.length_nil, hrl, bitsN_length]; omega
      simp only [hp, decide_false, Bool.not_false, cond_true, hb1, hb2, and_self, decide_true]
      refine ⟨⟨trivial, by omega⟩, ⟨h2, by omega⟩, ⟨by omega, by omega⟩, ⟨h2, by omega⟩, ⟨hm1, by omega, h2, by omega⟩, ?_⟩
      simp only [← List.append_assoc] at h
      subst hxs
      refine ⟨⟨⟨h1, h2, h3, by omega, by omega, ?_⟩, h⟩, hmu⟩
      simp only [List.length_append, List.length_cons, List.length_nil, hrl, bitsN_length]
      omega
    · have e : i = 8 := by omega
      subst e
      simp only [hi, decide_false, cond_false]
      have e2 : xs.drop (8 : Int).toNat = [] := List.drop_eq_nil_of_le (by rw [hlen]; decide)
      rw [e2] at h
      simp only [codR, codesG, List.append_nil] at h
      exact h
  · exact h.elim

theorem ok31 : SpecOK Try.prog 31 refPackS := by
  refine specOK (n := 70) (m := 0) (lps := [(3, .spec [1, 3, 4, 5] [1, 3, 4] outer2L), (6, .spec [1, 3, 4, 5, 6] [1, 3, 4, 5] inner2L), (12, .spec [1, 3, 4, 7, 8] [7] codes2L), (16, .spec [1, 3, 4, 7, 8, 9, 10] [1, 3, 4, 7, 8, 9] onesL)]) ok31L Try.func31 (by kernel_rfl) (by kernel_rfl) (theLoops (n := 4) (by kernel_rfl) fun i hi => ?_) fun args σ K h => ?_
  · match i, hi with
    | 0, _ => exact loopHyp_of (key := 3) (by kernel_rfl) rfl lok31a
    | 1, _ => exact loopHyp_of (key := 6) (by kernel_rfl) rfl lok31b
    | 2, _ => exact loopHyp_of (key := 12) (by kernel_rfl) rfl lok31c
    | 3, _ => exact loopHyp_of (key := 16) (by kernel_rfl) rfl lok31d
  · unfold refPackS at h
    split at h
    · rename_i x0 x1 x2 x3 x4 x5 x6 x7
      rw [ex31 x0 x1 x2 x3 x4 x5 x6 x7 K]
      obtain ⟨h1, h⟩ := h
      have hr := best_range [x0, x1, x2, x3, x4, x5, x6, x7]
      have hf := best_first [x0, x1, x2, x3, x4, x5, x6, x7]
      have e : bestP [x0, x1, x2, x3, x4, x5, x6, x7] 3 0 (lenG 0 0 [x0, x1, x2, x3, x4, x5, x6, x7], 0, 0) = bestG [x0, x1, x2, x3, x4, x5, x6, x7] := best_start h1
      simp only [e]
      have b1 : bits2 (bestG [x0, x1, x2, x3, x4, x5, x6, x7]).2.1 2 = bitsN (bestG [x0, x1, x2, x3, x4, x5, x6, x7]).2.1 2 := bits2_eq hf.1 (by omega) _ (by decide)
      have b2 : bits2 (bestG [x0, x1, x2, x3, x4, x5, x6, x7]).2.2 5 = bitsN (bestG [x0, x1, x2, x3, x4, x5, x6, x7]).2.2 5 := bits2_eq hr.1 (by omega) _ (by decide)
      rw [b1, b2]
      refine ⟨⟨h1, by decide, by decide, by decide, by decide, by decide, by decide⟩, ⟨hf.1, by omega, by decide, by decide⟩, ⟨hr.1, by omega, by decide, by decide⟩, ⟨h1, hr.1, hr.2, by decide, by decide, ?_⟩, h⟩
      simp only [List.length_append, bitsN_length]
      decide
    · exact h.elim

def packsLawS : Spec := fun args σ K => match args, σ with
  | [.agg [.int .i64 x0, .int .i64 x1, .int .i64 x2, .int .i64 x3, .int .i64 x4, .int .i64 x5, .int .i64 x6, .int .i64 x7], .one (.int .i64 _), .one (.int .i64 _)], [] => K (.one (.bool true)) []
  | _, _ => False
theorem ok6 : SpecOK Try.prog 6 packsLawS := by
  refine specOK (n := 78) (m := 0) (lps := []) (.cons ok15 (.cons ok27 (.cons ok28 (.cons ok29 (.cons ok30 (.cons ok31 (.cons ok32 (.cons ok33 .nil)))))))) Try.func6 (by kernel_rfl) (by kernel_rfl) (noLoops (by kernel_rfl)) fun args σ K h => ?_
  unfold packsLawS at h
  split at h
  · rename_i x0 x1 x2 x3 x4 x5 x6 x7 p k
    rw [ex6 x0 x1 x2 x3 x4 x5 x6 x7 p k K]
    have hE : bitsForE [x0, x1, x2, x3, x4, x5, x6, x7] p k = bif [x0, x1, x2, x3, x4, x5, x6, x7].all sampleG then (bif paramG p k then 0 else 2) else 2 := by
      unfold bitsForE paramG
      cases [x0, x1, x2, x3, x4, x5, x6, x7].all sampleG <;> cases withinG p 0 2 <;> cases withinG k 0 17 <;> rfl
    have hlen : [x0, x1, x2, x3, x4, x5, x6, x7].all sampleG = true → (packG [x0, x1, x2, x3, x4, x5, x6, x7]).length ≤ 1000000000 := fun h => by have := packG_length h; omega
    rw [hE]
    clear hE
    have hpk : paramG p k = true → 0 ≤ k ∧ k ≤ 17 := fun h => by
      unfold paramG withinG at h
      simp at h
      omega
    generalize [x0, x1, x2, x3, x4, x5, x6, x7] = xs at *
    cases hs : xs.all sampleG with
    | false => exact h
    | true =>
      have hl := hlen hs
      cases hp : paramG p k with
      | false => simp only [cond_true, cond_false, beq_self_eq_true, Bool.not_true]; exact ⟨trivial, hl, h⟩
      | true => simp only [cond_true, cond_false, beq_self_eq_true, Bool.not_true]; exact ⟨trivial, hl, ⟨trivial, hpk hp⟩, h⟩
  · exact h.elim
end Go.Ev
