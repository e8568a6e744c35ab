/-
  Part of the proof of a law: what bodies come to on abstract values (printed by program).
-/
import Derived.Test.YtlejemnljojpgaaC1G
import Derived.KernelRfl
namespace Go.Ev
open Go Go.Proofs
set_option maxRecDepth 100000
theorem ex28 (x0 x1 x2 x3 x4 x5 x6 x7 : Int) (K : AV → List Blk → Prop) : evFn E28 Try.f28 [.agg [.int .i64 x0, .int .i64 x1, .int .i64 x2, .int .i64 x3, .int .i64 x4, .int .i64 x5, .int .i64 x6, .int .i64 x7]] [] K = (
  bif (bif [x0, x1, x2, x3, x4, x5, x6, x7].all sampleG then (0 : Int) else (2 : Int)) != (0 : Int) then
    K
      (AV.tup
        [TV.one SV.nil,
          TV.one (SV.int IntKind.i64 (bif [x0, x1, x2, x3, x4, x5, x6, x7].all sampleG then (0 : Int) else (2 : Int)))])
      []
  else
    ([x0, x1, x2, x3, x4, x5, x6, x7].all sampleG = true ∧ (0 : Int) ≤ (0 : Int) ∧ (0 : Int) ≤ (3 : Int)) ∧
      ((0 : Int) ≤ (2 : Int) ∧ (2 : Int) ≤ (100 : Int)) ∧
        ((0 : Int) ≤ (5 : Int) ∧
            (5 : Int) ≤ (100 : Int) ∧
              (bitsN
                    (bestP [x0, x1, x2, x3, x4, x5, x6, x7] (3 : Nat) (0 : Int) ((0 : Int), (0 : Int), (0 : Int))).snd.fst
                    (2 : Nat)).length ≤
                (1000000000 : Nat)) ∧
          ((0 : Int) ≤
                (bestP [x0, x1, x2, x3, x4, x5, x6, x7] (3 : Nat) (0 : Int) ((0 : Int), (0 : Int), (0 : Int))).snd.snd ∧
              (bestP [x0, x1, x2, x3, x4, x5, x6, x7] (3 : Nat) (0 : Int) ((0 : Int), (0 : Int), (0 : Int))).snd.snd ≤
                  (17 : Int) ∧
                (0 : Int) ≤ (0 : Int) ∧
                  (0 : Int) ≤ (8 : Int) ∧
                    (↑(bitsN
                                  (bestP [x0, x1, x2, x3, x4, x5, x6, x7] (3 : Nat) (0 : Int)
                                        ((0 : Int), (0 : Int), (0 : Int))).snd.fst
                                  (2 : Nat) ++
                                bitsN
                                  (bestP [x0, x1, x2, x3, x4, x5, x6, x7] (3 : Nat) (0 : Int)
                                        ((0 : Int), (0 : Int), (0 : Int))).snd.snd
                                  (5 : Nat)).length :
                          Int) ≤
                        (1000000 : Int) ∧
                      [(codG
                                    (bestP [x0, x1, x2, x3, x4, x5, x6, x7] (3 : Nat) (0 : Int)
                                          ((0 : Int), (0 : Int), (0 : Int))).snd.fst
                                    [x0, x1, x2, x3, x4, x5, x6, x7]).getD
                                (0 : Nat) (0 : Int),
                              (codG
                                    (bestP [x0, x1, x2, x3, x4, x5, x6, x7] (3 : Nat) (0 : Int)
                                          ((0 : Int), (0 : Int), (0 : Int))).snd.fst
                                    [x0, x1, x2, x3, x4, x5, x6, x7]).getD
                                (1 : Nat) (0 : Int),
                              (codG
                                    (bestP [x0, x1, x2, x3, x4, x5, x6, x7] (3 : Nat) (0 : Int)
                                          ((0 : Int), (0 : Int), (0 : Int))).snd.fst
                                    [x0, x1, x2, x3, x4, x5, x6, x7]).getD
                                (2 : Nat) (0 : Int),
                              (codG
                                    (bestP [x0, x1, x2, x3, x4, x5, x6, x7] (3 : Nat) (0 : Int)
                                          ((0 : Int), (0 : Int), (0 : Int))).snd.fst
                                    [x0, x1, x2, x3, x4, x5, x6, x7]).getD
                                (3 : Nat) (0 : Int),
                              (codG
                                    (bestP [x0, x1, x2, x3, x4, x5, x6, x7] (3 : Nat) (0 : Int)
                                          ((0 : Int), (0 : Int), (0 : Int))).snd.fst
                                    [x0, x1, x2, x3, x4, x5, x6, x7]).getD
                                (4 : Nat) (0 : Int),
                              (codG
                                    (bestP [x0, x1, x2, x3, x4, x5, x6, x7] (3 : Nat) (0 : Int)
                                          ((0 : Int), (0 : Int), (0 : Int))).snd.fst
                                    [x0, x1, x2, x3, x4, x5, x6, x7]).getD
                                (5 : Nat) (0 : Int),
                              (codG
                                    (bestP [x0, x1, x2, x3, x4, x5, x6, x7] (3 : Nat) (0 : Int)
                                          ((0 : Int), (0 : Int), (0 : Int))).snd.fst
                                    [x0, x1, x2, x3, x4, x5, x6, x7]).getD
                                (6 : Nat) (0 : Int),
                              (codG
                                    (bestP [x0, x1, x2, x3, x4, x5, x6, x7] (3 : Nat) (0 : Int)
                                          ((0 : Int), (0 : Int), (0 : Int))).snd.fst
                                    [x0, x1, x2, x3, x4, x5, x6, x7]).getD
                                (7 : Nat) (0 : Int)].all
                          okU =
                        true) ∧
            K (AV.tup [TV.one (SV.own (0 : Nat) (1 : Nat)), TV.one (SV.int IntKind.i64 (0 : Int))])
              [Blk.row (3 : TypeId)
                  (Row.ints IntKind.i64
                    (bitsN
                          (bestP [x0, x1, x2, x3, x4, x5, x6, x7] (3 : Nat) (0 : Int)
                                ((0 : Int), (0 : Int), (0 : Int))).snd.fst
                          (2 : Nat) ++
                        bitsN
                          (bestP [x0, x1, x2, x3, x4, x5, x6, x7] (3 : Nat) (0 : Int)
                                ((0 : Int), (0 : Int), (0 : Int))).snd.snd
                          (5 : Nat) ++
                      codesG
                        (bestP [x0, x1, x2, x3, x4, x5, x6, x7] (3 : Nat) (0 : Int)
                              ((0 : Int), (0 : Int), (0 : Int))).snd.snd
                        [(codG
                                (bestP [x0, x1, x2, x3, x4, x5, x6, x7] (3 : Nat) (0 : Int)
                                      ((0 : Int), (0 : Int), (0 : Int))).snd.fst
                                [x0, x1, x2, x3, x4, x5, x6, x7]).getD
                            (0 : Nat) (0 : Int),
                          (codG
                                (bestP [x0, x1, x2, x3, x4, x5, x6, x7] (3 : Nat) (0 : Int)
                                      ((0 : Int), (0 : Int), (0 : Int))).snd.fst
                                [x0, x1, x2, x3, x4, x5, x6, x7]).getD
                            (1 : Nat) (0 : Int),
                          (codG
                                (bestP [x0, x1, x2, x3, x4, x5, x6, x7] (3 : Nat) (0 : Int)
                                      ((0 : Int), (0 : Int), (0 : Int))).snd.fst
                                [x0, x1, x2, x3, x4, x5, x6, x7]).getD
                            (2 : Nat) (0 : Int),
                          (codG
                                (bestP [x0, x1, x2, x3, x4, x5, x6, x7] (3 : Nat) (0 : Int)
                                      ((0 : Int), (0 : Int), (0 : Int))).snd.fst
                                [x0, x1, x2, x3, x4, x5, x6, x7]).getD
                            (3 : Nat) (0 : Int),
                          (codG
                                (bestP [x0, x1, x2, x3, x4, x5, x6, x7] (3 : Nat) (0 : Int)
                                      ((0 : Int), (0 : Int), (0 : Int))).snd.fst
                                [x0, x1, x2, x3, x4, x5, x6, x7]).getD
                            (4 : Nat) (0 : Int),
                          (codG
                                (bestP [x0, x1, x2, x3, x4, x5, x6, x7] (3 : Nat) (0 : Int)
                                      ((0 : Int), (0 : Int), (0 : Int))).snd.fst
                                [x0, x1, x2, x3, x4, x5, x6, x7]).getD
                            (5 : Nat) (0 : Int),
                          (codG
                                (bestP [x0, x1, x2, x3, x4, x5, x6, x7] (3 : Nat) (0 : Int)
                                      ((0 : Int), (0 : Int), (0 : Int))).snd.fst
                                [x0, x1, x2, x3, x4, x5, x6, x7]).getD
                            (6 : Nat) (0 : Int),
                          (codG
                                (bestP [x0, x1, x2, x3, x4, x5, x6, x7] (3 : Nat) (0 : Int)
                                      ((0 : Int), (0 : Int), (0 : Int))).snd.fst
                                [x0, x1, x2, x3, x4, x5, x6, x7]).getD
                            (7 : Nat) (0 : Int)]))]) := by kernel_rfl
theorem ex28a (x0 x1 x2 x3 x4 x5 x6 x7 b bp bk p : Int) (K : Ex → List AV → List Blk → Prop) : evBody E28 (lb Try.f28 0) [1, 5, 6, 7, 19] [1, 6, 7] [.one (.ptr 0 1 0 0), .one (.int .i64 b), .one (.int .i64 bp), .one (.int .i64 bk), .one (.int .i64 p)] [.row 35 (.ints .i64 [x0, x1, x2, x3, x4, x5, x6, x7])] K = (
  bif decide (p < (3 : Int)) then
    ([x0, x1, x2, x3, x4, x5, x6, x7].all sampleG = true ∧ (0 : Int) ≤ (0 : Int) ∧ (0 : Int) ≤ (18 : Int)) ∧
      K Ex.normal
        [AV.one (SV.ptr (0 : Nat) (1 : Nat) (0 : Nat) (0 : Nat)),
          AV.one (SV.int IntKind.i64 (bestK [x0, x1, x2, x3, x4, x5, x6, x7] p (18 : Nat) (0 : Int) (b, bp, bk)).fst),
          AV.one (SV.int IntKind.i64 (bestK [x0, x1, x2, x3, x4, x5, x6, x7] p (18 : Nat) (0 : Int) (b, bp, bk)).snd.fst),
          AV.one (SV.int IntKind.i64 (bestK [x0, x1, x2, x3, x4, x5, x6, x7] p (18 : Nat) (0 : Int) (b, bp, bk)).snd.snd),
          AV.one (SV.int IntKind.i64 (IntKind.i64.wrap (p + (1 : Int))))]
        [Blk.row (35 : TypeId) (Row.ints IntKind.i64 [x0, x1, x2, x3, x4, x5, x6, x7])]
  else
    K (Ex.exit (0 : Nat))
      [AV.one (SV.ptr (0 : Nat) (1 : Nat) (0 : Nat) (0 : Nat)), AV.one (SV.int IntKind.i64 bp),
        AV.one (SV.int IntKind.i64 bk)]
      [Blk.row (35 : TypeId) (Row.ints IntKind.i64 [x0, x1, x2, x3, x4, x5, x6, x7])]) := by kernel_rfl
theorem ex28b (x0 x1 x2 x3 x4 x5 x6 x7 b bp bk p q i : Int) (K : Ex → List AV → List Blk → Prop) : evBody E28 (lb Try.f28 1) [1, 5, 6, 7, 8, 19, 22] [1, 5, 6, 7, 19] [.one (.ptr 0 1 0 0), .one (.int .i64 b), .one (.int .i64 bp), .one (.int .i64 bk), .one (.int .i64 p), .one (.int .i64 q), .one (.int .i64 i)] [.row 35 (.ints .i64 [x0, x1, x2, x3, x4, x5, x6, x7])] K = (
  bif decide (i < (18 : Int)) then
    ([x0, x1, x2, x3, x4, x5, x6, x7].all sampleG = true ∧ (0 : Int) ≤ i ∧ i ≤ (17 : Int)) ∧
      bif b == (0 : Int) then
        K Ex.normal
          [AV.one (SV.ptr (0 : Nat) (1 : Nat) (0 : Nat) (0 : Nat)),
            AV.one (SV.int IntKind.i64 (lenG p i [x0, x1, x2, x3, x4, x5, x6, x7])), AV.one (SV.int IntKind.i64 p),
            AV.one (SV.int IntKind.i64 i), AV.one (SV.int IntKind.i64 p), AV.one (SV.int IntKind.i64 q),
            AV.one (SV.int IntKind.i64 (IntKind.i64.wrap (i + (1 : Int))))]
          [Blk.row (35 : TypeId) (Row.ints IntKind.i64 [x0, x1, x2, x3, x4, x5, x6, x7])]
      else
        bif decide (lenG p i [x0, x1, x2, x3, x4, x5, x6, x7] < b) then
          K Ex.normal
            [AV.one (SV.ptr (0 : Nat) (1 : Nat) (0 : Nat) (0 : Nat)),
              AV.one (SV.int IntKind.i64 (lenG p i [x0, x1, x2, x3, x4, x5, x6, x7])), AV.one (SV.int IntKind.i64 p),
              AV.one (SV.int IntKind.i64 i), AV.one (SV.int IntKind.i64 p), AV.one (SV.int IntKind.i64 q),
              AV.one (SV.int IntKind.i64 (IntKind.i64.wrap (i + (1 : Int))))]
            [Blk.row (35 : TypeId) (Row.ints IntKind.i64 [x0, x1, x2, x3, x4, x5, x6, x7])]
        else
          K Ex.normal
            [AV.one (SV.ptr (0 : Nat) (1 : Nat) (0 : Nat) (0 : Nat)), AV.one (SV.int IntKind.i64 b),
              AV.one (SV.int IntKind.i64 bp), AV.one (SV.int IntKind.i64 bk), AV.one (SV.int IntKind.i64 p),
              AV.one (SV.int IntKind.i64 q), AV.one (SV.int IntKind.i64 (IntKind.i64.wrap (i + (1 : Int))))]
            [Blk.row (35 : TypeId) (Row.ints IntKind.i64 [x0, x1, x2, x3, x4, x5, x6, x7])]
  else
    K (Ex.exit (2 : Nat))
      [AV.one (SV.ptr (0 : Nat) (1 : Nat) (0 : Nat) (0 : Nat)), AV.one (SV.int IntKind.i64 b),
        AV.one (SV.int IntKind.i64 bp), AV.one (SV.int IntKind.i64 bk), AV.one (SV.int IntKind.i64 q)]
      [Blk.row (35 : TypeId) (Row.ints IntKind.i64 [x0, x1, x2, x3, x4, x5, x6, x7])]) := by kernel_rfl
theorem ex28c (c u0 u1 u2 u3 u4 u5 u6 u7 i : Int) (xs : List Int) (K : Ex → List AV → List Blk → Prop) : evBody E28 (lb Try.f28 2) [7, 11, 47, 48] [11] [.one (.int .i64 c), .one (.ptr 0 1 0 0), .agg [.int .i64 u0, .int .i64 u1, .int .i64 u2, .int .i64 u3, .int .i64 u4, .int .i64 u5, .int .i64 u6, .int .i64 u7], .one (.int .i64 i)] [.cells [.own 1 1], .row 3 (.ints .i64 xs)] K = (
  bif decide (i < (8 : Int)) then
    bif decide ((0 : Int) ≤ i) && decide (i < (8 : Int)) then
      bif !decide (c < (0 : Int)) then
        ((0 : Int) ≤ ([u0, u1, u2, u3, u4, u5, u6, u7].getD i.toNat (0 : Int)).fdiv ((2 : Int) ^ min c.toNat (64 : Nat)) ∧
            ([u0, u1, u2, u3, u4, u5, u6, u7].getD i.toNat (0 : Int)).fdiv ((2 : Int) ^ min c.toNat (64 : Nat)) ≤
              (1000000000 : Int)) ∧
          bif
              decide
                ((xs ++
                          List.replicate
                            (([u0, u1, u2, u3, u4, u5, u6, u7].getD i.toNat (0 : Int)).fdiv
                                ((2 : Int) ^ min c.toNat (64 : Nat))).toNat
                            (1 : Int)).length *
                      (8 : Nat) ≤
                    (140737488355328 : Nat) ∧
                  (xs ++
                        List.replicate
                          (([u0, u1, u2, u3, u4, u5, u6, u7].getD i.toNat (0 : Int)).fdiv
                              ((2 : Int) ^ min c.toNat (64 : Nat))).toNat
                          (1 : Int)).length ≤
                    (140737488355328 : Nat)) then
            bif
                decide
                  ((xs ++
                              List.replicate
                                (([u0, u1, u2, u3, u4, u5, u6, u7].getD i.toNat (0 : Int)).fdiv
                                    ((2 : Int) ^ min c.toNat (64 : Nat))).toNat
                                (1 : Int) ++
                            [(0 : Int)]).length *
                        (8 : Nat) ≤
                      (140737488355328 : Nat) ∧
                    (xs ++
                            List.replicate
                              (([u0, u1, u2, u3, u4, u5, u6, u7].getD i.toNat (0 : Int)).fdiv
                                  ((2 : Int) ^ min c.toNat (64 : Nat))).toNat
                              (1 : Int) ++
                          [(0 : Int)]).length ≤
                      (140737488355328 : Nat)) then
              ((0 : Int) ≤ c ∧
                  c ≤ (100 : Int) ∧
                    (xs ++
                            List.replicate
                              (([u0, u1, u2, u3, u4, u5, u6, u7].getD i.toNat (0 : Int)).fdiv
                                  ((2 : Int) ^ min c.toNat (64 : Nat))).toNat
                              (1 : Int) ++
                          [(0 : Int)]).length ≤
                      (1000000000 : Nat)) ∧
                bif decide (c > (0 : Int)) then
                  K Ex.normal
                    [AV.one (SV.int IntKind.i64 c), AV.one (SV.ptr (0 : Nat) (1 : Nat) (0 : Nat) (0 : Nat)),
                      AV.agg
                        [SV.int IntKind.i64 u0, SV.int IntKind.i64 u1, SV.int IntKind.i64 u2, SV.int IntKind.i64 u3,
                          SV.int IntKind.i64 u4, SV.int IntKind.i64 u5, SV.int IntKind.i64 u6, SV.int IntKind.i64 u7],
                      AV.one (SV.int IntKind.i64 (IntKind.i64.wrap (i + (1 : Int))))]
                    [Blk.cells [SV.own (1 : Nat) (1 : Nat)],
                      Blk.row (3 : TypeId)
                        (Row.ints IntKind.i64
                          (xs ++
                                List.replicate
                                  (([u0, u1, u2, u3, u4, u5, u6, u7].getD i.toNat (0 : Int)).fdiv
                                      ((2 : Int) ^ min c.toNat (64 : Nat))).toNat
                                  (1 : Int) ++
                              [(0 : Int)] ++
                            bitsN ([u0, u1, u2, u3, u4, u5, u6, u7].getD i.toNat (0 : Int)) c.toNat))]
                else
                  K Ex.normal
                    [AV.one (SV.int IntKind.i64 c), AV.one (SV.ptr (0 : Nat) (1 : Nat) (0 : Nat) (0 : Nat)),
                      AV.agg
                        [SV.int IntKind.i64 u0, SV.int IntKind.i64 u1, SV.int IntKind.i64 u2, SV.int IntKind.i64 u3,
                          SV.int IntKind.i64 u4, SV.int IntKind.i64 u5, SV.int IntKind.i64 u6, SV.int IntKind.i64 u7],
                      AV.one (SV.int IntKind.i64 (IntKind.i64.wrap (i + (1 : Int))))]
                    [Blk.cells [SV.own (1 : Nat) (1 : Nat)],
                      Blk.row (3 : TypeId)
                        (Row.ints IntKind.i64
                          (xs ++
                              List.replicate
                                (([u0, u1, u2, u3, u4, u5, u6, u7].getD i.toNat (0 : Int)).fdiv
                                    ((2 : Int) ^ min c.toNat (64 : Nat))).toNat
                                (1 : Int) ++
                            [(0 : Int)]))]
            else False
          else False
      else False
    else False
  else
    K (Ex.exit (4 : Nat)) [AV.one (SV.ptr (0 : Nat) (1 : Nat) (0 : Nat) (0 : Nat))]
      [Blk.cells [SV.own (1 : Nat) (1 : Nat)], Blk.row (3 : TypeId) (Row.ints IntKind.i64 xs)]) := by kernel_rfl
end Go.Ev
