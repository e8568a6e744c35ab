/-
  Part of the proof of a law: what bodies come to on abstract values (printed by program).
-/
import Derived.Test.YtlejemnljojpgaaC1F
import Derived.KernelRfl
namespace Go.Ev
open Go Go.Proofs
set_option maxRecDepth 100000
theorem ex106 (p l b : Int) (K : AV → List Blk → Prop) : evFn E106 Try.f106 [.one (.int .i64 p), .one (.int .i64 l), .one (.int .i64 b)] [] K = (
  bif p == (1 : Int) then K (AV.one (SV.int IntKind.i64 l)) []
  else
    bif p == (2 : Int) then K (AV.one (SV.int IntKind.i64 (IntKind.i64.wrap (IntKind.i64.wrap ((2 : Int) * l) - b)))) []
    else K (AV.one (SV.int IntKind.i64 (0 : Int))) []) := by kernel_rfl
theorem ex85 (x0 x1 x2 x3 x4 x5 x6 x7 p : Int) (K : AV → List Blk → Prop) : evFn E85 Try.f85 [.agg [.int .i64 x0, .int .i64 x1, .int .i64 x2, .int .i64 x3, .int .i64 x4, .int .i64 x5, .int .i64 x6, .int .i64 x7], .one (.int .i64 p)] [] K = (
  ((0 : Int) ≤ (0 : Int) ∧ (0 : Int) ≤ (8 : Int) ∧ (8 : Nat) = (8 : Nat)) ∧
    K
      (AV.agg
        [SV.int IntKind.i64 ((codR p (0 : Int) (0 : Int) [x0, x1, x2, x3, x4, x5, x6, x7]).getD (0 : Nat) (0 : Int)),
          SV.int IntKind.i64 ((codR p (0 : Int) (0 : Int) [x0, x1, x2, x3, x4, x5, x6, x7]).getD (1 : Nat) (0 : Int)),
          SV.int IntKind.i64 ((codR p (0 : Int) (0 : Int) [x0, x1, x2, x3, x4, x5, x6, x7]).getD (2 : Nat) (0 : Int)),
          SV.int IntKind.i64 ((codR p (0 : Int) (0 : Int) [x0, x1, x2, x3, x4, x5, x6, x7]).getD (3 : Nat) (0 : Int)),
          SV.int IntKind.i64 ((codR p (0 : Int) (0 : Int) [x0, x1, x2, x3, x4, x5, x6, x7]).getD (4 : Nat) (0 : Int)),
          SV.int IntKind.i64 ((codR p (0 : Int) (0 : Int) [x0, x1, x2, x3, x4, x5, x6, x7]).getD (5 : Nat) (0 : Int)),
          SV.int IntKind.i64 ((codR p (0 : Int) (0 : Int) [x0, x1, x2, x3, x4, x5, x6, x7]).getD (6 : Nat) (0 : Int)),
          SV.int IntKind.i64 ((codR p (0 : Int) (0 : Int) [x0, x1, x2, x3, x4, x5, x6, x7]).getD (7 : Nat) (0 : Int))])
      []) := by kernel_rfl
theorem ex85a (p last bef x0 x1 x2 x3 x4 x5 x6 x7 i : Int) (z out : List Int) (K : Ex → List AV → List Blk → Prop) : evBody E85 (lb Try.f85 0) [1, 4, 5, 6, 7, 11, 12] [4, 5] [.one (.int .i64 p), .one (.ptr 0 1 0 0), .one (.ptr 1 1 0 0), .one (.int .i64 last), .one (.int .i64 bef), .agg [.int .i64 x0, .int .i64 x1, .int .i64 x2, .int .i64 x3, .int .i64 x4, .int .i64 x5, .int .i64 x6, .int .i64 x7], .one (.int .i64 i)] [.row 123 (.ints .i64 z), .row 123 (.ints .i64 out)] K = (
  bif decide (i < (8 : Int)) then
    bif decide ((0 : Int) ≤ i) && decide (i < (8 : Int)) then
      bif
          decide
            (IntKind.i64.wrap ([x0, x1, x2, x3, x4, x5, x6, x7].getD i.toNat (0 : Int) - expG p last bef) ≥
              (0 : Int)) then
        bif decide ((0 : Int) ≤ i) && decide (i < (8 : Int)) then
          bif decide ((0 : Nat) + stepN i.toNat (1 : Nat) + (0 : Nat) < out.length) then
            K Ex.normal
              [AV.one (SV.int IntKind.i64 p), AV.one (SV.ptr (0 : Nat) (1 : Nat) (0 : Nat) (0 : Nat)),
                AV.one (SV.ptr (1 : Nat) (1 : Nat) (0 : Nat) (0 : Nat)),
                AV.one (SV.int IntKind.i64 ([x0, x1, x2, x3, x4, x5, x6, x7].getD i.toNat (0 : Int))),
                AV.one (SV.int IntKind.i64 last),
                AV.agg
                  [SV.int IntKind.i64 x0, SV.int IntKind.i64 x1, SV.int IntKind.i64 x2, SV.int IntKind.i64 x3,
                    SV.int IntKind.i64 x4, SV.int IntKind.i64 x5, SV.int IntKind.i64 x6, SV.int IntKind.i64 x7],
                AV.one (SV.int IntKind.i64 (IntKind.i64.wrap (i + (1 : Int))))]
              [Blk.row (123 : TypeId) (Row.ints IntKind.i64 z),
                Blk.row (123 : TypeId)
                  (Row.ints IntKind.i64
                    (out.set ((0 : Nat) + stepN i.toNat (1 : Nat) + (0 : Nat))
                      (IntKind.i64.wrap
                        ((2 : Int) *
                          IntKind.i64.wrap
                            ([x0, x1, x2, x3, x4, x5, x6, x7].getD i.toNat (0 : Int) - expG p last bef)))))]
          else False
        else False
      else
        bif decide ((0 : Int) ≤ i) && decide (i < (8 : Int)) then
          bif decide ((0 : Nat) + stepN i.toNat (1 : Nat) + (0 : Nat) < out.length) then
            K Ex.normal
              [AV.one (SV.int IntKind.i64 p), AV.one (SV.ptr (0 : Nat) (1 : Nat) (0 : Nat) (0 : Nat)),
                AV.one (SV.ptr (1 : Nat) (1 : Nat) (0 : Nat) (0 : Nat)),
                AV.one (SV.int IntKind.i64 ([x0, x1, x2, x3, x4, x5, x6, x7].getD i.toNat (0 : Int))),
                AV.one (SV.int IntKind.i64 last),
                AV.agg
                  [SV.int IntKind.i64 x0, SV.int IntKind.i64 x1, SV.int IntKind.i64 x2, SV.int IntKind.i64 x3,
                    SV.int IntKind.i64 x4, SV.int IntKind.i64 x5, SV.int IntKind.i64 x6, SV.int IntKind.i64 x7],
                AV.one (SV.int IntKind.i64 (IntKind.i64.wrap (i + (1 : Int))))]
              [Blk.row (123 : TypeId) (Row.ints IntKind.i64 z),
                Blk.row (123 : TypeId)
                  (Row.ints IntKind.i64
                    (out.set ((0 : Nat) + stepN i.toNat (1 : Nat) + (0 : Nat))
                      (IntKind.i64.wrap
                        (IntKind.i64.wrap
                            ((-2 : Int) *
                              IntKind.i64.wrap
                                ([x0, x1, x2, x3, x4, x5, x6, x7].getD i.toNat (0 : Int) - expG p last bef)) -
                          (1 : Int)))))]
          else False
        else False
    else False
  else
    K (Ex.exit (0 : Nat))
      [AV.one (SV.ptr (0 : Nat) (1 : Nat) (0 : Nat) (0 : Nat)), AV.one (SV.ptr (1 : Nat) (1 : Nat) (0 : Nat) (0 : Nat))]
      [Blk.row (123 : TypeId) (Row.ints IntKind.i64 z), Blk.row (123 : TypeId) (Row.ints IntKind.i64 out)]) := by kernel_rfl
theorem ex83 (x0 x1 x2 x3 x4 x5 x6 x7 p k : Int) (K : AV → List Blk → Prop) : evFn E83 Try.f83 [.agg [.int .i64 x0, .int .i64 x1, .int .i64 x2, .int .i64 x3, .int .i64 x4, .int .i64 x5, .int .i64 x6, .int .i64 x7], .one (.int .i64 p), .one (.int .i64 k)] [] K = (
  bif !decide (k < (0 : Int)) then
    bif !decide (k < (0 : Int)) then
      bif !decide (k < (0 : Int)) then
        bif !decide (k < (0 : Int)) then
          bif !decide (k < (0 : Int)) then
            bif !decide (k < (0 : Int)) then
              bif !decide (k < (0 : Int)) then
                bif !decide (k < (0 : Int)) then
                  K
                    (AV.one
                      (SV.int IntKind.i64
                        (IntKind.i64.wrap
                          (IntKind.i64.wrap
                              (IntKind.i64.wrap
                                  (IntKind.i64.wrap
                                      (IntKind.i64.wrap
                                          (IntKind.i64.wrap
                                              (IntKind.i64.wrap
                                                  (IntKind.i64.wrap
                                                      ((7 : Int) +
                                                        IntKind.i64.wrap
                                                          (IntKind.i64.wrap
                                                              (((codG p [x0, x1, x2, x3, x4, x5, x6, x7]).getD (0 : Nat)
                                                                      (0 : Int)).fdiv
                                                                  ((2 : Int) ^ min k.toNat (64 : Nat)) +
                                                                (1 : Int)) +
                                                            k)) +
                                                    IntKind.i64.wrap
                                                      (IntKind.i64.wrap
                                                          (((codG p [x0, x1, x2, x3, x4, x5, x6, x7]).getD (1 : Nat)
                                                                  (0 : Int)).fdiv
                                                              ((2 : Int) ^ min k.toNat (64 : Nat)) +
                                                            (1 : Int)) +
                                                        k)) +
                                                IntKind.i64.wrap
                                                  (IntKind.i64.wrap
                                                      (((codG p [x0, x1, x2, x3, x4, x5, x6, x7]).getD (2 : Nat)
                                                              (0 : Int)).fdiv
                                                          ((2 : Int) ^ min k.toNat (64 : Nat)) +
                                                        (1 : Int)) +
                                                    k)) +
                                            IntKind.i64.wrap
                                              (IntKind.i64.wrap
                                                  (((codG p [x0, x1, x2, x3, x4, x5, x6, x7]).getD (3 : Nat)
                                                          (0 : Int)).fdiv
                                                      ((2 : Int) ^ min k.toNat (64 : Nat)) +
                                                    (1 : Int)) +
                                                k)) +
                                        IntKind.i64.wrap
                                          (IntKind.i64.wrap
                                              (((codG p [x0, x1, x2, x3, x4, x5, x6, x7]).getD (4 : Nat) (0 : Int)).fdiv
                                                  ((2 : Int) ^ min k.toNat (64 : Nat)) +
                                                (1 : Int)) +
                                            k)) +
                                    IntKind.i64.wrap
                                      (IntKind.i64.wrap
                                          (((codG p [x0, x1, x2, x3, x4, x5, x6, x7]).getD (5 : Nat) (0 : Int)).fdiv
                                              ((2 : Int) ^ min k.toNat (64 : Nat)) +
                                            (1 : Int)) +
                                        k)) +
                                IntKind.i64.wrap
                                  (IntKind.i64.wrap
                                      (((codG p [x0, x1, x2, x3, x4, x5, x6, x7]).getD (6 : Nat) (0 : Int)).fdiv
                                          ((2 : Int) ^ min k.toNat (64 : Nat)) +
                                        (1 : Int)) +
                                    k)) +
                            IntKind.i64.wrap
                              (IntKind.i64.wrap
                                  (((codG p [x0, x1, x2, x3, x4, x5, x6, x7]).getD (7 : Nat) (0 : Int)).fdiv
                                      ((2 : Int) ^ min k.toNat (64 : Nat)) +
                                    (1 : Int)) +
                                k)))))
                    []
                else False
              else False
            else False
          else False
        else False
      else False
    else False
  else False) := by kernel_rfl
theorem ex27 (x0 x1 x2 x3 x4 x5 x6 x7 p k : Int) (K : AV → List Blk → Prop) : evFn E27 Try.f27 [.agg [.int .i64 x0, .int .i64 x1, .int .i64 x2, .int .i64 x3, .int .i64 x4, .int .i64 x5, .int .i64 x6, .int .i64 x7], .one (.int .i64 p), .one (.int .i64 k)] [] K = (
  bif decide ((0 : Int) ≤ p) && decide (p ≤ (2 : Int)) then
    [bif [x0, x1, x2, x3, x4, x5, x6, x7].all sampleG then (0 : Int) else (2 : Int),
            bif decide ((0 : Int) ≤ k) && decide (k ≤ (17 : Int)) then (0 : Int) else (2 : Int)].length ≤
        (1000 : Nat) ∧
      bif
          firstE
              [bif [x0, x1, x2, x3, x4, x5, x6, x7].all sampleG then (0 : Int) else (2 : Int),
                bif decide ((0 : Int) ≤ k) && decide (k ≤ (17 : Int)) then (0 : Int) else (2 : Int)] !=
            (0 : Int) then
        K
          (AV.tup
            [TV.one (SV.int IntKind.i64 (0 : Int)),
              TV.one
                (SV.int IntKind.i64
                  (firstE
                    [bif [x0, x1, x2, x3, x4, x5, x6, x7].all sampleG then (0 : Int) else (2 : Int),
                      bif decide ((0 : Int) ≤ k) && decide (k ≤ (17 : Int)) then (0 : Int) else (2 : Int)]))])
          []
      else
        ([x0, x1, x2, x3, x4, x5, x6, x7].all sampleG = true ∧ (0 : Int) ≤ k ∧ k ≤ (17 : Int)) ∧
          K
            (AV.tup
              [TV.one (SV.int IntKind.i64 (lenG p k [x0, x1, x2, x3, x4, x5, x6, x7])),
                TV.one (SV.int IntKind.i64 (0 : Int))])
            []
  else
    [bif [x0, x1, x2, x3, x4, x5, x6, x7].all sampleG then (0 : Int) else (2 : Int), (2 : Int)].length ≤ (1000 : Nat) ∧
      bif
          firstE [bif [x0, x1, x2, x3, x4, x5, x6, x7].all sampleG then (0 : Int) else (2 : Int), (2 : Int)] !=
            (0 : Int) then
        K
          (AV.tup
            [TV.one (SV.int IntKind.i64 (0 : Int)),
              TV.one
                (SV.int IntKind.i64
                  (firstE [bif [x0, x1, x2, x3, x4, x5, x6, x7].all sampleG then (0 : Int) else (2 : Int), (2 : Int)]))])
          []
      else
        ([x0, x1, x2, x3, x4, x5, x6, x7].all sampleG = true ∧ (0 : Int) ≤ k ∧ k ≤ (17 : Int)) ∧
          K
            (AV.tup
              [TV.one (SV.int IntKind.i64 (lenG p k [x0, x1, x2, x3, x4, x5, x6, x7])),
                TV.one (SV.int IntKind.i64 (0 : Int))])
            []) := by kernel_rfl
theorem ex84a (n c : Int) (K : AV → List Blk → Prop) : evFn E84a Try.f84 [.one (.ptr 0 1 0 0), .one (.int .i64 n), .one (.int .i64 c)] [.cells [.nil]] K = (
  ((-1 : Int) ≤ IntKind.i64.wrap (c - (1 : Int)) ∧ IntKind.i64.wrap (c - (1 : Int)) ≤ (100 : Int)) ∧
    bif decide (IntKind.i64.wrap (c - (1 : Int)) ≥ (0 : Int)) then
      K (AV.tup [])
        [Blk.cells [SV.own (1 : Nat) (1 : Nat)],
          Blk.row (3 : TypeId) (Row.ints IntKind.i64 (bitsN n (IntKind.i64.wrap (c - (1 : Int)) + (1 : Int)).toNat))]
    else K (AV.tup []) [Blk.cells [SV.nil]]) := by kernel_rfl
theorem ex84b (n c : Int) (xs : List Int) (K : AV → List Blk → Prop) : evFn E84b Try.f84 [.one (.ptr 0 1 0 0), .one (.int .i64 n), .one (.int .i64 c)] [.cells [.own 1 1], .row 3 (.ints .i64 xs)] K = (
  ((-1 : Int) ≤ IntKind.i64.wrap (c - (1 : Int)) ∧
      IntKind.i64.wrap (c - (1 : Int)) ≤ (100 : Int) ∧
        (↑xs.length : Int) + IntKind.i64.wrap (c - (1 : Int)) ≤ (2000000000 : Int)) ∧
    bif decide (IntKind.i64.wrap (c - (1 : Int)) ≥ (0 : Int)) then
      K (AV.tup [])
        [Blk.cells [SV.own (2 : Nat) (1 : Nat)], Blk.dead,
          Blk.row (3 : TypeId)
            (Row.ints IntKind.i64 (xs ++ bitsN n (IntKind.i64.wrap (c - (1 : Int)) + (1 : Int)).toNat))]
    else K (AV.tup []) [Blk.cells [SV.own (1 : Nat) (1 : Nat)], Blk.row (3 : TypeId) (Row.ints IntKind.i64 xs)]) := by kernel_rfl
theorem ex84c (n i : Int) (K : Ex → List AV → List Blk → Prop) : evBody E84a (lb Try.f84 0) [0, 1, 6] [] [.one (.ptr 0 1 0 0), .one (.int .i64 n), .one (.int .i64 i)] [.cells [.nil]] K = (
  bif decide (i ≥ (0 : Int)) then
    bif !decide (i < (0 : Int)) then
      K Ex.normal
        [AV.one (SV.ptr (0 : Nat) (1 : Nat) (0 : Nat) (0 : Nat)), AV.one (SV.int IntKind.i64 n),
          AV.one (SV.int IntKind.i64 (IntKind.i64.wrap (i - (1 : Int))))]
        [Blk.cells [SV.own (1 : Nat) (1 : Nat)],
          Blk.row (3 : Nat)
            (Row.ints IntKind.i64
              [IntKind.i64.wrap
                  (↑(BitVec.ofInt (64 : Nat) (n.fdiv ((2 : Int) ^ min i.toNat (64 : Nat))) &&&
                          BitVec.ofInt (64 : Nat) (1 : Int)).toNat :
                    Int)])]
    else False
  else K (Ex.exit (0 : Nat)) [] [Blk.cells [SV.nil]]) := by kernel_rfl
theorem ex84d (n i : Int) (xs : List Int) (K : Ex → List AV → List Blk → Prop) : evBody E84a (lb Try.f84 0) [0, 1, 6] [] [.one (.ptr 0 1 0 0), .one (.int .i64 n), .one (.int .i64 i)] [.cells [.own 1 1], .row 3 (.ints .i64 xs)] K = (
  bif decide (i ≥ (0 : Int)) then
    bif !decide (i < (0 : Int)) then
      bif
          decide
            ((xs ++
                      [IntKind.i64.wrap
                          (↑(BitVec.ofInt (64 : Nat) (n.fdiv ((2 : Int) ^ min i.toNat (64 : Nat))) &&&
                                  BitVec.ofInt (64 : Nat) (1 : Int)).toNat :
                            Int)]).length *
                  (8 : Nat) ≤
                (140737488355328 : Nat) ∧
              (xs ++
                    [IntKind.i64.wrap
                        (↑(BitVec.ofInt (64 : Nat) (n.fdiv ((2 : Int) ^ min i.toNat (64 : Nat))) &&&
                                BitVec.ofInt (64 : Nat) (1 : Int)).toNat :
                          Int)]).length ≤
                (140737488355328 : Nat)) then
        K Ex.normal
          [AV.one (SV.ptr (0 : Nat) (1 : Nat) (0 : Nat) (0 : Nat)), AV.one (SV.int IntKind.i64 n),
            AV.one (SV.int IntKind.i64 (IntKind.i64.wrap (i - (1 : Int))))]
          [Blk.cells [SV.own (1 : Nat) (1 : Nat)],
            Blk.row (3 : Nat)
              (Row.ints IntKind.i64
                (xs ++
                  [IntKind.i64.wrap
                      (↑(BitVec.ofInt (64 : Nat) (n.fdiv ((2 : Int) ^ min i.toNat (64 : Nat))) &&&
                              BitVec.ofInt (64 : Nat) (1 : Int)).toNat :
                        Int)]))]
      else False
    else False
  else K (Ex.exit (0 : Nat)) [] [Blk.cells [SV.own (1 : Nat) (1 : Nat)], Blk.row (3 : TypeId) (Row.ints IntKind.i64 xs)]) := by kernel_rfl
theorem ex84e (n i : Int) (xs : List Int) (K : Ex → List AV → List Blk → Prop) : evBody E84b (lb Try.f84 0) [0, 1, 6] [] [.one (.ptr 0 1 0 0), .one (.int .i64 n), .one (.int .i64 i)] [.cells [.own 1 1], .row 3 (.ints .i64 xs)] K = (
  bif decide (i ≥ (0 : Int)) then
    bif !decide (i < (0 : Int)) then
      bif
          decide
            ((xs ++
                      [IntKind.i64.wrap
                          (↑(BitVec.ofInt (64 : Nat) (n.fdiv ((2 : Int) ^ min i.toNat (64 : Nat))) &&&
                                  BitVec.ofInt (64 : Nat) (1 : Int)).toNat :
                            Int)]).length *
                  (8 : Nat) ≤
                (140737488355328 : Nat) ∧
              (xs ++
                    [IntKind.i64.wrap
                        (↑(BitVec.ofInt (64 : Nat) (n.fdiv ((2 : Int) ^ min i.toNat (64 : Nat))) &&&
                                BitVec.ofInt (64 : Nat) (1 : Int)).toNat :
                          Int)]).length ≤
                (140737488355328 : Nat)) then
        K Ex.normal
          [AV.one (SV.ptr (0 : Nat) (1 : Nat) (0 : Nat) (0 : Nat)), AV.one (SV.int IntKind.i64 n),
            AV.one (SV.int IntKind.i64 (IntKind.i64.wrap (i - (1 : Int))))]
          [Blk.cells [SV.own (2 : Nat) (1 : Nat)], Blk.dead,
            Blk.row (3 : Nat)
              (Row.ints IntKind.i64
                (xs ++
                  [IntKind.i64.wrap
                      (↑(BitVec.ofInt (64 : Nat) (n.fdiv ((2 : Int) ^ min i.toNat (64 : Nat))) &&&
                              BitVec.ofInt (64 : Nat) (1 : Int)).toNat :
                        Int)]))]
      else False
    else False
  else K (Ex.exit (0 : Nat)) [] [Blk.cells [SV.own (1 : Nat) (1 : Nat)], Blk.row (3 : TypeId) (Row.ints IntKind.i64 xs)]) := by kernel_rfl
theorem ex84f (n i : Int) (xs : List Int) (K : Ex → List AV → List Blk → Prop) : evBody E84b (lb Try.f84 0) [0, 1, 6] [] [.one (.ptr 0 1 0 0), .one (.int .i64 n), .one (.int .i64 i)] [.cells [.own 2 1], .dead, .row 3 (.ints .i64 xs)] K = (
  bif decide (i ≥ (0 : Int)) then
    bif !decide (i < (0 : Int)) then
      bif
          decide
            ((xs ++
                      [IntKind.i64.wrap
                          (↑(BitVec.ofInt (64 : Nat) (n.fdiv ((2 : Int) ^ min i.toNat (64 : Nat))) &&&
                                  BitVec.ofInt (64 : Nat) (1 : Int)).toNat :
                            Int)]).length *
                  (8 : Nat) ≤
                (140737488355328 : Nat) ∧
              (xs ++
                    [IntKind.i64.wrap
                        (↑(BitVec.ofInt (64 : Nat) (n.fdiv ((2 : Int) ^ min i.toNat (64 : Nat))) &&&
                                BitVec.ofInt (64 : Nat) (1 : Int)).toNat :
                          Int)]).length ≤
                (140737488355328 : Nat)) then
        K Ex.normal
          [AV.one (SV.ptr (0 : Nat) (1 : Nat) (0 : Nat) (0 : Nat)), AV.one (SV.int IntKind.i64 n),
            AV.one (SV.int IntKind.i64 (IntKind.i64.wrap (i - (1 : Int))))]
          [Blk.cells [SV.own (2 : Nat) (1 : Nat)], Blk.dead,
            Blk.row (3 : Nat)
              (Row.ints IntKind.i64
                (xs ++
                  [IntKind.i64.wrap
                      (↑(BitVec.ofInt (64 : Nat) (n.fdiv ((2 : Int) ^ min i.toNat (64 : Nat))) &&&
                              BitVec.ofInt (64 : Nat) (1 : Int)).toNat :
                        Int)]))]
      else False
    else False
  else
    K (Ex.exit (0 : Nat)) []
      [Blk.cells [SV.own (2 : Nat) (1 : Nat)], Blk.dead, Blk.row (3 : TypeId) (Row.ints IntKind.i64 xs)]) := by kernel_rfl
theorem ex139 (x y : Int) (K : AV → List Blk → Prop) : evFn E139 Try.f139 [.one (.int .u64 x), .one (.int .u64 y)] [] K = (
  K
    (AV.tup
      [TV.one
          (SV.int IntKind.u64
            (IntKind.u64.wrap
              (IntKind.u64.wrap
                  (IntKind.u64.wrap (x.fdiv (4294967296 : Int) * y.fdiv (4294967296 : Int)) +
                    (IntKind.u64.wrap
                          (IntKind.u64.wrap
                              (x.fdiv (4294967296 : Int) *
                                IntKind.u64.wrap
                                  (↑(BitVec.ofInt (64 : Nat) y &&& BitVec.ofInt (64 : Nat) (4294967295 : Int)).toNat :
                                    Int)) +
                            (IntKind.u64.wrap
                                  (IntKind.u64.wrap
                                      (↑(BitVec.ofInt (64 : Nat) x &&& BitVec.ofInt (64 : Nat) (4294967295 : Int)).toNat :
                                        Int) *
                                    IntKind.u64.wrap
                                      (↑(BitVec.ofInt (64 : Nat) y &&& BitVec.ofInt (64 : Nat) (4294967295 : Int)).toNat :
                                        Int))).fdiv
                              (4294967296 : Int))).fdiv
                      (4294967296 : Int)) +
                (IntKind.u64.wrap
                      (IntKind.u64.wrap
                          (↑(BitVec.ofInt (64 : Nat)
                                    (IntKind.u64.wrap
                                      (IntKind.u64.wrap
                                          (x.fdiv (4294967296 : Int) *
                                            IntKind.u64.wrap
                                              (↑(BitVec.ofInt (64 : Nat) y &&&
                                                      BitVec.ofInt (64 : Nat) (4294967295 : Int)).toNat :
                                                Int)) +
                                        (IntKind.u64.wrap
                                              (IntKind.u64.wrap
                                                  (↑(BitVec.ofInt (64 : Nat) x &&&
                                                          BitVec.ofInt (64 : Nat) (4294967295 : Int)).toNat :
                                                    Int) *
                                                IntKind.u64.wrap
                                                  (↑(BitVec.ofInt (64 : Nat) y &&&
                                                          BitVec.ofInt (64 : Nat) (4294967295 : Int)).toNat :
                                                    Int))).fdiv
                                          (4294967296 : Int))) &&&
                                  BitVec.ofInt (64 : Nat) (4294967295 : Int)).toNat :
                            Int) +
                        IntKind.u64.wrap
                          (IntKind.u64.wrap
                              (↑(BitVec.ofInt (64 : Nat) x &&& BitVec.ofInt (64 : Nat) (4294967295 : Int)).toNat : Int) *
                            y.fdiv (4294967296 : Int)))).fdiv
                  (4294967296 : Int)))),
        TV.one (SV.int IntKind.u64 (IntKind.u64.wrap (x * y)))])
    []) := by kernel_rfl
theorem ex127 (x y : Int) (K : AV → List Blk → Prop) : evFn E127 Try.f127 [.one (.int .u64 x), .one (.int .u64 y)] [] K = (
  ((0 : Int) ≤ x ∧ x ≤ (2147483647 : Int) ∧ (0 : Int) ≤ y ∧ y ≤ (2147483647 : Int)) ∧
    K (AV.tup [TV.one (SV.int IntKind.u64 (0 : Int)), TV.one (SV.int IntKind.u64 (x * y))]) []) := by kernel_rfl
theorem ex86 (x c : Int) (K : AV → List Blk → Prop) : evFn E86 Try.f86 [.one (.data (.ints .i64 [x])), .one (.int .i64 c)] [] K = (
  bif decide (c < (0 : Int)) then False
  else
    ((0 : Int) ≤ IntKind.u64.wrap (↑[x].length : Int) ∧
        IntKind.u64.wrap (↑[x].length : Int) ≤ (2147483647 : Int) ∧
          (0 : Int) ≤ IntKind.u64.wrap c ∧ IntKind.u64.wrap c ≤ (2147483647 : Int)) ∧
      bif decide (IntKind.u64.wrap (↑[x].length : Int) * IntKind.u64.wrap c > (9223372036854775807 : Int)) then False
      else
        bif
            decide ((0 : Int) ≤ IntKind.i64.wrap (IntKind.u64.wrap (↑[x].length : Int) * IntKind.u64.wrap c)) &&
              (decide
                  (IntKind.i64.wrap (IntKind.u64.wrap (↑[x].length : Int) * IntKind.u64.wrap c) ≤
                    IntKind.i64.wrap (IntKind.u64.wrap (↑[x].length : Int) * IntKind.u64.wrap c)) &&
                decide
                  (IntKind.i64.wrap (IntKind.u64.wrap (↑[x].length : Int) * IntKind.u64.wrap c) * (8 : Int) ≤
                      (140737488355328 : Int) ∧
                    IntKind.i64.wrap (IntKind.u64.wrap (↑[x].length : Int) * IntKind.u64.wrap c) ≤
                      (140737488355328 : Int))) then
          bif
              decide
                ((0 : Nat) +
                    (List.replicate (IntKind.i64.wrap (IntKind.u64.wrap (↑[x].length : Int) * IntKind.u64.wrap c)).toNat
                        (0 : Int)).length ≤
                  (List.replicate (IntKind.i64.wrap (IntKind.u64.wrap (↑[x].length : Int) * IntKind.u64.wrap c)).toNat
                      (0 : Int)).length) then
            ((0 : Int) ≤
                  (↑(min [x].length
                        (List.replicate
                            (IntKind.i64.wrap (IntKind.u64.wrap (↑[x].length : Int) * IntKind.u64.wrap c)).toNat
                            (0 : Int)).length) :
                    Int) ∧
                (↑(min [x].length
                          (List.replicate
                              (IntKind.i64.wrap (IntKind.u64.wrap (↑[x].length : Int) * IntKind.u64.wrap c)).toNat
                              (0 : Int)).length) :
                      Int) ≤
                    (↑(List.take
                              (List.replicate
                                  (IntKind.i64.wrap (IntKind.u64.wrap (↑[x].length : Int) * IntKind.u64.wrap c)).toNat
                                  (0 : Int)).length
                              [x] ++
                            List.drop
                              ((0 : Nat) +
                                min [x].length
                                  (List.replicate
                                      (IntKind.i64.wrap (IntKind.u64.wrap (↑[x].length : Int) * IntKind.u64.wrap c)).toNat
                                      (0 : Int)).length)
                              (List.replicate
                                (IntKind.i64.wrap (IntKind.u64.wrap (↑[x].length : Int) * IntKind.u64.wrap c)).toNat
                                (0 : Int))).length :
                      Int) ∧
                  ((0 : Int) <
                        (↑(min [x].length
                              (List.replicate
                                  (IntKind.i64.wrap (IntKind.u64.wrap (↑[x].length : Int) * IntKind.u64.wrap c)).toNat
                                  (0 : Int)).length) :
                          Int) ∨
                      (List.take
                              (List.replicate
                                  (IntKind.i64.wrap (IntKind.u64.wrap (↑[x].length : Int) * IntKind.u64.wrap c)).toNat
                                  (0 : Int)).length
                              [x] ++
                            List.drop
                              ((0 : Nat) +
                                min [x].length
                                  (List.replicate
                                      (IntKind.i64.wrap (IntKind.u64.wrap (↑[x].length : Int) * IntKind.u64.wrap c)).toNat
                                      (0 : Int)).length)
                              (List.replicate
                                (IntKind.i64.wrap (IntKind.u64.wrap (↑[x].length : Int) * IntKind.u64.wrap c)).toNat
                                (0 : Int))).length =
                        (0 : Nat)) ∧
                    (List.take
                              (List.replicate
                                  (IntKind.i64.wrap (IntKind.u64.wrap (↑[x].length : Int) * IntKind.u64.wrap c)).toNat
                                  (0 : Int)).length
                              [x] ++
                            List.drop
                              ((0 : Nat) +
                                min [x].length
                                  (List.replicate
                                      (IntKind.i64.wrap (IntKind.u64.wrap (↑[x].length : Int) * IntKind.u64.wrap c)).toNat
                                      (0 : Int)).length)
                              (List.replicate
                                (IntKind.i64.wrap (IntKind.u64.wrap (↑[x].length : Int) * IntKind.u64.wrap c)).toNat
                                (0 : Int))).length ≤
                        (1000000000 : Nat) ∧
                      List.take
                          (↑(min [x].length
                                  (List.replicate
                                      (IntKind.i64.wrap (IntKind.u64.wrap (↑[x].length : Int) * IntKind.u64.wrap c)).toNat
                                      (0 : Int)).length) :
                              Int).toNat
                          (List.take
                              (List.replicate
                                  (IntKind.i64.wrap (IntKind.u64.wrap (↑[x].length : Int) * IntKind.u64.wrap c)).toNat
                                  (0 : Int)).length
                              [x] ++
                            List.drop
                              ((0 : Nat) +
                                min [x].length
                                  (List.replicate
                                      (IntKind.i64.wrap (IntKind.u64.wrap (↑[x].length : Int) * IntKind.u64.wrap c)).toNat
                                      (0 : Int)).length)
                              (List.replicate
                                (IntKind.i64.wrap (IntKind.u64.wrap (↑[x].length : Int) * IntKind.u64.wrap c)).toNat
                                (0 : Int))) =
                        List.replicate
                          (↑(min [x].length
                                  (List.replicate
                                      (IntKind.i64.wrap (IntKind.u64.wrap (↑[x].length : Int) * IntKind.u64.wrap c)).toNat
                                      (0 : Int)).length) :
                              Int).toNat
                          ((List.take
                                  (List.replicate
                                      (IntKind.i64.wrap (IntKind.u64.wrap (↑[x].length : Int) * IntKind.u64.wrap c)).toNat
                                      (0 : Int)).length
                                  [x] ++
                                List.drop
                                  ((0 : Nat) +
                                    min [x].length
                                      (List.replicate
                                          (IntKind.i64.wrap
                                              (IntKind.u64.wrap (↑[x].length : Int) * IntKind.u64.wrap c)).toNat
                                          (0 : Int)).length)
                                  (List.replicate
                                    (IntKind.i64.wrap (IntKind.u64.wrap (↑[x].length : Int) * IntKind.u64.wrap c)).toNat
                                    (0 : Int))).getD
                            (0 : Nat) (0 : Int))) ∧
              K (AV.one (SV.own (0 : Nat) (1 : Nat)))
                [Blk.row (3 : TypeId)
                    (Row.ints IntKind.i64
                      (List.replicate
                        (List.take
                              (List.replicate
                                  (IntKind.i64.wrap (IntKind.u64.wrap (↑[x].length : Int) * IntKind.u64.wrap c)).toNat
                                  (0 : Int)).length
                              [x] ++
                            List.drop
                              ((0 : Nat) +
                                min [x].length
                                  (List.replicate
                                      (IntKind.i64.wrap (IntKind.u64.wrap (↑[x].length : Int) * IntKind.u64.wrap c)).toNat
                                      (0 : Int)).length)
                              (List.replicate
                                (IntKind.i64.wrap (IntKind.u64.wrap (↑[x].length : Int) * IntKind.u64.wrap c)).toNat
                                (0 : Int))).length
                        ((List.take
                                (List.replicate
                                    (IntKind.i64.wrap (IntKind.u64.wrap (↑[x].length : Int) * IntKind.u64.wrap c)).toNat
                                    (0 : Int)).length
                                [x] ++
                              List.drop
                                ((0 : Nat) +
                                  min [x].length
                                    (List.replicate
                                        (IntKind.i64.wrap
                                            (IntKind.u64.wrap (↑[x].length : Int) * IntKind.u64.wrap c)).toNat
                                        (0 : Int)).length)
                                (List.replicate
                                  (IntKind.i64.wrap (IntKind.u64.wrap (↑[x].length : Int) * IntKind.u64.wrap c)).toNat
                                  (0 : Int))).getD
                          (0 : Nat) (0 : Int))))]
          else False
        else False) := by kernel_rfl
theorem ex86a (n : Int) (xs : List Int) (K : Ex → List AV → List Blk → Prop) : evBody E86 (lb Try.f86 0) [7, 8] [7] [.one (.own 0 1), .one (.int .i64 n)] [.row 3 (.ints .i64 xs)] K = (
  bif decide (n < (↑xs.length : Int)) then
    bif decide ((0 : Int) ≤ n) && (decide (xs.length ≤ xs.length) && decide (n.toNat ≤ xs.length)) then
      bif decide ((0 : Int) ≤ n) && (decide (n.toNat ≤ xs.length) && decide ((0 : Nat) ≤ n.toNat)) then
        bif
            decide ((0 : Nat) + (n.toNat - (0 : Nat)) ≤ xs.length) &&
              decide (n.toNat + (xs.length - n.toNat) ≤ xs.length) then
          K Ex.normal
            [AV.one (SV.own (0 : Nat) (1 : Nat)),
              AV.one
                (SV.int IntKind.i64
                  (IntKind.i64.wrap
                    (n + (↑(min (List.take (n.toNat - (0 : Nat)) xs).length (xs.length - n.toNat)) : Int))))]
            [Blk.row (3 : TypeId)
                (Row.ints IntKind.i64
                  (List.take n.toNat xs ++ List.take (xs.length - n.toNat) (List.take (n.toNat - (0 : Nat)) xs) ++
                    List.drop (n.toNat + min (List.take (n.toNat - (0 : Nat)) xs).length (xs.length - n.toNat)) xs))]
        else False
      else False
    else False
  else K (Ex.exit (0 : Nat)) [AV.one (SV.own (0 : Nat) (1 : Nat))] [Blk.row (3 : TypeId) (Row.ints IntKind.i64 xs)]) := by kernel_rfl
end Go.Ev
