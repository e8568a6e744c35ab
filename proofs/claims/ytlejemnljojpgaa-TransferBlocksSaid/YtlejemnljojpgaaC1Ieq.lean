/-
  Part of the proof of a law: what bodies come to on abstract values (printed by program).
-/
import Derived.Test.YtlejemnljojpgaaC1I
import Derived.KernelRfl
namespace Go.Ev
open Go Go.Proofs
set_option maxRecDepth 100000
theorem ex108 (n : Int) (K : AV → List Blk → Prop) : evFn E108 Try.f108 [.one (.int .i64 n)] [] K = (
  K (AV.one (SV.bool (decide ((-32767 : Int) ≤ n) && decide (n ≤ (32767 : Int))))) []) := by kernel_rfl
theorem ex81 (l : List Int) (K : AV → List Blk → Prop) : evFn E81 Try.f81 [.one (.data (.ints .i64 l))] [] K = (
  (l.length ≤ (1000000000 : Nat) ∧ (0 : Int) ≤ (0 : Int)) ∧
    bif l.all sampleG then K (AV.one (SV.bool true)) [] else K (AV.one (SV.bool false)) []) := by kernel_rfl
theorem ex81a (l : List Int) (i : Int) (K : Ex → List AV → List Blk → Prop) : evBody E81 (lb Try.f81 0) [0, 3] [2] [.one (.data (.ints .i64 l)), .one (.int .i64 i)] [] K = (
  bif decide (i < (↑l.length : Int)) then
    bif decide ((0 : Int) ≤ i) && decide (i < (↑l.length : Int)) then
      bif decide (i.toNat + (0 : Nat) < l.length) then
        bif !sampleG (l.getD (i.toNat + (0 : Nat)) (0 : Int)) then K Ex.ret [AV.one (SV.bool false)] []
        else
          K Ex.normal
            [AV.one (SV.data (Row.ints IntKind.i64 l)), AV.one (SV.int IntKind.i64 (IntKind.i64.wrap (i + (1 : Int))))] []
      else False
    else False
  else K (Ex.exit (0 : Nat)) [AV.any] []) := by kernel_rfl
theorem ex80 (n : Int) (K : AV → List Blk → Prop) : evFn E80 Try.f80 [.one (.int .i64 n)] [] K = (
  bif !(decide ((0 : Int) ≤ n) && decide (n ≤ (3 : Int))) then K (AV.one (SV.int IntKind.i64 (2 : Int))) []
  else K (AV.one (SV.int IntKind.i64 (0 : Int))) []) := by kernel_rfl
theorem ex23 (c ch x0 x1 x2 x3 x4 x5 x6 x7 sm : Int) (K : AV → List Blk → Prop) : evFn E23 Try.f23 [.agg [.int .i64 c, .int .i64 ch, .int .i64 x0, .int .i64 x1, .int .i64 x2, .int .i64 x3, .int .i64 x4, .int .i64 x5, .int .i64 x6, .int .i64 x7, .int .i64 sm]] [] K = (
  bif !(decide ((0 : Int) ≤ c) && decide (c ≤ (65535 : Int))) then K (AV.one (SV.int IntKind.i64 (2 : Int))) []
  else
    bif (bif withinG ch (0 : Int) (3 : Int) then (0 : Int) else (2 : Int)) != (0 : Int) then
      K (AV.one (SV.int IntKind.i64 (2 : Int))) []
    else
      [x0, x1, x2, x3, x4, x5, x6, x7].length ≤ (1000000000 : Nat) ∧
        bif ![x0, x1, x2, x3, x4, x5, x6, x7].all sampleG then K (AV.one (SV.int IntKind.i64 (2 : Int))) []
        else K (AV.one (SV.int IntKind.i64 (0 : Int))) []) := by kernel_rfl
theorem ex26 (n b : Int) (K : AV → List Blk → Prop) : evFn E26 Try.f26 [.one (.int .i64 n), .one (.int .i64 b)] [] K = (
  bif !decide (b = (0 : Int)) then
    bif decide (n.tmod b < (0 : Int)) then K (AV.one (SV.int IntKind.i64 (IntKind.i64.wrap (n.tmod b + b)))) []
    else K (AV.one (SV.int IntKind.i64 (n.tmod b))) []
  else False) := by kernel_rfl
theorem ex24 (c ch x0 x1 x2 x3 x4 x5 x6 x7 sm : Int) (K : AV → List Blk → Prop) : evFn E24 Try.f24 [.agg [.int .i64 c, .int .i64 ch, .int .i64 x0, .int .i64 x1, .int .i64 x2, .int .i64 x3, .int .i64 x4, .int .i64 x5, .int .i64 x6, .int .i64 x7, .int .i64 sm]] [] K = (
  (65537 : Int) ≠ (0 : Int) ∧
    K
      (AV.one
        (SV.int IntKind.i64
          (modB
            (IntKind.i64.wrap
              (IntKind.i64.wrap
                  (IntKind.i64.wrap
                      (IntKind.i64.wrap
                          (IntKind.i64.wrap
                              (IntKind.i64.wrap
                                  (IntKind.i64.wrap
                                      (IntKind.i64.wrap
                                          (IntKind.i64.wrap
                                              (IntKind.i64.wrap ((9 : Int) * c) + IntKind.i64.wrap ((10 : Int) * ch)) +
                                            IntKind.i64.wrap ((1 : Int) * IntKind.i64.wrap (x0 + (32768 : Int)))) +
                                        IntKind.i64.wrap ((2 : Int) * IntKind.i64.wrap (x1 + (32768 : Int)))) +
                                    IntKind.i64.wrap ((3 : Int) * IntKind.i64.wrap (x2 + (32768 : Int)))) +
                                IntKind.i64.wrap ((4 : Int) * IntKind.i64.wrap (x3 + (32768 : Int)))) +
                            IntKind.i64.wrap ((5 : Int) * IntKind.i64.wrap (x4 + (32768 : Int)))) +
                        IntKind.i64.wrap ((6 : Int) * IntKind.i64.wrap (x5 + (32768 : Int)))) +
                    IntKind.i64.wrap ((7 : Int) * IntKind.i64.wrap (x6 + (32768 : Int)))) +
                IntKind.i64.wrap ((8 : Int) * IntKind.i64.wrap (x7 + (32768 : Int)))))
            (65537 : Int))))
      []) := by kernel_rfl
theorem ex22 (c ch x0 x1 x2 x3 x4 x5 x6 x7 sm : Int) (K : AV → List Blk → Prop) : evFn E22 Try.f22 [.agg [.int .i64 c, .int .i64 ch, .int .i64 x0, .int .i64 x1, .int .i64 x2, .int .i64 x3, .int .i64 x4, .int .i64 x5, .int .i64 x6, .int .i64 x7, .int .i64 sm]] [] K = (
  bif (bif contentG c ch [x0, x1, x2, x3, x4, x5, x6, x7] then (0 : Int) else (2 : Int)) != (0 : Int) then
    K (AV.one (SV.int IntKind.i64 (bif contentG c ch [x0, x1, x2, x3, x4, x5, x6, x7] then (0 : Int) else (2 : Int)))) []
  else
    contentG c ch [x0, x1, x2, x3, x4, x5, x6, x7] = true ∧
      bif sm != sumG c ch [x0, x1, x2, x3, x4, x5, x6, x7] then K (AV.one (SV.int IntKind.i64 (20 : Int))) []
      else K (AV.one (SV.int IntKind.i64 (0 : Int))) []) := by kernel_rfl
theorem ex21 (c ch x0 x1 x2 x3 x4 x5 x6 x7 sm : Int) (K : AV → List Blk → Prop) : evFn E21 Try.f21 [.agg [.int .i64 c, .int .i64 ch, .int .i64 x0, .int .i64 x1, .int .i64 x2, .int .i64 x3, .int .i64 x4, .int .i64 x5, .int .i64 x6, .int .i64 x7, .int .i64 sm]] [] K = (
  bif contentG c ch [x0, x1, x2, x3, x4, x5, x6, x7] then
    [(0 : Int), bif sm == sumG c ch [x0, x1, x2, x3, x4, x5, x6, x7] then (0 : Int) else (20 : Int)].length ≤
        (1000 : Nat) ∧
      K
        (AV.one
          (SV.int IntKind.i64
            (firstE [(0 : Int), bif sm == sumG c ch [x0, x1, x2, x3, x4, x5, x6, x7] then (0 : Int) else (20 : Int)])))
        []
  else
    [(2 : Int), bif sm == (0 : Int) then (0 : Int) else (20 : Int)].length ≤ (1000 : Nat) ∧
      K (AV.one (SV.int IntKind.i64 (firstE [(2 : Int), bif sm == (0 : Int) then (0 : Int) else (20 : Int)]))) []) := by kernel_rfl
theorem ex4 (c ch x0 x1 x2 x3 x4 x5 x6 x7 sm : Int) (K : AV → List Blk → Prop) : evFn E4 Try.f4 [.agg [.int .i64 c, .int .i64 ch, .int .i64 x0, .int .i64 x1, .int .i64 x2, .int .i64 x3, .int .i64 x4, .int .i64 x5, .int .i64 x6, .int .i64 x7, .int .i64 sm]] [] K = (
  bif contentG c ch [x0, x1, x2, x3, x4, x5, x6, x7] then
    bif blockE c ch [x0, x1, x2, x3, x4, x5, x6, x7] sm != blockE c ch [x0, x1, x2, x3, x4, x5, x6, x7] sm then
      K (AV.one (SV.bool false)) []
    else
      bif (bif contentG c ch [x0, x1, x2, x3, x4, x5, x6, x7] then (0 : Int) else (2 : Int)) != (0 : Int) then
        bif (0 : Int) == bif contentG c ch [x0, x1, x2, x3, x4, x5, x6, x7] then (0 : Int) else (2 : Int) then
          K (AV.one (SV.bool (sumG c ch [x0, x1, x2, x3, x4, x5, x6, x7] == (0 : Int)))) []
        else K (AV.one (SV.bool false)) []
      else
        contentG c ch [x0, x1, x2, x3, x4, x5, x6, x7] = true ∧
          K (AV.one (SV.bool (sumG c ch [x0, x1, x2, x3, x4, x5, x6, x7] == sumG c ch [x0, x1, x2, x3, x4, x5, x6, x7])))
            []
  else
    bif blockE c ch [x0, x1, x2, x3, x4, x5, x6, x7] sm != blockE c ch [x0, x1, x2, x3, x4, x5, x6, x7] sm then
      K (AV.one (SV.bool false)) []
    else
      bif (bif contentG c ch [x0, x1, x2, x3, x4, x5, x6, x7] then (0 : Int) else (2 : Int)) != (0 : Int) then
        bif (2 : Int) == bif contentG c ch [x0, x1, x2, x3, x4, x5, x6, x7] then (0 : Int) else (2 : Int) then
          K (AV.one (SV.bool true)) []
        else K (AV.one (SV.bool false)) []
      else K (AV.one (SV.bool false)) []) := by kernel_rfl
theorem ex5 (c ch x0 x1 x2 x3 x4 x5 x6 x7 sm at_ by_ : Int) (K : AV → List Blk → Prop) : evFn E5 Try.f5 [.agg [.int .i64 c, .int .i64 ch, .int .i64 x0, .int .i64 x1, .int .i64 x2, .int .i64 x3, .int .i64 x4, .int .i64 x5, .int .i64 x6, .int .i64 x7, .int .i64 sm], .one (.int .i64 at_), .one (.int .i64 by_)] [] K = (
  bif (bif contentG c ch [x0, x1, x2, x3, x4, x5, x6, x7] then (0 : Int) else (2 : Int)) != (0 : Int) then
    K (AV.one (SV.bool true)) []
  else
    bif contentG c ch [x0, x1, x2, x3, x4, x5, x6, x7] then
      bif blockE c ch [x0, x1, x2, x3, x4, x5, x6, x7] (sumG c ch [x0, x1, x2, x3, x4, x5, x6, x7]) != (0 : Int) then
        K (AV.one (SV.bool false)) []
      else
        bif
            !(decide ((0 : Int) ≤ sumG c ch [x0, x1, x2, x3, x4, x5, x6, x7]) &&
                decide (sumG c ch [x0, x1, x2, x3, x4, x5, x6, x7] ≤ (65536 : Int))) then
          K (AV.one (SV.bool false)) []
        else
          bif !(decide ((-200000 : Int) ≤ by_) && decide (by_ ≤ (200000 : Int))) then K (AV.one (SV.bool true)) []
          else
            bif by_.tmod (65537 : Int) == (0 : Int) then K (AV.one (SV.bool true)) []
            else
              (11 : Int) = (11 : Int) ∧
                (modB at_ (11 : Int) = (0 : Int) →
                    K
                      (AV.one
                        (SV.bool
                          (blockE c ch [IntKind.i64.wrap (x0 + by_), x1, x2, x3, x4, x5, x6, x7]
                              (sumG c ch [x0, x1, x2, x3, x4, x5, x6, x7]) !=
                            (0 : Int))))
                      []) ∧
                  (modB at_ (11 : Int) = (1 : Int) →
                      K
                        (AV.one
                          (SV.bool
                            (blockE c ch [x0, IntKind.i64.wrap (x1 + by_), x2, x3, x4, x5, x6, x7]
                                (sumG c ch [x0, x1, x2, x3, x4, x5, x6, x7]) !=
                              (0 : Int))))
                        []) ∧
                    (modB at_ (11 : Int) = (2 : Int) →
                        K
                          (AV.one
                            (SV.bool
                              (blockE c ch [x0, x1, IntKind.i64.wrap (x2 + by_), x3, x4, x5, x6, x7]
                                  (sumG c ch [x0, x1, x2, x3, x4, x5, x6, x7]) !=
                                (0 : Int))))
                          []) ∧
                      (modB at_ (11 : Int) = (3 : Int) →
                          K
                            (AV.one
                              (SV.bool
                                (blockE c ch [x0, x1, x2, IntKind.i64.wrap (x3 + by_), x4, x5, x6, x7]
                                    (sumG c ch [x0, x1, x2, x3, x4, x5, x6, x7]) !=
                                  (0 : Int))))
                            []) ∧
                        (modB at_ (11 : Int) = (4 : Int) →
                            K
                              (AV.one
                                (SV.bool
                                  (blockE c ch [x0, x1, x2, x3, IntKind.i64.wrap (x4 + by_), x5, x6, x7]
                                      (sumG c ch [x0, x1, x2, x3, x4, x5, x6, x7]) !=
                                    (0 : Int))))
                              []) ∧
                          (modB at_ (11 : Int) = (5 : Int) →
                              K
                                (AV.one
                                  (SV.bool
                                    (blockE c ch [x0, x1, x2, x3, x4, IntKind.i64.wrap (x5 + by_), x6, x7]
                                        (sumG c ch [x0, x1, x2, x3, x4, x5, x6, x7]) !=
                                      (0 : Int))))
                                []) ∧
                            (modB at_ (11 : Int) = (6 : Int) →
                                K
                                  (AV.one
                                    (SV.bool
                                      (blockE c ch [x0, x1, x2, x3, x4, x5, IntKind.i64.wrap (x6 + by_), x7]
                                          (sumG c ch [x0, x1, x2, x3, x4, x5, x6, x7]) !=
                                        (0 : Int))))
                                  []) ∧
                              (modB at_ (11 : Int) = (7 : Int) →
                                  K
                                    (AV.one
                                      (SV.bool
                                        (blockE c ch [x0, x1, x2, x3, x4, x5, x6, IntKind.i64.wrap (x7 + by_)]
                                            (sumG c ch [x0, x1, x2, x3, x4, x5, x6, x7]) !=
                                          (0 : Int))))
                                    []) ∧
                                (modB at_ (11 : Int) = (8 : Int) →
                                    K
                                      (AV.one
                                        (SV.bool
                                          (blockE (IntKind.i64.wrap (c + by_)) ch [x0, x1, x2, x3, x4, x5, x6, x7]
                                              (sumG c ch [x0, x1, x2, x3, x4, x5, x6, x7]) !=
                                            (0 : Int))))
                                      []) ∧
                                  (modB at_ (11 : Int) = (9 : Int) →
                                      K
                                        (AV.one
                                          (SV.bool
                                            (blockE c (IntKind.i64.wrap (ch + by_)) [x0, x1, x2, x3, x4, x5, x6, x7]
                                                (sumG c ch [x0, x1, x2, x3, x4, x5, x6, x7]) !=
                                              (0 : Int))))
                                        []) ∧
                                    (modB at_ (11 : Int) = (10 : Int) →
                                      K
                                        (AV.one
                                          (SV.bool
                                            (blockE c ch [x0, x1, x2, x3, x4, x5, x6, x7]
                                                (IntKind.i64.wrap (sumG c ch [x0, x1, x2, x3, x4, x5, x6, x7] + by_)) !=
                                              (0 : Int))))
                                        [])
    else K (AV.one (SV.bool false)) []) := by kernel_rfl
end Go.Ev
