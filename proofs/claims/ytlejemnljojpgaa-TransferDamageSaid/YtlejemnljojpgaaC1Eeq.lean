/-
  Part of the proof of a law: what bodies come to on abstract values (printed by program).
-/
import Derived.Test.YtlejemnljojpgaaC1E
import Derived.KernelRfl
namespace Go.Ev
open Go Go.Proofs
set_option maxRecDepth 100000
theorem ex92 (n : Int) (K : AV → List Blk → Prop) : evFn E92 Try.f92 [.one (.int .i64 n)] [] K = (
  K
    (AV.one
      (SV.int IntKind.i64 (bif decide ((-32767 : Int) ≤ n) && decide (n ≤ (32767 : Int)) then (0 : Int) else (2 : Int))))
    []) := by kernel_rfl
theorem ex93 (n : Int) (K : AV → List Blk → Prop) : evFn E92 Try.f93 [.one (.int .i64 n)] [] K = (
  K (AV.one (SV.int IntKind.i64 (bif decide ((0 : Int) ≤ n) && decide (n ≤ (3 : Int)) then (0 : Int) else (2 : Int)))) []) := by kernel_rfl
theorem ex94 (n : Int) (K : AV → List Blk → Prop) : evFn E94 Try.f94 [.one (.int .i64 n)] [] K = (
  K (AV.one (SV.bool (decide ((0 : Int) ≤ n) && decide (n ≤ (65535 : Int))))) []) := by kernel_rfl
theorem ex97 (n : Int) (K : AV → List Blk → Prop) : evFn E94 Try.f97 [.one (.int .i64 n)] [] K = (
  K (AV.one (SV.bool (decide ((0 : Int) ≤ n) && decide (n ≤ (65536 : Int))))) []) := by kernel_rfl
theorem ex116 (n : Int) (K : AV → List Blk → Prop) : evFn E116 Try.f116 [.one (.int .i64 n)] [] K = (
  K (AV.one (SV.int IntKind.i64 ((IntKind.i64.wrap (n.tmod (65537 : Int) + (65537 : Int))).tmod (65537 : Int)))) []) := by kernel_rfl
theorem ex130 (a b : Int) (K : AV → List Blk → Prop) : evFn E130 Try.f130 [.one (.int .i64 a), .one (.int .i64 b)] [] K = (
  K (AV.one (SV.int IntKind.i64 (modG (IntKind.i64.wrap (a * b))))) []) := by kernel_rfl
theorem ex98 (a : Int) (K : AV → List Blk → Prop) : evFn E98 Try.f98 [.one (.int .i64 a)] [] K = (
  ((0 : Int) ≤ (1 : Int) ∧
      (1 : Int) < (65537 : Int) ∧
        (0 : Int) ≤ a ∧ a < (65537 : Int) ∧ (0 : Int) ≤ (65535 : Int) ∧ (65535 : Int) ≤ (65535 : Int)) ∧
    K (AV.one (SV.int IntKind.i64 (invF (1 : Int) a (65535 : Nat)))) []) := by kernel_rfl
theorem ex98a (a b n : Int) (K : Ex → List AV → List Blk → Prop) : evBody E98 (lb Try.f98 0) [3, 4, 5] [3] [.one (.int .i64 a), .one (.int .i64 b), .one (.int .i64 n)] [] K = (
  bif decide (n > (0 : Int)) then
    bif n.tmod (2 : Int) == (1 : Int) then
      ((0 : Int) ≤ a ∧ a < (65537 : Int) ∧ (0 : Int) ≤ b ∧ b < (65537 : Int)) ∧
        ((0 : Int) ≤ b ∧ b < (65537 : Int) ∧ (0 : Int) ≤ b ∧ b < (65537 : Int)) ∧
          K Ex.normal
            [AV.one (SV.int IntKind.i64 (modG (a * b))), AV.one (SV.int IntKind.i64 (modG (b * b))),
              AV.one (SV.int IntKind.i64 (IntKind.i64.wrap (n.tdiv (2 : Int))))]
            []
    else
      ((0 : Int) ≤ b ∧ b < (65537 : Int) ∧ (0 : Int) ≤ b ∧ b < (65537 : Int)) ∧
        K Ex.normal
          [AV.one (SV.int IntKind.i64 a), AV.one (SV.int IntKind.i64 (modG (b * b))),
            AV.one (SV.int IntKind.i64 (IntKind.i64.wrap (n.tdiv (2 : Int))))]
          []
  else K (Ex.exit (0 : Nat)) [AV.one (SV.int IntKind.i64 a)] []) := by kernel_rfl
theorem ex39 (n : Int) (K : AV → List Blk → Prop) : evFn E39 Try.f39 [.one (.int .i64 n)] [] K = (
  [bif withinG n (0 : Int) (65536 : Int) then (0 : Int) else (2 : Int),
          bif n != (0 : Int) then (0 : Int) else (11 : Int)].length ≤
      (1000 : Nat) ∧
    bif
        firstE
            [bif withinG n (0 : Int) (65536 : Int) then (0 : Int) else (2 : Int),
              bif n != (0 : Int) then (0 : Int) else (11 : Int)] !=
          (0 : Int) then
      K
        (AV.tup
          [TV.one (SV.int IntKind.i64 (0 : Int)),
            TV.one
              (SV.int IntKind.i64
                (firstE
                  [bif withinG n (0 : Int) (65536 : Int) then (0 : Int) else (2 : Int),
                    bif n != (0 : Int) then (0 : Int) else (11 : Int)]))])
        []
    else
      ((0 : Int) ≤ n ∧ n < (65537 : Int)) ∧
        K (AV.tup [TV.one (SV.int IntKind.i64 (invG n)), TV.one (SV.int IntKind.i64 (0 : Int))]) []) := by kernel_rfl
theorem ex91 (l : List Int) (K : AV → List Blk → Prop) : evFn E91 Try.f91 [.one (.data (.ints .i64 l)), .one (.func 92 [])] [] K = (
  (l.length ≤ (1000000000 : Nat) ∧ (0 : Int) ≤ (0 : Int) ∧ (↑(Row.ints IntKind.i64 l).count : Int) = (↑l.length : Int)) ∧
    bif (List.drop (0 : Nat) l).all sampleG then K (AV.one (SV.int IntKind.i64 (0 : Int))) []
    else K (AV.one (SV.int IntKind.i64 (2 : Int))) []) := by kernel_rfl
theorem ex91a (l : List Int) (n i : Int) (K : Ex → List AV → List Blk → Prop) : evBody E91 (lb Try.f91 0) [1, 8, 9, 10] [4] [.one (.func 92 []), .one (.data (.ints .i64 l)), .one (.int .i64 n), .one (.int .i64 i)] [] K = (
  bif decide (i < n) then
    bif decide ((0 : Int) ≤ i) && decide (i < (↑(Row.ints IntKind.i64 l).count : Int)) then
      bif (Row.ints IntKind.i64 l).hasN i.toNat (0 : Nat) (1 : Nat) then
        bif (bif sampleG (l.getD (i.toNat + (0 : Nat)) (0 : Int)) then (0 : Int) else (2 : Int)) != (0 : Int) then
          K Ex.ret
            [AV.one
                (SV.int IntKind.i64 (bif sampleG (l.getD (i.toNat + (0 : Nat)) (0 : Int)) then (0 : Int) else (2 : Int)))]
            []
        else
          K Ex.normal
            [AV.one (SV.func (92 : FuncId) []), AV.one (SV.data (Row.ints IntKind.i64 l)), AV.one (SV.int IntKind.i64 n),
              AV.one (SV.int IntKind.i64 (IntKind.i64.wrap (i + (1 : Int))))]
            []
      else False
    else False
  else K (Ex.exit (0 : Nat)) [AV.any] []) := by kernel_rfl
theorem ex82 (x0 x1 x2 x3 x4 x5 x6 x7 : Int) (K : AV → List Blk → Prop) : evFn E82 Try.f82 [.agg [.int .i64 x0, .int .i64 x1, .int .i64 x2, .int .i64 x3, .int .i64 x4, .int .i64 x5, .int .i64 x6, .int .i64 x7]] [] K = (
  [x0, x1, x2, x3, x4, x5, x6, x7].length ≤ (1000000000 : Nat) ∧
    K (AV.one (SV.int IntKind.i64 (bif [x0, x1, x2, x3, x4, x5, x6, x7].all sampleG then (0 : Int) else (2 : Int)))) []) := by kernel_rfl
theorem ex78 (c ch x0 x1 x2 x3 x4 x5 x6 x7 sm : Int) (K : AV → List Blk → Prop) : evFn E78 Try.f78 [.agg [.int .i64 c, .int .i64 ch, .int .i64 x0, .int .i64 x1, .int .i64 x2, .int .i64 x3, .int .i64 x4, .int .i64 x5, .int .i64 x6, .int .i64 x7, .int .i64 sm]] [] K = (
  [bif withinG c (0 : Int) (65535 : Int) then (0 : Int) else (2 : Int),
          bif withinG ch (0 : Int) (3 : Int) then (0 : Int) else (2 : Int),
          bif [x0, x1, x2, x3, x4, x5, x6, x7].all sampleG then (0 : Int) else (2 : Int)].length ≤
      (1000 : Nat) ∧
    K
      (AV.one
        (SV.int IntKind.i64
          (firstE
            [bif withinG c (0 : Int) (65535 : Int) then (0 : Int) else (2 : Int),
              bif withinG ch (0 : Int) (3 : Int) then (0 : Int) else (2 : Int),
              bif [x0, x1, x2, x3, x4, x5, x6, x7].all sampleG then (0 : Int) else (2 : Int)])))
      []) := by kernel_rfl
theorem ex79 (c ch x0 x1 x2 x3 x4 x5 x6 x7 sm : Int) (K : AV → List Blk → Prop) : evFn E79 Try.f79 [.agg [.int .i64 c, .int .i64 ch, .int .i64 x0, .int .i64 x1, .int .i64 x2, .int .i64 x3, .int .i64 x4, .int .i64 x5, .int .i64 x6, .int .i64 x7, .int .i64 sm]] [] K = (
  K
    (AV.one
      (SV.int IntKind.i64
        ((IntKind.i64.wrap
              (IntKind.i64.wrap
                  (IntKind.i64.wrap
                      (IntKind.i64.wrap
                          (IntKind.i64.wrap
                              (IntKind.i64.wrap
                                  (IntKind.i64.wrap
                                      (IntKind.i64.wrap
                                          (IntKind.i64.wrap
                                              (IntKind.i64.wrap ((9 : Int) * c) + IntKind.i64.wrap ((10 : Int) * ch)) +
                                            IntKind.i64.wrap ((1 : Int) * IntKind.i64.wrap (x0 + (32768 : Int)))) +
                                        IntKind.i64.wrap ((2 : Int) * IntKind.i64.wrap (x1 + (32768 : Int)))) +
                                    IntKind.i64.wrap ((3 : Int) * IntKind.i64.wrap (x2 + (32768 : Int)))) +
                                IntKind.i64.wrap ((4 : Int) * IntKind.i64.wrap (x3 + (32768 : Int)))) +
                            IntKind.i64.wrap ((5 : Int) * IntKind.i64.wrap (x4 + (32768 : Int)))) +
                        IntKind.i64.wrap ((6 : Int) * IntKind.i64.wrap (x5 + (32768 : Int)))) +
                    IntKind.i64.wrap ((7 : Int) * IntKind.i64.wrap (x6 + (32768 : Int)))) +
                IntKind.i64.wrap ((8 : Int) * IntKind.i64.wrap (x7 + (32768 : Int))))).tmod
          (65537 : Int))))
    []) := by kernel_rfl
theorem ex20 (c ch x0 x1 x2 x3 x4 x5 x6 x7 sm : Int) (K : AV → List Blk → Prop) : evFn E20 Try.f20 [.agg [.int .i64 c, .int .i64 ch, .int .i64 x0, .int .i64 x1, .int .i64 x2, .int .i64 x3, .int .i64 x4, .int .i64 x5, .int .i64 x6, .int .i64 x7, .int .i64 sm]] [] K = (
  bif (bif contentG c ch [x0, x1, x2, x3, x4, x5, x6, x7] then (0 : Int) else (2 : Int)) != (0 : Int) then
    K
      (AV.tup
        [TV.one (SV.int IntKind.i64 (0 : Int)),
          TV.one (SV.int IntKind.i64 (bif contentG c ch [x0, x1, x2, x3, x4, x5, x6, x7] then (0 : Int) else (2 : Int)))])
      []
  else
    contentG c ch [x0, x1, x2, x3, x4, x5, x6, x7] = true ∧
      K
        (AV.tup
          [TV.one (SV.int IntKind.i64 (sumG c ch [x0, x1, x2, x3, x4, x5, x6, x7])),
            TV.one (SV.int IntKind.i64 (0 : Int))])
        []) := by kernel_rfl
theorem ex30 (a b : List Int) (K : AV → List Blk → Prop) : evFn E30 Try.f30 [.one (.data (.ints .i64 a)), .one (.data (.ints .i64 b))] [] K = (
  bif (↑(Row.ints IntKind.i64 a).count : Int) != (↑(Row.ints IntKind.i64 b).count : Int) then
    K (AV.one (SV.bool false)) []
  else
    (a.length ≤ (1000000000 : Nat) ∧ a.length = b.length ∧ (0 : Int) ≤ (0 : Int)) ∧
      bif List.drop (0 : Nat) a == List.drop (0 : Nat) b then K (AV.one (SV.bool true)) []
      else K (AV.one (SV.bool false)) []) := by kernel_rfl
theorem ex30a (a b : List Int) (i : Int) (K : Ex → List AV → List Blk → Prop) : evBody E30 (lb Try.f30 0) [0, 1, 5] [4] [.one (.data (.ints .i64 a)), .one (.data (.ints .i64 b)), .one (.int .i64 i)] [] K = (
  bif decide (i < (↑(Row.ints IntKind.i64 a).count : Int)) then
    bif decide ((0 : Int) ≤ i) && decide (i < (↑(Row.ints IntKind.i64 a).count : Int)) then
      bif (Row.ints IntKind.i64 a).hasN i.toNat (0 : Nat) (1 : Nat) then
        bif decide ((0 : Int) ≤ i) && decide (i < (↑(Row.ints IntKind.i64 b).count : Int)) then
          bif (Row.ints IntKind.i64 b).hasN i.toNat (0 : Nat) (1 : Nat) then
            bif a.getD (i.toNat + (0 : Nat)) (0 : Int) != b.getD (i.toNat + (0 : Nat)) (0 : Int) then
              K Ex.ret [AV.one (SV.bool false)] []
            else
              K Ex.normal
                [AV.one (SV.data (Row.ints IntKind.i64 a)), AV.one (SV.data (Row.ints IntKind.i64 b)),
                  AV.one (SV.int IntKind.i64 (IntKind.i64.wrap (i + (1 : Int))))]
                []
          else False
        else False
      else False
    else False
  else K (Ex.exit (0 : Nat)) [AV.any] []) := by kernel_rfl
end Go.Ev
