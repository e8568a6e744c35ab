/-
  Part of the proof of a law: what bodies come to on abstract values (printed by program).
-/
import Derived.Test.YtlejemnljojpgaaC1D
import Derived.KernelRfl
namespace Go.Ev
open Go Go.Proofs
set_option maxRecDepth 100000
theorem ex19 (nm : List UInt8) (k s n d rate : Int) (K : AV → List Blk → Prop) : evFn E19 Try.f19 [.agg [.str nm, .int .i64 k, .int .i64 s, .int .i64 n, .int .i64 d], .one (.int .i64 rate)] [] K = (
  bif k == (2 : Int) then
    K
      (AV.tup
        [TV.agg [SV.int IntKind.i64 (0 : Int), SV.int IntKind.i64 (0 : Int)], TV.one (SV.int IntKind.i64 (15 : Int))])
      []
  else
    bif !(decide ((1 : Int) ≤ rate) && decide (rate ≤ (200000 : Int))) then
      K
        (AV.tup
          [TV.agg [SV.int IntKind.i64 (0 : Int), SV.int IntKind.i64 (0 : Int)], TV.one (SV.int IntKind.i64 (2 : Int))])
        []
    else
      divG (IntKind.i64.wrap (IntKind.i64.wrap (rate * (60 : Int)) * d)) n ≠ (0 : Int) ∧
        bif
            !smallG
                (wi
                  ((IntKind.i64.wrap (IntKind.i64.wrap (rate * (60 : Int)) * d)).tdiv
                    (divG (IntKind.i64.wrap (IntKind.i64.wrap (rate * (60 : Int)) * d)) n)))
                (wi (n.tdiv (divG (IntKind.i64.wrap (IntKind.i64.wrap (rate * (60 : Int)) * d)) n))) then
          K
            (AV.tup
              [TV.agg [SV.int IntKind.i64 (0 : Int), SV.int IntKind.i64 (0 : Int)],
                TV.one (SV.int IntKind.i64 (8 : Int))])
            []
        else
          K
            (AV.tup
              [TV.agg
                  [SV.int IntKind.i64
                      (wi
                        ((IntKind.i64.wrap (IntKind.i64.wrap (rate * (60 : Int)) * d)).tdiv
                          (divG (IntKind.i64.wrap (IntKind.i64.wrap (rate * (60 : Int)) * d)) n))),
                    SV.int IntKind.i64
                      (wi (n.tdiv (divG (IntKind.i64.wrap (IntKind.i64.wrap (rate * (60 : Int)) * d)) n)))],
                TV.one (SV.int IntKind.i64 (0 : Int))])
            []) := by kernel_rfl
theorem ex16 (nm : List UInt8) (k s n d rate : Int) (K : AV → List Blk → Prop) : evFn E16 Try.f16 [.agg [.str nm, .int .i64 k, .int .i64 s, .int .i64 n, .int .i64 d], .one (.int .i64 rate)] [] K = (
  nm.length ≤ (1000000 : Nat) ∧
    [carrierG nm k s n d, bif k != (2 : Int) then (0 : Int) else (15 : Int),
            bif decide ((1 : Int) ≤ rate) && decide (rate ≤ (200000 : Int)) then (0 : Int) else (2 : Int)].length ≤
        (1000 : Nat) ∧
      bif
          firstE
              [carrierG nm k s n d, bif k != (2 : Int) then (0 : Int) else (15 : Int),
                bif decide ((1 : Int) ≤ rate) && decide (rate ≤ (200000 : Int)) then (0 : Int) else (2 : Int)] !=
            (0 : Int) then
        K
          (AV.tup
            [TV.agg [SV.int IntKind.i64 (0 : Int), SV.int IntKind.i64 (0 : Int)],
              TV.one
                (SV.int IntKind.i64
                  (firstE
                    [carrierG nm k s n d, bif k != (2 : Int) then (0 : Int) else (15 : Int),
                      bif decide ((1 : Int) ≤ rate) && decide (rate ≤ (200000 : Int)) then (0 : Int) else (2 : Int)]))])
          []
      else
        bif !decide (sizeG (gcdG (IntKind.i64.wrap (IntKind.i64.wrap (rate * (60 : Int)) * d)) n) = (0 : Int)) then
          bif !decide (sizeG (gcdG (IntKind.i64.wrap (IntKind.i64.wrap (rate * (60 : Int)) * d)) n) = (0 : Int)) then
            bif
                decide
                  (IntKind.i64.wrap
                      ((IntKind.i64.wrap (IntKind.i64.wrap (rate * (60 : Int)) * d)).tdiv
                        (sizeG (gcdG (IntKind.i64.wrap (IntKind.i64.wrap (rate * (60 : Int)) * d)) n))) >
                    (1000000000 : Int)) then
              K
                (AV.tup
                  [TV.agg [SV.int IntKind.i64 (0 : Int), SV.int IntKind.i64 (0 : Int)],
                    TV.one (SV.int IntKind.i64 (8 : Int))])
                []
            else
              bif
                  decide
                    (IntKind.i64.wrap
                        (n.tdiv (sizeG (gcdG (IntKind.i64.wrap (IntKind.i64.wrap (rate * (60 : Int)) * d)) n))) >
                      (1000000000 : Int)) then
                K
                  (AV.tup
                    [TV.agg [SV.int IntKind.i64 (0 : Int), SV.int IntKind.i64 (0 : Int)],
                      TV.one (SV.int IntKind.i64 (8 : Int))])
                  []
              else
                K
                  (AV.tup
                    [TV.agg
                        [SV.int IntKind.i64
                            (IntKind.i64.wrap
                              ((IntKind.i64.wrap (IntKind.i64.wrap (rate * (60 : Int)) * d)).tdiv
                                (sizeG (gcdG (IntKind.i64.wrap (IntKind.i64.wrap (rate * (60 : Int)) * d)) n)))),
                          SV.int IntKind.i64
                            (IntKind.i64.wrap
                              (n.tdiv (sizeG (gcdG (IntKind.i64.wrap (IntKind.i64.wrap (rate * (60 : Int)) * d)) n))))],
                      TV.one (SV.int IntKind.i64 (0 : Int))])
                  []
          else False
        else False) := by kernel_rfl
end Go.Ev
