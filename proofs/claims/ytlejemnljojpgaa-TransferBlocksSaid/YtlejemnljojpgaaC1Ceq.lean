/-
  Part of the proof of a law: what bodies come to on abstract values (printed by program).
-/
import Derived.Test.YtlejemnljojpgaaC1C
import Derived.KernelRfl
namespace Go.Ev
open Go Go.Proofs
set_option maxRecDepth 100000
theorem ex74 (n d : Int) (K : AV → List Blk → Prop) : evFn E74 Try.f74 [.agg [.int .i64 n, .int .i64 d]] [] K = (
  bif decide (d > (0 : Int)) then K (AV.one (SV.bool (sizeG (gcdG n d) == (1 : Int)))) []
  else K (AV.one (SV.bool false)) []) := by kernel_rfl
theorem ex76 (n d : Int) (K : AV → List Blk → Prop) : evFn E76 Try.f76 [.one (.int .i64 n), .one (.int .i64 d)] [] K = (
  bif decide (d < (0 : Int)) then
    bif !decide (IntKind.i64.wrap ((0 : Int) - sizeG (gcdG n d)) = (0 : Int)) then
      bif !decide (IntKind.i64.wrap ((0 : Int) - sizeG (gcdG n d)) = (0 : Int)) then
        K
          (AV.agg
            [SV.int IntKind.i64 (IntKind.i64.wrap (n.tdiv (IntKind.i64.wrap ((0 : Int) - sizeG (gcdG n d))))),
              SV.int IntKind.i64 (IntKind.i64.wrap (d.tdiv (IntKind.i64.wrap ((0 : Int) - sizeG (gcdG n d)))))])
          []
      else False
    else False
  else
    bif !decide (sizeG (gcdG n d) = (0 : Int)) then
      bif !decide (sizeG (gcdG n d) = (0 : Int)) then
        K
          (AV.agg
            [SV.int IntKind.i64 (IntKind.i64.wrap (n.tdiv (sizeG (gcdG n d)))),
              SV.int IntKind.i64 (IntKind.i64.wrap (d.tdiv (sizeG (gcdG n d))))])
          []
      else False
    else False) := by kernel_rfl
theorem ex77 (n d : Int) (K : AV → List Blk → Prop) : evFn E77 Try.f77 [.agg [.int .i64 n, .int .i64 d]] [] K = (
  bif decide ((-1000000000 : Int) ≤ n) && decide (n ≤ (1000000000 : Int)) then
    K (AV.one (SV.bool (decide ((1 : Int) ≤ d) && decide (d ≤ (1000000000 : Int))))) []
  else K (AV.one (SV.bool false)) []) := by kernel_rfl
theorem ex17 (nm : List UInt8) (k s n d : Int) (K : AV → List Blk → Prop) : evFn E17 Try.f17 [.agg [.str nm, .int .i64 k, .int .i64 s, .int .i64 n, .int .i64 d]] [] K = (
  nm.length ≤ (1000000 : Nat) ∧
    bif !nameG nm then K (AV.one (SV.int IntKind.i64 (4 : Int))) []
    else
      bif !(decide ((0 : Int) ≤ k) && decide (k ≤ (2 : Int))) then K (AV.one (SV.int IntKind.i64 (15 : Int))) []
      else
        bif !(decide ((1 : Int) ≤ s) && decide (s ≤ (2 : Int))) then K (AV.one (SV.int IntKind.i64 (2 : Int))) []
        else
          bif k != (0 : Int) then
            bif s == (2 : Int) then K (AV.one (SV.int IntKind.i64 (3 : Int))) []
            else
              bif !lowestG n d then K (AV.one (SV.int IntKind.i64 (3 : Int))) []
              else
                bif !(decide ((1 : Int) ≤ n) && decide (n ≤ (10000 : Int))) then
                  K (AV.one (SV.int IntKind.i64 (2 : Int))) []
                else
                  bif decide (d > (10000 : Int)) then K (AV.one (SV.int IntKind.i64 (2 : Int))) []
                  else K (AV.one (SV.int IntKind.i64 (0 : Int))) []
          else
            bif !lowestG n d then K (AV.one (SV.int IntKind.i64 (3 : Int))) []
            else
              bif !(decide ((1 : Int) ≤ n) && decide (n ≤ (10000 : Int))) then
                K (AV.one (SV.int IntKind.i64 (2 : Int))) []
              else
                bif decide (d > (10000 : Int)) then K (AV.one (SV.int IntKind.i64 (2 : Int))) []
                else K (AV.one (SV.int IntKind.i64 (0 : Int))) []) := by kernel_rfl
theorem ex18 (nm : List UInt8) (k s n d : Int) (K : AV → List Blk → Prop) : evFn E18 Try.f18 [.agg [.str nm, .int .i64 k, .int .i64 s, .int .i64 n, .int .i64 d]] [] K = (
  nm.length ≤ (1000000 : Nat) ∧
    bif s == (1 : Int) then
      bif decide (d > (0 : Int)) then
        bif decide ((1 : Int) ≤ n) && decide (n ≤ (10000 : Int)) then
          [bif nameG nm then (0 : Int) else (4 : Int),
                  bif decide ((0 : Int) ≤ k) && decide (k ≤ (2 : Int)) then (0 : Int) else (15 : Int),
                  bif decide ((1 : Int) ≤ s) && decide (s ≤ (2 : Int)) then (0 : Int) else (2 : Int), (0 : Int),
                  bif sizeG (gcdG n d) == (1 : Int) then (0 : Int) else (3 : Int),
                  bif decide (d ≤ (10000 : Int)) then (0 : Int) else (2 : Int)].length ≤
              (1000 : Nat) ∧
            K
              (AV.one
                (SV.int IntKind.i64
                  (firstE
                    [bif nameG nm then (0 : Int) else (4 : Int),
                      bif decide ((0 : Int) ≤ k) && decide (k ≤ (2 : Int)) then (0 : Int) else (15 : Int),
                      bif decide ((1 : Int) ≤ s) && decide (s ≤ (2 : Int)) then (0 : Int) else (2 : Int), (0 : Int),
                      bif sizeG (gcdG n d) == (1 : Int) then (0 : Int) else (3 : Int),
                      bif decide (d ≤ (10000 : Int)) then (0 : Int) else (2 : Int)])))
              []
        else
          [bif nameG nm then (0 : Int) else (4 : Int),
                  bif decide ((0 : Int) ≤ k) && decide (k ≤ (2 : Int)) then (0 : Int) else (15 : Int),
                  bif decide ((1 : Int) ≤ s) && decide (s ≤ (2 : Int)) then (0 : Int) else (2 : Int), (0 : Int),
                  bif sizeG (gcdG n d) == (1 : Int) then (0 : Int) else (3 : Int), (2 : Int)].length ≤
              (1000 : Nat) ∧
            K
              (AV.one
                (SV.int IntKind.i64
                  (firstE
                    [bif nameG nm then (0 : Int) else (4 : Int),
                      bif decide ((0 : Int) ≤ k) && decide (k ≤ (2 : Int)) then (0 : Int) else (15 : Int),
                      bif decide ((1 : Int) ≤ s) && decide (s ≤ (2 : Int)) then (0 : Int) else (2 : Int), (0 : Int),
                      bif sizeG (gcdG n d) == (1 : Int) then (0 : Int) else (3 : Int), (2 : Int)])))
              []
      else
        bif decide ((1 : Int) ≤ n) && decide (n ≤ (10000 : Int)) then
          [bif nameG nm then (0 : Int) else (4 : Int),
                  bif decide ((0 : Int) ≤ k) && decide (k ≤ (2 : Int)) then (0 : Int) else (15 : Int),
                  bif decide ((1 : Int) ≤ s) && decide (s ≤ (2 : Int)) then (0 : Int) else (2 : Int), (0 : Int),
                  (3 : Int), bif decide (d ≤ (10000 : Int)) then (0 : Int) else (2 : Int)].length ≤
              (1000 : Nat) ∧
            K
              (AV.one
                (SV.int IntKind.i64
                  (firstE
                    [bif nameG nm then (0 : Int) else (4 : Int),
                      bif decide ((0 : Int) ≤ k) && decide (k ≤ (2 : Int)) then (0 : Int) else (15 : Int),
                      bif decide ((1 : Int) ≤ s) && decide (s ≤ (2 : Int)) then (0 : Int) else (2 : Int), (0 : Int),
                      (3 : Int), bif decide (d ≤ (10000 : Int)) then (0 : Int) else (2 : Int)])))
              []
        else
          [bif nameG nm then (0 : Int) else (4 : Int),
                  bif decide ((0 : Int) ≤ k) && decide (k ≤ (2 : Int)) then (0 : Int) else (15 : Int),
                  bif decide ((1 : Int) ≤ s) && decide (s ≤ (2 : Int)) then (0 : Int) else (2 : Int), (0 : Int),
                  (3 : Int), (2 : Int)].length ≤
              (1000 : Nat) ∧
            K
              (AV.one
                (SV.int IntKind.i64
                  (firstE
                    [bif nameG nm then (0 : Int) else (4 : Int),
                      bif decide ((0 : Int) ≤ k) && decide (k ≤ (2 : Int)) then (0 : Int) else (15 : Int),
                      bif decide ((1 : Int) ≤ s) && decide (s ≤ (2 : Int)) then (0 : Int) else (2 : Int), (0 : Int),
                      (3 : Int), (2 : Int)])))
              []
    else
      bif decide (d > (0 : Int)) then
        bif decide ((1 : Int) ≤ n) && decide (n ≤ (10000 : Int)) then
          [bif nameG nm then (0 : Int) else (4 : Int),
                  bif decide ((0 : Int) ≤ k) && decide (k ≤ (2 : Int)) then (0 : Int) else (15 : Int),
                  bif decide ((1 : Int) ≤ s) && decide (s ≤ (2 : Int)) then (0 : Int) else (2 : Int),
                  bif k == (0 : Int) then (0 : Int) else (3 : Int),
                  bif sizeG (gcdG n d) == (1 : Int) then (0 : Int) else (3 : Int),
                  bif decide (d ≤ (10000 : Int)) then (0 : Int) else (2 : Int)].length ≤
              (1000 : Nat) ∧
            K
              (AV.one
                (SV.int IntKind.i64
                  (firstE
                    [bif nameG nm then (0 : Int) else (4 : Int),
                      bif decide ((0 : Int) ≤ k) && decide (k ≤ (2 : Int)) then (0 : Int) else (15 : Int),
                      bif decide ((1 : Int) ≤ s) && decide (s ≤ (2 : Int)) then (0 : Int) else (2 : Int),
                      bif k == (0 : Int) then (0 : Int) else (3 : Int),
                      bif sizeG (gcdG n d) == (1 : Int) then (0 : Int) else (3 : Int),
                      bif decide (d ≤ (10000 : Int)) then (0 : Int) else (2 : Int)])))
              []
        else
          [bif nameG nm then (0 : Int) else (4 : Int),
                  bif decide ((0 : Int) ≤ k) && decide (k ≤ (2 : Int)) then (0 : Int) else (15 : Int),
                  bif decide ((1 : Int) ≤ s) && decide (s ≤ (2 : Int)) then (0 : Int) else (2 : Int),
                  bif k == (0 : Int) then (0 : Int) else (3 : Int),
                  bif sizeG (gcdG n d) == (1 : Int) then (0 : Int) else (3 : Int), (2 : Int)].length ≤
              (1000 : Nat) ∧
            K
              (AV.one
                (SV.int IntKind.i64
                  (firstE
                    [bif nameG nm then (0 : Int) else (4 : Int),
                      bif decide ((0 : Int) ≤ k) && decide (k ≤ (2 : Int)) then (0 : Int) else (15 : Int),
                      bif decide ((1 : Int) ≤ s) && decide (s ≤ (2 : Int)) then (0 : Int) else (2 : Int),
                      bif k == (0 : Int) then (0 : Int) else (3 : Int),
                      bif sizeG (gcdG n d) == (1 : Int) then (0 : Int) else (3 : Int), (2 : Int)])))
              []
      else
        bif decide ((1 : Int) ≤ n) && decide (n ≤ (10000 : Int)) then
          [bif nameG nm then (0 : Int) else (4 : Int),
                  bif decide ((0 : Int) ≤ k) && decide (k ≤ (2 : Int)) then (0 : Int) else (15 : Int),
                  bif decide ((1 : Int) ≤ s) && decide (s ≤ (2 : Int)) then (0 : Int) else (2 : Int),
                  bif k == (0 : Int) then (0 : Int) else (3 : Int), (3 : Int),
                  bif decide (d ≤ (10000 : Int)) then (0 : Int) else (2 : Int)].length ≤
              (1000 : Nat) ∧
            K
              (AV.one
                (SV.int IntKind.i64
                  (firstE
                    [bif nameG nm then (0 : Int) else (4 : Int),
                      bif decide ((0 : Int) ≤ k) && decide (k ≤ (2 : Int)) then (0 : Int) else (15 : Int),
                      bif decide ((1 : Int) ≤ s) && decide (s ≤ (2 : Int)) then (0 : Int) else (2 : Int),
                      bif k == (0 : Int) then (0 : Int) else (3 : Int), (3 : Int),
                      bif decide (d ≤ (10000 : Int)) then (0 : Int) else (2 : Int)])))
              []
        else
          [bif nameG nm then (0 : Int) else (4 : Int),
                  bif decide ((0 : Int) ≤ k) && decide (k ≤ (2 : Int)) then (0 : Int) else (15 : Int),
                  bif decide ((1 : Int) ≤ s) && decide (s ≤ (2 : Int)) then (0 : Int) else (2 : Int),
                  bif k == (0 : Int) then (0 : Int) else (3 : Int), (3 : Int), (2 : Int)].length ≤
              (1000 : Nat) ∧
            K
              (AV.one
                (SV.int IntKind.i64
                  (firstE
                    [bif nameG nm then (0 : Int) else (4 : Int),
                      bif decide ((0 : Int) ≤ k) && decide (k ≤ (2 : Int)) then (0 : Int) else (15 : Int),
                      bif decide ((1 : Int) ≤ s) && decide (s ≤ (2 : Int)) then (0 : Int) else (2 : Int),
                      bif k == (0 : Int) then (0 : Int) else (3 : Int), (3 : Int), (2 : Int)])))
              []) := by kernel_rfl
end Go.Ev
