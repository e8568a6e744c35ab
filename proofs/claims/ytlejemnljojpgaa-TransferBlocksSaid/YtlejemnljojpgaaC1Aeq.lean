/-
  Part of the proof of a law: what bodies come to on abstract values (printed by program).
-/
import Derived.Test.YtlejemnljojpgaaC1A
import Derived.KernelRfl
namespace Go.Ev
open Go Go.Proofs
set_option maxRecDepth 100000
theorem ex71 (n lo hi : Int) (K : AV → List Blk → Prop) : evFn E71 Try.f71 [.one (.int .i64 n), .one (.int .i64 lo), .one (.int .i64 hi)] [] K = (
  bif decide (lo ≤ n) then K (AV.one (SV.bool (decide (n ≤ hi)))) [] else K (AV.one (SV.bool false)) []) := by kernel_rfl
theorem ex70 (b : Bool) (e : Int) (K : AV → List Blk → Prop) : evFn E70 Try.f70 [.one (.bool b), .one (.int .i64 e)] [] K = (
  bif b then K (AV.one (SV.int IntKind.i64 (0 : Int))) [] else K (AV.one (SV.int IntKind.i64 e)) []) := by kernel_rfl
theorem ex69 (l : List Int) (K : AV → List Blk → Prop) : evFn E69 Try.f69 [.one (.data (.ints .i64 l))] [] K = (
  (l.length ≤ (1000 : Nat) ∧ (0 : Int) ≤ (0 : Int) ∧ (↑(Row.ints IntKind.i64 l).count : Int) = (↑l.length : Int)) ∧
    bif firstE (List.drop (0 : Nat) l) == (0 : Int) then K (AV.one (SV.int IntKind.i64 (0 : Int))) []
    else K (AV.one (SV.int IntKind.i64 (firstE (List.drop (0 : Nat) l)))) []) := by kernel_rfl
theorem ex69a (l : List Int) (n i : Int) (K : Ex → List AV → List Blk → Prop) : evBody E69 (lb Try.f69 0) [5, 6, 7] [2] [.one (.data (.ints .i64 l)), .one (.int .i64 n), .one (.int .i64 i)] [] K = (
  bif decide (i < n) then
    bif decide ((0 : Int) ≤ i) && decide (i < (↑(Row.ints IntKind.i64 l).count : Int)) then
      bif (Row.ints IntKind.i64 l).hasN i.toNat (0 : Nat) (1 : Nat) then
        bif l.getD (i.toNat + (0 : Nat)) (0 : Int) != (0 : Int) then
          K Ex.ret [AV.one (SV.int IntKind.i64 (l.getD (i.toNat + (0 : Nat)) (0 : Int)))] []
        else
          K Ex.normal
            [AV.one (SV.data (Row.ints IntKind.i64 l)), AV.one (SV.int IntKind.i64 n),
              AV.one (SV.int IntKind.i64 (IntKind.i64.wrap (i + (1 : Int))))]
            []
      else False
    else False
  else K (Ex.exit (0 : Nat)) [AV.any] []) := by kernel_rfl
theorem ex68 (n : Int) (K : AV → List Blk → Prop) : evFn E68 Try.f68 [.one (.int .i64 n)] [] K = (
  K (AV.agg [SV.int IntKind.i64 n, SV.int IntKind.i64 (1 : Int)]) []) := by kernel_rfl
theorem ex72 (a b : Int) (K : AV → List Blk → Prop) : evFn E72 Try.f72 [.one (.int .i64 a), .one (.int .i64 b)] [] K = (
  K
    (AV.one
      (SV.int IntKind.i64
        (if IntKind.i64.wrap ((0 : Int) - gcdG a b) > gcdG a b then IntKind.i64.wrap ((0 : Int) - gcdG a b)
        else gcdG a b)))
    []) := by kernel_rfl
theorem ex72a (a b : Int) (K : Ex → List AV → List Blk → Prop) : evBody E72 (lb Try.f72 0) [0, 1] [0] [.one (.int .i64 a), .one (.int .i64 b)] [] K = (
  bif b != (0 : Int) then
    bif !decide (b = (0 : Int)) then
      K Ex.normal [AV.one (SV.int IntKind.i64 b), AV.one (SV.int IntKind.i64 (a.tmod b))] []
    else False
  else K (Ex.exit (0 : Nat)) [AV.one (SV.int IntKind.i64 a)] []) := by kernel_rfl
end Go.Ev
