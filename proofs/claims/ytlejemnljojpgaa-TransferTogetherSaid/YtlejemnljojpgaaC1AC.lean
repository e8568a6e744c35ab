/-
  Chapter 1: the law that blocks are put together: its second stage.
-/
import Derived.Test.YtlejemnljojpgaaC1AA
import Derived.KernelRfl
set_option linter.unusedVariables false
set_option linter.unusedSimpArgs false
set_option linter.unusedSectionVars false
namespace Go.Ev
open Go Go.Proofs
set_option maxRecDepth 20000
set_option linter.unusedVariables false

end Go.Ev

namespace Go.Ev
open Go Go.Proofs
set_option maxRecDepth 100000
theorem extogB (o P : List Int) (n ch c : Int) (A : List (List Int)) (K : AV → List Blk → Prop) (B : St → Prop) : evStage Etog Try.f12 15 6 { t := ([AV.any, AV.any, AV.one (SV.data (Row.ints IntKind.i64 o)), AV.any, AV.one (SV.ptr (0 : Nat) (1 : Nat) (0 : Nat) (0 : Nat)), AV.any, AV.any, AV.any, AV.any, AV.one (SV.int IntKind.i64 (n)), AV.one (SV.own (1 : Nat) (11 : Nat)), AV.any, AV.one (SV.own (2 : Nat) (1 : Nat))] ++ List.replicate 214 .any), σ := [Blk.cells [SV.int IntKind.i64 ch, SV.int IntKind.i64 c], Blk.row (37 : TypeId) (Row.mat IntKind.i64 (11 : Nat) (A)), Blk.row (3 : TypeId) (Row.ints IntKind.i64 (P))] } K B = (
 (A.length ≤ (1000 : Nat) ∧
 (okBs A ∧
 A.length ≤ (1000 : Nat) ∧
 okBs A ∧
 bif rcE A ch != (0 : Int) then K (AV.one (SV.bool false)) []
 else
 bif stA A ch != c then K (AV.one (SV.bool false)) []
 else
 (stS A ch).length ≤ (1000000000 : Nat) ∧
 bif !stS A ch == P then K (AV.one (SV.bool false)) []
 else
 bif (↑(stP A ch).length : Int) != (0 : Int) then K (AV.one (SV.bool false)) []
 else
 bif rcE A ch != (0 : Int) then K (AV.one (SV.bool false)) []
 else
 bif (↑(msM A ch).length : Int) != (0 : Int) then K (AV.one (SV.bool false)) []
 else
 bif decide (n < (3 : Int)) then K (AV.one (SV.bool true)) []
 else
 B
 {
 t :=
 [AV.any, AV.any, AV.one (SV.data (Row.ints IntKind.i64 o)), AV.any,
 AV.one (SV.ptr (0 : Nat) (1 : Nat) (0 : Nat) (0 : Nat)), AV.any, AV.any, AV.any,
 AV.any, AV.one (SV.int IntKind.i64 n), AV.one (SV.own (1 : Nat) (11 : Nat)), AV.any,
 AV.one (SV.own (2 : Nat) (1 : Nat)),
 AV.one
 (SV.ptr
 [Blk.cells [SV.int IntKind.i64 ch, SV.int IntKind.i64 c],
 Blk.row (37 : TypeId) (Row.mat IntKind.i64 (11 : Nat) A),
 Blk.row (3 : TypeId) (Row.ints IntKind.i64 P), Blk.dead].length
 (1 : Nat) (0 : Nat) (0 : Nat)),
 AV.one (SV.int IntKind.i64 (rcE A ch)),
 AV.one (SV.data (Row.ints IntKind.i64 (msM A ch))),
 AV.one (SV.int IntKind.i64 (rcE A ch)), AV.any, AV.any, AV.any, AV.any, AV.any,
 AV.any, AV.any, AV.any, AV.any, AV.any, AV.any, AV.any, AV.any, AV.any, AV.any,
 AV.any, AV.any, AV.any, AV.any, AV.any, AV.any, AV.any, AV.any, AV.any, AV.any,
 AV.any, AV.any, AV.any, AV.any, AV.any, AV.any, AV.any, AV.any, AV.any, AV.any,
 AV.any, AV.any, AV.any, AV.any, AV.any, AV.any, AV.any, AV.any, AV.any, AV.any,
 AV.any, AV.any, AV.any, AV.any, AV.any, AV.any, AV.any, AV.any, AV.any, AV.any,
 AV.any, AV.any, AV.any, AV.any, AV.any, AV.any, AV.any, AV.any, AV.any, AV.any,
 AV.any, AV.any, AV.any, AV.any, AV.any, AV.any, AV.any, AV.any, AV.any, AV.any,
 AV.any, AV.any, AV.any,
 AV.tup
 [TV.agg
 [SV.int IntKind.i64 (stA A ch), SV.data (Row.ints IntKind.i64 (stS A ch)),
 SV.data (Row.mat IntKind.i64 (2 : Nat) (stP A ch))],
 TV.one (SV.int IntKind.i64 (rcE A ch))],
 AV.one (SV.own (1 : Nat) (11 : Nat)),
 AV.one
 (SV.own
 ([Blk.cells [SV.int IntKind.i64 ch, SV.int IntKind.i64 c],
 Blk.row (37 : TypeId) (Row.mat IntKind.i64 (11 : Nat) A),
 Blk.row (3 : TypeId) (Row.ints IntKind.i64 P)].length +
 ((0 : Nat) - ([] : List Int).length))
 (11 : Nat)),
 AV.one (SV.ptr (0 : Nat) (1 : Nat) (0 : Nat) (0 : Nat)),
 AV.one (SV.int IntKind.i64 ch),
 AV.tup
 [TV.agg
 [SV.int IntKind.i64 (stA A ch), SV.data (Row.ints IntKind.i64 (stS A ch)),
 SV.data (Row.mat IntKind.i64 (2 : Nat) (stP A ch))],
 TV.one (SV.int IntKind.i64 (rcE A ch))],
 AV.agg
 [SV.int IntKind.i64 (stA A ch), SV.data (Row.ints IntKind.i64 (stS A ch)),
 SV.data (Row.mat IntKind.i64 (2 : Nat) (stP A ch))],
 AV.one (SV.int IntKind.i64 (rcE A ch)),
 AV.tup
 [TV.one (SV.data (Row.ints IntKind.i64 (msM A ch))),
 TV.one (SV.int IntKind.i64 (rcE A ch))],
 AV.one (SV.own (1 : Nat) (11 : Nat)),
 AV.one
 (SV.own
 ([Blk.cells [SV.int IntKind.i64 ch, SV.int IntKind.i64 c],
 Blk.row (37 : TypeId) (Row.mat IntKind.i64 (11 : Nat) A),
 Blk.row (3 : TypeId) (Row.ints IntKind.i64 P), Blk.dead,
 Blk.cells
 [SV.int IntKind.i64 (stA A ch),
 SV.data (Row.ints IntKind.i64 (stS A ch)),
 SV.data (Row.mat IntKind.i64 (2 : Nat) (stP A ch))]].length +
 ((0 : Nat) - ([] : List Int).length))
 (11 : Nat)),
 AV.one (SV.ptr (0 : Nat) (1 : Nat) (0 : Nat) (0 : Nat)),
 AV.one (SV.int IntKind.i64 ch),
 AV.tup
 [TV.one (SV.data (Row.ints IntKind.i64 (msM A ch))),
 TV.one (SV.int IntKind.i64 (rcE A ch))],
 AV.one (SV.data (Row.ints IntKind.i64 (msM A ch))),
 AV.one (SV.int IntKind.i64 (rcE A ch)), AV.one (SV.int IntKind.i64 (rcE A ch)),
 AV.one (SV.bool (rcE A ch != (0 : Int))), AV.one (SV.bool false),
 AV.one
 (SV.ptr
 [Blk.cells [SV.int IntKind.i64 ch, SV.int IntKind.i64 c],
 Blk.row (37 : TypeId) (Row.mat IntKind.i64 (11 : Nat) A),
 Blk.row (3 : TypeId) (Row.ints IntKind.i64 P), Blk.dead].length
 (1 : Nat) (0 : Nat) (0 : Nat)),
 AV.one (SV.int IntKind.i64 (stA A ch)),
 AV.one (SV.ptr (0 : Nat) (1 : Nat) (0 : Nat) (1 : Nat)),
 AV.one (SV.int IntKind.i64 c), AV.one (SV.bool (stA A ch != c)),
 AV.one (SV.bool (stA A ch != c)), AV.one (SV.bool false),
 AV.one
 (SV.ptr
 [Blk.cells [SV.int IntKind.i64 ch, SV.int IntKind.i64 c],
 Blk.row (37 : TypeId) (Row.mat IntKind.i64 (11 : Nat) A),
 Blk.row (3 : TypeId) (Row.ints IntKind.i64 P), Blk.dead].length
 (1 : Nat) (0 : Nat) (1 : Nat)),
 AV.one (SV.data (Row.ints IntKind.i64 (stS A ch))),
 AV.one (SV.own (2 : Nat) (1 : Nat)), AV.one (SV.bool (stS A ch == P)),
 AV.one (SV.bool !stS A ch == P), AV.one (SV.bool !stS A ch == P),
 AV.one (SV.bool false),
 AV.one
 (SV.ptr
 [Blk.cells [SV.int IntKind.i64 ch, SV.int IntKind.i64 c],
 Blk.row (37 : TypeId) (Row.mat IntKind.i64 (11 : Nat) A),
 Blk.row (3 : TypeId) (Row.ints IntKind.i64 P), Blk.dead].length
 (1 : Nat) (0 : Nat) (2 : Nat)),
 AV.one (SV.data (Row.mat IntKind.i64 (2 : Nat) (stP A ch))),
 AV.one (SV.int IntKind.i64 (↑(stP A ch).length : Int)),
 AV.one (SV.bool ((↑(stP A ch).length : Int) != (0 : Int))),
 AV.one (SV.bool ((↑(stP A ch).length : Int) != (0 : Int))), AV.one (SV.bool false),
 AV.one (SV.int IntKind.i64 (rcE A ch)), AV.one (SV.bool (rcE A ch != (0 : Int))),
 AV.one (SV.bool (rcE A ch != (0 : Int))), AV.one (SV.bool false),
 AV.one (SV.data (Row.ints IntKind.i64 (msM A ch))),
 AV.one (SV.int IntKind.i64 (↑(msM A ch).length : Int)),
 AV.one (SV.bool ((↑(msM A ch).length : Int) != (0 : Int))), AV.one (SV.bool false),
 AV.one (SV.int IntKind.i64 n), AV.one (SV.bool false), AV.any, AV.any, AV.any,
 AV.any, AV.any, AV.any, AV.any, AV.any, AV.any, AV.any, AV.any, AV.any, AV.any,
 AV.any, AV.any, AV.any, AV.any, AV.any, AV.any, AV.any, AV.any, AV.any, AV.any,
 AV.any, AV.any, AV.any, AV.any, AV.any, AV.any, AV.any, AV.any, AV.any, AV.any,
 AV.any, AV.any, AV.any, AV.any, AV.any, AV.any, AV.any, AV.any, AV.any, AV.any,
 AV.any, AV.any, AV.any, AV.any, AV.any, AV.any, AV.any, AV.any, AV.any, AV.any,
 AV.any, AV.any, AV.any, AV.any, AV.any, AV.any, AV.any, AV.any, AV.any, AV.any,
 AV.any, AV.any, AV.any, AV.any, AV.any, AV.any, AV.any, AV.any, AV.any, AV.any,
 AV.any, AV.any, AV.any, AV.any, AV.any, AV.any, AV.any, AV.any, AV.any, AV.any],
 σ :=
 [Blk.cells [SV.int IntKind.i64 ch, SV.int IntKind.i64 c],
 Blk.row (37 : TypeId) (Row.mat IntKind.i64 (11 : Nat) A),
 Blk.row (3 : TypeId) (Row.ints IntKind.i64 P), Blk.dead,
 Blk.cells
 [SV.int IntKind.i64 (stA A ch), SV.data (Row.ints IntKind.i64 (stS A ch)),
 SV.data (Row.mat IntKind.i64 (2 : Nat) (stP A ch))],
 Blk.dead] }) ∧
 okBs A ∧
 A.length ≤ (1000 : Nat) ∧
 okBs A ∧
 bif rcE A ch != (0 : Int) then K (AV.one (SV.bool false)) []
 else
 bif stA A ch != c then K (AV.one (SV.bool false)) []
 else
 (stS A ch).length ≤ (1000000000 : Nat) ∧
 bif !stS A ch == P then K (AV.one (SV.bool false)) []
 else
 bif (↑(stP A ch).length : Int) != (0 : Int) then K (AV.one (SV.bool false)) []
 else
 bif rcE A ch != (0 : Int) then K (AV.one (SV.bool false)) []
 else
 bif (↑(msM A ch).length : Int) != (0 : Int) then K (AV.one (SV.bool false)) []
 else
 bif decide (n < (3 : Int)) then K (AV.one (SV.bool true)) []
 else
 B
 {
 t :=
 [AV.any, AV.any, AV.one (SV.data (Row.ints IntKind.i64 o)), AV.any,
 AV.one (SV.ptr (0 : Nat) (1 : Nat) (0 : Nat) (0 : Nat)), AV.any, AV.any, AV.any,
 AV.any, AV.one (SV.int IntKind.i64 n), AV.one (SV.own (1 : Nat) (11 : Nat)), AV.any,
 AV.one (SV.own (2 : Nat) (1 : Nat)),
 AV.one
 (SV.ptr
 [Blk.cells [SV.int IntKind.i64 ch, SV.int IntKind.i64 c],
 Blk.row (37 : TypeId) (Row.mat IntKind.i64 (11 : Nat) A),
 Blk.row (3 : TypeId) (Row.ints IntKind.i64 P),
 Blk.row (37 : TypeId) (Row.mat IntKind.i64 (11 : Nat) A)].length
 (1 : Nat) (0 : Nat) (0 : Nat)),
 AV.one (SV.int IntKind.i64 (rcE A ch)),
 AV.one (SV.data (Row.ints IntKind.i64 (msM A ch))),
 AV.one (SV.int IntKind.i64 (rcE A ch)), AV.any, AV.any, AV.any, AV.any, AV.any,
 AV.any, AV.any, AV.any, AV.any, AV.any, AV.any, AV.any, AV.any, AV.any, AV.any,
 AV.any, AV.any, AV.any, AV.any, AV.any, AV.any, AV.any, AV.any, AV.any, AV.any,
 AV.any, AV.any, AV.any, AV.any, AV.any, AV.any, AV.any, AV.any, AV.any, AV.any,
 AV.any, AV.any, AV.any, AV.any, AV.any, AV.any, AV.any, AV.any, AV.any, AV.any,
 AV.any, AV.any, AV.any, AV.any, AV.any, AV.any, AV.any, AV.any, AV.any, AV.any,
 AV.any, AV.any, AV.any, AV.any, AV.any, AV.any, AV.any, AV.any, AV.any, AV.any,
 AV.any, AV.any, AV.any, AV.any, AV.any, AV.any, AV.any, AV.any, AV.any, AV.any,
 AV.any, AV.any, AV.any,
 AV.tup
 [TV.agg
 [SV.int IntKind.i64 (stA A ch), SV.data (Row.ints IntKind.i64 (stS A ch)),
 SV.data (Row.mat IntKind.i64 (2 : Nat) (stP A ch))],
 TV.one (SV.int IntKind.i64 (rcE A ch))],
 AV.one (SV.own (1 : Nat) (11 : Nat)),
 AV.one
 (SV.own
 ([Blk.cells [SV.int IntKind.i64 ch, SV.int IntKind.i64 c],
 Blk.row (37 : TypeId) (Row.mat IntKind.i64 (11 : Nat) A),
 Blk.row (3 : TypeId) (Row.ints IntKind.i64 P)].length +
 ((0 : Nat) - ([] : List Int).length))
 (11 : Nat)),
 AV.one (SV.ptr (0 : Nat) (1 : Nat) (0 : Nat) (0 : Nat)),
 AV.one (SV.int IntKind.i64 ch),
 AV.tup
 [TV.agg
 [SV.int IntKind.i64 (stA A ch), SV.data (Row.ints IntKind.i64 (stS A ch)),
 SV.data (Row.mat IntKind.i64 (2 : Nat) (stP A ch))],
 TV.one (SV.int IntKind.i64 (rcE A ch))],
 AV.agg
 [SV.int IntKind.i64 (stA A ch), SV.data (Row.ints IntKind.i64 (stS A ch)),
 SV.data (Row.mat IntKind.i64 (2 : Nat) (stP A ch))],
 AV.one (SV.int IntKind.i64 (rcE A ch)),
 AV.tup
 [TV.one (SV.data (Row.ints IntKind.i64 (msM A ch))),
 TV.one (SV.int IntKind.i64 (rcE A ch))],
 AV.one (SV.own (1 : Nat) (11 : Nat)),
 AV.one
 (SV.own
 ([Blk.cells [SV.int IntKind.i64 ch, SV.int IntKind.i64 c],
 Blk.row (37 : TypeId) (Row.mat IntKind.i64 (11 : Nat) A),
 Blk.row (3 : TypeId) (Row.ints IntKind.i64 P), Blk.dead,
 Blk.cells
 [SV.int IntKind.i64 (stA A ch),
 SV.data (Row.ints IntKind.i64 (stS A ch)),
 SV.data (Row.mat IntKind.i64 (2 : Nat) (stP A ch))]].length +
 ((0 : Nat) - ([] : List Int).length))
 (11 : Nat)),
 AV.one (SV.ptr (0 : Nat) (1 : Nat) (0 : Nat) (0 : Nat)),
 AV.one (SV.int IntKind.i64 ch),
 AV.tup
 [TV.one (SV.data (Row.ints IntKind.i64 (msM A ch))),
 TV.one (SV.int IntKind.i64 (rcE A ch))],
 AV.one (SV.data (Row.ints IntKind.i64 (msM A ch))),
 AV.one (SV.int IntKind.i64 (rcE A ch)), AV.one (SV.int IntKind.i64 (rcE A ch)),
 AV.one (SV.bool (rcE A ch != (0 : Int))), AV.one (SV.bool false),
 AV.one
 (SV.ptr
 [Blk.cells [SV.int IntKind.i64 ch, SV.int IntKind.i64 c],
 Blk.row (37 : TypeId) (Row.mat IntKind.i64 (11 : Nat) A),
 Blk.row (3 : TypeId) (Row.ints IntKind.i64 P),
 Blk.row (37 : TypeId) (Row.mat IntKind.i64 (11 : Nat) A)].length
 (1 : Nat) (0 : Nat) (0 : Nat)),
 AV.one (SV.int IntKind.i64 (stA A ch)),
 AV.one (SV.ptr (0 : Nat) (1 : Nat) (0 : Nat) (1 : Nat)),
 AV.one (SV.int IntKind.i64 c), AV.one (SV.bool (stA A ch != c)),
 AV.one (SV.bool (stA A ch != c)), AV.one (SV.bool false),
 AV.one
 (SV.ptr
 [Blk.cells [SV.int IntKind.i64 ch, SV.int IntKind.i64 c],
 Blk.row (37 : TypeId) (Row.mat IntKind.i64 (11 : Nat) A),
 Blk.row (3 : TypeId) (Row.ints IntKind.i64 P),
 Blk.row (37 : TypeId) (Row.mat IntKind.i64 (11 : Nat) A)].length
 (1 : Nat) (0 : Nat) (1 : Nat)),
 AV.one (SV.data (Row.ints IntKind.i64 (stS A ch))),
 AV.one (SV.own (2 : Nat) (1 : Nat)), AV.one (SV.bool (stS A ch == P)),
 AV.one (SV.bool !stS A ch == P), AV.one (SV.bool !stS A ch == P),
 AV.one (SV.bool false),
 AV.one
 (SV.ptr
 [Blk.cells [SV.int IntKind.i64 ch, SV.int IntKind.i64 c],
 Blk.row (37 : TypeId) (Row.mat IntKind.i64 (11 : Nat) A),
 Blk.row (3 : TypeId) (Row.ints IntKind.i64 P),
 Blk.row (37 : TypeId) (Row.mat IntKind.i64 (11 : Nat) A)].length
 (1 : Nat) (0 : Nat) (2 : Nat)),
 AV.one (SV.data (Row.mat IntKind.i64 (2 : Nat) (stP A ch))),
 AV.one (SV.int IntKind.i64 (↑(stP A ch).length : Int)),
 AV.one (SV.bool ((↑(stP A ch).length : Int) != (0 : Int))),
 AV.one (SV.bool ((↑(stP A ch).length : Int) != (0 : Int))), AV.one (SV.bool false),
 AV.one (SV.int IntKind.i64 (rcE A ch)), AV.one (SV.bool (rcE A ch != (0 : Int))),
 AV.one (SV.bool (rcE A ch != (0 : Int))), AV.one (SV.bool false),
 AV.one (SV.data (Row.ints IntKind.i64 (msM A ch))),
 AV.one (SV.int IntKind.i64 (↑(msM A ch).length : Int)),
 AV.one (SV.bool ((↑(msM A ch).length : Int) != (0 : Int))), AV.one (SV.bool false),
 AV.one (SV.int IntKind.i64 n), AV.one (SV.bool false), AV.any, AV.any, AV.any,
 AV.any, AV.any, AV.any, AV.any, AV.any, AV.any, AV.any, AV.any, AV.any, AV.any,
 AV.any, AV.any, AV.any, AV.any, AV.any, AV.any, AV.any, AV.any, AV.any, AV.any,
 AV.any, AV.any, AV.any, AV.any, AV.any, AV.any, AV.any, AV.any, AV.any, AV.any,
 AV.any, AV.any, AV.any, AV.any, AV.any, AV.any, AV.any, AV.any, AV.any, AV.any,
 AV.any, AV.any, AV.any, AV.any, AV.any, AV.any, AV.any, AV.any, AV.any, AV.any,
 AV.any, AV.any, AV.any, AV.any, AV.any, AV.any, AV.any, AV.any, AV.any, AV.any,
 AV.any, AV.any, AV.any, AV.any, AV.any, AV.any, AV.any, AV.any, AV.any, AV.any,
 AV.any, AV.any, AV.any, AV.any, AV.any, AV.any, AV.any, AV.any, AV.any, AV.any],
 σ :=
 [Blk.cells [SV.int IntKind.i64 ch, SV.int IntKind.i64 c],
 Blk.row (37 : TypeId) (Row.mat IntKind.i64 (11 : Nat) A),
 Blk.row (3 : TypeId) (Row.ints IntKind.i64 P), Blk.dead,
 Blk.cells
 [SV.int IntKind.i64 (stA A ch), SV.data (Row.ints IntKind.i64 (stS A ch)),
 SV.data (Row.mat IntKind.i64 (2 : Nat) (stP A ch))],
 Blk.dead] }) ∧
 A.length ≤ (1000 : Nat) ∧
 okBs A ∧
 A.length ≤ (1000 : Nat) ∧
 okBs A ∧
 bif rcE A ch != (0 : Int) then K (AV.one (SV.bool false)) []
 else
 bif stA A ch != c then K (AV.one (SV.bool false)) []
 else
 (stS A ch).length ≤ (1000000000 : Nat) ∧
 bif !stS A ch == P then K (AV.one (SV.bool false)) []
 else
 bif (↑(stP A ch).length : Int) != (0 : Int) then K (AV.one (SV.bool false)) []
 else
 bif rcE A ch != (0 : Int) then K (AV.one (SV.bool false)) []
 else
 bif (↑(msM A ch).length : Int) != (0 : Int) then K (AV.one (SV.bool false)) []
 else
 bif decide (n < (3 : Int)) then K (AV.one (SV.bool true)) []
 else
 B
 {
 t :=
 [AV.any, AV.any, AV.one (SV.data (Row.ints IntKind.i64 o)), AV.any,
 AV.one (SV.ptr (0 : Nat) (1 : Nat) (0 : Nat) (0 : Nat)), AV.any, AV.any, AV.any,
 AV.any, AV.one (SV.int IntKind.i64 n), AV.one (SV.own (1 : Nat) (11 : Nat)), AV.any,
 AV.one (SV.own (2 : Nat) (1 : Nat)),
 AV.one
 (SV.ptr
 [Blk.cells [SV.int IntKind.i64 ch, SV.int IntKind.i64 c],
 Blk.row (37 : TypeId) (Row.mat IntKind.i64 (11 : Nat) A),
 Blk.row (3 : TypeId) (Row.ints IntKind.i64 P)].length
 (1 : Nat) (0 : Nat) (0 : Nat)),
 AV.one (SV.int IntKind.i64 (rcE A ch)),
 AV.one (SV.data (Row.ints IntKind.i64 (msM A ch))),
 AV.one (SV.int IntKind.i64 (rcE A ch)), AV.any, AV.any, AV.any, AV.any, AV.any,
 AV.any, AV.any, AV.any, AV.any, AV.any, AV.any, AV.any, AV.any, AV.any, AV.any,
 AV.any, AV.any, AV.any, AV.any, AV.any, AV.any, AV.any, AV.any, AV.any, AV.any,
 AV.any, AV.any, AV.any, AV.any, AV.any, AV.any, AV.any, AV.any, AV.any, AV.any,
 AV.any, AV.any, AV.any, AV.any, AV.any, AV.any, AV.any, AV.any, AV.any, AV.any,
 AV.any, AV.any, AV.any, AV.any, AV.any, AV.any, AV.any, AV.any, AV.any, AV.any,
 AV.any, AV.any, AV.any, AV.any, AV.any, AV.any, AV.any, AV.any, AV.any, AV.any,
 AV.any, AV.any, AV.any, AV.any, AV.any, AV.any, AV.any, AV.any, AV.any, AV.any,
 AV.any, AV.any, AV.any,
 AV.tup
 [TV.agg
 [SV.int IntKind.i64 (stA A ch), SV.data (Row.ints IntKind.i64 (stS A ch)),
 SV.data (Row.mat IntKind.i64 (2 : Nat) (stP A ch))],
 TV.one (SV.int IntKind.i64 (rcE A ch))],
 AV.one (SV.own (1 : Nat) (11 : Nat)),
 AV.one
 (SV.own
 ([Blk.cells [SV.int IntKind.i64 ch, SV.int IntKind.i64 c],
 Blk.row (37 : TypeId) (Row.mat IntKind.i64 (11 : Nat) A),
 Blk.row (3 : TypeId) (Row.ints IntKind.i64 P),
 Blk.cells [SV.int IntKind.i64 (0 : Int), SV.nil, SV.nil]].length +
 ((0 : Nat) - ([] : List Int).length))
 (11 : Nat)),
 AV.one (SV.ptr (0 : Nat) (1 : Nat) (0 : Nat) (0 : Nat)),
 AV.one (SV.int IntKind.i64 ch),
 AV.tup
 [TV.agg
 [SV.int IntKind.i64 (stA A ch), SV.data (Row.ints IntKind.i64 (stS A ch)),
 SV.data (Row.mat IntKind.i64 (2 : Nat) (stP A ch))],
 TV.one (SV.int IntKind.i64 (rcE A ch))],
 AV.agg
 [SV.int IntKind.i64 (stA A ch), SV.data (Row.ints IntKind.i64 (stS A ch)),
 SV.data (Row.mat IntKind.i64 (2 : Nat) (stP A ch))],
 AV.one (SV.int IntKind.i64 (rcE A ch)),
 AV.tup
 [TV.one (SV.data (Row.ints IntKind.i64 (msM A ch))),
 TV.one (SV.int IntKind.i64 (rcE A ch))],
 AV.one (SV.own (1 : Nat) (11 : Nat)),
 AV.one
 (SV.own
 ([Blk.cells [SV.int IntKind.i64 ch, SV.int IntKind.i64 c],
 Blk.row (37 : TypeId) (Row.mat IntKind.i64 (11 : Nat) A),
 Blk.row (3 : TypeId) (Row.ints IntKind.i64 P),
 Blk.cells
 [SV.int IntKind.i64 (stA A ch), SV.data (Row.ints IntKind.i64 (stS A ch)),
 SV.data (Row.mat IntKind.i64 (2 : Nat) (stP A ch))],
 Blk.dead].length +
 ((0 : Nat) - ([] : List Int).length))
 (11 : Nat)),
 AV.one (SV.ptr (0 : Nat) (1 : Nat) (0 : Nat) (0 : Nat)),
 AV.one (SV.int IntKind.i64 ch),
 AV.tup
 [TV.one (SV.data (Row.ints IntKind.i64 (msM A ch))),
 TV.one (SV.int IntKind.i64 (rcE A ch))],
 AV.one (SV.data (Row.ints IntKind.i64 (msM A ch))),
 AV.one (SV.int IntKind.i64 (rcE A ch)), AV.one (SV.int IntKind.i64 (rcE A ch)),
 AV.one (SV.bool (rcE A ch != (0 : Int))), AV.one (SV.bool false),
 AV.one
 (SV.ptr
 [Blk.cells [SV.int IntKind.i64 ch, SV.int IntKind.i64 c],
 Blk.row (37 : TypeId) (Row.mat IntKind.i64 (11 : Nat) A),
 Blk.row (3 : TypeId) (Row.ints IntKind.i64 P)].length
 (1 : Nat) (0 : Nat) (0 : Nat)),
 AV.one (SV.int IntKind.i64 (stA A ch)),
 AV.one (SV.ptr (0 : Nat) (1 : Nat) (0 : Nat) (1 : Nat)),
 AV.one (SV.int IntKind.i64 c), AV.one (SV.bool (stA A ch != c)),
 AV.one (SV.bool (stA A ch != c)), AV.one (SV.bool false),
 AV.one
 (SV.ptr
 [Blk.cells [SV.int IntKind.i64 ch, SV.int IntKind.i64 c],
 Blk.row (37 : TypeId) (Row.mat IntKind.i64 (11 : Nat) A),
 Blk.row (3 : TypeId) (Row.ints IntKind.i64 P)].length
 (1 : Nat) (0 : Nat) (1 : Nat)),
 AV.one (SV.data (Row.ints IntKind.i64 (stS A ch))),
 AV.one (SV.own (2 : Nat) (1 : Nat)), AV.one (SV.bool (stS A ch == P)),
 AV.one (SV.bool !stS A ch == P), AV.one (SV.bool !stS A ch == P),
 AV.one (SV.bool false),
 AV.one
 (SV.ptr
 [Blk.cells [SV.int IntKind.i64 ch, SV.int IntKind.i64 c],
 Blk.row (37 : TypeId) (Row.mat IntKind.i64 (11 : Nat) A),
 Blk.row (3 : TypeId) (Row.ints IntKind.i64 P)].length
 (1 : Nat) (0 : Nat) (2 : Nat)),
 AV.one (SV.data (Row.mat IntKind.i64 (2 : Nat) (stP A ch))),
 AV.one (SV.int IntKind.i64 (↑(stP A ch).length : Int)),
 AV.one (SV.bool ((↑(stP A ch).length : Int) != (0 : Int))),
 AV.one (SV.bool ((↑(stP A ch).length : Int) != (0 : Int))), AV.one (SV.bool false),
 AV.one (SV.int IntKind.i64 (rcE A ch)), AV.one (SV.bool (rcE A ch != (0 : Int))),
 AV.one (SV.bool (rcE A ch != (0 : Int))), AV.one (SV.bool false),
 AV.one (SV.data (Row.ints IntKind.i64 (msM A ch))),
 AV.one (SV.int IntKind.i64 (↑(msM A ch).length : Int)),
 AV.one (SV.bool ((↑(msM A ch).length : Int) != (0 : Int))), AV.one (SV.bool false),
 AV.one (SV.int IntKind.i64 n), AV.one (SV.bool false), AV.any, AV.any, AV.any, AV.any,
 AV.any, AV.any, AV.any, AV.any, AV.any, AV.any, AV.any, AV.any, AV.any, AV.any,
 AV.any, AV.any, AV.any, AV.any, AV.any, AV.any, AV.any, AV.any, AV.any, AV.any,
 AV.any, AV.any, AV.any, AV.any, AV.any, AV.any, AV.any, AV.any, AV.any, AV.any,
 AV.any, AV.any, AV.any, AV.any, AV.any, AV.any, AV.any, AV.any, AV.any, AV.any,
 AV.any, AV.any, AV.any, AV.any, AV.any, AV.any, AV.any, AV.any, AV.any, AV.any,
 AV.any, AV.any, AV.any, AV.any, AV.any, AV.any, AV.any, AV.any, AV.any, AV.any,
 AV.any, AV.any, AV.any, AV.any, AV.any, AV.any, AV.any, AV.any, AV.any, AV.any,
 AV.any, AV.any, AV.any, AV.any, AV.any, AV.any, AV.any, AV.any, AV.any],
 σ :=
 [Blk.cells [SV.int IntKind.i64 ch, SV.int IntKind.i64 c],
 Blk.row (37 : TypeId) (Row.mat IntKind.i64 (11 : Nat) A),
 Blk.row (3 : TypeId) (Row.ints IntKind.i64 P),
 Blk.cells
 [SV.int IntKind.i64 (stA A ch), SV.data (Row.ints IntKind.i64 (stS A ch)),
 SV.data (Row.mat IntKind.i64 (2 : Nat) (stP A ch))],
 Blk.dead, Blk.dead] }) := by kernel_rfl
end Go.Ev
