/-
  Chapter 1, contracts: the law that blocks are put together in any order.
-/
import Derived.Test.YtlejemnljojpgaaC1Y
import Derived.Test.YtlejemnljojpgaaC1S
import Derived.Test.YtlejemnljojpgaaEvCut2
import Derived.KernelRfl
set_option linter.unusedVariables false
set_option linter.unusedSimpArgs false
set_option linter.unusedSectionVars false
namespace Go.Ev
open Go Go.Proofs
set_option maxRecDepth 20000
set_option linter.unusedVariables false

def ordR (l : List (List Int)) (n : Int) (o : List Int) : List (List Int) := o.map fun x => l.getD (modB x n).toNat []
def padR (P : List Int) (n : Nat) : List Int := P ++ List.replicate (8 * n - P.length) 0
def restR (A : List (List Int)) (q : Int) : List (List Int) := A.filter fun x => !(x.getD 0 0 == q)
def boRows (x : List Int) (ch c : Int) : List (List Int) := bif cutE x ch c == 0 then cutRows x ch c else []
def boDS : Spec := fun args σ K => match args, σ with
  | [.one (.data (.ints .i64 x)), .agg [.int .i64 ch, .int .i64 c]], [] => x.length ≤ 1000000 ∧ K (.tup [.one (.data (.mat .i64 11 (boRows x ch c))), .one (.int .i64 (cutE x ch c))]) []
  | _, _ => False
def okTg (l : List (List Int)) (n : Int) (o : List Int) (i : Int) : Prop := l.length = n ∧ 1 ≤ n ∧ n ≤ 13 ∧ o.length ≤ 20 ∧ l.all len11 = true ∧ 0 ≤ i ∧ i ≤ o.length
def togA : LSpec := fun vs σ k => match vs, σ with
  | [.one (.data (.ints .i64 o)), .one (.data (.mat .i64 11 l)), .one (.int .i64 n), .one .nil, .one (.int .i64 i)], [] => (okTg l n o i ∧ i = 0) ∧ bif o.isEmpty then k (.exit 0) [.one .nil] [] else k (.exit 0) [.one (.own 0 11)] [.row 37 (.mat .i64 11 (ordR l n o))]
  | [.one (.data (.ints .i64 o)), .one (.data (.mat .i64 11 l)), .one (.int .i64 n), .one (.own 0 11), .one (.int .i64 i)], [.row 37 (.mat .i64 11 S)] => (okTg l n o i ∧ S = ordR l n (o.take i.toNat)) ∧ k (.exit 0) [.one (.own 0 11)] [.row 37 (.mat .i64 11 (ordR l n o))]
  | _, _ => False
def togB : LSpec := fun vs σ k => match vs, σ with
  | [.one (.data (.ints .i64 o)), .one (.ptr 0 1 0 0), .one (.int .i64 n), .one (.own 1 11), .one (.own 2 1)], [.cells [.int .i64 ch, .int .i64 c], .row 37 (.mat .i64 11 A), .row 3 (.ints .i64 P)] => (0 ≤ n ∧ n ≤ 13 ∧ P.length ≤ 8 * n.toNat) ∧ k (.exit 2) [.one (.data (.ints .i64 o)), .one (.ptr 0 1 0 0), .one (.int .i64 n), .one (.own 1 11), .one (.own 2 1)] [.cells [.int .i64 ch, .int .i64 c], .row 37 (.mat .i64 11 A), .row 3 (.ints .i64 (padR P n.toNat))]
  | _, _ => False
def togC : LSpec := fun vs σ k => match vs, σ with
  | [.one (.ptr 0 1 0 0), .one (.own 1 11), .one (.int .i64 q), .one .nil, .one (.int .i64 i)], [.cells [.int .i64 ch, .int .i64 c], .row 37 (.mat .i64 11 A)] => (A.length ≤ 40 ∧ A.all len11 = true ∧ 0 ≤ i ∧ i ≤ A.length ∧ 0 ≤ c ∧ c ≤ 65535 ∧ 0 ≤ q ∧ q ≤ 13) ∧
      bif (restR (A.drop i.toNat) (c + q)).isEmpty then k (.exit 4) [.one .nil] [.cells [.int .i64 ch, .int .i64 c], .row 37 (.mat .i64 11 A)] else k (.exit 4) [.one (.own 2 11)] [.cells [.int .i64 ch, .int .i64 c], .row 37 (.mat .i64 11 A), .row 37 (.mat .i64 11 (restR (A.drop i.toNat) (c + q)))]
  | [.one (.ptr 0 1 0 0), .one (.own 1 11), .one (.int .i64 q), .one (.own 2 11), .one (.int .i64 i)], [.cells [.int .i64 ch, .int .i64 c], .row 37 (.mat .i64 11 A), .row 37 (.mat .i64 11 S)] => (A.length ≤ 40 ∧ A.all len11 = true ∧ 0 ≤ i ∧ i ≤ A.length ∧ 0 ≤ c ∧ c ≤ 65535 ∧ 0 ≤ q ∧ q ≤ 13 ∧ S.length ≤ i) ∧
      k (.exit 4) [.one (.own 2 11)] [.cells [.int .i64 ch, .int .i64 c], .row 37 (.mat .i64 11 A), .row 37 (.mat .i64 11 (S ++ restR (A.drop i.toNat) (c + q)))]
  | _, _ => False
def chkT (U P : List Int) (q : Int) (j : Nat) : Bool := U.getD j 0 == (bif withinG j (8 * q) (8 * q + 7) then 0 else P.getD j 0)
def togD : LSpec := fun vs σ k => match vs, σ with
  | [.one (.int .i64 n), .one (.own 0 1), .one (.int .i64 q), .one (.ptr 1 1 0 0), .one (.int .i64 i)], [.row 3 (.ints .i64 P), .cells [.int .i64 f, .data (.ints .i64 U), .data (.mat .i64 2 G)]] => (0 ≤ n ∧ n ≤ 13 ∧ 0 ≤ q ∧ q ≤ 13 ∧ 0 ≤ i ∧ i ≤ 8 * n ∧ P.length = 8 * n.toNat ∧ U.length = 8 * n.toNat ∧ ∀ j, j < 8 * n.toNat → chkT U P q j = true) ∧
      k (.exit 6) [.any] [.row 3 (.ints .i64 P), .cells [.int .i64 f, .data (.ints .i64 U), .data (.mat .i64 2 G)]]
  | _, _ => False
def togS : Spec := fun args σ K => match args, σ with
  | [.one (.data (.ints .i64 x)), .agg [.int .i64 ch, .int .i64 c], .one (.data (.ints .i64 o))], [] => K (.one (.bool true)) []
  | _, _ => False
noncomputable abbrev Etog : Env := envOf Try.prog [(15, trueS), (36, cutErrS), (35, copyIntsS), (34, boDS), (26, modS), (53, copyBS), (54, strDS), (55, misDS), (30, intsS), (62, rgS), (25, withinS)] [(11, .frm 0 [2, 7, 9, 10, 11] [10] togA), (16, .spec [2, 4, 9, 10, 12] [2, 4, 9, 10, 12] togB), (27, .frm 2 [4, 10, 17, 18, 19] [18] togC), (35, .frm 2 [9, 12, 17, 20, 22] [6] togD)] 227 0 [54, 55, 34]
noncomputable abbrev EtogF0 : Env := envOf Try.prog [(15, trueS), (36, cutErrS), (35, copyIntsS), (34, boDS), (26, modS), (53, copyBS), (54, strDS), (55, misDS), (30, intsS), (62, rgS), (25, withinS)] [(11, .frm 0 [2, 7, 9, 10, 11] [10] togA), (16, .spec [2, 4, 9, 10, 12] [2, 4, 9, 10, 12] togB), (27, .frm 2 [4, 10, 17, 18, 19] [18] togC), (35, .frm 2 [9, 12, 17, 20, 22] [6] togD)] 227 0 [54, 55, 34]
noncomputable abbrev EtogF2 : Env := envOf Try.prog [(15, trueS), (36, cutErrS), (35, copyIntsS), (34, boDS), (26, modS), (53, copyBS), (54, strDS), (55, misDS), (30, intsS), (62, rgS), (25, withinS)] [(11, .frm 0 [2, 7, 9, 10, 11] [10] togA), (16, .spec [2, 4, 9, 10, 12] [2, 4, 9, 10, 12] togB), (27, .frm 2 [4, 10, 17, 18, 19] [18] togC), (35, .frm 2 [9, 12, 17, 20, 22] [6] togD)] 227 2 [54, 55, 34]
end Go.Ev

namespace Go.Ev
open Go Go.Proofs
set_option maxRecDepth 100000
theorem extogA (x : List Int) (ch c : Int) (o : List Int) (K : AV → List Blk → Prop) (B : St → Prop) : evStage Etog Try.f12 0 15 (st0 Try.f12 [.one (.data (.ints .i64 x)), .agg [.int .i64 ch, .int .i64 c], .one (.data (.ints .i64 o))] []) K B = (
 bif (↑x.length : Int) == (0 : Int) then K (AV.one (SV.bool true)) []
 else
 bif decide ((↑x.length : Int) > (100 : Int)) then K (AV.one (SV.bool true)) []
 else
 bif decide ((↑o.length : Int) > (20 : Int)) then K (AV.one (SV.bool true)) []
 else
 x.length ≤ (1000000 : Nat) ∧
 bif cutE x ch c != (0 : Int) then K (AV.one (SV.bool true)) []
 else
 x.length ≤ (1000000000000 : Nat) ∧
 x.length ≤ (1000000 : Nat) ∧
 bif cutE x ch c != (0 : Int) then K (AV.one (SV.bool false)) []
 else
 bif
 (↑(boRows x ch c).length : Int) !=
 IntKind.i64.wrap ((IntKind.i64.wrap ((↑x.length : Int) + (7 : Int))).tdiv (8 : Int)) then
 K (AV.one (SV.bool false)) []
 else
 (okTg (boRows x ch c)
 (IntKind.i64.wrap ((IntKind.i64.wrap ((↑x.length : Int) + (7 : Int))).tdiv (8 : Int))) o
 (0 : Int) ∧
 (0 : Int) = (0 : Int)) ∧
 bif o.isEmpty then
 bif
 decide
 ((boRows x ch c).length * (88 : Nat) ≤ (140737488355328 : Nat) ∧
 (boRows x ch c).length ≤ (140737488355328 : Nat)) then
 bif decide ((boRows x ch c).length = (0 : Nat)) then x.length ≤ (1000000000000 : Nat) ∧ False
 else
 x.length ≤ (1000000000000 : Nat) ∧
 ((0 : Int) ≤
 IntKind.i64.wrap ((IntKind.i64.wrap ((↑x.length : Int) + (7 : Int))).tdiv (8 : Int)) ∧
 IntKind.i64.wrap ((IntKind.i64.wrap ((↑x.length : Int) + (7 : Int))).tdiv (8 : Int)) ≤
 (13 : Int) ∧
 x.length ≤
 (8 : Nat) *
 (IntKind.i64.wrap
 ((IntKind.i64.wrap ((↑x.length : Int) + (7 : Int))).tdiv (8 : Int))).toNat) ∧
 B
 {
 t :=
 [AV.any, AV.any, AV.one (SV.data (Row.ints IntKind.i64 o)), AV.any,
 AV.one (SV.ptr (0 : Nat) (1 : Nat) (0 : Nat) (0 : Nat)), AV.any, AV.any, AV.any,
 AV.any,
 AV.one
 (SV.int IntKind.i64
 (IntKind.i64.wrap
 ((IntKind.i64.wrap ((↑x.length : Int) + (7 : Int))).tdiv (8 : Int)))),
 AV.one (SV.own (1 : Nat) (11 : Nat)), AV.any, AV.one (SV.own (2 : Nat) (1 : Nat)),
 AV.any, AV.any, AV.any, AV.any, AV.any, AV.any, AV.any, AV.any, AV.any, AV.any,
 AV.any, AV.any, AV.any, AV.any, AV.any, AV.any, AV.any, AV.any, AV.any, AV.any,
 AV.any, AV.any, AV.any, AV.any, AV.any, AV.any, AV.any, AV.any, AV.any, AV.any,
 AV.any, AV.any, AV.any, AV.any, AV.any, AV.any, AV.any, AV.any, AV.any, AV.any,
 AV.any, AV.any, AV.any, AV.any, AV.any, AV.any, AV.any, AV.any, AV.any, AV.any,
 AV.any, AV.any, AV.any, AV.any, AV.any, AV.any, AV.any, AV.any, AV.any, AV.any,
 AV.any, AV.any, AV.any, AV.any, AV.any, AV.any, AV.any, AV.any, AV.any, AV.any,
 AV.any, AV.any, AV.any, AV.any, AV.any, AV.any, AV.any, AV.any, AV.any, AV.any,
 AV.any, AV.any, AV.any, AV.any, AV.any, AV.any, AV.any, AV.any, AV.any, AV.any,
 AV.any, AV.any, AV.any, AV.any, AV.any, AV.any, AV.any, AV.any, AV.any, AV.any,
 AV.any, AV.any, AV.any, AV.any, AV.any, AV.any, AV.any, AV.any, AV.any, AV.any,
 AV.any, AV.any, AV.any, AV.any, AV.any, AV.any, AV.any, AV.any, AV.any, AV.any,
 AV.any, AV.any, AV.any, AV.any, AV.any, AV.any, AV.any, AV.any, AV.any, AV.any,
 AV.any, AV.any, AV.any, AV.any, AV.any, AV.any, AV.any, AV.any, AV.any, AV.any,
 AV.any, AV.any, AV.any, AV.any, AV.any, AV.any, AV.any, AV.any, AV.any, AV.any,
 AV.any, AV.any, AV.any, AV.any, AV.any, AV.any, AV.any, AV.any, AV.any, AV.any,
 AV.any, AV.any, AV.any, AV.any, AV.any, AV.any, AV.any, AV.any, AV.any, AV.any,
 AV.any, AV.any, AV.any, AV.any, AV.any, AV.any, AV.any, AV.any, AV.any, AV.any,
 AV.any, AV.any, AV.any, AV.any, AV.any, AV.any, AV.any, AV.any, AV.any, AV.any,
 AV.any, AV.any, AV.any, AV.any, AV.any, AV.any, AV.any, AV.any, AV.any, AV.any,
 AV.any, AV.any, AV.any, AV.any, AV.any, AV.any, AV.any, AV.any, AV.any, AV.any,
 AV.any, AV.any, AV.any, AV.any],
 σ :=
 [Blk.cells [SV.int IntKind.i64 ch, SV.int IntKind.i64 c],
 Blk.row (37 : TypeId) (Row.mat IntKind.i64 (11 : Nat) (boRows x ch c)),
 Blk.row (3 : TypeId)
 (Row.ints IntKind.i64
 (padR x
 (IntKind.i64.wrap
 ((IntKind.i64.wrap ((↑x.length : Int) + (7 : Int))).tdiv
 (8 : Int))).toNat))] }
 else False
 else
 bif
 decide
 ((ordR (boRows x ch c)
 (IntKind.i64.wrap
 ((IntKind.i64.wrap ((↑x.length : Int) + (7 : Int))).tdiv (8 : Int)))
 o ++
 boRows x ch c).length *
 (88 : Nat) ≤
 (140737488355328 : Nat) ∧
 (ordR (boRows x ch c)
 (IntKind.i64.wrap
 ((IntKind.i64.wrap ((↑x.length : Int) + (7 : Int))).tdiv (8 : Int)))
 o ++
 boRows x ch c).length ≤
 (140737488355328 : Nat)) then
 x.length ≤ (1000000000000 : Nat) ∧
 ((0 : Int) ≤
 IntKind.i64.wrap ((IntKind.i64.wrap ((↑x.length : Int) + (7 : Int))).tdiv (8 : Int)) ∧
 IntKind.i64.wrap ((IntKind.i64.wrap ((↑x.length : Int) + (7 : Int))).tdiv (8 : Int)) ≤
 (13 : Int) ∧
 x.length ≤
 (8 : Nat) *
 (IntKind.i64.wrap
 ((IntKind.i64.wrap ((↑x.length : Int) + (7 : Int))).tdiv (8 : Int))).toNat) ∧
 B
 {
 t :=
 [AV.any, AV.any, AV.one (SV.data (Row.ints IntKind.i64 o)), AV.any,
 AV.one (SV.ptr (0 : Nat) (1 : Nat) (0 : Nat) (0 : Nat)), AV.any, AV.any, AV.any,
 AV.any,
 AV.one
 (SV.int IntKind.i64
 (IntKind.i64.wrap
 ((IntKind.i64.wrap ((↑x.length : Int) + (7 : Int))).tdiv (8 : Int)))),
 AV.one (SV.own (1 : Nat) (11 : Nat)), AV.any, AV.one (SV.own (2 : Nat) (1 : Nat)),
 AV.any, AV.any, AV.any, AV.any, AV.any, AV.any, AV.any, AV.any, AV.any, AV.any,
 AV.any, AV.any, AV.any, AV.any, AV.any, AV.any, AV.any, AV.any, AV.any, AV.any,
 AV.any, AV.any, AV.any, AV.any, AV.any, AV.any, AV.any, AV.any, AV.any, AV.any,
 AV.any, AV.any, AV.any, AV.any, AV.any, AV.any, AV.any, AV.any, AV.any, AV.any,
 AV.any, AV.any, AV.any, AV.any, AV.any, AV.any, AV.any, AV.any, AV.any, AV.any,
 AV.any, AV.any, AV.any, AV.any, AV.any, AV.any, AV.any, AV.any, AV.any, AV.any,
 AV.any, AV.any, AV.any, AV.any, AV.any, AV.any, AV.any, AV.any, AV.any, AV.any,
 AV.any, AV.any, AV.any, AV.any, AV.any, AV.any, AV.any, AV.any, AV.any, AV.any,
 AV.any, AV.any, AV.any, AV.any, AV.any, AV.any, AV.any, AV.any, AV.any, AV.any,
 AV.any, AV.any, AV.any, AV.any, AV.any, AV.any, AV.any, AV.any, AV.any, AV.any,
 AV.any, AV.any, AV.any, AV.any, AV.any, AV.any, AV.any, AV.any, AV.any, AV.any,
 AV.any, AV.any, AV.any, AV.any, AV.any, AV.any, AV.any, AV.any, AV.any, AV.any,
 AV.any, AV.any, AV.any, AV.any, AV.any, AV.any, AV.any, AV.any, AV.any, AV.any,
 AV.any, AV.any, AV.any, AV.any, AV.any, AV.any, AV.any, AV.any, AV.any, AV.any,
 AV.any, AV.any, AV.any, AV.any, AV.any, AV.any, AV.any, AV.any, AV.any, AV.any,
 AV.any, AV.any, AV.any, AV.any, AV.any, AV.any, AV.any, AV.any, AV.any, AV.any,
 AV.any, AV.any, AV.any, AV.any, AV.any, AV.any, AV.any, AV.any, AV.any, AV.any,
 AV.any, AV.any, AV.any, AV.any, AV.any, AV.any, AV.any, AV.any, AV.any, AV.any,
 AV.any, AV.any, AV.any, AV.any, AV.any, AV.any, AV.any, AV.any, AV.any, AV.any,
 AV.any, AV.any, AV.any, AV.any, AV.any, AV.any, AV.any, AV.any, AV.any, AV.any,
 AV.any, AV.any, AV.any, AV.any, AV.any, AV.any, AV.any, AV.any, AV.any, AV.any,
 AV.any, AV.any, AV.any, AV.any],
 σ :=
 [Blk.cells [SV.int IntKind.i64 ch, SV.int IntKind.i64 c],
 Blk.row (37 : TypeId)
 (Row.mat IntKind.i64 (11 : Nat)
 (ordR (boRows x ch c)
 (IntKind.i64.wrap
 ((IntKind.i64.wrap ((↑x.length : Int) + (7 : Int))).tdiv (8 : Int)))
 o ++
 boRows x ch c)),
 Blk.row (3 : TypeId)
 (Row.ints IntKind.i64
 (padR x
 (IntKind.i64.wrap
 ((IntKind.i64.wrap ((↑x.length : Int) + (7 : Int))).tdiv
 (8 : Int))).toNat))] }
 else False) := by kernel_rfl
theorem extogl0a (o : List Int) (l : List (List Int)) (n i : Int) (K : Ex → List AV → List Blk → Prop) : evBody EtogF0 (lb Try.f12 0) [2, 7, 9, 10, 11] [10] [.one (.data (.ints .i64 o)), .one (.data (.mat .i64 11 l)), .one (.int .i64 n), .one .nil, .one (.int .i64 i)] [] K = (
 bif decide (i < (↑o.length : Int)) then
 bif decide ((0 : Int) ≤ i) && decide (i < (↑o.length : Int)) then
 bif decide (i.toNat + (0 : Nat) < o.length) then
 n ≠ (0 : Int) ∧
 bif
 decide ((0 : Int) ≤ modB (o.getD (i.toNat + (0 : Nat)) (0 : Int)) n) &&
 decide (modB (o.getD (i.toNat + (0 : Nat)) (0 : Int)) n < (↑l.length : Int)) then
 bif
 decide ((10 : Nat) < (11 : Nat)) &&
 decide ((modB (o.getD (i.toNat + (0 : Nat)) (0 : Int)) n).toNat < l.length) then
 K Ex.normal
 [AV.one (SV.data (Row.ints IntKind.i64 o)), AV.one (SV.data (Row.mat IntKind.i64 (11 : Nat) l)),
 AV.one (SV.int IntKind.i64 n), AV.one (SV.own (0 : Nat) (11 : Nat)),
 AV.one (SV.int IntKind.i64 (IntKind.i64.wrap (i + (1 : Int))))]
 [Blk.row (37 : Nat)
 (Row.mat IntKind.i64 (11 : Nat)
 [[(l.getD (modB (o.getD (i.toNat + (0 : Nat)) (0 : Int)) n).toNat []).getD (0 : Nat) (0 : Int),
 (l.getD (modB (o.getD (i.toNat + (0 : Nat)) (0 : Int)) n).toNat []).getD (1 : Nat) (0 : Int),
 (l.getD (modB (o.getD (i.toNat + (0 : Nat)) (0 : Int)) n).toNat []).getD (2 : Nat) (0 : Int),
 (l.getD (modB (o.getD (i.toNat + (0 : Nat)) (0 : Int)) n).toNat []).getD (3 : Nat) (0 : Int),
 (l.getD (modB (o.getD (i.toNat + (0 : Nat)) (0 : Int)) n).toNat []).getD (4 : Nat) (0 : Int),
 (l.getD (modB (o.getD (i.toNat + (0 : Nat)) (0 : Int)) n).toNat []).getD (5 : Nat) (0 : Int),
 (l.getD (modB (o.getD (i.toNat + (0 : Nat)) (0 : Int)) n).toNat []).getD (6 : Nat) (0 : Int),
 (l.getD (modB (o.getD (i.toNat + (0 : Nat)) (0 : Int)) n).toNat []).getD (7 : Nat) (0 : Int),
 (l.getD (modB (o.getD (i.toNat + (0 : Nat)) (0 : Int)) n).toNat []).getD (8 : Nat) (0 : Int),
 (l.getD (modB (o.getD (i.toNat + (0 : Nat)) (0 : Int)) n).toNat []).getD (9 : Nat) (0 : Int),
 (l.getD (modB (o.getD (i.toNat + (0 : Nat)) (0 : Int)) n).toNat []).getD (10 : Nat)
 (0 : Int)]])]
 else False
 else False
 else False
 else False
 else K (Ex.exit (0 : Nat)) [AV.one SV.nil] []) := by kernel_rfl
theorem extogl0b (o : List Int) (l : List (List Int)) (n i : Int) (S : List (List Int)) (K : Ex → List AV → List Blk → Prop) : evBody EtogF0 (lb Try.f12 0) [2, 7, 9, 10, 11] [10] [.one (.data (.ints .i64 o)), .one (.data (.mat .i64 11 l)), .one (.int .i64 n), .one (.own 0 11), .one (.int .i64 i)] [.row 37 (.mat .i64 11 S)] K = (
 bif decide (i < (↑o.length : Int)) then
 bif decide ((0 : Int) ≤ i) && decide (i < (↑o.length : Int)) then
 bif decide (i.toNat + (0 : Nat) < o.length) then
 n ≠ (0 : Int) ∧
 bif
 decide ((0 : Int) ≤ modB (o.getD (i.toNat + (0 : Nat)) (0 : Int)) n) &&
 decide (modB (o.getD (i.toNat + (0 : Nat)) (0 : Int)) n < (↑l.length : Int)) then
 bif
 decide ((10 : Nat) < (11 : Nat)) &&
 decide ((modB (o.getD (i.toNat + (0 : Nat)) (0 : Int)) n).toNat < l.length) then
 bif
 decide
 ((S ++
 [[(l.getD (modB (o.getD (i.toNat + (0 : Nat)) (0 : Int)) n).toNat []).getD (0 : Nat)
 (0 : Int),
 (l.getD (modB (o.getD (i.toNat + (0 : Nat)) (0 : Int)) n).toNat []).getD (1 : Nat)
 (0 : Int),
 (l.getD (modB (o.getD (i.toNat + (0 : Nat)) (0 : Int)) n).toNat []).getD (2 : Nat)
 (0 : Int),
 (l.getD (modB (o.getD (i.toNat + (0 : Nat)) (0 : Int)) n).toNat []).getD (3 : Nat)
 (0 : Int),
 (l.getD (modB (o.getD (i.toNat + (0 : Nat)) (0 : Int)) n).toNat []).getD (4 : Nat)
 (0 : Int),
 (l.getD (modB (o.getD (i.toNat + (0 : Nat)) (0 : Int)) n).toNat []).getD (5 : Nat)
 (0 : Int),
 (l.getD (modB (o.getD (i.toNat + (0 : Nat)) (0 : Int)) n).toNat []).getD (6 : Nat)
 (0 : Int),
 (l.getD (modB (o.getD (i.toNat + (0 : Nat)) (0 : Int)) n).toNat []).getD (7 : Nat)
 (0 : Int),
 (l.getD (modB (o.getD (i.toNat + (0 : Nat)) (0 : Int)) n).toNat []).getD (8 : Nat)
 (0 : Int),
 (l.getD (modB (o.getD (i.toNat + (0 : Nat)) (0 : Int)) n).toNat []).getD (9 : Nat)
 (0 : Int),
 (l.getD (modB (o.getD (i.toNat + (0 : Nat)) (0 : Int)) n).toNat []).getD (10 : Nat)
 (0 : Int)]]).length *
 (88 : Nat) ≤
 (140737488355328 : Nat) ∧
 (S ++
 [[(l.getD (modB (o.getD (i.toNat + (0 : Nat)) (0 : Int)) n).toNat []).getD (0 : Nat)
 (0 : Int),
 (l.getD (modB (o.getD (i.toNat + (0 : Nat)) (0 : Int)) n).toNat []).getD (1 : Nat)
 (0 : Int),
 (l.getD (modB (o.getD (i.toNat + (0 : Nat)) (0 : Int)) n).toNat []).getD (2 : Nat)
 (0 : Int),
 (l.getD (modB (o.getD (i.toNat + (0 : Nat)) (0 : Int)) n).toNat []).getD (3 : Nat)
 (0 : Int),
 (l.getD (modB (o.getD (i.toNat + (0 : Nat)) (0 : Int)) n).toNat []).getD (4 : Nat)
 (0 : Int),
 (l.getD (modB (o.getD (i.toNat + (0 : Nat)) (0 : Int)) n).toNat []).getD (5 : Nat)
 (0 : Int),
 (l.getD (modB (o.getD (i.toNat + (0 : Nat)) (0 : Int)) n).toNat []).getD (6 : Nat)
 (0 : Int),
 (l.getD (modB (o.getD (i.toNat + (0 : Nat)) (0 : Int)) n).toNat []).getD (7 : Nat)
 (0 : Int),
 (l.getD (modB (o.getD (i.toNat + (0 : Nat)) (0 : Int)) n).toNat []).getD (8 : Nat)
 (0 : Int),
 (l.getD (modB (o.getD (i.toNat + (0 : Nat)) (0 : Int)) n).toNat []).getD (9 : Nat)
 (0 : Int),
 (l.getD (modB (o.getD (i.toNat + (0 : Nat)) (0 : Int)) n).toNat []).getD (10 : Nat)
 (0 : Int)]]).length ≤
 (140737488355328 : Nat)) then
 K Ex.normal
 [AV.one (SV.data (Row.ints IntKind.i64 o)), AV.one (SV.data (Row.mat IntKind.i64 (11 : Nat) l)),
 AV.one (SV.int IntKind.i64 n), AV.one (SV.own (0 : Nat) (11 : Nat)),
 AV.one (SV.int IntKind.i64 (IntKind.i64.wrap (i + (1 : Int))))]
 [Blk.row (37 : Nat)
 (Row.mat IntKind.i64 (11 : Nat)
 (S ++
 [[(l.getD (modB (o.getD (i.toNat + (0 : Nat)) (0 : Int)) n).toNat []).getD (0 : Nat) (0 : Int),
 (l.getD (modB (o.getD (i.toNat + (0 : Nat)) (0 : Int)) n).toNat []).getD (1 : Nat)
 (0 : Int),
 (l.getD (modB (o.getD (i.toNat + (0 : Nat)) (0 : Int)) n).toNat []).getD (2 : Nat)
 (0 : Int),
 (l.getD (modB (o.getD (i.toNat + (0 : Nat)) (0 : Int)) n).toNat []).getD (3 : Nat)
 (0 : Int),
 (l.getD (modB (o.getD (i.toNat + (0 : Nat)) (0 : Int)) n).toNat []).getD (4 : Nat)
 (0 : Int),
 (l.getD (modB (o.getD (i.toNat + (0 : Nat)) (0 : Int)) n).toNat []).getD (5 : Nat)
 (0 : Int),
 (l.getD (modB (o.getD (i.toNat + (0 : Nat)) (0 : Int)) n).toNat []).getD (6 : Nat)
 (0 : Int),
 (l.getD (modB (o.getD (i.toNat + (0 : Nat)) (0 : Int)) n).toNat []).getD (7 : Nat)
 (0 : Int),
 (l.getD (modB (o.getD (i.toNat + (0 : Nat)) (0 : Int)) n).toNat []).getD (8 : Nat)
 (0 : Int),
 (l.getD (modB (o.getD (i.toNat + (0 : Nat)) (0 : Int)) n).toNat []).getD (9 : Nat)
 (0 : Int),
 (l.getD (modB (o.getD (i.toNat + (0 : Nat)) (0 : Int)) n).toNat []).getD (10 : Nat)
 (0 : Int)]]))]
 else False
 else False
 else False
 else False
 else False
 else
 K (Ex.exit (0 : Nat)) [AV.one (SV.own (0 : Nat) (11 : Nat))]
 [Blk.row (37 : TypeId) (Row.mat IntKind.i64 (11 : Nat) S)]) := by kernel_rfl
theorem extogl1a (o : List Int) (n ch c : Int) (A : List (List Int)) (P : List Int) (K : Ex → List AV → List Blk → Prop) : evBody Etog (lb Try.f12 1) [2, 4, 9, 10, 12] [2, 4, 9, 10, 12] [.one (.data (.ints .i64 o)), .one (.ptr 0 1 0 0), .one (.int .i64 n), .one (.own 1 11), .one (.own 2 1)] [.cells [.int .i64 ch, .int .i64 c], .row 37 (.mat .i64 11 A), .row 3 (.ints .i64 P)] K = (
 bif decide ((↑P.length : Int) < IntKind.i64.wrap ((8 : Int) * n)) then
 bif
 decide
 ((P ++ [(0 : Int)]).length * (8 : Nat) ≤ (140737488355328 : Nat) ∧
 (P ++ [(0 : Int)]).length ≤ (140737488355328 : Nat)) then
 K Ex.normal
 [AV.one (SV.data (Row.ints IntKind.i64 o)), AV.one (SV.ptr (0 : Nat) (1 : Nat) (0 : Nat) (0 : Nat)),
 AV.one (SV.int IntKind.i64 n), AV.one (SV.own (1 : Nat) (11 : Nat)), AV.one (SV.own (2 : Nat) (1 : Nat))]
 [Blk.cells [SV.int IntKind.i64 ch, SV.int IntKind.i64 c],
 Blk.row (37 : TypeId) (Row.mat IntKind.i64 (11 : Nat) A),
 Blk.row (3 : Nat) (Row.ints IntKind.i64 (P ++ [(0 : Int)]))]
 else False
 else
 K (Ex.exit (2 : Nat))
 [AV.one (SV.data (Row.ints IntKind.i64 o)), AV.one (SV.ptr (0 : Nat) (1 : Nat) (0 : Nat) (0 : Nat)),
 AV.one (SV.int IntKind.i64 n), AV.one (SV.own (1 : Nat) (11 : Nat)), AV.one (SV.own (2 : Nat) (1 : Nat))]
 [Blk.cells [SV.int IntKind.i64 ch, SV.int IntKind.i64 c], Blk.row (37 : TypeId) (Row.mat IntKind.i64 (11 : Nat) A),
 Blk.row (3 : TypeId) (Row.ints IntKind.i64 P)]) := by kernel_rfl
theorem extogl2a (q i ch c : Int) (A : List (List Int)) (K : Ex → List AV → List Blk → Prop) : evBody EtogF2 (lb Try.f12 2) [4, 10, 17, 18, 19] [18] [.one (.ptr 0 1 0 0), .one (.own 1 11), .one (.int .i64 q), .one .nil, .one (.int .i64 i)] [.cells [.int .i64 ch, .int .i64 c], .row 37 (.mat .i64 11 A)] K = (
 bif decide (i < (↑A.length : Int)) then
 bif decide ((0 : Int) ≤ i) && decide (i < (↑A.length : Int)) then
 bif decide ((0 : Nat) < (11 : Nat)) && decide (i.toNat < A.length) then
 bif (A.getD i.toNat []).getD (0 : Nat) (0 : Int) != IntKind.i64.wrap (c + q) then
 bif decide ((0 : Int) ≤ i) && decide (i < (↑A.length : Int)) then
 bif decide ((10 : Nat) < (11 : Nat)) && decide (i.toNat < A.length) then
 K Ex.normal
 [AV.one (SV.ptr (0 : Nat) (1 : Nat) (0 : Nat) (0 : Nat)), AV.one (SV.own (1 : Nat) (11 : Nat)),
 AV.one (SV.int IntKind.i64 q), AV.one (SV.own (2 : Nat) (11 : Nat)),
 AV.one (SV.int IntKind.i64 (IntKind.i64.wrap (i + (1 : Int))))]
 [Blk.cells [SV.int IntKind.i64 ch, SV.int IntKind.i64 c],
 Blk.row (37 : TypeId) (Row.mat IntKind.i64 (11 : Nat) A),
 Blk.row (37 : Nat)
 (Row.mat IntKind.i64 (11 : Nat)
 [[(A.getD i.toNat []).getD (0 : Nat) (0 : Int), (A.getD i.toNat []).getD (1 : Nat) (0 : Int),
 (A.getD i.toNat []).getD (2 : Nat) (0 : Int), (A.getD i.toNat []).getD (3 : Nat) (0 : Int),
 (A.getD i.toNat []).getD (4 : Nat) (0 : Int), (A.getD i.toNat []).getD (5 : Nat) (0 : Int),
 (A.getD i.toNat []).getD (6 : Nat) (0 : Int), (A.getD i.toNat []).getD (7 : Nat) (0 : Int),
 (A.getD i.toNat []).getD (8 : Nat) (0 : Int), (A.getD i.toNat []).getD (9 : Nat) (0 : Int),
 (A.getD i.toNat []).getD (10 : Nat) (0 : Int)]])]
 else False
 else False
 else
 K Ex.normal
 [AV.one (SV.ptr (0 : Nat) (1 : Nat) (0 : Nat) (0 : Nat)), AV.one (SV.own (1 : Nat) (11 : Nat)),
 AV.one (SV.int IntKind.i64 q), AV.one SV.nil,
 AV.one (SV.int IntKind.i64 (IntKind.i64.wrap (i + (1 : Int))))]
 [Blk.cells [SV.int IntKind.i64 ch, SV.int IntKind.i64 c],
 Blk.row (37 : TypeId) (Row.mat IntKind.i64 (11 : Nat) A)]
 else False
 else False
 else
 K (Ex.exit (4 : Nat)) [AV.one SV.nil]
 [Blk.cells [SV.int IntKind.i64 ch, SV.int IntKind.i64 c], Blk.row (37 : TypeId) (Row.mat IntKind.i64 (11 : Nat) A)]) := by kernel_rfl
theorem extogl2b (q i ch c : Int) (A S : List (List Int)) (K : Ex → List AV → List Blk → Prop) : evBody EtogF2 (lb Try.f12 2) [4, 10, 17, 18, 19] [18] [.one (.ptr 0 1 0 0), .one (.own 1 11), .one (.int .i64 q), .one (.own 2 11), .one (.int .i64 i)] [.cells [.int .i64 ch, .int .i64 c], .row 37 (.mat .i64 11 A), .row 37 (.mat .i64 11 S)] K = (
 bif decide (i < (↑A.length : Int)) then
 bif decide ((0 : Int) ≤ i) && decide (i < (↑A.length : Int)) then
 bif decide ((0 : Nat) < (11 : Nat)) && decide (i.toNat < A.length) then
 bif (A.getD i.toNat []).getD (0 : Nat) (0 : Int) != IntKind.i64.wrap (c + q) then
 bif decide ((0 : Int) ≤ i) && decide (i < (↑A.length : Int)) then
 bif decide ((10 : Nat) < (11 : Nat)) && decide (i.toNat < A.length) then
 bif
 decide
 ((S ++
 [[(A.getD i.toNat []).getD (0 : Nat) (0 : Int),
 (A.getD i.toNat []).getD (1 : Nat) (0 : Int),
 (A.getD i.toNat []).getD (2 : Nat) (0 : Int),
 (A.getD i.toNat []).getD (3 : Nat) (0 : Int),
 (A.getD i.toNat []).getD (4 : Nat) (0 : Int),
 (A.getD i.toNat []).getD (5 : Nat) (0 : Int),
 (A.getD i.toNat []).getD (6 : Nat) (0 : Int),
 (A.getD i.toNat []).getD (7 : Nat) (0 : Int),
 (A.getD i.toNat []).getD (8 : Nat) (0 : Int),
 (A.getD i.toNat []).getD (9 : Nat) (0 : Int),
 (A.getD i.toNat []).getD (10 : Nat) (0 : Int)]]).length *
 (88 : Nat) ≤
 (140737488355328 : Nat) ∧
 (S ++
 [[(A.getD i.toNat []).getD (0 : Nat) (0 : Int), (A.getD i.toNat []).getD (1 : Nat) (0 : Int),
 (A.getD i.toNat []).getD (2 : Nat) (0 : Int),
 (A.getD i.toNat []).getD (3 : Nat) (0 : Int),
 (A.getD i.toNat []).getD (4 : Nat) (0 : Int),
 (A.getD i.toNat []).getD (5 : Nat) (0 : Int),
 (A.getD i.toNat []).getD (6 : Nat) (0 : Int),
 (A.getD i.toNat []).getD (7 : Nat) (0 : Int),
 (A.getD i.toNat []).getD (8 : Nat) (0 : Int),
 (A.getD i.toNat []).getD (9 : Nat) (0 : Int),
 (A.getD i.toNat []).getD (10 : Nat) (0 : Int)]]).length ≤
 (140737488355328 : Nat)) then
 K Ex.normal
 [AV.one (SV.ptr (0 : Nat) (1 : Nat) (0 : Nat) (0 : Nat)), AV.one (SV.own (1 : Nat) (11 : Nat)),
 AV.one (SV.int IntKind.i64 q), AV.one (SV.own (2 : Nat) (11 : Nat)),
 AV.one (SV.int IntKind.i64 (IntKind.i64.wrap (i + (1 : Int))))]
 [Blk.cells [SV.int IntKind.i64 ch, SV.int IntKind.i64 c],
 Blk.row (37 : TypeId) (Row.mat IntKind.i64 (11 : Nat) A),
 Blk.row (37 : Nat)
 (Row.mat IntKind.i64 (11 : Nat)
 (S ++
 [[(A.getD i.toNat []).getD (0 : Nat) (0 : Int), (A.getD i.toNat []).getD (1 : Nat) (0 : Int),
 (A.getD i.toNat []).getD (2 : Nat) (0 : Int), (A.getD i.toNat []).getD (3 : Nat) (0 : Int),
 (A.getD i.toNat []).getD (4 : Nat) (0 : Int), (A.getD i.toNat []).getD (5 : Nat) (0 : Int),
 (A.getD i.toNat []).getD (6 : Nat) (0 : Int), (A.getD i.toNat []).getD (7 : Nat) (0 : Int),
 (A.getD i.toNat []).getD (8 : Nat) (0 : Int), (A.getD i.toNat []).getD (9 : Nat) (0 : Int),
 (A.getD i.toNat []).getD (10 : Nat) (0 : Int)]]))]
 else False
 else False
 else False
 else
 K Ex.normal
 [AV.one (SV.ptr (0 : Nat) (1 : Nat) (0 : Nat) (0 : Nat)), AV.one (SV.own (1 : Nat) (11 : Nat)),
 AV.one (SV.int IntKind.i64 q), AV.one (SV.own (2 : Nat) (11 : Nat)),
 AV.one (SV.int IntKind.i64 (IntKind.i64.wrap (i + (1 : Int))))]
 [Blk.cells [SV.int IntKind.i64 ch, SV.int IntKind.i64 c],
 Blk.row (37 : TypeId) (Row.mat IntKind.i64 (11 : Nat) A),
 Blk.row (37 : TypeId) (Row.mat IntKind.i64 (11 : Nat) S)]
 else False
 else False
 else
 K (Ex.exit (4 : Nat)) [AV.one (SV.own (2 : Nat) (11 : Nat))]
 [Blk.cells [SV.int IntKind.i64 ch, SV.int IntKind.i64 c], Blk.row (37 : TypeId) (Row.mat IntKind.i64 (11 : Nat) A),
 Blk.row (37 : TypeId) (Row.mat IntKind.i64 (11 : Nat) S)]) := by kernel_rfl
theorem extogl3a (n q i : Int) (P : List Int) (f : Int) (U : List Int) (G : List (List Int)) (K : Ex → List AV → List Blk → Prop) : evBody EtogF2 (lb Try.f12 3) [9, 12, 17, 20, 22] [6] [.one (.int .i64 n), .one (.own 0 1), .one (.int .i64 q), .one (.ptr 1 1 0 0), .one (.int .i64 i)] [.row 3 (.ints .i64 P), .cells [.int .i64 f, .data (.ints .i64 U), .data (.mat .i64 2 G)]] K = (
 bif decide (i < IntKind.i64.wrap ((8 : Int) * n)) then
 bif decide ((0 : Int) ≤ i) && decide (i < (↑P.length : Int)) then
 bif decide (i.toNat + (0 : Nat) < P.length) then
 bif
 decide (IntKind.i64.wrap ((8 : Int) * q) ≤ i) &&
 decide (i ≤ IntKind.i64.wrap (IntKind.i64.wrap ((8 : Int) * q) + (7 : Int))) then
 bif decide ((0 : Int) ≤ i) && decide (i < (↑U.length : Int)) then
 bif decide (i.toNat + (0 : Nat) < U.length) then
 bif U.getD (i.toNat + (0 : Nat)) (0 : Int) != (0 : Int) then
 K Ex.ret [AV.one (SV.bool false)]
 [Blk.row (3 : TypeId) (Row.ints IntKind.i64 P),
 Blk.cells
 [SV.int IntKind.i64 f, SV.data (Row.ints IntKind.i64 U), SV.data (Row.mat IntKind.i64 (2 : Nat) G)]]
 else
 K Ex.normal
 [AV.one (SV.int IntKind.i64 n), AV.one (SV.own (0 : Nat) (1 : Nat)), AV.one (SV.int IntKind.i64 q),
 AV.one (SV.ptr (1 : Nat) (1 : Nat) (0 : Nat) (0 : Nat)),
 AV.one (SV.int IntKind.i64 (IntKind.i64.wrap (i + (1 : Int))))]
 [Blk.row (3 : TypeId) (Row.ints IntKind.i64 P),
 Blk.cells
 [SV.int IntKind.i64 f, SV.data (Row.ints IntKind.i64 U), SV.data (Row.mat IntKind.i64 (2 : Nat) G)]]
 else False
 else False
 else
 bif decide ((0 : Int) ≤ i) && decide (i < (↑U.length : Int)) then
 bif decide (i.toNat + (0 : Nat) < U.length) then
 bif U.getD (i.toNat + (0 : Nat)) (0 : Int) != P.getD (i.toNat + (0 : Nat)) (0 : Int) then
 K Ex.ret [AV.one (SV.bool false)]
 [Blk.row (3 : TypeId) (Row.ints IntKind.i64 P),
 Blk.cells
 [SV.int IntKind.i64 f, SV.data (Row.ints IntKind.i64 U), SV.data (Row.mat IntKind.i64 (2 : Nat) G)]]
 else
 K Ex.normal
 [AV.one (SV.int IntKind.i64 n), AV.one (SV.own (0 : Nat) (1 : Nat)), AV.one (SV.int IntKind.i64 q),
 AV.one (SV.ptr (1 : Nat) (1 : Nat) (0 : Nat) (0 : Nat)),
 AV.one (SV.int IntKind.i64 (IntKind.i64.wrap (i + (1 : Int))))]
 [Blk.row (3 : TypeId) (Row.ints IntKind.i64 P),
 Blk.cells
 [SV.int IntKind.i64 f, SV.data (Row.ints IntKind.i64 U), SV.data (Row.mat IntKind.i64 (2 : Nat) G)]]
 else False
 else False
 else False
 else False
 else
 K (Ex.exit (6 : Nat)) [AV.any]
 [Blk.row (3 : TypeId) (Row.ints IntKind.i64 P),
 Blk.cells [SV.int IntKind.i64 f, SV.data (Row.ints IntKind.i64 U), SV.data (Row.mat IntKind.i64 (2 : Nat) G)]]) := by kernel_rfl
end Go.Ev
