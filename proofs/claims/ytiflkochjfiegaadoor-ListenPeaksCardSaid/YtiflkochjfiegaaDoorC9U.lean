/-
  Chapter 9, contracts: the law of peaks.
-/
import Derived.Test.YtiflkochjfiegaaDoorC9Q
import Derived.Test.YtiflkochjfiegaaDoorC9X
import Derived.Test.YtiflkochjfiegaaDoorC9G
import Derived.KernelRfl
import Derived.Test.YtiflkochjfiegaaDoorC9H
set_option linter.unusedVariables false
set_option linter.unusedSimpArgs false
set_option linter.unusedSectionVars false
namespace Go.Ev
open Go Go.Proofs
set_option maxRecDepth 20000

def plkL : LSpec := fun vs σ k => match vs, σ with
  | [.one (.data (.ints .i64 x)), .one (.ptr 0 1 0 0), .one (.int .i64 m), .one .nil, .one (.int .i64 i)], [.cells [.int .i64 p, .int .i64 q]] =>
    (okS x ∧ i = 0 ∧ m = 0) ∧ bif x.isEmpty then k (.exit 0) [.one (.ptr 0 1 0 0), .one (.int .i64 0), .one .nil] [.cells [.int .i64 p, .int .i64 q]]
      else k (.exit 0) [.one (.ptr 0 1 0 0), .one (.int .i64 (mostL 0 x)), .one (.own 1 1)] [.cells [.int .i64 p, .int .i64 q], .row 3 (.ints .i64 (revN x))]
  | [.one (.data (.ints .i64 x)), .one (.ptr 0 1 0 0), .one (.int .i64 m), .one (.own 1 1), .one (.int .i64 i)], [.cells [.int .i64 p, .int .i64 q], .row 3 (.ints .i64 out)] =>
    (okS x ∧ 0 ≤ i ∧ i ≤ x.length ∧ (out.length : Int) = i ∧ 0 ≤ m ∧ m ≤ 32767) ∧
    k (.exit 0) [.one (.ptr 0 1 0 0), .one (.int .i64 (mostL m (x.drop i.toNat))), .one (.own 1 1)] [.cells [.int .i64 p, .int .i64 q], .row 3 (.ints .i64 (out ++ (revN x).drop i.toNat))]
  | _, _ => False
def lawPeakS : Spec := fun args σ K => match args, σ with
  | [.one (.data (.ints .i64 x))], [] => K (.one (.bool true)) []
  | _, _ => False
noncomputable abbrev Epks : Env := envOf Tryd.prog [(19, awakeS), (20, shortS), (22, copyDS), (34, true3S), (35, headS), (26, sigS), (36, rtrueS), (37, rheadS), (38, sizeS), (33, compareS)] [(18, .spec [0, 3, 10, 11, 12] [3, 10, 11] plkL)] 146 0
end Go.Ev

namespace Go.Ev
open Go Go.Proofs
set_option maxRecDepth 100000
theorem expks (x : List Int) (K : AV → List Blk → Prop) : evFn Epks Tryd.f5 [.one (.data (.ints .i64 x))] [] K = (
 bif !shortG x then K (AV.one (SV.bool true)) []
 else
 x.length ≤ (1000000000000 : Nat) ∧
 x.length ≤ (1000000000 : Nat) ∧
 x.length ≤ (1000000000000 : Nat) ∧
 x.length ≤ (1000000000 : Nat) ∧
 x.length ≤ (1000000000 : Nat) ∧
 bif sigE x != (0 : Int) then
 bif sigE x == sigE x then
 bif hdE x == sigE x then
 bif tq x == (0 : Int) && tr x == (0 : Int) then
 K (AV.one (SV.bool (hdP x == (0 : Int) && hdQ x == (0 : Int)))) []
 else K (AV.one (SV.bool false)) []
 else K (AV.one (SV.bool false)) []
 else K (AV.one (SV.bool false)) []
 else
 bif sigE x != (0 : Int) then K (AV.one (SV.bool false)) []
 else
 (x.length ≤ (200 : Nat) ∧ x.all sampleG = true) ∧
 bif !(tq x == rtq x && tr x == rtr x) then K (AV.one (SV.bool false)) []
 else
 (x.length ≤ (200 : Nat) ∧ x.all sampleG = true) ∧
 bif !pkI x == (0 : Int) then
 bif hdE x != (0 : Int) then K (AV.one (SV.bool false)) []
 else
 bif !(hdP x == rhdP x && hdQ x == rhdQ x) then K (AV.one (SV.bool false)) []
 else
 bif !!pkI x == (0 : Int) then
 bif hdE x != (11 : Int) then K (AV.one (SV.bool false)) []
 else
 bif !(hdP x == (0 : Int) && hdQ x == (0 : Int)) then K (AV.one (SV.bool false)) []
 else
 ((x.length ≤ (200 : Nat) ∧ x.all sampleG = true) ∧
 (0 : Int) = (0 : Int) ∧ (0 : Int) = (0 : Int)) ∧
 bif x.isEmpty then
 (0 : Nat) ≤ (1000000000 : Nat) ∧
 bif (0 : Int) == tq x && (1 : Int) == tr x then
 ((0 : Int) ≤ (0 : Int) ∧
 (0 : Int) ≤ (4611686018427387904 : Int) ∧
 (0 : Int) < (1 : Int) ∧
 (1 : Int) ≤ (4611686018427387904 : Int) ∧
 (0 : Int) ≤ tq x ∧
 tq x ≤ (4611686018427387904 : Int) ∧
 (0 : Int) < tr x ∧ tr x ≤ (4611686018427387904 : Int)) ∧
 bif decide (cmpF (0 : Int) (1 : Int) (tq x) (tr x) ≤ (0 : Int)) then
 ((0 : Int) ≤ tq x ∧
 tq x ≤ (4611686018427387904 : Int) ∧
 (0 : Int) < tr x ∧
 tr x ≤ (4611686018427387904 : Int) ∧
 (0 : Int) ≤ (0 : Int) ∧
 (0 : Int) ≤ (4611686018427387904 : Int) ∧
 (0 : Int) < (4 : Int) ∧
 (4 : Int) ≤ (4611686018427387904 : Int)) ∧
 K
 (AV.one
 (SV.bool
 (decide (cmpF (tq x) (tr x) (0 : Int) (4 : Int) ≤ (0 : Int)))))
 []
 else K (AV.one (SV.bool false)) []
 else K (AV.one (SV.bool false)) []
 else
 (revN x).length ≤ (1000000000 : Nat) ∧
 bif sigE (revN x) == (0 : Int) then
 bif tq (revN x) == tq x && tr (revN x) == tr x then
 ((0 : Int) ≤ mostL (0 : Int) x ∧
 mostL (0 : Int) x ≤ (4611686018427387904 : Int) ∧
 (0 : Int) < (1 : Int) ∧
 (1 : Int) ≤ (4611686018427387904 : Int) ∧
 (0 : Int) ≤ tq x ∧
 tq x ≤ (4611686018427387904 : Int) ∧
 (0 : Int) < tr x ∧ tr x ≤ (4611686018427387904 : Int)) ∧
 bif
 decide
 (cmpF (mostL (0 : Int) x) (1 : Int) (tq x) (tr x) ≤ (0 : Int)) then
 ((0 : Int) ≤ tq x ∧
 tq x ≤ (4611686018427387904 : Int) ∧
 (0 : Int) < tr x ∧
 tr x ≤ (4611686018427387904 : Int) ∧
 (0 : Int) ≤ IntKind.i64.wrap ((5 : Int) * mostL (0 : Int) x) ∧
 IntKind.i64.wrap ((5 : Int) * mostL (0 : Int) x) ≤
 (4611686018427387904 : Int) ∧
 (0 : Int) < (4 : Int) ∧
 (4 : Int) ≤ (4611686018427387904 : Int)) ∧
 K
 (AV.one
 (SV.bool
 (decide
 (cmpF (tq x) (tr x)
 (IntKind.i64.wrap ((5 : Int) * mostL (0 : Int) x))
 (4 : Int) ≤
 (0 : Int)))))
 []
 else K (AV.one (SV.bool false)) []
 else K (AV.one (SV.bool false)) []
 else K (AV.one (SV.bool false)) []
 else
 ((x.length ≤ (200 : Nat) ∧ x.all sampleG = true) ∧
 (0 : Int) = (0 : Int) ∧ (0 : Int) = (0 : Int)) ∧
 bif x.isEmpty then
 (0 : Nat) ≤ (1000000000 : Nat) ∧
 bif (0 : Int) == tq x && (1 : Int) == tr x then
 ((0 : Int) ≤ (0 : Int) ∧
 (0 : Int) ≤ (4611686018427387904 : Int) ∧
 (0 : Int) < (1 : Int) ∧
 (1 : Int) ≤ (4611686018427387904 : Int) ∧
 (0 : Int) ≤ tq x ∧
 tq x ≤ (4611686018427387904 : Int) ∧
 (0 : Int) < tr x ∧ tr x ≤ (4611686018427387904 : Int)) ∧
 bif decide (cmpF (0 : Int) (1 : Int) (tq x) (tr x) ≤ (0 : Int)) then
 ((0 : Int) ≤ tq x ∧
 tq x ≤ (4611686018427387904 : Int) ∧
 (0 : Int) < tr x ∧
 tr x ≤ (4611686018427387904 : Int) ∧
 (0 : Int) ≤ (0 : Int) ∧
 (0 : Int) ≤ (4611686018427387904 : Int) ∧
 (0 : Int) < (4 : Int) ∧
 (4 : Int) ≤ (4611686018427387904 : Int)) ∧
 K
 (AV.one
 (SV.bool (decide (cmpF (tq x) (tr x) (0 : Int) (4 : Int) ≤ (0 : Int)))))
 []
 else K (AV.one (SV.bool false)) []
 else K (AV.one (SV.bool false)) []
 else
 (revN x).length ≤ (1000000000 : Nat) ∧
 bif sigE (revN x) == (0 : Int) then
 bif tq (revN x) == tq x && tr (revN x) == tr x then
 ((0 : Int) ≤ mostL (0 : Int) x ∧
 mostL (0 : Int) x ≤ (4611686018427387904 : Int) ∧
 (0 : Int) < (1 : Int) ∧
 (1 : Int) ≤ (4611686018427387904 : Int) ∧
 (0 : Int) ≤ tq x ∧
 tq x ≤ (4611686018427387904 : Int) ∧
 (0 : Int) < tr x ∧ tr x ≤ (4611686018427387904 : Int)) ∧
 bif decide (cmpF (mostL (0 : Int) x) (1 : Int) (tq x) (tr x) ≤ (0 : Int)) then
 ((0 : Int) ≤ tq x ∧
 tq x ≤ (4611686018427387904 : Int) ∧
 (0 : Int) < tr x ∧
 tr x ≤ (4611686018427387904 : Int) ∧
 (0 : Int) ≤ IntKind.i64.wrap ((5 : Int) * mostL (0 : Int) x) ∧
 IntKind.i64.wrap ((5 : Int) * mostL (0 : Int) x) ≤
 (4611686018427387904 : Int) ∧
 (0 : Int) < (4 : Int) ∧
 (4 : Int) ≤ (4611686018427387904 : Int)) ∧
 K
 (AV.one
 (SV.bool
 (decide
 (cmpF (tq x) (tr x)
 (IntKind.i64.wrap ((5 : Int) * mostL (0 : Int) x)) (4 : Int) ≤
 (0 : Int)))))
 []
 else K (AV.one (SV.bool false)) []
 else K (AV.one (SV.bool false)) []
 else K (AV.one (SV.bool false)) []
 else
 bif !!pkI x == (0 : Int) then
 bif hdE x != (11 : Int) then K (AV.one (SV.bool false)) []
 else
 bif !(hdP x == (0 : Int) && hdQ x == (0 : Int)) then K (AV.one (SV.bool false)) []
 else
 ((x.length ≤ (200 : Nat) ∧ x.all sampleG = true) ∧
 (0 : Int) = (0 : Int) ∧ (0 : Int) = (0 : Int)) ∧
 bif x.isEmpty then
 (0 : Nat) ≤ (1000000000 : Nat) ∧
 bif (0 : Int) == tq x && (1 : Int) == tr x then
 ((0 : Int) ≤ (0 : Int) ∧
 (0 : Int) ≤ (4611686018427387904 : Int) ∧
 (0 : Int) < (1 : Int) ∧
 (1 : Int) ≤ (4611686018427387904 : Int) ∧
 (0 : Int) ≤ tq x ∧
 tq x ≤ (4611686018427387904 : Int) ∧
 (0 : Int) < tr x ∧ tr x ≤ (4611686018427387904 : Int)) ∧
 bif decide (cmpF (0 : Int) (1 : Int) (tq x) (tr x) ≤ (0 : Int)) then
 ((0 : Int) ≤ tq x ∧
 tq x ≤ (4611686018427387904 : Int) ∧
 (0 : Int) < tr x ∧
 tr x ≤ (4611686018427387904 : Int) ∧
 (0 : Int) ≤ (0 : Int) ∧
 (0 : Int) ≤ (4611686018427387904 : Int) ∧
 (0 : Int) < (4 : Int) ∧
 (4 : Int) ≤ (4611686018427387904 : Int)) ∧
 K
 (AV.one
 (SV.bool (decide (cmpF (tq x) (tr x) (0 : Int) (4 : Int) ≤ (0 : Int)))))
 []
 else K (AV.one (SV.bool false)) []
 else K (AV.one (SV.bool false)) []
 else
 (revN x).length ≤ (1000000000 : Nat) ∧
 bif sigE (revN x) == (0 : Int) then
 bif tq (revN x) == tq x && tr (revN x) == tr x then
 ((0 : Int) ≤ mostL (0 : Int) x ∧
 mostL (0 : Int) x ≤ (4611686018427387904 : Int) ∧
 (0 : Int) < (1 : Int) ∧
 (1 : Int) ≤ (4611686018427387904 : Int) ∧
 (0 : Int) ≤ tq x ∧
 tq x ≤ (4611686018427387904 : Int) ∧
 (0 : Int) < tr x ∧ tr x ≤ (4611686018427387904 : Int)) ∧
 bif decide (cmpF (mostL (0 : Int) x) (1 : Int) (tq x) (tr x) ≤ (0 : Int)) then
 ((0 : Int) ≤ tq x ∧
 tq x ≤ (4611686018427387904 : Int) ∧
 (0 : Int) < tr x ∧
 tr x ≤ (4611686018427387904 : Int) ∧
 (0 : Int) ≤ IntKind.i64.wrap ((5 : Int) * mostL (0 : Int) x) ∧
 IntKind.i64.wrap ((5 : Int) * mostL (0 : Int) x) ≤
 (4611686018427387904 : Int) ∧
 (0 : Int) < (4 : Int) ∧
 (4 : Int) ≤ (4611686018427387904 : Int)) ∧
 K
 (AV.one
 (SV.bool
 (decide
 (cmpF (tq x) (tr x)
 (IntKind.i64.wrap ((5 : Int) * mostL (0 : Int) x)) (4 : Int) ≤
 (0 : Int)))))
 []
 else K (AV.one (SV.bool false)) []
 else K (AV.one (SV.bool false)) []
 else K (AV.one (SV.bool false)) []
 else
 ((x.length ≤ (200 : Nat) ∧ x.all sampleG = true) ∧
 (0 : Int) = (0 : Int) ∧ (0 : Int) = (0 : Int)) ∧
 bif x.isEmpty then
 (0 : Nat) ≤ (1000000000 : Nat) ∧
 bif (0 : Int) == tq x && (1 : Int) == tr x then
 ((0 : Int) ≤ (0 : Int) ∧
 (0 : Int) ≤ (4611686018427387904 : Int) ∧
 (0 : Int) < (1 : Int) ∧
 (1 : Int) ≤ (4611686018427387904 : Int) ∧
 (0 : Int) ≤ tq x ∧
 tq x ≤ (4611686018427387904 : Int) ∧
 (0 : Int) < tr x ∧ tr x ≤ (4611686018427387904 : Int)) ∧
 bif decide (cmpF (0 : Int) (1 : Int) (tq x) (tr x) ≤ (0 : Int)) then
 ((0 : Int) ≤ tq x ∧
 tq x ≤ (4611686018427387904 : Int) ∧
 (0 : Int) < tr x ∧
 tr x ≤ (4611686018427387904 : Int) ∧
 (0 : Int) ≤ (0 : Int) ∧
 (0 : Int) ≤ (4611686018427387904 : Int) ∧
 (0 : Int) < (4 : Int) ∧ (4 : Int) ≤ (4611686018427387904 : Int)) ∧
 K
 (AV.one
 (SV.bool (decide (cmpF (tq x) (tr x) (0 : Int) (4 : Int) ≤ (0 : Int)))))
 []
 else K (AV.one (SV.bool false)) []
 else K (AV.one (SV.bool false)) []
 else
 (revN x).length ≤ (1000000000 : Nat) ∧
 bif sigE (revN x) == (0 : Int) then
 bif tq (revN x) == tq x && tr (revN x) == tr x then
 ((0 : Int) ≤ mostL (0 : Int) x ∧
 mostL (0 : Int) x ≤ (4611686018427387904 : Int) ∧
 (0 : Int) < (1 : Int) ∧
 (1 : Int) ≤ (4611686018427387904 : Int) ∧
 (0 : Int) ≤ tq x ∧
 tq x ≤ (4611686018427387904 : Int) ∧
 (0 : Int) < tr x ∧ tr x ≤ (4611686018427387904 : Int)) ∧
 bif decide (cmpF (mostL (0 : Int) x) (1 : Int) (tq x) (tr x) ≤ (0 : Int)) then
 ((0 : Int) ≤ tq x ∧
 tq x ≤ (4611686018427387904 : Int) ∧
 (0 : Int) < tr x ∧
 tr x ≤ (4611686018427387904 : Int) ∧
 (0 : Int) ≤ IntKind.i64.wrap ((5 : Int) * mostL (0 : Int) x) ∧
 IntKind.i64.wrap ((5 : Int) * mostL (0 : Int) x) ≤
 (4611686018427387904 : Int) ∧
 (0 : Int) < (4 : Int) ∧ (4 : Int) ≤ (4611686018427387904 : Int)) ∧
 K
 (AV.one
 (SV.bool
 (decide
 (cmpF (tq x) (tr x) (IntKind.i64.wrap ((5 : Int) * mostL (0 : Int) x))
 (4 : Int) ≤
 (0 : Int)))))
 []
 else K (AV.one (SV.bool false)) []
 else K (AV.one (SV.bool false)) []
 else K (AV.one (SV.bool false)) []) := by kernel_rfl
theorem expksl0a (x : List Int) (m i p q : Int) (K : Ex → List AV → List Blk → Prop) : evBody Epks (lb Tryd.f5 0) [0, 3, 10, 11, 12] [3, 10, 11] [.one (.data (.ints .i64 x)), .one (.ptr 0 1 0 0), .one (.int .i64 m), .one .nil, .one (.int .i64 i)] [.cells [.int .i64 p, .int .i64 q]] K = (
 bif decide (i < (↑x.length : Int)) then
 bif decide ((0 : Int) ≤ i) && decide (i < (↑x.length : Int)) then
 bif decide (i.toNat + (0 : Nat) < x.length) then
 bif
 decide ((0 : Int) ≤ IntKind.i64.wrap (IntKind.i64.wrap ((↑x.length : Int) - (1 : Int)) - i)) &&
 decide (IntKind.i64.wrap (IntKind.i64.wrap ((↑x.length : Int) - (1 : Int)) - i) < (↑x.length : Int)) then
 bif
 decide
 ((IntKind.i64.wrap (IntKind.i64.wrap ((↑x.length : Int) - (1 : Int)) - i)).toNat + (0 : Nat) <
 x.length) then
 K Ex.normal
 [AV.one (SV.data (Row.ints IntKind.i64 x)), AV.one (SV.ptr (0 : Nat) (1 : Nat) (0 : Nat) (0 : Nat)),
 AV.one
 (SV.int IntKind.i64
 (if sizeG (x.getD (i.toNat + (0 : Nat)) (0 : Int)) > m then
 sizeG (x.getD (i.toNat + (0 : Nat)) (0 : Int))
 else m)),
 AV.one (SV.own (1 : Nat) (1 : Nat)), AV.one (SV.int IntKind.i64 (IntKind.i64.wrap (i + (1 : Int))))]
 [Blk.cells [SV.int IntKind.i64 p, SV.int IntKind.i64 q],
 Blk.row (3 : Nat)
 (Row.ints IntKind.i64
 [IntKind.i64.wrap
 ((0 : Int) -
 x.getD
 ((IntKind.i64.wrap (IntKind.i64.wrap ((↑x.length : Int) - (1 : Int)) - i)).toNat + (0 : Nat))
 (0 : Int))])]
 else False
 else False
 else False
 else False
 else
 K (Ex.exit (0 : Nat))
 [AV.one (SV.ptr (0 : Nat) (1 : Nat) (0 : Nat) (0 : Nat)), AV.one (SV.int IntKind.i64 m), AV.one SV.nil]
 [Blk.cells [SV.int IntKind.i64 p, SV.int IntKind.i64 q]]) := by kernel_rfl
theorem expksl0b (x : List Int) (m i p q : Int) (out : List Int) (K : Ex → List AV → List Blk → Prop) : evBody Epks (lb Tryd.f5 0) [0, 3, 10, 11, 12] [3, 10, 11] [.one (.data (.ints .i64 x)), .one (.ptr 0 1 0 0), .one (.int .i64 m), .one (.own 1 1), .one (.int .i64 i)] [.cells [.int .i64 p, .int .i64 q], .row 3 (.ints .i64 out)] K = (
 bif decide (i < (↑x.length : Int)) then
 bif decide ((0 : Int) ≤ i) && decide (i < (↑x.length : Int)) then
 bif decide (i.toNat + (0 : Nat) < x.length) then
 bif
 decide ((0 : Int) ≤ IntKind.i64.wrap (IntKind.i64.wrap ((↑x.length : Int) - (1 : Int)) - i)) &&
 decide (IntKind.i64.wrap (IntKind.i64.wrap ((↑x.length : Int) - (1 : Int)) - i) < (↑x.length : Int)) then
 bif
 decide
 ((IntKind.i64.wrap (IntKind.i64.wrap ((↑x.length : Int) - (1 : Int)) - i)).toNat + (0 : Nat) <
 x.length) then
 bif
 decide
 ((out ++
 [IntKind.i64.wrap
 ((0 : Int) -
 x.getD
 ((IntKind.i64.wrap (IntKind.i64.wrap ((↑x.length : Int) - (1 : Int)) - i)).toNat +
 (0 : Nat))
 (0 : Int))]).length *
 (8 : Nat) ≤
 (140737488355328 : Nat) ∧
 (out ++
 [IntKind.i64.wrap
 ((0 : Int) -
 x.getD
 ((IntKind.i64.wrap (IntKind.i64.wrap ((↑x.length : Int) - (1 : Int)) - i)).toNat +
 (0 : Nat))
 (0 : Int))]).length ≤
 (140737488355328 : Nat)) then
 K Ex.normal
 [AV.one (SV.data (Row.ints IntKind.i64 x)), AV.one (SV.ptr (0 : Nat) (1 : Nat) (0 : Nat) (0 : Nat)),
 AV.one
 (SV.int IntKind.i64
 (if sizeG (x.getD (i.toNat + (0 : Nat)) (0 : Int)) > m then
 sizeG (x.getD (i.toNat + (0 : Nat)) (0 : Int))
 else m)),
 AV.one (SV.own (1 : Nat) (1 : Nat)), AV.one (SV.int IntKind.i64 (IntKind.i64.wrap (i + (1 : Int))))]
 [Blk.cells [SV.int IntKind.i64 p, SV.int IntKind.i64 q],
 Blk.row (3 : Nat)
 (Row.ints IntKind.i64
 (out ++
 [IntKind.i64.wrap
 ((0 : Int) -
 x.getD
 ((IntKind.i64.wrap (IntKind.i64.wrap ((↑x.length : Int) - (1 : Int)) - i)).toNat +
 (0 : Nat))
 (0 : Int))]))]
 else False
 else False
 else False
 else False
 else False
 else
 K (Ex.exit (0 : Nat))
 [AV.one (SV.ptr (0 : Nat) (1 : Nat) (0 : Nat) (0 : Nat)), AV.one (SV.int IntKind.i64 m),
 AV.one (SV.own (1 : Nat) (1 : Nat))]
 [Blk.cells [SV.int IntKind.i64 p, SV.int IntKind.i64 q], Blk.row (3 : TypeId) (Row.ints IntKind.i64 out)]) := by kernel_rfl
end Go.Ev

namespace Go.Ev
open Go Go.Proofs
attribute [local irreducible] evFn evBody evRound
set_option maxRecDepth 20000

theorem maxL_step {x : List Int} {i : Nat} (h : i < x.length) (m : Int) : mostL m (x.drop i) = mostL (maxI m (sizeG (x.getD i 0))) (x.drop (i + 1)) := by
  unfold mostL
  rw [drop_step 0 h]
  rfl
theorem revN_step {x : List Int} {i : Nat} (h : i < x.length) : (revN x).drop i = wi (0 - x.getD (x.length - 1 - i) 0) :: (revN x).drop (i + 1) := by
  rw [drop_step 0 (show i < (revN x).length by rw [revN_length]; exact h), getD_of_lt (show i < (revN x).length by rw [revN_length]; exact h)]
  congr 1
  unfold revN
  rw [List.getElem_reverse, List.getElem_map]
  simp only [List.length_map]
  rw [getD_of_lt (show x.length - 1 - i < x.length by omega)]
theorem size_range {x : List Int} (hx : x.all sampleG = true) (k : Nat) : 0 ≤ sizeG (x.getD k 0) ∧ sizeG (x.getD k 0) ≤ 32767 := by
  have hr := getD_sample hx k
  rw [sizeG_abs (by omega)]
  exact absI_range hr
theorem lokpks_0 : LoopOK Epks (lb Tryd.f5 0) [0, 3, 10, 11, 12] [3, 10, 11] plkL := by
  refine loopOK (.cons okawk (.cons okshort (.cons okcopyD (.cons oktrue3 (.cons okhdr (.cons okrsig (.cons okrtp (.cons okrhd (.cons ok137 (.cons okcpr .nil)))))))))) (noInner (by kernel_rfl)) (fun vs σ => match vs, σ with
    | [.one (.data (.ints .i64 x)), .one (.ptr 0 1 0 0), .one (.int .i64 _), .one .nil, .one (.int .i64 i)], [.cells [.int .i64 _, .int .i64 _]] => (x.length - i).toNat
    | [.one (.data (.ints .i64 x)), .one (.ptr 0 1 0 0), .one (.int .i64 _), .one (.own 1 1), .one (.int .i64 i)], [.cells [.int .i64 _, .int .i64 _], .row 3 (.ints .i64 _)] => (x.length - i).toNat
    | _, _ => 0) fun vs σ k h => ?_
  unfold plkL at h
  split at h
  rotate_right
  · exact h.elim
  · rename_i x m i p q
    rw [expksl0a x m i p q _]
    obtain ⟨⟨⟨h1, hx⟩, rfl, rfl⟩, h⟩ := h
    cases hxe : x with
    | nil => rw [hxe] at h; exact h
    | cons a l =>
      have hl : 1 ≤ x.length := by rw [hxe]; simp
      rw [← hxe]
      have he : x.isEmpty = false := by rw [hxe]; rfl
      rw [he] at h
      have w1 : IntKind.i64.wrap (IntKind.i64.wrap ((x.length : Int) - 1) - 0) = (x.length : Int) - 1 - 0 := by
        rw [wrap_id (n := (x.length : Int) - 1) (by omega) (by omega), wrap_id (by omega) (by omega)]
      have w2 : IntKind.i64.wrap ((0 : Int) + 1) = 0 + 1 := by decide
      rw [w1, w2, decide_eq_true (show (0 : Int) < x.length by omega), decide_eq_true (show (0 : Int) ≤ 0 by decide), decide_eq_true (show (0 : Int).toNat + 0 < x.length by simp; omega),
        decide_eq_true (show (0 : Int) ≤ (x.length : Int) - 1 - 0 by omega), decide_eq_true (show (x.length : Int) - 1 - 0 < x.length by omega), decide_eq_true (show ((x.length : Int) - 1 - 0).toNat + 0 < x.length by omega)]
      simp only [cond_true, Bool.and_self]
      have hs := size_range hx 0
      have e1 := maxL_step (x := x) (i := 0) (by omega) 0
      have e2 := revN_step (x := x) (i := 0) (by omega)
      rw [List.drop_zero] at e1 e2
      rw [e1, e2] at h
      have e3 : ((x.length : Int) - 1 - 0).toNat + 0 = x.length - 1 - 0 := by omega
      rw [e3]
      have hm := maxI_range (a := 0) (b := sizeG (x.getD 0 0)) (B := 32767) (by omega) hs
      exact ⟨⟨⟨⟨h1, hx⟩, by decide, by omega, by rfl, hm.1, hm.2⟩, h⟩, by show ((x.length : Int) - (0 + 1)).toNat < ((x.length : Int) - 0).toNat; omega⟩
  · rename_i x m i p q out
    rw [expksl0b x m i p q out _]
    obtain ⟨⟨⟨h1, hx⟩, h2, h3, h4, h5, h6⟩, h⟩ := h
    by_cases hi : i < (x.length : Int)
    · have w1 : IntKind.i64.wrap (IntKind.i64.wrap ((x.length : Int) - 1) - i) = (x.length : Int) - 1 - i := by
        rw [wrap_id (n := (x.length : Int) - 1) (by omega) (by omega), wrap_id (by omega) (by omega)]
      have w2 : IntKind.i64.wrap (i + 1) = i + 1 := wrap_id (by omega) (by omega)
      rw [w1, w2]
      rw [maxL_step (show i.toNat < x.length by omega), revN_step (show i.toNat < x.length by omega), show i.toNat + 1 = (i + 1).toNat by omega] at h
      have e3 : ((x.length : Int) - 1 - i).toNat + 0 = x.length - 1 - i.toNat := by omega
      have hs := size_range hx i.toNat
      have hm := maxI_range (a := m) (b := sizeG (x.getD i.toNat 0)) (B := 32767) ⟨h5, h6⟩ hs
      rw [decide_eq_true hi, decide_eq_true h2, decide_eq_true (show i.toNat + 0 < x.length by omega), decide_eq_true (show (0 : Int) ≤ (x.length : Int) - 1 - i by omega), decide_eq_true (show (x.length : Int) - 1 - i < x.length by omega),
        decide_eq_true (show ((x.length : Int) - 1 - i).toNat + 0 < x.length by omega), e3]
      simp only [cond_true, Bool.and_self, Nat.add_zero]
      refine cond_in (decide_eq_true (by simp only [List.length_append, List.length_cons, List.length_nil]; omega)) ⟨⟨⟨⟨h1, hx⟩, by omega, by omega, by simp only [List.length_append, List.length_cons, List.length_nil]; omega, hm.1, hm.2⟩, ?_⟩, by show ((x.length : Int) - (i + 1)).toNat < ((x.length : Int) - i).toNat; omega⟩
      rw [List.append_cons] at h
      exact h
    · rw [decide_eq_false hi]
      rw [List.drop_eq_nil_of_le (by omega), List.drop_eq_nil_of_le (by rw [revN_length]; omega), List.append_nil] at h
      exact h
theorem okpks : SpecOK Tryd.prog 5 lawPeakS := by
  refine specOK (n := 146) (m := 0) (lps := [(18, .spec [0, 3, 10, 11, 12] [3, 10, 11] plkL)]) (.cons okawk (.cons okshort (.cons okcopyD (.cons oktrue3 (.cons okhdr (.cons okrsig (.cons okrtp (.cons okrhd (.cons ok137 (.cons okcpr .nil)))))))))) Tryd.func5 (by kernel_rfl) (by kernel_rfl) (theLoops (n := 1) (by kernel_rfl) fun i hi => ?_) fun args σ K h => ?_
  · match i, hi with
    | 0, _ => exact loopHyp_of (key := 18) (by kernel_rfl) rfl lokpks_0
  unfold lawPeakS at h
  split at h
  rotate_right
  · exact h.elim
  rename_i x
  rw [expks x K]
  cases hs : shortG x with
  | false => exact h
  | true =>
    have hl := shortG_len hs
    have l1 : x.length ≤ 1000000000 := by omega
    have l2 : x.length ≤ 1000000000000 := by omega
    have l3 : (revN x).length ≤ 1000000000 := by rw [revN_length]; omega
    by_cases hz : sigE x = 0
    rotate_left
    · have e1 : hdE x = sigE x := by unfold hdE; rw [beq_ff hz]; rfl
      have e2 : hdP x = 0 := by unfold hdP; rw [e1, beq_ff hz]; rfl
      have e3 : hdQ x = 0 := by unfold hdQ; rw [e1, beq_ff hz]; rfl
      have e4 : tq x = 0 := by unfold tq; rw [beq_ff hz]; rfl
      have e5 : tr x = 0 := by unfold tr; rw [beq_ff hz]; rfl
      simp only [e1, e2, e3, e4, e5, Bool.not_true, bne_tt hz, cond_true, cond_false, beq_self_eq_true, Bool.and_self]
      exact ⟨l2, l1, l2, l1, l1, h⟩
    · obtain ⟨q1, q2⟩ := sigE_zero hz
      have hS : okS x := ⟨q1, q2⟩
      obtain ⟨_, _, p1, p2⟩ := peak_whole q2
      have hr := most_range q2
      have hge := pk_ge q2
      have hle := pk_le q2
      obtain ⟨d1, d2, d3, d4, d5⟩ := divG_gcdG (a := pkI x) (b := 128) p1 (by decide) (by decide)
      obtain ⟨f1, f2, f3⟩ := tdiv_exact d2 d4 p1
      obtain ⟨g1, g2, g3⟩ := tdiv_exact d2 d5 (by decide : (0 : Int) ≤ 128)
      have etq : tq x = (pkI x).tdiv (gcdG (pkI x) 128) := by unfold tq; rw [hz]; exact wi_id (by omega) (by omega)
      have etr : tr x = (128 : Int).tdiv (gcdG (pkI x) 128) := by unfold tr; rw [hz]; exact wi_id (by omega) (by omega)
      have er1 : tq x = rtq x := by unfold tq rtq; rw [hz, d1]; rfl
      have er2 : tr x = rtr x := by unfold tr rtr; rw [hz, d1]; rfl
      have ev1 : tq (revN x) = tq x := by unfold tq; rw [sig_rev hz, hz, pk_rev q2]
      have ev2 : tr (revN x) = tr x := by unfold tr; rw [sig_rev hz, hz, pk_rev q2]
      have ev3 := sig_rev hz
      have w5 : IntKind.i64.wrap (5 * mostL 0 x) = 5 * mostL 0 x := wrap_id (by omega) (by omega)
      have hQ : 0 < tr x := by
        rw [etr]
        rcases Int.lt_or_le 0 ((128 : Int).tdiv (gcdG (pkI x) 128)) with h' | h'
        · exact h'
        · have : (128 : Int).tdiv (gcdG (pkI x) 128) = 0 := by omega
          rw [this, Int.zero_mul] at g1
          omega
      rw [← etq] at f1 f2 f3
      rw [← etr] at g1 g2 g3
      have hc1 : cmpF (mostL 0 x) 1 (tq x) (tr x) ≤ 0 := by
        have : mostL 0 x * tr x ≤ tq x * 1 := by
          refine Int.le_of_mul_le_mul_left (a := gcdG (pkI x) 128) ?_ d2
          have e1 : gcdG (pkI x) 128 * (mostL 0 x * tr x) = 128 * mostL 0 x := by rw [Int.mul_comm, Int.mul_assoc, g1, Int.mul_comm]
          have e2 : gcdG (pkI x) 128 * (tq x * 1) = pkI x := by rw [Int.mul_one, Int.mul_comm, f1]
          omega
        unfold cmpF
        split
        · decide
        · split
          · decide
          · omega
      have hc2 : cmpF (tq x) (tr x) (5 * mostL 0 x) 4 ≤ 0 := by
        have : tq x * 4 ≤ 5 * mostL 0 x * tr x := by
          refine Int.le_of_mul_le_mul_left (a := gcdG (pkI x) 128) ?_ d2
          have e1 : gcdG (pkI x) 128 * (5 * mostL 0 x * tr x) = 640 * mostL 0 x := by rw [Int.mul_comm, Int.mul_assoc, g1]; omega
          have e2 : gcdG (pkI x) 128 * (tq x * 4) = 4 * pkI x := by rw [← Int.mul_assoc, Int.mul_comm (gcdG (pkI x) 128), f1, Int.mul_comm]
          omega
        unfold cmpF
        split
        · decide
        · split
          · decide
          · omega
      have k1 : (0 ≤ mostL 0 x ∧ mostL 0 x ≤ 4611686018427387904 ∧ (0 : Int) < 1 ∧ (1 : Int) ≤ 4611686018427387904 ∧ 0 ≤ tq x ∧ tq x ≤ 4611686018427387904 ∧ 0 < tr x ∧ tr x ≤ 4611686018427387904) := by omega
      have k2 : (0 ≤ tq x ∧ tq x ≤ 4611686018427387904 ∧ 0 < tr x ∧ tr x ≤ 4611686018427387904 ∧ 0 ≤ 5 * mostL 0 x ∧ 5 * mostL 0 x ≤ 4611686018427387904 ∧ (0 : Int) < 4 ∧ (4 : Int) ≤ 4611686018427387904) := by omega
      have hend : ((okS x ∧ (0 : Int) = 0 ∧ (0 : Int) = 0) ∧ (bif x.isEmpty then
            (0 : Nat) ≤ (1000000000 : Nat) ∧
              bif (0 : Int) == tq x && (1 : Int) == tr x then
                ((0 : Int) ≤ (0 : Int) ∧ (0 : Int) ≤ (4611686018427387904 : Int) ∧ (0 : Int) < (1 : Int) ∧ (1 : Int) ≤ (4611686018427387904 : Int) ∧ (0 : Int) ≤ tq x ∧ tq x ≤ (4611686018427387904 : Int) ∧ (0 : Int) < tr x ∧ tr x ≤ (4611686018427387904 : Int)) ∧
                  bif decide (cmpF (0 : Int) (1 : Int) (tq x) (tr x) ≤ (0 : Int)) then
                    ((0 : Int) ≤ tq x ∧ tq x ≤ (4611686018427387904 : Int) ∧ (0 : Int) < tr x ∧ tr x ≤ (4611686018427387904 : Int) ∧ (0 : Int) ≤ (0 : Int) ∧ (0 : Int) ≤ (4611686018427387904 : Int) ∧ (0 : Int) < (4 : Int) ∧ (4 : Int) ≤ (4611686018427387904 : Int)) ∧
                      K (AV.one (SV.bool (decide (cmpF (tq x) (tr x) (0 : Int) (4 : Int) ≤ (0 : Int))))) []
                  else K (AV.one (SV.bool false)) []
              else K (AV.one (SV.bool false)) []
          else
            (revN x).length ≤ (1000000000 : Nat) ∧
              bif sigE (revN x) == (0 : Int) then
                bif tq (revN x) == tq x && tr (revN x) == tr x then
                  ((0 : Int) ≤ mostL (0 : Int) x ∧ mostL (0 : Int) x ≤ (4611686018427387904 : Int) ∧ (0 : Int) < (1 : Int) ∧ (1 : Int) ≤ (4611686018427387904 : Int) ∧ (0 : Int) ≤ tq x ∧ tq x ≤ (4611686018427387904 : Int) ∧ (0 : Int) < tr x ∧ tr x ≤ (4611686018427387904 : Int)) ∧
                    bif decide (cmpF (mostL (0 : Int) x) (1 : Int) (tq x) (tr x) ≤ (0 : Int)) then
                      ((0 : Int) ≤ tq x ∧ tq x ≤ (4611686018427387904 : Int) ∧ (0 : Int) < tr x ∧ tr x ≤ (4611686018427387904 : Int) ∧ (0 : Int) ≤ IntKind.i64.wrap ((5 : Int) * mostL (0 : Int) x) ∧ IntKind.i64.wrap ((5 : Int) * mostL (0 : Int) x) ≤ (4611686018427387904 : Int) ∧ (0 : Int) < (4 : Int) ∧ (4 : Int) ≤ (4611686018427387904 : Int)) ∧
                        K (AV.one (SV.bool (decide (cmpF (tq x) (tr x) (IntKind.i64.wrap ((5 : Int) * mostL (0 : Int) x)) (4 : Int) ≤ (0 : Int))))) []
                    else K (AV.one (SV.bool false)) []
                else K (AV.one (SV.bool false)) []
              else K (AV.one (SV.bool false)) [])) := by
        refine ⟨⟨hS, rfl, rfl⟩, ?_⟩
        cases hx : x.isEmpty with
        | true =>
          have hx0 := List.isEmpty_iff.1 hx
          have hp0 : pkI x = 0 := by rw [hx0]; rfl
          have t1 : tq x = 0 := by rw [hp0, Int.mul_comm] at f1; rcases Int.mul_eq_zero.1 f1 with h' | h'; omega; exact h'
          have t2 : tr x = 1 := by
            unfold tr
            rw [hz, hp0]
            have : gcdG 0 128 = 128 := by rw [gcdG_nat (by decide) (by decide)]; rfl
            rw [this]; rfl
          have hm0 : mostL 0 x = 0 := by rw [hx0]; rfl
          rw [hm0, t1, t2] at hc1
          rw [hm0, t1, t2] at hc2
          rw [t1, t2]
          simp only [beq_self_eq_true, Bool.and_self, cond_true, decide_eq_true hc1]
          refine ⟨by omega, by omega, by omega, ?_⟩
          rw [decide_eq_true (show cmpF 0 1 0 4 ≤ 0 from hc2)]
          exact h
        | false =>
          simp only [ev1, ev2, ev3, w5, cond_false, cond_true, beq_self_eq_true, Bool.and_self, decide_eq_true hc1, decide_eq_true hc2]
          exact ⟨l3, k1, k2, h⟩
      by_cases hp : pkI x = 0
      · have e1 : hdE x = 11 := by unfold hdE; rw [hz, hp]; rfl
        have e2 : hdP x = 0 := by unfold hdP; rw [e1]; rfl
        have e3 : hdQ x = 0 := by unfold hdQ; rw [e1]; rfl
        have b1 : (pkI x == 0) = true := beq_iff_eq.2 hp
        rw [hz, b1, e1, e2, e3, ← er1, ← er2, beq_self_eq_true (tq x), beq_self_eq_true (tr x)]
        exact ⟨l2, l1, l2, l1, l1, hS, hS, hend⟩
      · have b1 : (pkI x == 0) = false := beq_ff hp
        have e1 : hdE x = 0 := by unfold hdE; rw [hz, b1]; rfl
        obtain ⟨i1, _⟩ := divG_gcdG (a := 4194176) (b := pkI x) (by decide) (by omega) (by omega)
        have e2 : hdP x = rhdP x := by unfold hdP rhdP; rw [e1, b1, i1]; rfl
        have e3 : hdQ x = rhdQ x := by unfold hdQ rhdQ; rw [e1, b1, i1]; rfl
        rw [hz, b1, e1, e2, e3, ← er1, ← er2, beq_self_eq_true (tq x), beq_self_eq_true (tr x), beq_self_eq_true (rhdP x), beq_self_eq_true (rhdQ x)]
        exact ⟨l2, l1, l2, l1, l1, hS, hS, hend⟩
end Go.Ev
