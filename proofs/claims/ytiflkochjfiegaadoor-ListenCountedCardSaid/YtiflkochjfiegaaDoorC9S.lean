/-
  Chapter 9, contracts: the law of gates.
-/
import Derived.Test.YtiflkochjfiegaaDoorC9G
import Derived.Test.YtiflkochjfiegaaDoorC9M
import Derived.KernelRfl
import Derived.Test.YtiflkochjfiegaaDoorC9H
import Derived.Test.YtiflkochjfiegaaDoorC9X
import Derived.Test.YtiflkochjfiegaaDoorC9Z
set_option linter.unusedVariables false
set_option linter.unusedSimpArgs false
set_option linter.unusedSectionVars false
namespace Go.Ev
open Go Go.Proofs
set_option maxRecDepth 20000

def gateA : LSpec := fun vs σ k => match vs, σ with
  | [.one (.data (.ints .i64 x)), .one (.int .i64 more), .one (.ptr 0 1 0 0), .one (.ptr 1 1 0 0), .one (.int .i64 b), .one (.int .i64 a)], [.cells [.int .i64 len, .int .i64 hop, .int .i64 gate, .int .i64 pct], .cells [.int .i64 l2, .int .i64 h2, .int .i64 g2, .int .i64 p2]] =>
    (okX x len hop ∧ 0 ≤ a ∧ a ≤ 1000 ∧ 0 ≤ b ∧ b ≤ a) ∧
    k (.exit 0) [.one (.data (.ints .i64 x)), .one (.int .i64 more), .one (.ptr 0 1 0 0), .one (.ptr 1 1 0 0), .one (.int .i64 (b + (enG len hop x a).length))] [.cells [.int .i64 len, .int .i64 hop, .int .i64 gate, .int .i64 pct], .cells [.int .i64 l2, .int .i64 h2, .int .i64 g2, .int .i64 p2]]
  | _, _ => False
def subB (s : List Int) (l : List Int) : Bool := l.all fun n => memB n s
def gateB : LSpec := fun vs σ k => match vs, σ with
  | [.one (.data (.ints .i64 x)), .one (.ptr 0 1 0 0), .one (.int .i64 b), .one (.data (.ints .i64 s)), .one (.data (.ints .i64 f)), .one (.data (.ints .i64 l)), .one (.int .i64 i)], [.cells [.int .i64 len, .int .i64 hop, .int .i64 gate, .int .i64 pct]] =>
    (s.length ≤ 1000000000 ∧ f.length ≤ 1000000000 ∧ 0 ≤ i ∧ subB s (f.drop i.toNat) = true) ∧
    k (.exit 2) [.one (.data (.ints .i64 x)), .one (.ptr 0 1 0 0), .any, .one (.int .i64 b), .one (.data (.ints .i64 s)), .one (.data (.ints .i64 l))] [.cells [.int .i64 len, .int .i64 hop, .int .i64 gate, .int .i64 pct]]
  | _, _ => False
def negL (x : List Int) : List Int := x.map fun a => wi (0 - a)
def gateC : LSpec := fun vs σ k => match vs, σ with
  | [.one (.data (.ints .i64 x)), .one (.ptr 0 1 0 0), .one (.int .i64 b), .one (.data (.ints .i64 s)), .one (.data (.ints .i64 l)), .one .nil, .one (.int .i64 i)], [.cells [.int .i64 len, .int .i64 hop, .int .i64 gate, .int .i64 pct]] =>
    (x.length ≤ 1000 ∧ i = 0) ∧ bif x.isEmpty then k (.exit 4) [.one (.data (.ints .i64 x)), .one (.ptr 0 1 0 0), .one (.int .i64 b), .one (.data (.ints .i64 s)), .one (.data (.ints .i64 l)), .one .nil] [.cells [.int .i64 len, .int .i64 hop, .int .i64 gate, .int .i64 pct]]
      else k (.exit 4) [.one (.data (.ints .i64 x)), .one (.ptr 0 1 0 0), .one (.int .i64 b), .one (.data (.ints .i64 s)), .one (.data (.ints .i64 l)), .one (.own 1 1)] [.cells [.int .i64 len, .int .i64 hop, .int .i64 gate, .int .i64 pct], .row 3 (.ints .i64 (negL x))]
  | [.one (.data (.ints .i64 x)), .one (.ptr 0 1 0 0), .one (.int .i64 b), .one (.data (.ints .i64 s)), .one (.data (.ints .i64 l)), .one (.own 1 1), .one (.int .i64 i)], [.cells [.int .i64 len, .int .i64 hop, .int .i64 gate, .int .i64 pct], .row 3 (.ints .i64 out)] =>
    (x.length ≤ 1000 ∧ 0 ≤ i ∧ i ≤ x.length ∧ (out.length : Int) = i) ∧
      k (.exit 4) [.one (.data (.ints .i64 x)), .one (.ptr 0 1 0 0), .one (.int .i64 b), .one (.data (.ints .i64 s)), .one (.data (.ints .i64 l)), .one (.own 1 1)] [.cells [.int .i64 len, .int .i64 hop, .int .i64 gate, .int .i64 pct], .row 3 (.ints .i64 (out ++ (negL x).drop i.toNat))]
  | _, _ => False
/-- The least and the greatest energy of blocks. -/
def lowF (bs : List Int) : Int → List Int → Int
  | a, [] => a
  | a, j :: l => lowF bs (bif decide (a < 0) || decide (bs.getD j.toNat 0 < a) then bs.getD j.toNat 0 else a) l
def highF (bs : List Int) : Int → List Int → Int
  | a, [] => a
  | a, j :: l => highF bs (if bs.getD j.toNat 0 > a then bs.getD j.toNat 0 else a) l
def inB (b : Int) (s l : List Int) : Bool := l.all fun n => memB n s && withinG n 0 (b - 1)
def okJ (x : List Int) (len hop b : Int) : Prop := okX x len hop ∧ b = (enG len hop x 0).length
def gateD : LSpec := fun vs σ k => match vs, σ with
  | [.one (.data (.ints .i64 x)), .one (.ptr 0 1 0 0), .one (.int .i64 b), .one (.data (.ints .i64 s)), .one (.data (.ints .i64 l)), .one (.ptr 1 1 0 0), .one (.int .i64 e), .one (.int .i64 lo), .one (.int .i64 hi), .one (.int .i64 n)], [.cells [.int .i64 len, .int .i64 hop, .int .i64 gate, .int .i64 pct], .cells [.int .i64 p, .int .i64 q]] =>
    (okJ x len hop b ∧ s.length ≤ 1000000000 ∧ l.length ≤ 1000000000 ∧ 0 ≤ n ∧ inB b s (l.drop n.toNat) = true) ∧
    k (.exit 6) [.one (.ptr 0 1 0 0), .any, .one (.ptr 1 1 0 0), .one (.int .i64 e), .one (.int .i64 (lowF (enG len hop x 0) lo (l.drop n.toNat))), .one (.int .i64 (highF (enG len hop x 0) hi (l.drop n.toNat)))] [.cells [.int .i64 len, .int .i64 hop, .int .i64 gate, .int .i64 pct], .cells [.int .i64 p, .int .i64 q]]
  | _, _ => False
def gateE : LSpec := fun vs σ k => match vs, σ with
  | [.one (.data (.ints .i64 x)), .one (.ptr 0 1 0 0), .one (.int .i64 b), .one (.data (.ints .i64 s)), .one (.data (.ints .i64 l)), .one (.ptr 1 1 0 0), .one (.int .i64 e), .one (.int .i64 lo), .one (.int .i64 hi), .one (.int .i64 n), .one (.int .i64 sum), .one (.int .i64 a)], [.cells [.int .i64 len, .int .i64 hop, .int .i64 gate, .int .i64 pct], .cells [.int .i64 p, .int .i64 q]] =>
    (okX x len hop ∧ n < l.length ∧ 0 ≤ n ∧ l.getD n.toNat 0 * hop ≤ a ∧ a ≤ l.getD n.toNat 0 * hop + len ∧ 0 ≤ l.getD n.toNat 0 * hop ∧ l.getD n.toNat 0 * hop + len ≤ x.length ∧ 0 ≤ l.getD n.toNat 0 ∧ l.getD n.toNat 0 ≤ 1000 ∧ 0 ≤ sum ∧ sum ≤ 1073676289 * a) ∧
    k (.exit 8) [.one (.data (.ints .i64 x)), .one (.ptr 0 1 0 0), .one (.int .i64 b), .one (.data (.ints .i64 s)), .one (.data (.ints .i64 l)), .one (.ptr 1 1 0 0), .one (.int .i64 e), .one (.int .i64 lo), .one (.int .i64 hi), .one (.int .i64 n), .one (.int .i64 (sum + sqs (partG x a (l.getD n.toNat 0 * hop + len - a))))] [.cells [.int .i64 len, .int .i64 hop, .int .i64 gate, .int .i64 pct], .cells [.int .i64 p, .int .i64 q]]
  | _, _ => False
def lawGateS : Spec := fun args σ K => match args, σ with
  | [.agg [.int .i64 len, .int .i64 hop, .int .i64 gate, .int .i64 pct], .one (.data (.ints .i64 x)), .one (.int .i64 more)], [] => K (.one (.bool true)) []
  | _, _ => False
noncomputable abbrev Egts : Env := envOf Tryd.prog [(19, awakeS), (24, meterS), (26, sigS), (30, withinS), (22, copyDS), (21, gbDS), (31, hasS), (23, loud2S), (32, isLowestS), (33, compareS)] [(8, .spec [1, 2, 3, 7, 8, 9] [1, 2, 3, 7, 8] gateA), (20, .spec [1, 3, 8, 12, 14, 16, 18] [1, 3, 6, 8, 12, 16] gateB), (26, .spec [1, 3, 8, 12, 16, 19, 20] [1, 3, 8, 12, 16, 19] gateC), (37, .spec [1, 3, 8, 12, 16, 21, 22, 25, 26, 27] [3, 6, 21, 22, 25, 26] gateD), (43, .spec [1, 3, 8, 12, 16, 21, 22, 25, 26, 27, 28, 29] [1, 3, 8, 12, 16, 21, 22, 25, 26, 27, 28] gateE)] 274 0
end Go.Ev

namespace Go.Ev
open Go Go.Proofs
set_option maxRecDepth 100000
theorem exgts (len hop gate pct : Int) (x : List Int) (more : Int) (K : AV → List Blk → Prop) : evFn Egts Tryd.f4 [.agg [.int .i64 len, .int .i64 hop, .int .i64 gate, .int .i64 pct], .one (.data (.ints .i64 x)), .one (.int .i64 more)] [] K = (
 bif decide ((↑x.length : Int) > (60 : Int)) then K (AV.one (SV.bool true)) []
 else
 bif (bif meterG len hop gate pct then (0 : Int) else (2 : Int)) != (0 : Int) then K (AV.one (SV.bool true)) []
 else
 x.length ≤ (1000000000 : Nat) ∧
 bif sigE x != (0 : Int) then K (AV.one (SV.bool true)) []
 else
 bif !(decide ((0 : Int) ≤ more) && decide (more ≤ IntKind.i64.wrap ((1073676289 : Int) - gate))) then
 K (AV.one (SV.bool true)) []
 else
 ((x.length ≤ (200 : Nat) ∧
 x.all sampleG = true ∧ (1 : Int) ≤ len ∧ len ≤ (50 : Int) ∧ (1 : Int) ≤ hop ∧ hop ≤ len) ∧
 (0 : Int) ≤ (0 : Int) ∧ (0 : Int) ≤ (1000 : Int) ∧ (0 : Int) ≤ (0 : Int) ∧ (0 : Int) ≤ (0 : Int)) ∧
 x.length ≤ (1000000000000 : Nat) ∧
 x.length ≤ (1000000000 : Nat) ∧
 x.length ≤ (1000000000000 : Nat) ∧
 x.length ≤ (1000000000 : Nat) ∧
 x.length ≤ (1000000000000 : Nat) ∧
 x.length ≤ (1000000000 : Nat) ∧
 x.length ≤ (1000000000000 : Nat) ∧
 x.length ≤ (1000000000 : Nat) ∧
 bif meE len hop (0 : Int) (0 : Int) x != (0 : Int) then K (AV.one (SV.bool false)) []
 else
 bif meE len hop gate (0 : Int) x != (0 : Int) then K (AV.one (SV.bool false)) []
 else
 bif meE len hop (IntKind.i64.wrap (gate + more)) (0 : Int) x != (0 : Int) then
 K (AV.one (SV.bool false)) []
 else
 bif meE len hop gate pct x != (0 : Int) then K (AV.one (SV.bool false)) []
 else
 bif
 (↑(gbI len hop (0 : Int) (0 : Int) x).length : Int) !=
 (0 : Int) + (↑(enG len hop x (0 : Int)).length : Int) then
 K (AV.one (SV.bool false)) []
 else
 ((gbI len hop gate (0 : Int) x).length ≤ (1000000000 : Nat) ∧
 (gbI len hop (IntKind.i64.wrap (gate + more)) (0 : Int) x).length ≤
 (1000000000 : Nat) ∧
 (0 : Int) ≤ (0 : Int) ∧
 subB (gbI len hop gate (0 : Int) x)
 (gbI len hop (IntKind.i64.wrap (gate + more)) (0 : Int) x) =
 true) ∧
 (x.length ≤ (1000 : Nat) ∧ (0 : Int) = (0 : Int)) ∧
 bif x.isEmpty then
 (x.length ≤ (1000000000000 : Nat) ∧
 (x.length ≤ (1000000000 : Nat) ∧
 (0 : Nat) ≤ (1000000000 : Nat) ∧
 bif ldE len hop gate pct x != ldE len hop gate pct [] then
 K (AV.one (SV.bool false)) []
 else
 bif
 !(ldP len hop gate pct x == ldP len hop gate pct [] &&
 ldQ len hop gate pct x == ldQ len hop gate pct []) then
 K (AV.one (SV.bool false)) []
 else
 bif (↑(gbI len hop gate pct x).length : Int) == (0 : Int) then
 K (AV.one (SV.bool (ldE len hop gate pct x == (12 : Int))))
 []
 else
 (((x.length ≤ (200 : Nat) ∧
 x.all sampleG = true ∧
 (1 : Int) ≤ len ∧
 len ≤ (50 : Int) ∧
 (1 : Int) ≤ hop ∧ hop ≤ len) ∧
 (0 : Int) +
 (↑(enG len hop x (0 : Int)).length : Int) =
 (↑(enG len hop x (0 : Int)).length : Int)) ∧
 (gbI len hop gate (0 : Int) x).length ≤
 (1000000000 : Nat) ∧
 (gbI len hop gate pct x).length ≤ (1000000000 : Nat) ∧
 (0 : Int) ≤ (0 : Int) ∧
 inB
 ((0 : Int) +
 (↑(enG len hop x (0 : Int)).length : Int))
 (gbI len hop gate (0 : Int) x)
 (gbI len hop gate pct x) =
 true) ∧
 bif ldE len hop gate pct x == (0 : Int) then
 bif
 lowestG (ldP len hop gate pct x)
 (ldQ len hop gate pct x) then
 ((0 : Int) ≤
 lowF (enG len hop x (0 : Int)) (-1 : Int)
 (gbI len hop gate pct x) ∧
 lowF (enG len hop x (0 : Int)) (-1 : Int)
 (gbI len hop gate pct x) ≤
 (4611686018427387904 : Int) ∧
 (0 : Int) < len ∧
 len ≤ (4611686018427387904 : Int) ∧
 (0 : Int) ≤ ldP len hop gate pct x ∧
 ldP len hop gate pct x ≤
 (4611686018427387904 : Int) ∧
 (0 : Int) < ldQ len hop gate pct x ∧
 ldQ len hop gate pct x ≤
 (4611686018427387904 : Int)) ∧
 bif
 decide
 (cmpF
 (lowF (enG len hop x (0 : Int)) (-1 : Int)
 (gbI len hop gate pct x))
 len (ldP len hop gate pct x)
 (ldQ len hop gate pct x) ≤
 (0 : Int)) then
 ((0 : Int) ≤ ldP len hop gate pct x ∧
 ldP len hop gate pct x ≤
 (4611686018427387904 : Int) ∧
 (0 : Int) < ldQ len hop gate pct x ∧
 ldQ len hop gate pct x ≤
 (4611686018427387904 : Int) ∧
 (0 : Int) ≤
 highF (enG len hop x (0 : Int))
 (-1 : Int)
 (gbI len hop gate pct x) ∧
 highF (enG len hop x (0 : Int))
 (-1 : Int)
 (gbI len hop gate pct x) ≤
 (4611686018427387904 : Int) ∧
 (0 : Int) < len ∧
 len ≤
 (4611686018427387904 : Int)) ∧
 K
 (AV.one
 (SV.bool
 (decide
 (cmpF (ldP len hop gate pct x)
 (ldQ len hop gate pct x)
 (highF (enG len hop x (0 : Int))
 (-1 : Int)
 (gbI len hop gate pct x))
 len ≤
 (0 : Int)))))
 []
 else K (AV.one (SV.bool false)) []
 else K (AV.one (SV.bool false)) []
 else K (AV.one (SV.bool false)) []) ∧
 x.length ≤ (1000000000 : Nat) ∧
 (0 : Nat) ≤ (1000000000 : Nat) ∧
 bif ldE len hop gate pct x != ldE len hop gate pct [] then
 K (AV.one (SV.bool false)) []
 else
 bif
 !(ldP len hop gate pct x == ldP len hop gate pct [] &&
 ldQ len hop gate pct x == ldQ len hop gate pct []) then
 K (AV.one (SV.bool false)) []
 else
 bif (↑(gbI len hop gate pct x).length : Int) == (0 : Int) then
 K (AV.one (SV.bool (ldE len hop gate pct x == (12 : Int))))
 []
 else
 (((x.length ≤ (200 : Nat) ∧
 x.all sampleG = true ∧
 (1 : Int) ≤ len ∧
 len ≤ (50 : Int) ∧
 (1 : Int) ≤ hop ∧ hop ≤ len) ∧
 (0 : Int) +
 (↑(enG len hop x (0 : Int)).length : Int) =
 (↑(enG len hop x (0 : Int)).length : Int)) ∧
 (gbI len hop gate (0 : Int) x).length ≤
 (1000000000 : Nat) ∧
 (gbI len hop gate pct x).length ≤ (1000000000 : Nat) ∧
 (0 : Int) ≤ (0 : Int) ∧
 inB
 ((0 : Int) +
 (↑(enG len hop x (0 : Int)).length : Int))
 (gbI len hop gate (0 : Int) x)
 (gbI len hop gate pct x) =
 true) ∧
 bif ldE len hop gate pct x == (0 : Int) then
 bif
 lowestG (ldP len hop gate pct x)
 (ldQ len hop gate pct x) then
 ((0 : Int) ≤
 lowF (enG len hop x (0 : Int)) (-1 : Int)
 (gbI len hop gate pct x) ∧
 lowF (enG len hop x (0 : Int)) (-1 : Int)
 (gbI len hop gate pct x) ≤
 (4611686018427387904 : Int) ∧
 (0 : Int) < len ∧
 len ≤ (4611686018427387904 : Int) ∧
 (0 : Int) ≤ ldP len hop gate pct x ∧
 ldP len hop gate pct x ≤
 (4611686018427387904 : Int) ∧
 (0 : Int) < ldQ len hop gate pct x ∧
 ldQ len hop gate pct x ≤
 (4611686018427387904 : Int)) ∧
 bif
 decide
 (cmpF
 (lowF (enG len hop x (0 : Int)) (-1 : Int)
 (gbI len hop gate pct x))
 len (ldP len hop gate pct x)
 (ldQ len hop gate pct x) ≤
 (0 : Int)) then
 ((0 : Int) ≤ ldP len hop gate pct x ∧
 ldP len hop gate pct x ≤
 (4611686018427387904 : Int) ∧
 (0 : Int) < ldQ len hop gate pct x ∧
 ldQ len hop gate pct x ≤
 (4611686018427387904 : Int) ∧
 (0 : Int) ≤
 highF (enG len hop x (0 : Int))
 (-1 : Int)
 (gbI len hop gate pct x) ∧
 highF (enG len hop x (0 : Int))
 (-1 : Int)
 (gbI len hop gate pct x) ≤
 (4611686018427387904 : Int) ∧
 (0 : Int) < len ∧
 len ≤
 (4611686018427387904 : Int)) ∧
 K
 (AV.one
 (SV.bool
 (decide
 (cmpF (ldP len hop gate pct x)
 (ldQ len hop gate pct x)
 (highF (enG len hop x (0 : Int))
 (-1 : Int)
 (gbI len hop gate pct x))
 len ≤
 (0 : Int)))))
 []
 else K (AV.one (SV.bool false)) []
 else K (AV.one (SV.bool false)) []
 else K (AV.one (SV.bool false)) []) ∧
 x.length ≤ (1000000000000 : Nat) ∧
 x.length ≤ (1000000000 : Nat) ∧
 (0 : Nat) ≤ (1000000000 : Nat) ∧
 bif ldE len hop gate pct x != ldE len hop gate pct [] then
 K (AV.one (SV.bool false)) []
 else
 bif
 !(ldP len hop gate pct x == ldP len hop gate pct [] &&
 ldQ len hop gate pct x == ldQ len hop gate pct []) then
 K (AV.one (SV.bool false)) []
 else
 bif (↑(gbI len hop gate pct x).length : Int) == (0 : Int) then
 K (AV.one (SV.bool (ldE len hop gate pct x == (12 : Int)))) []
 else
 (((x.length ≤ (200 : Nat) ∧
 x.all sampleG = true ∧
 (1 : Int) ≤ len ∧
 len ≤ (50 : Int) ∧ (1 : Int) ≤ hop ∧ hop ≤ len) ∧
 (0 : Int) + (↑(enG len hop x (0 : Int)).length : Int) =
 (↑(enG len hop x (0 : Int)).length : Int)) ∧
 (gbI len hop gate (0 : Int) x).length ≤
 (1000000000 : Nat) ∧
 (gbI len hop gate pct x).length ≤ (1000000000 : Nat) ∧
 (0 : Int) ≤ (0 : Int) ∧
 inB
 ((0 : Int) +
 (↑(enG len hop x (0 : Int)).length : Int))
 (gbI len hop gate (0 : Int) x)
 (gbI len hop gate pct x) =
 true) ∧
 bif ldE len hop gate pct x == (0 : Int) then
 bif
 lowestG (ldP len hop gate pct x)
 (ldQ len hop gate pct x) then
 ((0 : Int) ≤
 lowF (enG len hop x (0 : Int)) (-1 : Int)
 (gbI len hop gate pct x) ∧
 lowF (enG len hop x (0 : Int)) (-1 : Int)
 (gbI len hop gate pct x) ≤
 (4611686018427387904 : Int) ∧
 (0 : Int) < len ∧
 len ≤ (4611686018427387904 : Int) ∧
 (0 : Int) ≤ ldP len hop gate pct x ∧
 ldP len hop gate pct x ≤
 (4611686018427387904 : Int) ∧
 (0 : Int) < ldQ len hop gate pct x ∧
 ldQ len hop gate pct x ≤
 (4611686018427387904 : Int)) ∧
 bif
 decide
 (cmpF
 (lowF (enG len hop x (0 : Int)) (-1 : Int)
 (gbI len hop gate pct x))
 len (ldP len hop gate pct x)
 (ldQ len hop gate pct x) ≤
 (0 : Int)) then
 ((0 : Int) ≤ ldP len hop gate pct x ∧
 ldP len hop gate pct x ≤
 (4611686018427387904 : Int) ∧
 (0 : Int) < ldQ len hop gate pct x ∧
 ldQ len hop gate pct x ≤
 (4611686018427387904 : Int) ∧
 (0 : Int) ≤
 highF (enG len hop x (0 : Int))
 (-1 : Int)
 (gbI len hop gate pct x) ∧
 highF (enG len hop x (0 : Int))
 (-1 : Int)
 (gbI len hop gate pct x) ≤
 (4611686018427387904 : Int) ∧
 (0 : Int) < len ∧
 len ≤ (4611686018427387904 : Int)) ∧
 K
 (AV.one
 (SV.bool
 (decide
 (cmpF (ldP len hop gate pct x)
 (ldQ len hop gate pct x)
 (highF (enG len hop x (0 : Int))
 (-1 : Int) (gbI len hop gate pct x))
 len ≤
 (0 : Int)))))
 []
 else K (AV.one (SV.bool false)) []
 else K (AV.one (SV.bool false)) []
 else K (AV.one (SV.bool false)) []
 else
 (x.length ≤ (1000000000000 : Nat) ∧
 (x.length ≤ (1000000000 : Nat) ∧
 (negL x).length ≤ (1000000000 : Nat) ∧
 bif ldE len hop gate pct x != ldE len hop gate pct (negL x) then
 K (AV.one (SV.bool false)) []
 else
 bif
 !(ldP len hop gate pct x == ldP len hop gate pct (negL x) &&
 ldQ len hop gate pct x ==
 ldQ len hop gate pct (negL x)) then
 K (AV.one (SV.bool false)) []
 else
 bif (↑(gbI len hop gate pct x).length : Int) == (0 : Int) then
 K (AV.one (SV.bool (ldE len hop gate pct x == (12 : Int))))
 []
 else
 (((x.length ≤ (200 : Nat) ∧
 x.all sampleG = true ∧
 (1 : Int) ≤ len ∧
 len ≤ (50 : Int) ∧
 (1 : Int) ≤ hop ∧ hop ≤ len) ∧
 (0 : Int) +
 (↑(enG len hop x (0 : Int)).length : Int) =
 (↑(enG len hop x (0 : Int)).length : Int)) ∧
 (gbI len hop gate (0 : Int) x).length ≤
 (1000000000 : Nat) ∧
 (gbI len hop gate pct x).length ≤ (1000000000 : Nat) ∧
 (0 : Int) ≤ (0 : Int) ∧
 inB
 ((0 : Int) +
 (↑(enG len hop x (0 : Int)).length : Int))
 (gbI len hop gate (0 : Int) x)
 (gbI len hop gate pct x) =
 true) ∧
 bif ldE len hop gate pct x == (0 : Int) then
 bif
 lowestG (ldP len hop gate pct x)
 (ldQ len hop gate pct x) then
 ((0 : Int) ≤
 lowF (enG len hop x (0 : Int)) (-1 : Int)
 (gbI len hop gate pct x) ∧
 lowF (enG len hop x (0 : Int)) (-1 : Int)
 (gbI len hop gate pct x) ≤
 (4611686018427387904 : Int) ∧
 (0 : Int) < len ∧
 len ≤ (4611686018427387904 : Int) ∧
 (0 : Int) ≤ ldP len hop gate pct x ∧
 ldP len hop gate pct x ≤
 (4611686018427387904 : Int) ∧
 (0 : Int) < ldQ len hop gate pct x ∧
 ldQ len hop gate pct x ≤
 (4611686018427387904 : Int)) ∧
 bif
 decide
 (cmpF
 (lowF (enG len hop x (0 : Int)) (-1 : Int)
 (gbI len hop gate pct x))
 len (ldP len hop gate pct x)
 (ldQ len hop gate pct x) ≤
 (0 : Int)) then
 ((0 : Int) ≤ ldP len hop gate pct x ∧
 ldP len hop gate pct x ≤
 (4611686018427387904 : Int) ∧
 (0 : Int) < ldQ len hop gate pct x ∧
 ldQ len hop gate pct x ≤
 (4611686018427387904 : Int) ∧
 (0 : Int) ≤
 highF (enG len hop x (0 : Int))
 (-1 : Int)
 (gbI len hop gate pct x) ∧
 highF (enG len hop x (0 : Int))
 (-1 : Int)
 (gbI len hop gate pct x) ≤
 (4611686018427387904 : Int) ∧
 (0 : Int) < len ∧
 len ≤
 (4611686018427387904 : Int)) ∧
 K
 (AV.one
 (SV.bool
 (decide
 (cmpF (ldP len hop gate pct x)
 (ldQ len hop gate pct x)
 (highF (enG len hop x (0 : Int))
 (-1 : Int)
 (gbI len hop gate pct x))
 len ≤
 (0 : Int)))))
 []
 else K (AV.one (SV.bool false)) []
 else K (AV.one (SV.bool false)) []
 else K (AV.one (SV.bool false)) []) ∧
 x.length ≤ (1000000000 : Nat) ∧
 (negL x).length ≤ (1000000000 : Nat) ∧
 bif ldE len hop gate pct x != ldE len hop gate pct (negL x) then
 K (AV.one (SV.bool false)) []
 else
 bif
 !(ldP len hop gate pct x == ldP len hop gate pct (negL x) &&
 ldQ len hop gate pct x ==
 ldQ len hop gate pct (negL x)) then
 K (AV.one (SV.bool false)) []
 else
 bif (↑(gbI len hop gate pct x).length : Int) == (0 : Int) then
 K (AV.one (SV.bool (ldE len hop gate pct x == (12 : Int))))
 []
 else
 (((x.length ≤ (200 : Nat) ∧
 x.all sampleG = true ∧
 (1 : Int) ≤ len ∧
 len ≤ (50 : Int) ∧
 (1 : Int) ≤ hop ∧ hop ≤ len) ∧
 (0 : Int) +
 (↑(enG len hop x (0 : Int)).length : Int) =
 (↑(enG len hop x (0 : Int)).length : Int)) ∧
 (gbI len hop gate (0 : Int) x).length ≤
 (1000000000 : Nat) ∧
 (gbI len hop gate pct x).length ≤ (1000000000 : Nat) ∧
 (0 : Int) ≤ (0 : Int) ∧
 inB
 ((0 : Int) +
 (↑(enG len hop x (0 : Int)).length : Int))
 (gbI len hop gate (0 : Int) x)
 (gbI len hop gate pct x) =
 true) ∧
 bif ldE len hop gate pct x == (0 : Int) then
 bif
 lowestG (ldP len hop gate pct x)
 (ldQ len hop gate pct x) then
 ((0 : Int) ≤
 lowF (enG len hop x (0 : Int)) (-1 : Int)
 (gbI len hop gate pct x) ∧
 lowF (enG len hop x (0 : Int)) (-1 : Int)
 (gbI len hop gate pct x) ≤
 (4611686018427387904 : Int) ∧
 (0 : Int) < len ∧
 len ≤ (4611686018427387904 : Int) ∧
 (0 : Int) ≤ ldP len hop gate pct x ∧
 ldP len hop gate pct x ≤
 (4611686018427387904 : Int) ∧
 (0 : Int) < ldQ len hop gate pct x ∧
 ldQ len hop gate pct x ≤
 (4611686018427387904 : Int)) ∧
 bif
 decide
 (cmpF
 (lowF (enG len hop x (0 : Int)) (-1 : Int)
 (gbI len hop gate pct x))
 len (ldP len hop gate pct x)
 (ldQ len hop gate pct x) ≤
 (0 : Int)) then
 ((0 : Int) ≤ ldP len hop gate pct x ∧
 ldP len hop gate pct x ≤
 (4611686018427387904 : Int) ∧
 (0 : Int) < ldQ len hop gate pct x ∧
 ldQ len hop gate pct x ≤
 (4611686018427387904 : Int) ∧
 (0 : Int) ≤
 highF (enG len hop x (0 : Int))
 (-1 : Int)
 (gbI len hop gate pct x) ∧
 highF (enG len hop x (0 : Int))
 (-1 : Int)
 (gbI len hop gate pct x) ≤
 (4611686018427387904 : Int) ∧
 (0 : Int) < len ∧
 len ≤
 (4611686018427387904 : Int)) ∧
 K
 (AV.one
 (SV.bool
 (decide
 (cmpF (ldP len hop gate pct x)
 (ldQ len hop gate pct x)
 (highF (enG len hop x (0 : Int))
 (-1 : Int)
 (gbI len hop gate pct x))
 len ≤
 (0 : Int)))))
 []
 else K (AV.one (SV.bool false)) []
 else K (AV.one (SV.bool false)) []
 else K (AV.one (SV.bool false)) []) ∧
 x.length ≤ (1000000000000 : Nat) ∧
 x.length ≤ (1000000000 : Nat) ∧
 (negL x).length ≤ (1000000000 : Nat) ∧
 bif ldE len hop gate pct x != ldE len hop gate pct (negL x) then
 K (AV.one (SV.bool false)) []
 else
 bif
 !(ldP len hop gate pct x == ldP len hop gate pct (negL x) &&
 ldQ len hop gate pct x ==
 ldQ len hop gate pct (negL x)) then
 K (AV.one (SV.bool false)) []
 else
 bif (↑(gbI len hop gate pct x).length : Int) == (0 : Int) then
 K (AV.one (SV.bool (ldE len hop gate pct x == (12 : Int)))) []
 else
 (((x.length ≤ (200 : Nat) ∧
 x.all sampleG = true ∧
 (1 : Int) ≤ len ∧
 len ≤ (50 : Int) ∧ (1 : Int) ≤ hop ∧ hop ≤ len) ∧
 (0 : Int) + (↑(enG len hop x (0 : Int)).length : Int) =
 (↑(enG len hop x (0 : Int)).length : Int)) ∧
 (gbI len hop gate (0 : Int) x).length ≤
 (1000000000 : Nat) ∧
 (gbI len hop gate pct x).length ≤ (1000000000 : Nat) ∧
 (0 : Int) ≤ (0 : Int) ∧
 inB
 ((0 : Int) +
 (↑(enG len hop x (0 : Int)).length : Int))
 (gbI len hop gate (0 : Int) x)
 (gbI len hop gate pct x) =
 true) ∧
 bif ldE len hop gate pct x == (0 : Int) then
 bif
 lowestG (ldP len hop gate pct x)
 (ldQ len hop gate pct x) then
 ((0 : Int) ≤
 lowF (enG len hop x (0 : Int)) (-1 : Int)
 (gbI len hop gate pct x) ∧
 lowF (enG len hop x (0 : Int)) (-1 : Int)
 (gbI len hop gate pct x) ≤
 (4611686018427387904 : Int) ∧
 (0 : Int) < len ∧
 len ≤ (4611686018427387904 : Int) ∧
 (0 : Int) ≤ ldP len hop gate pct x ∧
 ldP len hop gate pct x ≤
 (4611686018427387904 : Int) ∧
 (0 : Int) < ldQ len hop gate pct x ∧
 ldQ len hop gate pct x ≤
 (4611686018427387904 : Int)) ∧
 bif
 decide
 (cmpF
 (lowF (enG len hop x (0 : Int)) (-1 : Int)
 (gbI len hop gate pct x))
 len (ldP len hop gate pct x)
 (ldQ len hop gate pct x) ≤
 (0 : Int)) then
 ((0 : Int) ≤ ldP len hop gate pct x ∧
 ldP len hop gate pct x ≤
 (4611686018427387904 : Int) ∧
 (0 : Int) < ldQ len hop gate pct x ∧
 ldQ len hop gate pct x ≤
 (4611686018427387904 : Int) ∧
 (0 : Int) ≤
 highF (enG len hop x (0 : Int))
 (-1 : Int)
 (gbI len hop gate pct x) ∧
 highF (enG len hop x (0 : Int))
 (-1 : Int)
 (gbI len hop gate pct x) ≤
 (4611686018427387904 : Int) ∧
 (0 : Int) < len ∧
 len ≤ (4611686018427387904 : Int)) ∧
 K
 (AV.one
 (SV.bool
 (decide
 (cmpF (ldP len hop gate pct x)
 (ldQ len hop gate pct x)
 (highF (enG len hop x (0 : Int))
 (-1 : Int) (gbI len hop gate pct x))
 len ≤
 (0 : Int)))))
 []
 else K (AV.one (SV.bool false)) []
 else K (AV.one (SV.bool false)) []
 else K (AV.one (SV.bool false)) []) := by kernel_rfl
theorem exgtsl0a (x : List Int) (more b a len hop gate pct l2 h2 g2 p2 : Int) (K : Ex → List AV → List Blk → Prop) : evBody Egts (lb Tryd.f4 0) [1, 2, 3, 7, 8, 9] [1, 2, 3, 7, 8] [.one (.data (.ints .i64 x)), .one (.int .i64 more), .one (.ptr 0 1 0 0), .one (.ptr 1 1 0 0), .one (.int .i64 b), .one (.int .i64 a)] [.cells [.int .i64 len, .int .i64 hop, .int .i64 gate, .int .i64 pct], .cells [.int .i64 l2, .int .i64 h2, .int .i64 g2, .int .i64 p2]] K = (
 bif decide (IntKind.i64.wrap (a + len) ≤ (↑x.length : Int)) then
 K Ex.normal
 [AV.one (SV.data (Row.ints IntKind.i64 x)), AV.one (SV.int IntKind.i64 more),
 AV.one (SV.ptr (0 : Nat) (1 : Nat) (0 : Nat) (0 : Nat)), AV.one (SV.ptr (1 : Nat) (1 : Nat) (0 : Nat) (0 : Nat)),
 AV.one (SV.int IntKind.i64 (IntKind.i64.wrap (b + (1 : Int)))),
 AV.one (SV.int IntKind.i64 (IntKind.i64.wrap (a + hop)))]
 [Blk.cells [SV.int IntKind.i64 len, SV.int IntKind.i64 hop, SV.int IntKind.i64 gate, SV.int IntKind.i64 pct],
 Blk.cells [SV.int IntKind.i64 l2, SV.int IntKind.i64 h2, SV.int IntKind.i64 g2, SV.int IntKind.i64 p2]]
 else
 K (Ex.exit (0 : Nat))
 [AV.one (SV.data (Row.ints IntKind.i64 x)), AV.one (SV.int IntKind.i64 more),
 AV.one (SV.ptr (0 : Nat) (1 : Nat) (0 : Nat) (0 : Nat)), AV.one (SV.ptr (1 : Nat) (1 : Nat) (0 : Nat) (0 : Nat)),
 AV.one (SV.int IntKind.i64 b)]
 [Blk.cells [SV.int IntKind.i64 len, SV.int IntKind.i64 hop, SV.int IntKind.i64 gate, SV.int IntKind.i64 pct],
 Blk.cells [SV.int IntKind.i64 l2, SV.int IntKind.i64 h2, SV.int IntKind.i64 g2, SV.int IntKind.i64 p2]]) := by kernel_rfl
theorem exgtsl1a (x : List Int) (b : Int) (s f l : List Int) (i len hop gate pct : Int) (K : Ex → List AV → List Blk → Prop) : evBody Egts (lb Tryd.f4 1) [1, 3, 8, 12, 14, 16, 18] [1, 3, 6, 8, 12, 16] [.one (.data (.ints .i64 x)), .one (.ptr 0 1 0 0), .one (.int .i64 b), .one (.data (.ints .i64 s)), .one (.data (.ints .i64 f)), .one (.data (.ints .i64 l)), .one (.int .i64 i)] [.cells [.int .i64 len, .int .i64 hop, .int .i64 gate, .int .i64 pct]] K = (
 bif decide (i < (↑f.length : Int)) then
 bif decide ((0 : Int) ≤ i) && decide (i < (↑f.length : Int)) then
 bif decide (i.toNat + (0 : Nat) < f.length) then
 s.length ≤ (1000000000 : Nat) ∧
 bif !memB (f.getD (i.toNat + (0 : Nat)) (0 : Int)) s then
 K Ex.ret
 [AV.one (SV.data (Row.ints IntKind.i64 x)), AV.one (SV.ptr (0 : Nat) (1 : Nat) (0 : Nat) (0 : Nat)),
 AV.one (SV.bool false), AV.one (SV.int IntKind.i64 b), AV.one (SV.data (Row.ints IntKind.i64 s)),
 AV.one (SV.data (Row.ints IntKind.i64 l))]
 [Blk.cells
 [SV.int IntKind.i64 len, SV.int IntKind.i64 hop, SV.int IntKind.i64 gate, SV.int IntKind.i64 pct]]
 else
 K Ex.normal
 [AV.one (SV.data (Row.ints IntKind.i64 x)), AV.one (SV.ptr (0 : Nat) (1 : Nat) (0 : Nat) (0 : Nat)),
 AV.one (SV.int IntKind.i64 b), AV.one (SV.data (Row.ints IntKind.i64 s)),
 AV.one (SV.data (Row.ints IntKind.i64 f)), AV.one (SV.data (Row.ints IntKind.i64 l)),
 AV.one (SV.int IntKind.i64 (IntKind.i64.wrap (i + (1 : Int))))]
 [Blk.cells
 [SV.int IntKind.i64 len, SV.int IntKind.i64 hop, SV.int IntKind.i64 gate, SV.int IntKind.i64 pct]]
 else False
 else False
 else
 K (Ex.exit (2 : Nat))
 [AV.one (SV.data (Row.ints IntKind.i64 x)), AV.one (SV.ptr (0 : Nat) (1 : Nat) (0 : Nat) (0 : Nat)), AV.any,
 AV.one (SV.int IntKind.i64 b), AV.one (SV.data (Row.ints IntKind.i64 s)),
 AV.one (SV.data (Row.ints IntKind.i64 l))]
 [Blk.cells [SV.int IntKind.i64 len, SV.int IntKind.i64 hop, SV.int IntKind.i64 gate, SV.int IntKind.i64 pct]]) := by kernel_rfl
theorem exgtsl2a (x : List Int) (b : Int) (s l : List Int) (i len hop gate pct : Int) (K : Ex → List AV → List Blk → Prop) : evBody Egts (lb Tryd.f4 2) [1, 3, 8, 12, 16, 19, 20] [1, 3, 8, 12, 16, 19] [.one (.data (.ints .i64 x)), .one (.ptr 0 1 0 0), .one (.int .i64 b), .one (.data (.ints .i64 s)), .one (.data (.ints .i64 l)), .one .nil, .one (.int .i64 i)] [.cells [.int .i64 len, .int .i64 hop, .int .i64 gate, .int .i64 pct]] K = (
 bif decide (i < (↑x.length : Int)) then
 bif decide ((0 : Int) ≤ i) && decide (i < (↑x.length : Int)) then
 bif decide (i.toNat + (0 : Nat) < x.length) then
 K Ex.normal
 [AV.one (SV.data (Row.ints IntKind.i64 x)), AV.one (SV.ptr (0 : Nat) (1 : Nat) (0 : Nat) (0 : Nat)),
 AV.one (SV.int IntKind.i64 b), AV.one (SV.data (Row.ints IntKind.i64 s)),
 AV.one (SV.data (Row.ints IntKind.i64 l)), AV.one (SV.own (1 : Nat) (1 : Nat)),
 AV.one (SV.int IntKind.i64 (IntKind.i64.wrap (i + (1 : Int))))]
 [Blk.cells [SV.int IntKind.i64 len, SV.int IntKind.i64 hop, SV.int IntKind.i64 gate, SV.int IntKind.i64 pct],
 Blk.row (3 : Nat)
 (Row.ints IntKind.i64 [IntKind.i64.wrap ((0 : Int) - x.getD (i.toNat + (0 : Nat)) (0 : Int))])]
 else False
 else False
 else
 K (Ex.exit (4 : Nat))
 [AV.one (SV.data (Row.ints IntKind.i64 x)), AV.one (SV.ptr (0 : Nat) (1 : Nat) (0 : Nat) (0 : Nat)),
 AV.one (SV.int IntKind.i64 b), AV.one (SV.data (Row.ints IntKind.i64 s)),
 AV.one (SV.data (Row.ints IntKind.i64 l)), AV.one SV.nil]
 [Blk.cells [SV.int IntKind.i64 len, SV.int IntKind.i64 hop, SV.int IntKind.i64 gate, SV.int IntKind.i64 pct]]) := by kernel_rfl
theorem exgtsl2b (x : List Int) (b : Int) (s l : List Int) (i len hop gate pct : Int) (out : List Int) (K : Ex → List AV → List Blk → Prop) : evBody Egts (lb Tryd.f4 2) [1, 3, 8, 12, 16, 19, 20] [1, 3, 8, 12, 16, 19] [.one (.data (.ints .i64 x)), .one (.ptr 0 1 0 0), .one (.int .i64 b), .one (.data (.ints .i64 s)), .one (.data (.ints .i64 l)), .one (.own 1 1), .one (.int .i64 i)] [.cells [.int .i64 len, .int .i64 hop, .int .i64 gate, .int .i64 pct], .row 3 (.ints .i64 out)] K = (
 bif decide (i < (↑x.length : Int)) then
 bif decide ((0 : Int) ≤ i) && decide (i < (↑x.length : Int)) then
 bif decide (i.toNat + (0 : Nat) < x.length) then
 bif
 decide
 ((out ++ [IntKind.i64.wrap ((0 : Int) - x.getD (i.toNat + (0 : Nat)) (0 : Int))]).length * (8 : Nat) ≤
 (140737488355328 : Nat) ∧
 (out ++ [IntKind.i64.wrap ((0 : Int) - x.getD (i.toNat + (0 : Nat)) (0 : Int))]).length ≤
 (140737488355328 : Nat)) then
 K Ex.normal
 [AV.one (SV.data (Row.ints IntKind.i64 x)), AV.one (SV.ptr (0 : Nat) (1 : Nat) (0 : Nat) (0 : Nat)),
 AV.one (SV.int IntKind.i64 b), AV.one (SV.data (Row.ints IntKind.i64 s)),
 AV.one (SV.data (Row.ints IntKind.i64 l)), AV.one (SV.own (1 : Nat) (1 : Nat)),
 AV.one (SV.int IntKind.i64 (IntKind.i64.wrap (i + (1 : Int))))]
 [Blk.cells [SV.int IntKind.i64 len, SV.int IntKind.i64 hop, SV.int IntKind.i64 gate, SV.int IntKind.i64 pct],
 Blk.row (3 : Nat)
 (Row.ints IntKind.i64 (out ++ [IntKind.i64.wrap ((0 : Int) - x.getD (i.toNat + (0 : Nat)) (0 : Int))]))]
 else False
 else False
 else False
 else
 K (Ex.exit (4 : Nat))
 [AV.one (SV.data (Row.ints IntKind.i64 x)), AV.one (SV.ptr (0 : Nat) (1 : Nat) (0 : Nat) (0 : Nat)),
 AV.one (SV.int IntKind.i64 b), AV.one (SV.data (Row.ints IntKind.i64 s)),
 AV.one (SV.data (Row.ints IntKind.i64 l)), AV.one (SV.own (1 : Nat) (1 : Nat))]
 [Blk.cells [SV.int IntKind.i64 len, SV.int IntKind.i64 hop, SV.int IntKind.i64 gate, SV.int IntKind.i64 pct],
 Blk.row (3 : TypeId) (Row.ints IntKind.i64 out)]) := by kernel_rfl
theorem exgtsl3a (x : List Int) (b : Int) (s l : List Int) (e lo hi n len hop gate pct p q : Int) (K : Ex → List AV → List Blk → Prop) : evBody Egts (lb Tryd.f4 3) [1, 3, 8, 12, 16, 21, 22, 25, 26, 27] [3, 6, 21, 22, 25, 26] [.one (.data (.ints .i64 x)), .one (.ptr 0 1 0 0), .one (.int .i64 b), .one (.data (.ints .i64 s)), .one (.data (.ints .i64 l)), .one (.ptr 1 1 0 0), .one (.int .i64 e), .one (.int .i64 lo), .one (.int .i64 hi), .one (.int .i64 n)] [.cells [.int .i64 len, .int .i64 hop, .int .i64 gate, .int .i64 pct], .cells [.int .i64 p, .int .i64 q]] K = (
 bif decide (n < (↑l.length : Int)) then
 bif decide ((0 : Int) ≤ n) && decide (n < (↑l.length : Int)) then
 bif decide (n.toNat + (0 : Nat) < l.length) then
 s.length ≤ (1000000000 : Nat) ∧
 bif !memB (l.getD (n.toNat + (0 : Nat)) (0 : Int)) s then
 K Ex.ret
 [AV.one (SV.ptr (0 : Nat) (1 : Nat) (0 : Nat) (0 : Nat)), AV.one (SV.bool false),
 AV.one (SV.ptr (1 : Nat) (1 : Nat) (0 : Nat) (0 : Nat)), AV.one (SV.int IntKind.i64 e),
 AV.one (SV.int IntKind.i64 lo), AV.one (SV.int IntKind.i64 hi)]
 [Blk.cells
 [SV.int IntKind.i64 len, SV.int IntKind.i64 hop, SV.int IntKind.i64 gate, SV.int IntKind.i64 pct],
 Blk.cells [SV.int IntKind.i64 p, SV.int IntKind.i64 q]]
 else
 bif decide ((0 : Int) ≤ n) && decide (n < (↑l.length : Int)) then
 bif decide (n.toNat + (0 : Nat) < l.length) then
 bif
 !(decide ((0 : Int) ≤ l.getD (n.toNat + (0 : Nat)) (0 : Int)) &&
 decide (l.getD (n.toNat + (0 : Nat)) (0 : Int) ≤ IntKind.i64.wrap (b - (1 : Int)))) then
 K Ex.ret
 [AV.one (SV.ptr (0 : Nat) (1 : Nat) (0 : Nat) (0 : Nat)), AV.one (SV.bool false),
 AV.one (SV.ptr (1 : Nat) (1 : Nat) (0 : Nat) (0 : Nat)), AV.one (SV.int IntKind.i64 e),
 AV.one (SV.int IntKind.i64 lo), AV.one (SV.int IntKind.i64 hi)]
 [Blk.cells
 [SV.int IntKind.i64 len, SV.int IntKind.i64 hop, SV.int IntKind.i64 gate, SV.int IntKind.i64 pct],
 Blk.cells [SV.int IntKind.i64 p, SV.int IntKind.i64 q]]
 else
 bif decide ((0 : Int) ≤ n) && decide (n < (↑l.length : Int)) then
 bif decide (n.toNat + (0 : Nat) < l.length) then
 ((x.length ≤ (200 : Nat) ∧
 x.all sampleG = true ∧ (1 : Int) ≤ len ∧ len ≤ (50 : Int) ∧ (1 : Int) ≤ hop ∧ hop ≤ len) ∧
 n < (↑l.length : Int) ∧
 (0 : Int) ≤ n ∧
 l.getD n.toNat (0 : Int) * hop ≤
 IntKind.i64.wrap (l.getD (n.toNat + (0 : Nat)) (0 : Int) * hop) ∧
 IntKind.i64.wrap (l.getD (n.toNat + (0 : Nat)) (0 : Int) * hop) ≤
 l.getD n.toNat (0 : Int) * hop + len ∧
 (0 : Int) ≤ l.getD n.toNat (0 : Int) * hop ∧
 l.getD n.toNat (0 : Int) * hop + len ≤ (↑x.length : Int) ∧
 (0 : Int) ≤ l.getD n.toNat (0 : Int) ∧
 l.getD n.toNat (0 : Int) ≤ (1000 : Int) ∧
 (0 : Int) ≤ (0 : Int) ∧
 (0 : Int) ≤
 (1073676289 : Int) *
 IntKind.i64.wrap (l.getD (n.toNat + (0 : Nat)) (0 : Int) * hop)) ∧
 bif decide (lo < (0 : Int)) then
 K Ex.normal
 [AV.one (SV.data (Row.ints IntKind.i64 x)),
 AV.one (SV.ptr (0 : Nat) (1 : Nat) (0 : Nat) (0 : Nat)), AV.one (SV.int IntKind.i64 b),
 AV.one (SV.data (Row.ints IntKind.i64 s)), AV.one (SV.data (Row.ints IntKind.i64 l)),
 AV.one (SV.ptr (1 : Nat) (1 : Nat) (0 : Nat) (0 : Nat)), AV.one (SV.int IntKind.i64 e),
 AV.one
 (SV.int IntKind.i64
 ((0 : Int) +
 sqs
 (partG x (IntKind.i64.wrap (l.getD (n.toNat + (0 : Nat)) (0 : Int) * hop))
 (l.getD n.toNat (0 : Int) * hop + len -
 IntKind.i64.wrap (l.getD (n.toNat + (0 : Nat)) (0 : Int) * hop))))),
 AV.one
 (SV.int IntKind.i64
 (if
 (0 : Int) +
 sqs
 (partG x (IntKind.i64.wrap (l.getD (n.toNat + (0 : Nat)) (0 : Int) * hop))
 (l.getD n.toNat (0 : Int) * hop + len -
 IntKind.i64.wrap (l.getD (n.toNat + (0 : Nat)) (0 : Int) * hop))) >
 hi then
 (0 : Int) +
 sqs
 (partG x (IntKind.i64.wrap (l.getD (n.toNat + (0 : Nat)) (0 : Int) * hop))
 (l.getD n.toNat (0 : Int) * hop + len -
 IntKind.i64.wrap (l.getD (n.toNat + (0 : Nat)) (0 : Int) * hop)))
 else hi)),
 AV.one (SV.int IntKind.i64 (IntKind.i64.wrap (n + (1 : Int))))]
 [Blk.cells
 [SV.int IntKind.i64 len, SV.int IntKind.i64 hop, SV.int IntKind.i64 gate,
 SV.int IntKind.i64 pct],
 Blk.cells [SV.int IntKind.i64 p, SV.int IntKind.i64 q]]
 else
 bif
 decide
 ((0 : Int) +
 sqs
 (partG x (IntKind.i64.wrap (l.getD (n.toNat + (0 : Nat)) (0 : Int) * hop))
 (l.getD n.toNat (0 : Int) * hop + len -
 IntKind.i64.wrap (l.getD (n.toNat + (0 : Nat)) (0 : Int) * hop))) <
 lo) then
 K Ex.normal
 [AV.one (SV.data (Row.ints IntKind.i64 x)),
 AV.one (SV.ptr (0 : Nat) (1 : Nat) (0 : Nat) (0 : Nat)), AV.one (SV.int IntKind.i64 b),
 AV.one (SV.data (Row.ints IntKind.i64 s)), AV.one (SV.data (Row.ints IntKind.i64 l)),
 AV.one (SV.ptr (1 : Nat) (1 : Nat) (0 : Nat) (0 : Nat)), AV.one (SV.int IntKind.i64 e),
 AV.one
 (SV.int IntKind.i64
 ((0 : Int) +
 sqs
 (partG x (IntKind.i64.wrap (l.getD (n.toNat + (0 : Nat)) (0 : Int) * hop))
 (l.getD n.toNat (0 : Int) * hop + len -
 IntKind.i64.wrap (l.getD (n.toNat + (0 : Nat)) (0 : Int) * hop))))),
 AV.one
 (SV.int IntKind.i64
 (if
 (0 : Int) +
 sqs
 (partG x (IntKind.i64.wrap (l.getD (n.toNat + (0 : Nat)) (0 : Int) * hop))
 (l.getD n.toNat (0 : Int) * hop + len -
 IntKind.i64.wrap (l.getD (n.toNat + (0 : Nat)) (0 : Int) * hop))) >
 hi then
 (0 : Int) +
 sqs
 (partG x (IntKind.i64.wrap (l.getD (n.toNat + (0 : Nat)) (0 : Int) * hop))
 (l.getD n.toNat (0 : Int) * hop + len -
 IntKind.i64.wrap (l.getD (n.toNat + (0 : Nat)) (0 : Int) * hop)))
 else hi)),
 AV.one (SV.int IntKind.i64 (IntKind.i64.wrap (n + (1 : Int))))]
 [Blk.cells
 [SV.int IntKind.i64 len, SV.int IntKind.i64 hop, SV.int IntKind.i64 gate,
 SV.int IntKind.i64 pct],
 Blk.cells [SV.int IntKind.i64 p, SV.int IntKind.i64 q]]
 else
 K Ex.normal
 [AV.one (SV.data (Row.ints IntKind.i64 x)),
 AV.one (SV.ptr (0 : Nat) (1 : Nat) (0 : Nat) (0 : Nat)), AV.one (SV.int IntKind.i64 b),
 AV.one (SV.data (Row.ints IntKind.i64 s)), AV.one (SV.data (Row.ints IntKind.i64 l)),
 AV.one (SV.ptr (1 : Nat) (1 : Nat) (0 : Nat) (0 : Nat)), AV.one (SV.int IntKind.i64 e),
 AV.one (SV.int IntKind.i64 lo),
 AV.one
 (SV.int IntKind.i64
 (if
 (0 : Int) +
 sqs
 (partG x (IntKind.i64.wrap (l.getD (n.toNat + (0 : Nat)) (0 : Int) * hop))
 (l.getD n.toNat (0 : Int) * hop + len -
 IntKind.i64.wrap (l.getD (n.toNat + (0 : Nat)) (0 : Int) * hop))) >
 hi then
 (0 : Int) +
 sqs
 (partG x (IntKind.i64.wrap (l.getD (n.toNat + (0 : Nat)) (0 : Int) * hop))
 (l.getD n.toNat (0 : Int) * hop + len -
 IntKind.i64.wrap (l.getD (n.toNat + (0 : Nat)) (0 : Int) * hop)))
 else hi)),
 AV.one (SV.int IntKind.i64 (IntKind.i64.wrap (n + (1 : Int))))]
 [Blk.cells
 [SV.int IntKind.i64 len, SV.int IntKind.i64 hop, SV.int IntKind.i64 gate,
 SV.int IntKind.i64 pct],
 Blk.cells [SV.int IntKind.i64 p, SV.int IntKind.i64 q]]
 else False
 else False
 else False
 else False
 else False
 else False
 else
 K (Ex.exit (6 : Nat))
 [AV.one (SV.ptr (0 : Nat) (1 : Nat) (0 : Nat) (0 : Nat)), AV.any,
 AV.one (SV.ptr (1 : Nat) (1 : Nat) (0 : Nat) (0 : Nat)), AV.one (SV.int IntKind.i64 e),
 AV.one (SV.int IntKind.i64 lo), AV.one (SV.int IntKind.i64 hi)]
 [Blk.cells [SV.int IntKind.i64 len, SV.int IntKind.i64 hop, SV.int IntKind.i64 gate, SV.int IntKind.i64 pct],
 Blk.cells [SV.int IntKind.i64 p, SV.int IntKind.i64 q]]) := by kernel_rfl
theorem exgtsl4a (x : List Int) (b : Int) (s l : List Int) (e lo hi n sum a len hop gate pct p q : Int) (K : Ex → List AV → List Blk → Prop) : evBody Egts (lb Tryd.f4 4) [1, 3, 8, 12, 16, 21, 22, 25, 26, 27, 28, 29] [1, 3, 8, 12, 16, 21, 22, 25, 26, 27, 28] [.one (.data (.ints .i64 x)), .one (.ptr 0 1 0 0), .one (.int .i64 b), .one (.data (.ints .i64 s)), .one (.data (.ints .i64 l)), .one (.ptr 1 1 0 0), .one (.int .i64 e), .one (.int .i64 lo), .one (.int .i64 hi), .one (.int .i64 n), .one (.int .i64 sum), .one (.int .i64 a)] [.cells [.int .i64 len, .int .i64 hop, .int .i64 gate, .int .i64 pct], .cells [.int .i64 p, .int .i64 q]] K = (
 bif decide ((0 : Int) ≤ n) && decide (n < (↑l.length : Int)) then
 bif decide (n.toNat + (0 : Nat) < l.length) then
 bif decide (a < IntKind.i64.wrap (IntKind.i64.wrap (l.getD (n.toNat + (0 : Nat)) (0 : Int) * hop) + len)) then
 bif decide ((0 : Int) ≤ a) && decide (a < (↑x.length : Int)) then
 bif decide (a.toNat + (0 : Nat) < x.length) then
 bif decide ((0 : Int) ≤ a) && decide (a < (↑x.length : Int)) then
 bif decide (a.toNat + (0 : Nat) < x.length) then
 K Ex.normal
 [AV.one (SV.data (Row.ints IntKind.i64 x)), AV.one (SV.ptr (0 : Nat) (1 : Nat) (0 : Nat) (0 : Nat)),
 AV.one (SV.int IntKind.i64 b), AV.one (SV.data (Row.ints IntKind.i64 s)),
 AV.one (SV.data (Row.ints IntKind.i64 l)), AV.one (SV.ptr (1 : Nat) (1 : Nat) (0 : Nat) (0 : Nat)),
 AV.one (SV.int IntKind.i64 e), AV.one (SV.int IntKind.i64 lo), AV.one (SV.int IntKind.i64 hi),
 AV.one (SV.int IntKind.i64 n),
 AV.one
 (SV.int IntKind.i64
 (IntKind.i64.wrap
 (sum +
 IntKind.i64.wrap
 (x.getD (a.toNat + (0 : Nat)) (0 : Int) * x.getD (a.toNat + (0 : Nat)) (0 : Int))))),
 AV.one (SV.int IntKind.i64 (IntKind.i64.wrap (a + (1 : Int))))]
 [Blk.cells
 [SV.int IntKind.i64 len, SV.int IntKind.i64 hop, SV.int IntKind.i64 gate, SV.int IntKind.i64 pct],
 Blk.cells [SV.int IntKind.i64 p, SV.int IntKind.i64 q]]
 else False
 else False
 else False
 else False
 else
 K (Ex.exit (8 : Nat))
 [AV.one (SV.data (Row.ints IntKind.i64 x)), AV.one (SV.ptr (0 : Nat) (1 : Nat) (0 : Nat) (0 : Nat)),
 AV.one (SV.int IntKind.i64 b), AV.one (SV.data (Row.ints IntKind.i64 s)),
 AV.one (SV.data (Row.ints IntKind.i64 l)), AV.one (SV.ptr (1 : Nat) (1 : Nat) (0 : Nat) (0 : Nat)),
 AV.one (SV.int IntKind.i64 e), AV.one (SV.int IntKind.i64 lo), AV.one (SV.int IntKind.i64 hi),
 AV.one (SV.int IntKind.i64 n), AV.one (SV.int IntKind.i64 sum)]
 [Blk.cells [SV.int IntKind.i64 len, SV.int IntKind.i64 hop, SV.int IntKind.i64 gate, SV.int IntKind.i64 pct],
 Blk.cells [SV.int IntKind.i64 p, SV.int IntKind.i64 q]]
 else False
 else False) := by kernel_rfl
end Go.Ev

namespace Go.Ev
open Go Go.Proofs
attribute [local irreducible] evFn evBody evRound
set_option maxRecDepth 20000

/-! ### Energies -/
theorem en_get {x : List Int} {len hop : Int} (h1 : 1 ≤ hop) (h2 : 1 ≤ len) : ∀ (j : Nat) (a : Int), j < (enG len hop x a).length → (enG len hop x a).getD j 0 = sqs (partG x (a + j * hop) len) ∧ a + j * hop + len ≤ x.length
  | 0, a, h => by
    by_cases ha : a + len ≤ x.length
    · rw [enG_yes ha h1 h2]
      refine ⟨?_, by omega⟩
      rw [show a + ((0 : Nat) : Int) * hop = a by simp]
      rfl
    · rw [enG_no ha] at h; simp at h
  | j + 1, a, h => by
    by_cases ha : a + len ≤ x.length
    · rw [enG_yes ha h1 h2] at h ⊢
      obtain ⟨e1, e2⟩ := en_get h1 h2 j (a + hop) (by simpa using h)
      have e : a + hop + (j : Int) * hop = a + ((j + 1 : Nat) : Int) * hop := by
        rw [Int.natCast_add, Int.add_mul]; simp only [Int.natCast_one, Int.one_mul]; omega
      rw [e] at e1 e2
      exact ⟨e1, e2⟩
    · rw [enG_no ha] at h; simp at h
theorem sqs_neg : ∀ {p : List Int}, p.all sampleG = true → sqs (negL p) = sqs p
  | [], _ => rfl
  | a :: l, h => by
    rw [List.all_cons, Bool.and_eq_true] at h
    have hs := h.1
    unfold sampleG withinG at hs
    simp only [Bool.and_eq_true, decide_eq_true_eq] at hs
    show wi (0 - a) * wi (0 - a) + sqs (negL l) = _
    rw [wi_neg hs, sqs_neg h.2, Int.neg_mul_neg]
    rfl
theorem negL_length (x : List Int) : (negL x).length = x.length := by simp [negL]
theorem part_neg (x : List Int) (a len : Int) : partG (negL x) a len = negL (partG x a len) := by
  unfold partG negL
  rw [List.map_take, List.map_drop]
theorem en_neg {x : List Int} (hx : x.all sampleG = true) {len hop : Int} (h1 : 1 ≤ hop) (h2 : 1 ≤ len) (n : Nat) : ∀ a : Int, ((x.length : Int) + 1 - a).toNat = n → enG len hop (negL x) a = enG len hop x a := by
  induction n using Nat.strongRecOn with
  | ind n ih =>
    intro a hn
    by_cases ha : a + len ≤ x.length
    · rw [enG_yes ha h1 h2, enG_yes (by rw [negL_length]; exact ha) h1 h2, part_neg, sqs_neg (part_all hx a len), ih _ (by omega) (a + hop) rfl]
    · rw [enG_no ha, enG_no (by rw [negL_length]; exact ha)]
theorem neg_samples {x : List Int} (hx : x.all sampleG = true) : (negL x).all sampleG = true := by
  rw [List.all_eq_true] at hx ⊢
  intro v hv
  obtain ⟨a, ha, rfl⟩ := List.mem_map.1 hv
  have := hx a ha
  unfold sampleG withinG at this ⊢
  simp only [Bool.and_eq_true, decide_eq_true_eq] at this ⊢
  rw [wi_neg this]
  omega

/-! ### Gates -/
theorem mem_gatI {len gate pct c s j : Int} : ∀ {l : List Int} {i : Int}, j ∈ gatI len gate pct c s i l ↔ ∃ k : Nat, k < l.length ∧ j = i + k ∧ keepG len gate pct c s (l.getD k 0) = true
  | [], i => by simp [gatI]
  | e :: l, i => by
    have ih := mem_gatI (len := len) (gate := gate) (pct := pct) (c := c) (s := s) (j := j) (l := l) (i := i + 1)
    constructor
    · intro h
      simp only [gatI] at h
      cases hk : keepG len gate pct c s e with
      | true =>
        rw [hk, cond_true] at h
        rcases List.mem_cons.1 h with rfl | h
        · exact ⟨0, by simp, by simp, hk⟩
        · obtain ⟨k, a1, a2, a3⟩ := ih.1 h
          exact ⟨k + 1, by simpa using a1, by rw [a2]; omega, a3⟩
      | false =>
        rw [hk, cond_false] at h
        obtain ⟨k, a1, a2, a3⟩ := ih.1 h
        exact ⟨k + 1, by simpa using a1, by rw [a2]; omega, a3⟩
    · rintro ⟨k, a1, a2, a3⟩
      simp only [gatI]
      cases k with
      | zero =>
        have : keepG len gate pct c s e = true := a3
        rw [this, cond_true, a2]
        simp
      | succ k =>
        have hm := ih.2 ⟨k, by simpa using a1, by rw [a2]; omega, a3⟩
        cases keepG len gate pct c s e with
        | true => exact List.mem_cons_of_mem _ hm
        | false => exact hm
theorem gatI_all {len c s : Int} (hc : 0 ≤ c) : ∀ {l : List Int} {i : Int}, (∀ e ∈ l, 0 ≤ e) → (gatI len 0 0 c s i l).length = l.length
  | [], _, _ => rfl
  | e :: l, i, h => by
    have he := h e (by simp)
    have hk : keepG len 0 0 c s e = true := by
      unfold keepG passG
      have m1 := Int.mul_nonneg (Int.mul_nonneg he (by decide : (0 : Int) ≤ 100)) hc
      rw [decide_eq_true (show e ≥ 0 * len by rw [Int.zero_mul]; exact he), decide_eq_true (show e * 100 * c ≥ 0 * s by rw [Int.zero_mul]; exact m1)]
      rfl
    simp only [gatI]
    rw [hk, cond_true, List.length_cons, gatI_all hc fun e' h' => h e' (by simp [h']), List.length_cons]
theorem cntG_nn (len gate : Int) : ∀ l, 0 ≤ cntG len gate l
  | [] => Int.le_refl _
  | e :: l => by
    have := cntG_nn len gate l
    simp only [cntG]
    cases passG len gate e <;> simp only [cond_true, cond_false] <;> omega
/-- A gate lets blocks pass that a smaller gate lets pass, if there is no percentage. -/
theorem gat_sub {len g1 g2 pct : Int} {bs : List Int} (hb : ∀ e ∈ bs, 0 ≤ e) (hl : 1 ≤ len) (hg : g1 ≤ g2) : ∀ j ∈ gatG len g2 pct bs, memB j (gatG len g1 0 bs) = true ∧ 0 ≤ j ∧ j < (bs.length : Int) := by
  intro j hj
  unfold gatG at hj ⊢
  obtain ⟨k, a1, a2, a3⟩ := mem_gatI.1 hj
  refine ⟨memB_mem.2 (mem_gatI.2 ⟨k, a1, a2, ?_⟩), by omega, by omega⟩
  unfold keepG passG at a3 ⊢
  rw [Bool.and_eq_true] at a3 ⊢
  have h1 := of_decide_eq_true a3.1
  have he : 0 ≤ bs.getD k 0 := hb _ (by rw [getD_of_lt a1]; exact List.getElem_mem a1)
  have hm := Int.mul_le_mul_of_nonneg_right hg (show 0 ≤ len by omega)
  have m1 := Int.mul_nonneg (Int.mul_nonneg he (by decide : (0 : Int) ≤ 100)) (cntG_nn len g1 bs)
  exact ⟨decide_eq_true (show bs.getD k 0 ≥ g1 * len by omega), decide_eq_true (show bs.getD k 0 * 100 * cntG len g1 bs ≥ 0 * smG len g1 bs by rw [Int.zero_mul]; exact m1)⟩

/-! ### The least and the greatest -/
theorem low_le {bs : List Int} : ∀ {l : List Int} {a : Int}, (∀ j ∈ l, 0 ≤ bs.getD j.toNat 0) → (l ≠ [] ∨ 0 ≤ a → 0 ≤ lowF bs a l) ∧ (0 ≤ a → lowF bs a l ≤ a) ∧ ∀ j ∈ l, lowF bs a l ≤ bs.getD j.toNat 0
  | [], a, _ => ⟨fun h => h.elim (fun h => absurd rfl h) fun h => h, fun _ => Int.le_refl _, fun j h => by simp at h⟩
  | j :: l, a, h => by
    have hv := h j (by simp)
    simp only [lowF]
    generalize ha' : (bif decide (a < 0) || decide (bs.getD j.toNat 0 < a) then bs.getD j.toNat 0 else a) = a'
    have hb : 0 ≤ a' ∧ a' ≤ bs.getD j.toNat 0 ∧ (0 ≤ a → a' ≤ a) := by
      by_cases h1 : a < 0
      · rw [decide_eq_true h1] at ha'
        simp only [Bool.true_or, cond_true] at ha'
        omega
      · rw [decide_eq_false h1, Bool.false_or] at ha'
        by_cases h2 : bs.getD j.toNat 0 < a
        · rw [decide_eq_true h2, cond_true] at ha'; omega
        · rw [decide_eq_false h2, cond_false] at ha'; omega
    obtain ⟨i1, i2, i3⟩ := low_le (bs := bs) (l := l) (a := a') fun k hk => h k (by simp [hk])
    have i2' := i2 hb.1
    refine ⟨fun _ => i1 (.inr hb.1), fun h0 => by have := hb.2.2 h0; omega, fun k hk => ?_⟩
    rcases List.mem_cons.1 hk with rfl | hk
    · omega
    · exact i3 k hk
theorem high_ge {bs : List Int} {B : Int} : ∀ {l : List Int} {a : Int}, a ≤ B → (∀ j ∈ l, bs.getD j.toNat 0 ≤ B) → a ≤ highF bs a l ∧ highF bs a l ≤ B ∧ ∀ j ∈ l, bs.getD j.toNat 0 ≤ highF bs a l
  | [], a, h0, _ => ⟨Int.le_refl _, h0, fun j h => by simp at h⟩
  | j :: l, a, h0, h => by
    have hv := h j (by simp)
    simp only [highF]
    generalize ha' : (if bs.getD j.toNat 0 > a then bs.getD j.toNat 0 else a) = a'
    have hb : a' ≤ B ∧ a ≤ a' ∧ bs.getD j.toNat 0 ≤ a' := by
      split at ha' <;> omega
    obtain ⟨i1, i2, i3⟩ := high_ge (bs := bs) (l := l) (a := a') hb.1 fun k hk => h k (by simp [hk])
    refine ⟨by omega, i2, fun k hk => ?_⟩
    rcases List.mem_cons.1 hk with rfl | hk
    · omega
    · exact i3 k hk
theorem sum_low {bs : List Int} {v : Int} : ∀ {l : List Int}, (∀ j ∈ l, v ≤ bs.getD j.toNat 0) → v * l.length ≤ sumI bs l
  | [], _ => by simp [sumI]
  | j :: l, h => by
    have h1 := h j (by simp)
    have h2 := sum_low (l := l) fun k hk => h k (by simp [hk])
    simp only [sumI, List.length_cons]
    rw [Int.natCast_add, Int.mul_add]
    simp only [Int.natCast_one, Int.mul_one]
    omega
theorem sum_high {bs : List Int} {v : Int} : ∀ {l : List Int}, (∀ j ∈ l, bs.getD j.toNat 0 ≤ v) → sumI bs l ≤ v * l.length
  | [], _ => by simp [sumI]
  | j :: l, h => by
    have h1 := h j (by simp)
    have h2 := sum_high (l := l) fun k hk => h k (by simp [hk])
    simp only [sumI, List.length_cons]
    rw [Int.natCast_add, Int.mul_add]
    simp only [Int.natCast_one, Int.mul_one]
    omega

/-! ### The loops -/
theorem lokgts_0 : LoopOK Egts (lb Tryd.f4 0) [1, 2, 3, 7, 8, 9] [1, 2, 3, 7, 8] gateA := by
  refine loopOK (.cons okawk (.cons okrmet (.cons okrsig (.cons ok25 (.cons okcopyD (.cons okgbD (.cons okhav (.cons okloud2 (.cons okilw (.cons okcpr .nil)))))))))) (noInner (by kernel_rfl)) (fun vs σ => match vs, σ with
    | [.one (.data (.ints .i64 x)), .one (.int .i64 _), .one (.ptr 0 1 0 0), .one (.ptr 1 1 0 0), .one (.int .i64 _), .one (.int .i64 a)], [.cells [.int .i64 _, .int .i64 _, .int .i64 _, .int .i64 _], .cells [.int .i64 _, .int .i64 _, .int .i64 _, .int .i64 _]] => (x.length + 1 - a).toNat
    | _, _ => 0) fun vs σ k h => ?_
  unfold gateA at h
  split at h
  rotate_right
  · exact h.elim
  · rename_i x more b a len hop gate pct l2 h2 g2 p2
    rw [exgtsl0a x more b a len hop gate pct l2 h2 g2 p2 _]
    obtain ⟨⟨⟨q1, q2, q3, q4, q5, q6⟩, h0, h1, h2, h3⟩, h⟩ := h
    have w1 : IntKind.i64.wrap (a + len) = a + len := wrap_id (by omega) (by omega)
    have w2 : IntKind.i64.wrap (b + 1) = b + 1 := wrap_id (by omega) (by omega)
    have w3 : IntKind.i64.wrap (a + hop) = a + hop := wrap_id (by omega) (by omega)
    rw [w1, w2, w3]
    by_cases ha : a + len ≤ x.length
    · rw [decide_eq_true ha]
      rw [enG_yes ha q5 q3, List.length_cons] at h
      refine ⟨⟨⟨⟨q1, q2, q3, q4, q5, q6⟩, by omega, by omega, by omega, by omega⟩, ?_⟩, by show ((x.length : Int) + 1 - (a + hop)).toNat < ((x.length : Int) + 1 - a).toNat; omega⟩
      rw [show b + 1 + ((enG len hop x (a + hop)).length : Int) = b + (((enG len hop x (a + hop)).length + 1 : Nat) : Int) by omega]
      exact h
    · rw [decide_eq_false ha]
      rw [enG_no ha] at h
      simp only [List.length_nil, Int.natCast_zero, Int.add_zero] at h
      exact h
theorem lokgts_1 : LoopOK Egts (lb Tryd.f4 1) [1, 3, 8, 12, 14, 16, 18] [1, 3, 6, 8, 12, 16] gateB := by
  refine loopOK (.cons okawk (.cons okrmet (.cons okrsig (.cons ok25 (.cons okcopyD (.cons okgbD (.cons okhav (.cons okloud2 (.cons okilw (.cons okcpr .nil)))))))))) (noInner (by kernel_rfl)) (fun vs σ => match vs, σ with
    | [.one (.data (.ints .i64 _)), .one (.ptr 0 1 0 0), .one (.int .i64 _), .one (.data (.ints .i64 _)), .one (.data (.ints .i64 f)), .one (.data (.ints .i64 _)), .one (.int .i64 i)], [.cells [.int .i64 _, .int .i64 _, .int .i64 _, .int .i64 _]] => (f.length - i).toNat
    | _, _ => 0) fun vs σ k h => ?_
  unfold gateB at h
  split at h
  rotate_right
  · exact h.elim
  · rename_i x b s f l i len hop gate pct
    rw [exgtsl1a x b s f l i len hop gate pct _]
    obtain ⟨⟨h1, h2, h0, hs⟩, h⟩ := h
    by_cases hi : i < (f.length : Int)
    · have w2 : IntKind.i64.wrap (i + 1) = i + 1 := wrap_id (by omega) (by omega)
      unfold subB at hs
      rw [drop_step 0 (show i.toNat < f.length by omega), List.all_cons, Bool.and_eq_true, show i.toNat + 1 = (i + 1).toNat by omega] at hs
      rw [w2, decide_eq_true hi, decide_eq_true h0, decide_eq_true (show i.toNat + 0 < f.length by omega)]
      simp only [Nat.add_zero, hs.1, Bool.not_true, cond_false, cond_true, Bool.and_self]
      exact ⟨h1, ⟨⟨h1, h2, by omega, hs.2⟩, h⟩, by show ((f.length : Int) - (i + 1)).toNat < ((f.length : Int) - i).toNat; omega⟩
    · rw [decide_eq_false hi]
      exact h
theorem negL_step {x : List Int} {i : Nat} (h : i < x.length) : (negL x).drop i = wi (0 - x.getD i 0) :: (negL x).drop (i + 1) := by
  rw [drop_step 0 (show i < (negL x).length by rw [negL_length]; exact h), getD_of_lt (show i < (negL x).length by rw [negL_length]; exact h)]
  congr 1
  unfold negL
  rw [List.getElem_map, getD_of_lt h]
theorem lokgts_2 : LoopOK Egts (lb Tryd.f4 2) [1, 3, 8, 12, 16, 19, 20] [1, 3, 8, 12, 16, 19] gateC := by
  refine loopOK (.cons okawk (.cons okrmet (.cons okrsig (.cons ok25 (.cons okcopyD (.cons okgbD (.cons okhav (.cons okloud2 (.cons okilw (.cons okcpr .nil)))))))))) (noInner (by kernel_rfl)) (fun vs σ => match vs, σ with
    | [.one (.data (.ints .i64 x)), .one (.ptr 0 1 0 0), .one (.int .i64 _), .one (.data (.ints .i64 _)), .one (.data (.ints .i64 _)), .one .nil, .one (.int .i64 i)], [.cells [.int .i64 _, .int .i64 _, .int .i64 _, .int .i64 _]] => (x.length - i).toNat
    | [.one (.data (.ints .i64 x)), .one (.ptr 0 1 0 0), .one (.int .i64 _), .one (.data (.ints .i64 _)), .one (.data (.ints .i64 _)), .one (.own 1 1), .one (.int .i64 i)], [.cells [.int .i64 _, .int .i64 _, .int .i64 _, .int .i64 _], .row 3 (.ints .i64 _)] => (x.length - i).toNat
    | _, _ => 0) fun vs σ k h => ?_
  unfold gateC at h
  split at h
  rotate_right
  · exact h.elim
  · rename_i x b s l i len hop gate pct
    rw [exgtsl2a x b s l i len hop gate pct _]
    obtain ⟨⟨h1, rfl⟩, h⟩ := h
    by_cases hi : (0 : Int) < (x.length : Int)
    · have he : x.isEmpty = false := by cases x with | nil => simp at hi | cons a l => rfl
      rw [he] at h
      have w2 : IntKind.i64.wrap ((0 : Int) + 1) = 0 + 1 := by decide
      have e2 := negL_step (x := x) (i := 0) (by omega)
      rw [List.drop_zero] at e2
      rw [e2] at h
      rw [w2, decide_eq_true hi, decide_eq_true (show (0 : Int) ≤ 0 by decide), decide_eq_true (show (0 : Int).toNat + 0 < x.length by simp; omega)]
      exact ⟨⟨⟨h1, by decide, by omega, by rfl⟩, h⟩, by show ((x.length : Int) - (0 + 1)).toNat < ((x.length : Int) - 0).toNat; omega⟩
    · have he : x.isEmpty = true := by cases x with | nil => rfl | cons a l => simp at hi
      rw [he] at h
      rw [decide_eq_false hi]
      exact h
  · rename_i x b s l i len hop gate pct out
    rw [exgtsl2b x b s l i len hop gate pct out _]
    obtain ⟨⟨h1, h2, h3, h4⟩, h⟩ := h
    by_cases hi : i < (x.length : Int)
    · have w2 : IntKind.i64.wrap (i + 1) = i + 1 := wrap_id (by omega) (by omega)
      rw [negL_step (show i.toNat < x.length by omega), show i.toNat + 1 = (i + 1).toNat by omega, List.append_cons] at h
      rw [w2, decide_eq_true hi, decide_eq_true h2, decide_eq_true (show i.toNat + 0 < x.length by omega)]
      simp only [cond_true, Bool.and_self, Nat.add_zero]
      exact cond_in (decide_eq_true (by simp only [List.length_append, List.length_cons, List.length_nil]; omega)) ⟨⟨⟨h1, by omega, by omega, by simp only [List.length_append, List.length_cons, List.length_nil]; omega⟩, h⟩, by show ((x.length : Int) - (i + 1)).toNat < ((x.length : Int) - i).toNat; omega⟩
    · rw [decide_eq_false hi]
      rw [List.drop_eq_nil_of_le (by rw [negL_length]; omega), List.append_nil] at h
      exact h
theorem lokgts_4 : LoopOK Egts (lb Tryd.f4 4) [1, 3, 8, 12, 16, 21, 22, 25, 26, 27, 28, 29] [1, 3, 8, 12, 16, 21, 22, 25, 26, 27, 28] gateE := by
  refine loopOK (.cons okawk (.cons okrmet (.cons okrsig (.cons ok25 (.cons okcopyD (.cons okgbD (.cons okhav (.cons okloud2 (.cons okilw (.cons okcpr .nil)))))))))) (noInner (by kernel_rfl)) (fun vs σ => match vs, σ with
    | [.one (.data (.ints .i64 _)), .one (.ptr 0 1 0 0), .one (.int .i64 _), .one (.data (.ints .i64 _)), .one (.data (.ints .i64 l)), .one (.ptr 1 1 0 0), .one (.int .i64 _), .one (.int .i64 _), .one (.int .i64 _), .one (.int .i64 n), .one (.int .i64 _), .one (.int .i64 a)], [.cells [.int .i64 len, .int .i64 hop, .int .i64 _, .int .i64 _], .cells [.int .i64 _, .int .i64 _]] => (l.getD n.toNat 0 * hop + len - a).toNat
    | _, _ => 0) fun vs σ k h => ?_
  unfold gateE at h
  split at h
  rotate_right
  · exact h.elim
  · rename_i x b s l e lo hi n sum a len hop gate pct p q
    rw [exgtsl4a x b s l e lo hi n sum a len hop gate pct p q _]
    obtain ⟨⟨⟨q1, q2, q3, q4, q5, q6⟩, h0, h1, h2, h3, h4, h5, h6, h7, h8, h9⟩, h⟩ := h
    generalize hj : l.getD n.toNat 0 = j at *
    generalize hjh : j * hop = jh at *
    have w1 : IntKind.i64.wrap jh = jh := wrap_id (by omega) (by omega)
    have w2 : IntKind.i64.wrap (jh + len) = jh + len := wrap_id (by omega) (by omega)
    have w3 : IntKind.i64.wrap (a + 1) = a + 1 := wrap_id (by omega) (by omega)
    simp only [Nat.add_zero, hj, hjh]
    rw [w1, w2, w3, decide_eq_true h1, decide_eq_true h0, decide_eq_true (show n.toNat < l.length by omega)]
    by_cases ha : a < jh + len
    · have hv := getD_sample q2 a.toNat
      have hm := mul_range (A := 32767) hv.1 hv.2 hv
      have hsq : 0 ≤ x.getD a.toNat 0 * x.getD a.toNat 0 := by
        rcases Int.le_total 0 (x.getD a.toNat 0) with h' | h'
        · exact Int.mul_nonneg h' h'
        · exact Int.mul_nonneg_of_nonpos_of_nonpos h' h'
      rw [part_step (by omega) (by omega) (by omega), ← Int.add_assoc] at h
      generalize x.getD a.toNat 0 * x.getD a.toNat 0 = v at *
      have w4 : IntKind.i64.wrap v = v := wrap_id (by omega) (by omega)
      have w5 : IntKind.i64.wrap (sum + v) = sum + v := wrap_id (by omega) (by omega)
      rw [w4, w5, decide_eq_true ha, decide_eq_true (show 0 ≤ a by omega), decide_eq_true (show a < (x.length : Int) by omega), decide_eq_true (show a.toNat < x.length by omega)]
      refine ⟨?_, by show (jh + len - (a + 1)).toNat < (jh + len - a).toNat; omega⟩
      refine ⟨⟨⟨q1, q2, q3, q4, q5, q6⟩, h0, h1, ?_⟩, ?_⟩
      · rw [hj, hjh]
        exact ⟨by omega, by omega, h4, h5, h6, h7, by omega, by omega⟩
      · rw [hj, hjh, show jh + len - (a + 1) = jh + len - a - 1 by omega]
        exact h
    · rw [decide_eq_false ha]
      rw [show jh + len - a = 0 by omega] at h
      have e0 : sqs (partG x a 0) = 0 := by unfold partG; simp [sqs]
      rw [e0, Int.add_zero] at h
      exact h
theorem inB_step {b : Int} {s l : List Int} {n : Nat} (h : n < l.length) (hi : inB b s (l.drop n) = true) : memB (l.getD n 0) s = true ∧ 0 ≤ l.getD n 0 ∧ l.getD n 0 ≤ b - 1 ∧ inB b s (l.drop (n + 1)) = true := by
  unfold inB at hi ⊢
  rw [drop_step 0 h, List.all_cons, Bool.and_eq_true, Bool.and_eq_true] at hi
  have hw := hi.1.2
  unfold withinG at hw
  simp only [Bool.and_eq_true, decide_eq_true_eq] at hw
  exact ⟨hi.1.1, hw.1, hw.2, hi.2⟩
theorem lokgts_3 : LoopOK Egts (lb Tryd.f4 3) [1, 3, 8, 12, 16, 21, 22, 25, 26, 27] [3, 6, 21, 22, 25, 26] gateD := by
  refine loopOK (.cons okawk (.cons okrmet (.cons okrsig (.cons ok25 (.cons okcopyD (.cons okgbD (.cons okhav (.cons okloud2 (.cons okilw (.cons okcpr .nil)))))))))) (fun b' hb => by
    have hl : loopsOf (lb Tryd.f4 3) = [lb Tryd.f4 4] := by kernel_rfl
    rw [hl] at hb
    simp only [List.mem_cons, List.not_mem_nil, or_false] at hb
    subst hb
    exact loopHyp_of (key := 43) (by kernel_rfl) rfl lokgts_4) (fun vs σ => match vs, σ with
    | [.one (.data (.ints .i64 _)), .one (.ptr 0 1 0 0), .one (.int .i64 _), .one (.data (.ints .i64 _)), .one (.data (.ints .i64 l)), .one (.ptr 1 1 0 0), .one (.int .i64 _), .one (.int .i64 _), .one (.int .i64 _), .one (.int .i64 n)], [.cells [.int .i64 _, .int .i64 _, .int .i64 _, .int .i64 _], .cells [.int .i64 _, .int .i64 _]] => (l.length - n).toNat
    | _, _ => 0) fun vs σ k h => ?_
  unfold gateD at h
  split at h
  rotate_right
  · exact h.elim
  · rename_i x b s l e lo hi n len hop gate pct p q
    rw [exgtsl3a x b s l e lo hi n len hop gate pct p q _]
    obtain ⟨⟨⟨hX, hb⟩, h1, h2, h0, hin⟩, h⟩ := h
    have hX' := hX
    obtain ⟨q1, q2, q3, q4, q5, q6⟩ := hX'
    have hB := okB_en hX
    by_cases hi : n < (l.length : Int)
    · have w2 : IntKind.i64.wrap (n + 1) = n + 1 := wrap_id (by omega) (by omega)
      have w3 : IntKind.i64.wrap (b - 1) = b - 1 := wrap_id (by have := hB.1; omega) (by have := hB.1; omega)
      obtain ⟨i1, i2, i3, i4⟩ := inB_step (show n.toNat < l.length by omega) hin
      rw [drop_step 0 (show n.toNat < l.length by omega), show n.toNat + 1 = (n + 1).toNat by omega] at h
      rw [show n.toNat + 1 = (n + 1).toNat by omega] at i4
      simp only [lowF, highF] at h
      generalize hj : l.getD n.toNat 0 = j at *
      obtain ⟨g1, g2⟩ := en_get (x := x) q5 q3 j.toNat 0 (by omega)
      rw [show ((j.toNat : Nat) : Int) = j by omega, Int.zero_add] at g1 g2
      have hm := Int.mul_nonneg i2 (show 0 ≤ hop by omega)
      have hbl := hB.1
      generalize hjh : j * hop = jh at *
      have w1 : IntKind.i64.wrap jh = jh := wrap_id (by omega) (by omega)
      rw [g1] at h
      simp only [Nat.add_zero, hj, hjh, w1, i1, w2, w3, decide_eq_true hi, decide_eq_true h0, decide_eq_true (show n.toNat < l.length by omega), decide_eq_true i2, decide_eq_true i3, Bool.and_self, Bool.not_true, cond_true, cond_false, show jh + len - jh = len by omega, Int.zero_add]
      refine ⟨h1, ⟨⟨q1, q2, q3, q4, q5, q6⟩, hi, h0, by omega, by omega, hm, g2, i2, by omega, by decide, by omega⟩, ?_⟩
      have hmu : ((l.length : Int) - (n + 1)).toNat < ((l.length : Int) - n).toNat := by omega
      have hpre : okJ x len hop b ∧ s.length ≤ 1000000000 ∧ l.length ≤ 1000000000 ∧ 0 ≤ n + 1 ∧ inB b s (l.drop (n + 1).toNat) = true := ⟨⟨hX, hb⟩, h1, h2, by omega, i4⟩
      by_cases hlo : lo < 0
      · rw [decide_eq_true hlo, Bool.true_or, cond_true] at h
        rw [decide_eq_true hlo]
        exact ⟨⟨hpre, h⟩, hmu⟩
      · rw [decide_eq_false hlo, Bool.false_or] at h
        rw [decide_eq_false hlo]
        cases hc : decide (sqs (partG x jh len) < lo) with
        | true => rw [hc] at h; exact ⟨⟨hpre, h⟩, hmu⟩
        | false => rw [hc] at h; exact ⟨⟨hpre, h⟩, hmu⟩
    · rw [decide_eq_false hi]
      rw [List.drop_eq_nil_of_le (by omega)] at h
      exact h

/-! ### The law -/
theorem ld_low {len hop gate pct : Int} {x : List Int} (hX : okX x len hop) (hn : (ldI len hop gate pct x).isEmpty = false) :
    let lo := lowF (enG len hop x 0) (-1) (ldI len hop gate pct x)
    let hi := highF (enG len hop x 0) (-1) (ldI len hop gate pct x)
    0 ≤ lo ∧ lo ≤ 53683814450 ∧ 0 ≤ hi ∧ hi ≤ 53683814450 ∧ lo * (ldI len hop gate pct x).length ≤ ldN len hop gate pct x ∧ ldN len hop gate pct x ≤ hi * (ldI len hop gate pct x).length := by
  intro lo hi
  obtain ⟨hB, h200, hmem⟩ := okI_ld (gate := gate) (pct := pct) hX
  have hv : ∀ j ∈ ldI len hop gate pct x, 0 ≤ (enG len hop x 0).getD j.toNat 0 ∧ (enG len hop x 0).getD j.toNat 0 ≤ 53683814450 := fun j hj => by
    have hm := hmem j hj
    have hl : j.toNat < (enG len hop x 0).length := by omega
    rw [getD_of_lt hl]
    exact hB.2 _ (List.getElem_mem hl)
  have hne : ldI len hop gate pct x ≠ [] := fun e => by rw [e] at hn; simp at hn
  obtain ⟨l1, _, l3⟩ := low_le (bs := enG len hop x 0) (l := ldI len hop gate pct x) (a := -1) fun j hj => (hv j hj).1
  obtain ⟨h1, h2, h3⟩ := high_ge (bs := enG len hop x 0) (B := 53683814450) (l := ldI len hop gate pct x) (a := -1) (by decide) fun j hj => (hv j hj).2
  have e1 := l1 (.inl hne)
  obtain ⟨j0, hj0⟩ : ∃ j, j ∈ ldI len hop gate pct x := by
    cases hl : ldI len hop gate pct x with
    | nil => exact absurd hl hne
    | cons a l => exact ⟨a, by simp⟩
  have b1 := hv j0 hj0
  have b2 := l3 j0 hj0
  have b3 := h3 j0 hj0
  exact ⟨e1, by omega, by omega, h2, sum_low l3, sum_high h3⟩
theorem low_gcd {a b : Int} (ha : 0 ≤ a) (hb : 0 < b) : gcdG (a.tdiv (gcdG a b)) (b.tdiv (gcdG a b)) = 1 := by
  obtain ⟨m, rfl⟩ := Int.eq_ofNat_of_zero_le ha
  obtain ⟨k, rfl⟩ := Int.eq_ofNat_of_zero_le (Int.le_of_lt hb)
  have e1 : ∀ u v : Nat, ((u : Nat) : Int).tdiv ((v : Nat) : Int) = ((u / v : Nat) : Int) := fun u v => by
    rw [Int.tdiv_eq_ediv_of_nonneg (by omega)]; rfl
  have hg : gcdG (m : Int) (k : Int) = ((Nat.gcd m k : Nat) : Int) := by rw [gcdG_nat (by omega) (by omega)]; rfl
  rw [hg, e1, e1, gcdG_nat (Int.natCast_nonneg _) (Int.natCast_nonneg _)]
  simp only [Int.toNat_natCast]
  rw [Nat.gcd_div_gcd_div_gcd_of_pos_right (by omega)]
  rfl
theorem okgts : SpecOK Tryd.prog 4 lawGateS := by
  refine specOK (n := 274) (m := 0) (lps := [(8, .spec [1, 2, 3, 7, 8, 9] [1, 2, 3, 7, 8] gateA), (20, .spec [1, 3, 8, 12, 14, 16, 18] [1, 3, 6, 8, 12, 16] gateB), (26, .spec [1, 3, 8, 12, 16, 19, 20] [1, 3, 8, 12, 16, 19] gateC), (37, .spec [1, 3, 8, 12, 16, 21, 22, 25, 26, 27] [3, 6, 21, 22, 25, 26] gateD), (43, .spec [1, 3, 8, 12, 16, 21, 22, 25, 26, 27, 28, 29] [1, 3, 8, 12, 16, 21, 22, 25, 26, 27, 28] gateE)]) (.cons okawk (.cons okrmet (.cons okrsig (.cons ok25 (.cons okcopyD (.cons okgbD (.cons okhav (.cons okloud2 (.cons okilw (.cons okcpr .nil)))))))))) Tryd.func4 (by kernel_rfl) (by kernel_rfl) (theLoops (n := 5) (by kernel_rfl) fun i hi => ?_) fun args σ K h => ?_
  · match i, hi with
    | 0, _ => exact loopHyp_of (key := 8) (by kernel_rfl) rfl lokgts_0
    | 1, _ => exact loopHyp_of (key := 20) (by kernel_rfl) rfl lokgts_1
    | 2, _ => exact loopHyp_of (key := 26) (by kernel_rfl) rfl lokgts_2
    | 3, _ => exact loopHyp_of (key := 37) (by kernel_rfl) rfl lokgts_3
    | 4, _ => exact loopHyp_of (key := 43) (by kernel_rfl) rfl lokgts_4
  unfold lawGateS at h
  split at h
  rotate_right
  · exact h.elim
  rename_i len hop gate pct x more
  rw [exgts len hop gate pct x more K]
  by_cases hl : (x.length : Int) > 60
  · rw [decide_eq_true hl]; exact h
  rw [decide_eq_false hl]
  have l1 : x.length ≤ 1000000000 := by omega
  have l2 : x.length ≤ 1000000000000 := by omega
  have l3 : x.length ≤ 1000 := by omega
  cases hm : meterG len hop gate pct with
  | false => exact h
  | true =>
    by_cases hz : sigE x = 0
    rotate_left
    · rw [bne_tt hz]; exact ⟨l1, h⟩
    rw [hz]
    have hX := okX_of hm hz
    have hX' := hX
    obtain ⟨q1, q2, q3, q4, q5, q6⟩ := hX'
    have hB := okB_en hX
    have hm' := hm
    unfold meterG withinG at hm'
    simp only [Bool.and_eq_true, decide_eq_true_eq] at hm'
    obtain ⟨_, _, ⟨g0, g1⟩, p0, p1⟩ := hm'
    have wg : IntKind.i64.wrap (1073676289 - gate) = 1073676289 - gate := wrap_id (by omega) (by omega)
    rw [wg]
    by_cases hmo : 0 ≤ more ∧ more ≤ 1073676289 - gate
    rotate_left
    · have : (decide (0 ≤ more) && decide (more ≤ 1073676289 - gate)) = false := by
        rcases Int.lt_or_le more 0 with h' | h'
        · rw [decide_eq_false (show ¬ 0 ≤ more by omega)]; rfl
        · rw [decide_eq_false (show ¬ more ≤ 1073676289 - gate by omega), Bool.and_false]
      rw [this]
      exact ⟨l1, h⟩
    obtain ⟨m0, m1⟩ := hmo
    have wm : IntKind.i64.wrap (gate + more) = gate + more := wrap_id (by omega) (by omega)
    have meter : ∀ g p : Int, 0 ≤ g → g ≤ 1073676289 → 0 ≤ p → p ≤ 100 → meE len hop g p x = 0 := by
      intro g p a1 a2 a3 a4
      have : meterG len hop g p = true := by
        unfold meterG withinG
        rw [decide_eq_true q3, decide_eq_true q4, decide_eq_true q5, decide_eq_true q6, decide_eq_true a1, decide_eq_true a2, decide_eq_true a3, decide_eq_true a4]
        rfl
      unfold meE
      rw [this, hz]
      rfl
    have e0 := meter 0 0 (by decide) (by decide) (by decide) (by decide)
    have e1 := meter gate 0 g0 g1 (by decide) (by decide)
    have e2 := meter (gate + more) 0 (by omega) (by omega) (by decide) (by decide)
    have e3 := meter gate pct g0 g1 p0 p1
    have hbs : ∀ e ∈ enG len hop x 0, 0 ≤ e := fun e he => (hB.2 e he).1
    have i0 : gbI len hop 0 0 x = gatG len 0 0 (enG len hop x 0) := by unfold gbI; rw [e0]; rfl
    have i1 : gbI len hop gate 0 x = gatG len gate 0 (enG len hop x 0) := by unfold gbI; rw [e1]; rfl
    have i2 : gbI len hop (gate + more) 0 x = gatG len (gate + more) 0 (enG len hop x 0) := by unfold gbI; rw [e2]; rfl
    have i3 : gbI len hop gate pct x = ldI len hop gate pct x := by unfold gbI; rw [e3]; rfl
    have n0 : ((gbI len hop 0 0 x).length : Int) = 0 + ((enG len hop x 0).length : Int) := by
      rw [i0, Int.zero_add]
      unfold gatG
      rw [gatI_all (cntG_nn _ _ _) hbs]
    have lens : ∀ g p : Int, (gatG len g p (enG len hop x 0)).length ≤ 1000000000 := fun g p => by
      have := (gatI_facts (len := len) (gate := g) (pct := p) (c := cntG len g (enG len hop x 0)) (s := smG len g (enG len hop x 0)) (l := enG len hop x 0) (i := 0)).1
      have h200 := hB.1
      unfold gatG
      omega
    have s1 : subB (gbI len hop gate 0 x) (gbI len hop (gate + more) 0 x) = true := by
      rw [i1, i2]
      exact List.all_eq_true.2 fun j hj => (gat_sub hbs q3 (by omega) j hj).1
    have s2 : inB (0 + ((enG len hop x 0).length : Int)) (gbI len hop gate 0 x) (gbI len hop gate pct x) = true := by
      rw [i1, i3, Int.zero_add]
      refine List.all_eq_true.2 fun j hj => ?_
      obtain ⟨a1, a2, a3⟩ := gat_sub hbs q3 (Int.le_refl gate) j (show j ∈ gatG len gate pct (enG len hop x 0) from hj)
      rw [a1]
      unfold withinG
      rw [decide_eq_true a2, decide_eq_true (show j ≤ ((enG len hop x 0).length : Int) - 1 by omega)]
      rfl
    have k1 : (gbI len hop gate 0 x).length ≤ 1000000000 := by rw [i1]; exact lens _ _
    have k2 : (gbI len hop (gate + more) 0 x).length ≤ 1000000000 := by rw [i2]; exact lens _ _
    have k3 : (gbI len hop gate pct x).length ≤ 1000000000 := by rw [i3]; exact lens _ _
    have hen : enG len hop (negL x) 0 = enG len hop x 0 := en_neg q2 q5 q3 _ 0 rfl
    have hI : ldI len hop gate pct (negL x) = ldI len hop gate pct x := by unfold ldI; rw [hen]
    have hN : ldN len hop gate pct (negL x) = ldN len hop gate pct x := by unfold ldN; rw [hen, hI]
    have hD : ldD len hop gate pct (negL x) = ldD len hop gate pct x := by unfold ldD; rw [hI]
    have hsn : sigE (negL x) = 0 := by
      unfold sigE
      rw [negL_length, decide_eq_true (show (x.length : Int) ≤ 200 by omega), neg_samples q2]
      rfl
    have e3n : meE len hop gate pct (negL x) = 0 := by unfold meE; rw [hm, hsn]; rfl
    have v1 : ldE len hop gate pct (negL x) = ldE len hop gate pct x := by unfold ldE; rw [e3, e3n, hI]
    have v2 : ldP len hop gate pct (negL x) = ldP len hop gate pct x := by unfold ldP; rw [v1, hN, hD]
    have v3 : ldQ len hop gate pct (negL x) = ldQ len hop gate pct x := by unfold ldQ; rw [v1, hN, hD]
    have kn : (negL x).length ≤ 1000000000 := by rw [negL_length]; exact l1
    have hx0 : x.isEmpty = true → negL x = [] := fun h' => by rw [List.isEmpty_iff.1 h']; rfl
    have fin : ∀ (J : Prop), (J ↔ True) → True := fun _ _ => trivial
    simp only [wm, e0, e1, e2, e3, n0, v1, v2, v3, bne_self_eq_false, cond_false, cond_true, beq_self_eq_true, Bool.and_self, Bool.not_true]
    rw [decide_eq_true m0, decide_eq_true m1]
    simp only [Bool.and_self, Bool.not_true, cond_false]
    refine ⟨l1, ⟨hX, by decide, by decide, by decide, by decide⟩, l2, l1, l2, l1, l2, l1, l2, l1, ⟨k1, k2, by decide, s1⟩, ⟨l3, trivial⟩, ?_⟩
    have hcase : ∀ y : List Int, ldE len hop gate pct y = ldE len hop gate pct x → ldP len hop gate pct y = ldP len hop gate pct x → ldQ len hop gate pct y = ldQ len hop gate pct x → True := fun _ _ _ _ => trivial
    rw [i3] at k3 s2
    rw [i3]
    cases hg : (ldI len hop gate pct x).isEmpty with
    | true =>
      have hI0 := List.isEmpty_iff.1 hg
      have d0 : ldE len hop gate pct x = 12 := by unfold ldE; rw [e3, hg]; rfl
      have d1 : ((ldI len hop gate pct x).length : Int) = 0 := by rw [hI0]; rfl
      cases hx : x.isEmpty with
      | true =>
        rw [hx0 hx] at v1 v2 v3
        simp only [v1, v2, v3, d0, d1, bne_self_eq_false, beq_self_eq_true, Bool.and_self, Bool.not_true, cond_true, cond_false]
        repeat' first
          | exact h
          | exact l1
          | exact l2
          | exact Nat.zero_le _
          | refine And.intro ?_ ?_
      | false =>
        simp only [v1, v2, v3, d0, d1, bne_self_eq_false, beq_self_eq_true, Bool.and_self, Bool.not_true, cond_true, cond_false]
        repeat' first
          | exact h
          | exact l1
          | exact l2
          | exact kn
          | refine And.intro ?_ ?_
    | false =>
      have d0 : ldE len hop gate pct x = 0 := by unfold ldE; rw [e3, hg]; rfl
      have hpos : 1 ≤ (ldI len hop gate pct x).length := by
        cases hc : ldI len hop gate pct x with
        | nil => rw [hc] at hg; simp at hg
        | cons a l => simp
      have d1 : (((ldI len hop gate pct x).length : Int) == 0) = false := beq_ff (by omega)
      obtain ⟨a1, a2, a3, a4⟩ := ld_facts hX hg
      obtain ⟨b1, b2, b3, b4, b5, b6⟩ := ld_low hX hg
      have hDe : ldD len hop gate pct x = ((ldI len hop gate pct x).length : Int) * len := rfl
      generalize lowF (enG len hop x 0) (-1) (ldI len hop gate pct x) = lo at *
      generalize highF (enG len hop x 0) (-1) (ldI len hop gate pct x) = hi at *
      obtain ⟨_, c1, c2, c3, c4⟩ := divG_gcdG (a := ldN len hop gate pct x) (b := ldD len hop gate pct x) a1 (by omega) (by omega)
      obtain ⟨f1, f2, f3⟩ := tdiv_exact c1 c3 a1
      obtain ⟨f4, f5, f6⟩ := tdiv_exact c1 c4 (show 0 ≤ ldD len hop gate pct x by omega)
      have eP : ldP len hop gate pct x = (ldN len hop gate pct x).tdiv (gcdG (ldN len hop gate pct x) (ldD len hop gate pct x)) := by
        unfold ldP; rw [d0]; exact wi_id (by omega) (by omega)
      have eQ : ldQ len hop gate pct x = (ldD len hop gate pct x).tdiv (gcdG (ldN len hop gate pct x) (ldD len hop gate pct x)) := by
        unfold ldQ; rw [d0]; exact wi_id (by omega) (by omega)
      have hgc := low_gcd (a := ldN len hop gate pct x) (b := ldD len hop gate pct x) a1 (by omega)
      rw [← eP, ← eQ] at hgc
      rw [← eP] at f1 f2 f3
      rw [← eQ] at f4 f5 f6
      generalize ldP len hop gate pct x = P at *
      generalize ldQ len hop gate pct x = Q at *
      generalize hGG : gcdG (ldN len hop gate pct x) (ldD len hop gate pct x) = G at *
      generalize ldN len hop gate pct x = N at *
      generalize ldD len hop gate pct x = Dn at *
      have hQ : 0 < Q := by
        rcases Int.lt_or_le 0 Q with h' | h'
        · exact h'
        · have : Q = 0 := by omega
          rw [this, Int.zero_mul] at f4; omega
      have hlow : lowestG P Q = true := by
        unfold lowestG
        rw [hgc, decide_eq_true (show Q > 0 from hQ)]
        rfl
      generalize hn : ((ldI len hop gate pct x).length : Int) = n at *
      have x1 : lo * Q ≤ P * len := by
        refine Int.le_of_mul_le_mul_left (a := G) ?_ c1
        have t1 : G * (lo * Q) = lo * n * len := by rw [Int.mul_left_comm, Int.mul_comm G Q, f4, hDe, Int.mul_assoc]
        have t2 : G * (P * len) = N * len := by rw [← Int.mul_assoc, Int.mul_comm G P, f1]
        rw [t1, t2]
        exact Int.mul_le_mul_of_nonneg_right b5 (by omega)
      have x2 : P * len ≤ hi * Q := by
        refine Int.le_of_mul_le_mul_left (a := G) ?_ c1
        have t1 : G * (hi * Q) = hi * n * len := by rw [Int.mul_left_comm, Int.mul_comm G Q, f4, hDe, Int.mul_assoc]
        have t2 : G * (P * len) = N * len := by rw [← Int.mul_assoc, Int.mul_comm G P, f1]
        rw [t1, t2]
        exact Int.mul_le_mul_of_nonneg_right b6 (by omega)
      have y1 : decide (cmpF lo len P Q ≤ 0) = true := by
        refine decide_eq_true ?_
        unfold cmpF
        split
        · decide
        · split
          · decide
          · omega
      have y2 : decide (cmpF P Q hi len ≤ 0) = true := by
        refine decide_eq_true ?_
        unfold cmpF
        split
        · decide
        · split
          · decide
          · omega
      have r1 : (0 ≤ lo ∧ lo ≤ 4611686018427387904 ∧ 0 < len ∧ len ≤ 4611686018427387904 ∧ 0 ≤ P ∧ P ≤ 4611686018427387904 ∧ 0 < Q ∧ Q ≤ 4611686018427387904) := by omega
      have r2 : (0 ≤ P ∧ P ≤ 4611686018427387904 ∧ 0 < Q ∧ Q ≤ 4611686018427387904 ∧ 0 ≤ hi ∧ hi ≤ 4611686018427387904 ∧ 0 < len ∧ len ≤ 4611686018427387904) := by omega
      have r3 : (okX x len hop ∧ 0 + ((enG len hop x 0).length : Int) = ((enG len hop x 0).length : Int)) := ⟨hX, by omega⟩
      cases hx : x.isEmpty with
      | true =>
        rw [hx0 hx] at v1 v2 v3
        simp only [v1, v2, v3, d0, d1, hlow, y1, y2, bne_self_eq_false, beq_self_eq_true, Bool.and_self, Bool.not_true, cond_true, cond_false]
        repeat' first
          | exact h
          | exact r1
          | exact r2
          | exact r3
          | exact s2
          | exact k1
          | exact k3
          | exact l1
          | exact l2
          | exact Nat.zero_le _
          | exact Int.le_refl _
          | refine And.intro ?_ ?_
      | false =>
        simp only [v1, v2, v3, d0, d1, hlow, y1, y2, bne_self_eq_false, beq_self_eq_true, Bool.and_self, Bool.not_true, cond_true, cond_false]
        repeat' first
          | exact h
          | exact r1
          | exact r2
          | exact r3
          | exact s2
          | exact k1
          | exact k3
          | exact l1
          | exact l2
          | exact kn
          | exact Int.le_refl _
          | refine And.intro ?_ ?_
end Go.Ev
