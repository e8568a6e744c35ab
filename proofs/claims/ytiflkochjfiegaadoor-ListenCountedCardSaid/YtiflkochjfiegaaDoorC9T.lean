/-
  Chapter 9, contracts: levels, the minimum of right answers, and what the reference says of tails.
-/
import Derived.Test.YtiflkochjfiegaaDoorC9D
import Derived.KernelRfl
set_option linter.unusedVariables false
set_option linter.unusedSimpArgs false
set_option linter.unusedSectionVars false
namespace Go.Ev
open Go Go.Proofs
set_option maxRecDepth 20000

/-! ### Levels -/
def lvlE (n d : Int) : Int := bif decide (d ≤ 0) then 3 else firstE [bif gcdG n d == 1 then 0 else (bif gcdG n d == -1 then 0 else 3), bif withinG n 0 d && decide (d ≤ 1000000000) then 0 else 2]
def lvlL : LSpec := fun vs σ k => match vs, σ with
  | [.one (.ptr 0 1 0 0), .one (.int .i64 a), .one (.int .i64 b)], [.cells [.int .i64 n, .int .i64 d]] => k (.exit 0) [.one (.ptr 0 1 0 0), .one (.int .i64 (gcdG a b))] [.cells [.int .i64 n, .int .i64 d]]
  | _, _ => False
def lvlS : Spec := fun args σ K => match args, σ with
  | [.agg [.int .i64 n, .int .i64 d]], [] => K (.one (.int .i64 (lvlE n d))) []
  | _, _ => False
def rlvlE (n d : Int) : Int := bif !lowestG n d then 3 else (bif withinG n 0 d && decide (d ≤ 1000000000) then 0 else 2)
def rlvlS : Spec := fun args σ K => match args, σ with
  | [.agg [.int .i64 n, .int .i64 d]], [] => K (.one (.int .i64 (rlvlE n d))) []
  | _, _ => False
def isLowestS : Spec := fun args σ K => match args, σ with
  | [.agg [.int .i64 n, .int .i64 d]], [] => K (.one (.bool (lowestG n d))) []
  | _, _ => False
def cmpG (x y : Int) : Int := bif decide (x < y) then -1 else (bif decide (x > y) then 1 else 0)
def cmpS : Spec := fun args σ K => match args, σ with
  | [.agg [.int .i64 a, .int .i64 b], .agg [.int .i64 c, .int .i64 d]], [] => K (.one (.int .i64 (cmpG (wi (a * d)) (wi (c * b))))) []
  | _, _ => False

/-! ### The minimum -/
def okLv (t n d : Int) : Prop := 0 ≤ t ∧ t ≤ 29 ∧ 0 ≤ n ∧ n ≤ d ∧ 1 ≤ d ∧ d ≤ 1000000000
def passT (t n d x : Int) : Bool := decide (x * d ≤ n * powD t)
def passTS : Spec := fun args σ K => match args, σ with
  | [.one (.int .i64 x), .one (.ptr 0 1 0 0), .one (.ptr 1 1 0 0)], [.cells [.int .i64 n, .int .i64 d], .cells [.int .i64 t]] => (okLv t n d ∧ 0 ≤ x ∧ x ≤ 536870912) ∧ K (.one (.bool (passT t n d x))) [.cells [.int .i64 n, .int .i64 d], .cells [.int .i64 t]]
  | _, _ => False
def idxMn (t n d : Int) : Int → List Int → Int
  | _, [] => -1
  | i, x :: l => bif passT t n d x then i else idxMn t n d (i + 1) l
def okTl (l : List Int) : Prop := l.length ≤ 30 ∧ ∀ x ∈ l, 0 ≤ x ∧ x ≤ 536870912
def idxMnL : LSpec := fun vs σ k => match vs, σ with
  | [.one (.data (.ints .i64 l)), .one (.func 115 [0, 1]), .one (.int .i64 m), .one (.int .i64 i)], [.cells [.int .i64 n, .int .i64 d], .cells [.int .i64 t]] =>
    (okTl l ∧ okLv t n d ∧ 0 ≤ i ∧ m = l.length) ∧ bif (l.drop i.toNat).any (passT t n d) then k .ret [.one (.int .i64 (idxMn t n d i (l.drop i.toNat)))] [.cells [.int .i64 n, .int .i64 d], .cells [.int .i64 t]] else k (.exit 0) [.any] [.cells [.int .i64 n, .int .i64 d], .cells [.int .i64 t]]
  | _, _ => False
def idxMnS : Spec := fun args σ K => match args, σ with
  | [.one (.data (.ints .i64 l)), .one (.func 115 [0, 1])], [.cells [.int .i64 n, .int .i64 d], .cells [.int .i64 t]] => (okTl l ∧ okLv t n d) ∧ K (.one (.int .i64 (idxMn t n d 0 l))) [.cells [.int .i64 n, .int .i64 d], .cells [.int .i64 t]]
  | _, _ => False
def minE (t n d : Int) : Int := firstE [bif withinG t 0 29 then 0 else 2, lvlE n d]
def minI (t n d : Int) : Int := idxMn t n d 0 (tailsG t)
def minS : Spec := fun args σ K => match args, σ with
  | [.one (.int .i64 t), .agg [.int .i64 n, .int .i64 d]], [] =>
    bif minE t n d == 0 then (bif decide (minI t n d < 0) then K (.tup [.one (.int .i64 0), .one (.int .i64 12)]) [] else K (.tup [.one (.int .i64 (minI t n d)), .one (.int .i64 0)]) [])
    else K (.tup [.one (.int .i64 0), .one (.int .i64 (minE t n d))]) []
  | _, _ => False

/-! ### The reference -/
def rtailE (t r : Int) : Int := bif withinG t 0 29 then (bif withinG r 0 t then 0 else 2) else 2
def rtailES : Spec := fun args σ K => match args, σ with
  | [.one (.int .i64 t), .one (.int .i64 r)], [] => K (.one (.int .i64 (rtailE t r))) []
  | _, _ => False
def adjF : List Int → List Int
  | a :: b :: l => wi (a + b) :: adjF (b :: l)
  | _ => []
def nextC (row : List Int) : List Int := 1 :: adjF row ++ [1]
def chG : Nat → List Int → List Int
  | 0, row => row
  | m + 1, row => chG m (nextC row)
def chOutL : LSpec := fun vs σ k => match vs, σ with
  | [.one (.int .i64 n), .one (.int .i64 c), .one (.own 0 1), .one (.int .i64 i)], [.row 3 (.ints .i64 row)] =>
    (n ≤ 29 ∧ 0 ≤ i ∧ i ≤ n ∧ (row.length : Int) = i + 1) ∧ k (.exit 0) [.one (.int .i64 c), .one (.own 0 1)] [.row 3 (.ints .i64 (chG (n - i).toNat row))]
  | _, _ => False
def chInL : LSpec := fun vs σ k => match vs, σ with
  | [.one (.int .i64 n), .one (.int .i64 c), .one (.own 0 1), .one (.int .i64 i), .one (.own 1 1), .one (.int .i64 j)], [.row 3 (.ints .i64 row), .row 3 (.ints .i64 next)] =>
    (row.length ≤ 30 ∧ 1 ≤ j ∧ j ≤ row.length ∧ (next.length : Int) = j) ∧ k (.exit 2) [.one (.int .i64 n), .one (.int .i64 c), .one (.int .i64 i), .one (.own 0 1)] [.row 3 (.ints .i64 (next ++ adjF (row.drop (j - 1).toNat)))]
  | _, _ => False
def chS : Spec := fun args σ K => match args, σ with
  | [.one (.int .i64 n), .one (.int .i64 c)], [] => (0 ≤ n ∧ n ≤ 29 ∧ 0 ≤ c ∧ c ≤ n) ∧ K (.one (.int .i64 ((chG n.toNat [1]).getD c.toNat 0))) []
  | _, _ => False
def pwG : Nat → Int → Int
  | 0, o => o
  | m + 1, o => pwG m (wi (2 * o))
def pwL : LSpec := fun vs σ k => match vs, σ with
  | [.one (.int .i64 n), .one (.int .i64 o), .one (.int .i64 i)], [] => (n ≤ 1000 ∧ 0 ≤ i ∧ i ≤ n) ∧ k (.exit 0) [.one (.int .i64 (pwG (n - i).toNat o))] []
  | _, _ => False
def pwS : Spec := fun args σ K => match args, σ with
  | [.one (.int .i64 n)], [] => (0 ≤ n ∧ n ≤ 1000) ∧ K (.one (.int .i64 (pwG n.toNat 1))) []
  | _, _ => False
def smC (t : Int) : Nat → Int → Int → Int
  | 0, s, _ => s
  | m + 1, s, k => smC t m (wi (s + (chG t.toNat [1]).getD k.toNat 0)) (k + 1)
def rtL : LSpec := fun vs σ k => match vs, σ with
  | [.one (.int .i64 t), .one (.ptr 0 1 0 0), .one (.int .i64 s), .one (.int .i64 c)], [.cells [.int .i64 0, .int .i64 0]] =>
    (0 ≤ t ∧ t ≤ 29 ∧ 0 ≤ c ∧ c ≤ t + 1) ∧ k (.exit 0) [.one (.int .i64 t), .one (.ptr 0 1 0 0), .one (.int .i64 (smC t (t + 1 - c).toNat s c))] [.cells [.int .i64 0, .int .i64 0]]
  | _, _ => False
def rtN (t r : Int) : Int := smC t (t + 1 - r).toNat 0 r
def rtD (t : Int) : Int := pwG t.toNat 1
def rtailS : Spec := fun args σ K => match args, σ with
  | [.one (.int .i64 t), .one (.int .i64 r)], [] => (0 ≤ t ∧ t ≤ 29 ∧ 0 ≤ r ∧ r ≤ t) ∧
    K (.agg [.int .i64 (wi ((rtN t r).tdiv (divG (rtN t r) (rtD t)))), .int .i64 (wi ((rtD t).tdiv (divG (rtN t r) (rtD t))))]) []
  | _, _ => False
def rtA (t r : Int) : Int := wi ((rtN t r).tdiv (divG (rtN t r) (rtD t)))
def rtB (t r : Int) : Int := wi ((rtD t).tdiv (divG (rtN t r) (rtD t)))
def rminI (t n d : Int) : Nat → Int → Int
  | 0, _ => -1
  | m + 1, c => bif decide (cmpG (wi (rtA t c * d)) (wi (n * rtB t c)) ≤ 0) then c else rminI t n d m (c + 1)
def rminL : LSpec := fun vs σ k => match vs, σ with
  | [.one (.int .i64 t), .one (.ptr 0 1 0 0), .one (.int .i64 c)], [.cells [.int .i64 n, .int .i64 d]] =>
    (0 ≤ t ∧ t ≤ 29 ∧ 0 ≤ c ∧ c ≤ t + 1) ∧ bif decide (rminI t n d (t + 1 - c).toNat c < 0) then k (.exit 0) [.any, .any] [] else k .ret [.one (.int .i64 (rminI t n d (t + 1 - c).toNat c)), .one (.bool true)] []
  | _, _ => False
def rminS : Spec := fun args σ K => match args, σ with
  | [.one (.int .i64 t), .agg [.int .i64 n, .int .i64 d]], [] => (0 ≤ t ∧ t ≤ 29) ∧
    bif decide (rminI t n d (t + 1).toNat 0 < 0) then K (.tup [.one (.int .i64 0), .one (.bool false)]) [] else K (.tup [.one (.int .i64 (rminI t n d (t + 1).toNat 0)), .one (.bool true)]) []
  | _, _ => False
noncomputable abbrev Elvl : Env := envOf Tryd.prog [(103, withinS), (104, unlessS), (98, firstS)] [(4, .spec [1, 3, 4] [1, 3] lvlL)] 38 0
noncomputable abbrev Eilw : Env := envOf Tryd.prog [(107, gcdS)] [] 14 0
noncomputable abbrev Erlv : Env := envOf Tryd.prog [(32, isLowestS), (30, withinS)] [] 17 0
noncomputable abbrev Ecmp : Env := envOf Tryd.prog [] [] 23 0
noncomputable abbrev Epst : Env := envOf Tryd.prog [] [] 14 2
noncomputable abbrev Eixm : Env := envOf Tryd.prog [(115, passTS)] [(2, .spec [0, 1, 7, 8] [4] idxMnL)] 19 2
noncomputable abbrev Emin : Env := envOf Tryd.prog [(111, trialsS), (113, lvlS), (98, firstS), (112, tailsS), (114, idxMnS)] [] 24 0
noncomputable abbrev Ertr : Env := envOf Tryd.prog [(30, withinS)] [] 6 0
noncomputable abbrev Erte : Env := envOf Tryd.prog [(30, withinS), (43, trialsS)] [] 14 0
noncomputable abbrev Ech : Env := envOf Tryd.prog [] [(3, .spec [0, 1, 5, 6] [1, 5] chOutL), (7, .spec [0, 1, 5, 6, 7, 8] [0, 1, 6, 7] chInL)] 42 0
noncomputable abbrev Epw : Env := envOf Tryd.prog [] [(3, .spec [0, 3, 4] [3] pwL)] 13 0
noncomputable abbrev Ert : Env := envOf Tryd.prog [(116, chS), (117, pwS), (48, lowestS)] [(3, .spec [0, 4, 5, 6] [0, 4, 5] rtL)] 22 0
noncomputable abbrev Ermn : Env := envOf Tryd.prog [(42, rtailS), (49, cmpS)] [(2, .spec [0, 3, 6] [4, 5] rminL)] 19 0
end Go.Ev

namespace Go.Ev
open Go Go.Proofs
set_option maxRecDepth 100000
theorem exlvl (n d : Int) (K : AV → List Blk → Prop) : evFn Elvl Tryd.f113 [.agg [.int .i64 n, .int .i64 d]] [] K = (
 bif decide (d ≤ (0 : Int)) then K (AV.one (SV.int IntKind.i64 (3 : Int))) []
 else
 bif gcdG n d == (1 : Int) then
 bif decide ((0 : Int) ≤ n) && decide (n ≤ d) then
 [(0 : Int), bif decide (d ≤ (1000000000 : Int)) then (0 : Int) else (2 : Int)].length ≤ (1000 : Nat) ∧
 K
 (AV.one
 (SV.int IntKind.i64
 (firstE [(0 : Int), bif decide (d ≤ (1000000000 : Int)) then (0 : Int) else (2 : Int)])))
 []
 else (2 : Nat) ≤ (1000 : Nat) ∧ K (AV.one (SV.int IntKind.i64 (2 : Int))) []
 else
 bif decide ((0 : Int) ≤ n) && decide (n ≤ d) then
 [bif gcdG n d == (-1 : Int) then (0 : Int) else (3 : Int),
 bif decide (d ≤ (1000000000 : Int)) then (0 : Int) else (2 : Int)].length ≤
 (1000 : Nat) ∧
 K
 (AV.one
 (SV.int IntKind.i64
 (firstE
 [bif gcdG n d == (-1 : Int) then (0 : Int) else (3 : Int),
 bif decide (d ≤ (1000000000 : Int)) then (0 : Int) else (2 : Int)])))
 []
 else
 [bif gcdG n d == (-1 : Int) then (0 : Int) else (3 : Int), (2 : Int)].length ≤ (1000 : Nat) ∧
 K (AV.one (SV.int IntKind.i64 (firstE [bif gcdG n d == (-1 : Int) then (0 : Int) else (3 : Int), (2 : Int)])))
 []) := by kernel_rfl
theorem exlvla (a b n d : Int) (K : Ex → List AV → List Blk → Prop) : evBody Elvl (lb Tryd.f113 0) [1, 3, 4] [1, 3] [.one (.ptr 0 1 0 0), .one (.int .i64 a), .one (.int .i64 b)] [.cells [.int .i64 n, .int .i64 d]] K = (
 bif b != (0 : Int) then
 bif !decide (b = (0 : Int)) then
 K Ex.normal
 [AV.one (SV.ptr (0 : Nat) (1 : Nat) (0 : Nat) (0 : Nat)), AV.one (SV.int IntKind.i64 b),
 AV.one (SV.int IntKind.i64 (a.tmod b))]
 [Blk.cells [SV.int IntKind.i64 n, SV.int IntKind.i64 d]]
 else False
 else
 K (Ex.exit (0 : Nat)) [AV.one (SV.ptr (0 : Nat) (1 : Nat) (0 : Nat) (0 : Nat)), AV.one (SV.int IntKind.i64 a)]
 [Blk.cells [SV.int IntKind.i64 n, SV.int IntKind.i64 d]]) := by kernel_rfl
theorem exilw (n d : Int) (K : AV → List Blk → Prop) : evFn Eilw Tryd.f32 [.agg [.int .i64 n, .int .i64 d]] [] K = (
 bif decide (d > (0 : Int)) then K (AV.one (SV.bool (sizeG (gcdG n d) == (1 : Int)))) []
 else K (AV.one (SV.bool false)) []) := by kernel_rfl
theorem exrlv (n d : Int) (K : AV → List Blk → Prop) : evFn Erlv Tryd.f44 [.agg [.int .i64 n, .int .i64 d]] [] K = (
 bif !lowestG n d then K (AV.one (SV.int IntKind.i64 (3 : Int))) []
 else
 bif !(decide ((0 : Int) ≤ n) && decide (n ≤ d)) then K (AV.one (SV.int IntKind.i64 (2 : Int))) []
 else
 bif decide (d > (1000000000 : Int)) then K (AV.one (SV.int IntKind.i64 (2 : Int))) []
 else K (AV.one (SV.int IntKind.i64 (0 : Int))) []) := by kernel_rfl
theorem excmp (a b c d : Int) (K : AV → List Blk → Prop) : evFn Ecmp Tryd.f49 [.agg [.int .i64 a, .int .i64 b], .agg [.int .i64 c, .int .i64 d]] [] K = (
 bif decide (IntKind.i64.wrap (a * d) < IntKind.i64.wrap (c * b)) then K (AV.one (SV.int IntKind.i64 (-1 : Int))) []
 else
 bif decide (IntKind.i64.wrap (a * d) > IntKind.i64.wrap (c * b)) then K (AV.one (SV.int IntKind.i64 (1 : Int))) []
 else K (AV.one (SV.int IntKind.i64 (0 : Int))) []) := by kernel_rfl
theorem expst (x n d t : Int) (K : AV → List Blk → Prop) : evFn Epst Tryd.f115 [.one (.int .i64 x), .one (.ptr 0 1 0 0), .one (.ptr 1 1 0 0)] [.cells [.int .i64 n, .int .i64 d], .cells [.int .i64 t]] K = (
 bif !decide (t < (0 : Int)) then
 K (AV.one (SV.bool (decide (IntKind.i64.wrap (x * d) ≤ IntKind.i64.wrap (n * (2 : Int) ^ min t.toNat (64 : Nat))))))
 [Blk.cells [SV.int IntKind.i64 n, SV.int IntKind.i64 d], Blk.cells [SV.int IntKind.i64 t]]
 else False) := by kernel_rfl
theorem exixm (l : List Int) (n d t : Int) (K : AV → List Blk → Prop) : evFn Eixm Tryd.f114 [.one (.data (.ints .i64 l)), .one (.func 115 [0, 1])] [.cells [.int .i64 n, .int .i64 d], .cells [.int .i64 t]] K = (
 ((l.length ≤ (30 : Nat) ∧ ∀ (x : Int), x ∈ l → (0 : Int) ≤ x ∧ x ≤ (536870912 : Int)) ∧
 ((0 : Int) ≤ t ∧ t ≤ (29 : Int) ∧ (0 : Int) ≤ n ∧ n ≤ d ∧ (1 : Int) ≤ d ∧ d ≤ (1000000000 : Int)) ∧
 (0 : Int) ≤ (0 : Int) ∧ (↑l.length : Int) = (↑l.length : Int)) ∧
 bif l.any (passT t n d) then
 K (AV.one (SV.int IntKind.i64 (idxMn t n d (0 : Int) l)))
 [Blk.cells [SV.int IntKind.i64 n, SV.int IntKind.i64 d], Blk.cells [SV.int IntKind.i64 t]]
 else
 K (AV.one (SV.int IntKind.i64 (-1 : Int)))
 [Blk.cells [SV.int IntKind.i64 n, SV.int IntKind.i64 d], Blk.cells [SV.int IntKind.i64 t]]) := by kernel_rfl
theorem exixma (l : List Int) (m i n d t : Int) (K : Ex → List AV → List Blk → Prop) : evBody Eixm (lb Tryd.f114 0) [0, 1, 7, 8] [4] [.one (.data (.ints .i64 l)), .one (.func 115 [0, 1]), .one (.int .i64 m), .one (.int .i64 i)] [.cells [.int .i64 n, .int .i64 d], .cells [.int .i64 t]] K = (
 bif decide (i < m) then
 bif decide ((0 : Int) ≤ i) && decide (i < (↑l.length : Int)) then
 bif decide (i.toNat + (0 : Nat) < l.length) then
 (((0 : Int) ≤ t ∧ t ≤ (29 : Int) ∧ (0 : Int) ≤ n ∧ n ≤ d ∧ (1 : Int) ≤ d ∧ d ≤ (1000000000 : Int)) ∧
 (0 : Int) ≤ l.getD (i.toNat + (0 : Nat)) (0 : Int) ∧
 l.getD (i.toNat + (0 : Nat)) (0 : Int) ≤ (536870912 : Int)) ∧
 bif passT t n d (l.getD (i.toNat + (0 : Nat)) (0 : Int)) then
 K Ex.ret [AV.one (SV.int IntKind.i64 i)]
 [Blk.cells [SV.int IntKind.i64 n, SV.int IntKind.i64 d], Blk.cells [SV.int IntKind.i64 t]]
 else
 K Ex.normal
 [AV.one (SV.data (Row.ints IntKind.i64 l)), AV.one (SV.func (115 : FuncId) [(0 : Nat), (1 : Nat)]),
 AV.one (SV.int IntKind.i64 m), AV.one (SV.int IntKind.i64 (IntKind.i64.wrap (i + (1 : Int))))]
 [Blk.cells [SV.int IntKind.i64 n, SV.int IntKind.i64 d], Blk.cells [SV.int IntKind.i64 t]]
 else False
 else False
 else
 K (Ex.exit (0 : Nat)) [AV.any]
 [Blk.cells [SV.int IntKind.i64 n, SV.int IntKind.i64 d], Blk.cells [SV.int IntKind.i64 t]]) := by kernel_rfl
theorem exmin (t n d : Int) (K : AV → List Blk → Prop) : evFn Emin Tryd.f40 [.one (.int .i64 t), .agg [.int .i64 n, .int .i64 d]] [] K = (
 [bif withinG t (0 : Int) (29 : Int) then (0 : Int) else (2 : Int), lvlE n d].length ≤ (1000 : Nat) ∧
 bif firstE [bif withinG t (0 : Int) (29 : Int) then (0 : Int) else (2 : Int), lvlE n d] != (0 : Int) then
 K
 (AV.tup
 [TV.one (SV.int IntKind.i64 (0 : Int)),
 TV.one
 (SV.int IntKind.i64 (firstE [bif withinG t (0 : Int) (29 : Int) then (0 : Int) else (2 : Int), lvlE n d]))])
 []
 else
 ((0 : Int) ≤ t ∧ t ≤ (29 : Int)) ∧
 (((tailsG t).length ≤ (30 : Nat) ∧ ∀ (x : Int), x ∈ tailsG t → (0 : Int) ≤ x ∧ x ≤ (536870912 : Int)) ∧
 (0 : Int) ≤ t ∧ t ≤ (29 : Int) ∧ (0 : Int) ≤ n ∧ n ≤ d ∧ (1 : Int) ≤ d ∧ d ≤ (1000000000 : Int)) ∧
 bif decide (idxMn t n d (0 : Int) (tailsG t) < (0 : Int)) then
 K (AV.tup [TV.one (SV.int IntKind.i64 (0 : Int)), TV.one (SV.int IntKind.i64 (12 : Int))]) []
 else
 K
 (AV.tup
 [TV.one (SV.int IntKind.i64 (idxMn t n d (0 : Int) (tailsG t))), TV.one (SV.int IntKind.i64 (0 : Int))])
 []) := by kernel_rfl
theorem exrtr (n : Int) (K : AV → List Blk → Prop) : evFn Ertr Tryd.f43 [.one (.int .i64 n)] [] K = (
 bif !(decide ((0 : Int) ≤ n) && decide (n ≤ (29 : Int))) then K (AV.one (SV.int IntKind.i64 (2 : Int))) []
 else K (AV.one (SV.int IntKind.i64 (0 : Int))) []) := by kernel_rfl
theorem exrte (t r : Int) (K : AV → List Blk → Prop) : evFn Erte Tryd.f41 [.one (.int .i64 t), .one (.int .i64 r)] [] K = (
 bif (bif withinG t (0 : Int) (29 : Int) then (0 : Int) else (2 : Int)) != (0 : Int) then
 K (AV.one (SV.int IntKind.i64 (2 : Int))) []
 else
 bif !(decide ((0 : Int) ≤ r) && decide (r ≤ t)) then K (AV.one (SV.int IntKind.i64 (2 : Int))) []
 else K (AV.one (SV.int IntKind.i64 (0 : Int))) []) := by kernel_rfl
theorem exch (n c : Int) (K : AV → List Blk → Prop) : evFn Ech Tryd.f116 [.one (.int .i64 n), .one (.int .i64 c)] [] K = (
 (n ≤ (29 : Int) ∧ (0 : Int) ≤ (0 : Int) ∧ (0 : Int) ≤ n ∧ (1 : Int) = (1 : Int)) ∧
 bif decide ((0 : Int) ≤ c) && decide (c < (↑(chG (n - (0 : Int)).toNat [(1 : Int)]).length : Int)) then
 bif decide (c.toNat + (0 : Nat) < (chG (n - (0 : Int)).toNat [(1 : Int)]).length) then
 K (AV.one (SV.int IntKind.i64 ((chG (n - (0 : Int)).toNat [(1 : Int)]).getD (c.toNat + (0 : Nat)) (0 : Int)))) []
 else False
 else False) := by kernel_rfl
theorem excha (n c i : Int) (row : List Int) (K : Ex → List AV → List Blk → Prop) : evBody Ech (lb Tryd.f116 0) [0, 1, 5, 6] [1, 5] [.one (.int .i64 n), .one (.int .i64 c), .one (.own 0 1), .one (.int .i64 i)] [.row 3 (.ints .i64 row)] K = (
 bif decide (i < n) then
 (row.length ≤ (30 : Nat) ∧ (1 : Int) ≤ (1 : Int) ∧ (1 : Int) ≤ (↑row.length : Int) ∧ (1 : Int) = (1 : Int)) ∧
 bif
 decide
 (((1 : Int) :: (adjF row ++ [(1 : Int)])).length * (8 : Nat) ≤ (140737488355328 : Nat) ∧
 ((1 : Int) :: (adjF row ++ [(1 : Int)])).length ≤ (140737488355328 : Nat)) then
 K Ex.normal
 [AV.one (SV.int IntKind.i64 n), AV.one (SV.int IntKind.i64 c), AV.one (SV.own (0 : Nat) (1 : Nat)),
 AV.one (SV.int IntKind.i64 (IntKind.i64.wrap (i + (1 : Int))))]
 [Blk.row (3 : Nat) (Row.ints IntKind.i64 ((1 : Int) :: (adjF row ++ [(1 : Int)])))]
 else False
 else
 K (Ex.exit (0 : Nat)) [AV.one (SV.int IntKind.i64 c), AV.one (SV.own (0 : Nat) (1 : Nat))]
 [Blk.row (3 : TypeId) (Row.ints IntKind.i64 row)]) := by kernel_rfl
theorem exchb (n c i j : Int) (row next : List Int) (K : Ex → List AV → List Blk → Prop) : evBody Ech (lb Tryd.f116 1) [0, 1, 5, 6, 7, 8] [0, 1, 6, 7] [.one (.int .i64 n), .one (.int .i64 c), .one (.own 0 1), .one (.int .i64 i), .one (.own 1 1), .one (.int .i64 j)] [.row 3 (.ints .i64 row), .row 3 (.ints .i64 next)] K = (
 bif decide (j < (↑row.length : Int)) then
 bif
 decide ((0 : Int) ≤ IntKind.i64.wrap (j - (1 : Int))) &&
 decide (IntKind.i64.wrap (j - (1 : Int)) < (↑row.length : Int)) then
 bif decide ((IntKind.i64.wrap (j - (1 : Int))).toNat + (0 : Nat) < row.length) then
 bif decide ((0 : Int) ≤ j) && decide (j < (↑row.length : Int)) then
 bif decide (j.toNat + (0 : Nat) < row.length) then
 bif
 decide
 ((next ++
 [IntKind.i64.wrap
 (row.getD ((IntKind.i64.wrap (j - (1 : Int))).toNat + (0 : Nat)) (0 : Int) +
 row.getD (j.toNat + (0 : Nat)) (0 : Int))]).length *
 (8 : Nat) ≤
 (140737488355328 : Nat) ∧
 (next ++
 [IntKind.i64.wrap
 (row.getD ((IntKind.i64.wrap (j - (1 : Int))).toNat + (0 : Nat)) (0 : Int) +
 row.getD (j.toNat + (0 : Nat)) (0 : Int))]).length ≤
 (140737488355328 : Nat)) then
 K Ex.normal
 [AV.one (SV.int IntKind.i64 n), AV.one (SV.int IntKind.i64 c), AV.one (SV.own (0 : Nat) (1 : Nat)),
 AV.one (SV.int IntKind.i64 i), AV.one (SV.own (1 : Nat) (1 : Nat)),
 AV.one (SV.int IntKind.i64 (IntKind.i64.wrap (j + (1 : Int))))]
 [Blk.row (3 : TypeId) (Row.ints IntKind.i64 row),
 Blk.row (3 : Nat)
 (Row.ints IntKind.i64
 (next ++
 [IntKind.i64.wrap
 (row.getD ((IntKind.i64.wrap (j - (1 : Int))).toNat + (0 : Nat)) (0 : Int) +
 row.getD (j.toNat + (0 : Nat)) (0 : Int))]))]
 else False
 else False
 else False
 else False
 else False
 else
 K (Ex.exit (2 : Nat))
 [AV.one (SV.int IntKind.i64 n), AV.one (SV.int IntKind.i64 c), AV.one (SV.int IntKind.i64 i),
 AV.one (SV.own (0 : Nat) (1 : Nat))]
 [Blk.row (3 : TypeId) (Row.ints IntKind.i64 next)]) := by kernel_rfl
theorem expw (n : Int) (K : AV → List Blk → Prop) : evFn Epw Tryd.f117 [.one (.int .i64 n)] [] K = (
 (n ≤ (1000 : Int) ∧ (0 : Int) ≤ (0 : Int) ∧ (0 : Int) ≤ n) ∧
 K (AV.one (SV.int IntKind.i64 (pwG (n - (0 : Int)).toNat (1 : Int)))) []) := by kernel_rfl
theorem expwa (n o i : Int) (K : Ex → List AV → List Blk → Prop) : evBody Epw (lb Tryd.f117 0) [0, 3, 4] [3] [.one (.int .i64 n), .one (.int .i64 o), .one (.int .i64 i)] [] K = (
 bif decide (i < n) then
 K Ex.normal
 [AV.one (SV.int IntKind.i64 n), AV.one (SV.int IntKind.i64 (IntKind.i64.wrap ((2 : Int) * o))),
 AV.one (SV.int IntKind.i64 (IntKind.i64.wrap (i + (1 : Int))))]
 []
 else K (Ex.exit (0 : Nat)) [AV.one (SV.int IntKind.i64 o)] []) := by kernel_rfl
theorem exrt (t r : Int) (K : AV → List Blk → Prop) : evFn Ert Tryd.f42 [.one (.int .i64 t), .one (.int .i64 r)] [] K = (
 ((0 : Int) ≤ t ∧ t ≤ (29 : Int) ∧ (0 : Int) ≤ r ∧ r ≤ t + (1 : Int)) ∧
 ((0 : Int) ≤ t ∧ t ≤ (1000 : Int)) ∧
 divG (smC t (t + (1 : Int) - r).toNat (0 : Int) r) (pwG t.toNat (1 : Int)) ≠ (0 : Int) ∧
 K
 (AV.agg
 [SV.int IntKind.i64
 (wi
 ((smC t (t + (1 : Int) - r).toNat (0 : Int) r).tdiv
 (divG (smC t (t + (1 : Int) - r).toNat (0 : Int) r) (pwG t.toNat (1 : Int))))),
 SV.int IntKind.i64
 (wi
 ((pwG t.toNat (1 : Int)).tdiv
 (divG (smC t (t + (1 : Int) - r).toNat (0 : Int) r) (pwG t.toNat (1 : Int)))))])
 []) := by kernel_rfl
theorem exrta (t s c : Int) (K : Ex → List AV → List Blk → Prop) : evBody Ert (lb Tryd.f42 0) [0, 4, 5, 6] [0, 4, 5] [.one (.int .i64 t), .one (.ptr 0 1 0 0), .one (.int .i64 s), .one (.int .i64 c)] [.cells [.int .i64 0, .int .i64 0]] K = (
 bif decide (c ≤ t) then
 ((0 : Int) ≤ t ∧ t ≤ (29 : Int) ∧ (0 : Int) ≤ c ∧ c ≤ t) ∧
 K Ex.normal
 [AV.one (SV.int IntKind.i64 t), AV.one (SV.ptr (0 : Nat) (1 : Nat) (0 : Nat) (0 : Nat)),
 AV.one (SV.int IntKind.i64 (IntKind.i64.wrap (s + (chG t.toNat [(1 : Int)]).getD c.toNat (0 : Int)))),
 AV.one (SV.int IntKind.i64 (IntKind.i64.wrap (c + (1 : Int))))]
 [Blk.cells [SV.int IntKind.i64 (0 : Int), SV.int IntKind.i64 (0 : Int)]]
 else
 K (Ex.exit (0 : Nat))
 [AV.one (SV.int IntKind.i64 t), AV.one (SV.ptr (0 : Nat) (1 : Nat) (0 : Nat) (0 : Nat)),
 AV.one (SV.int IntKind.i64 s)]
 [Blk.cells [SV.int IntKind.i64 (0 : Int), SV.int IntKind.i64 (0 : Int)]]) := by kernel_rfl
theorem exrmn (t n d : Int) (K : AV → List Blk → Prop) : evFn Ermn Tryd.f45 [.one (.int .i64 t), .agg [.int .i64 n, .int .i64 d]] [] K = (
 ((0 : Int) ≤ t ∧ t ≤ (29 : Int) ∧ (0 : Int) ≤ (0 : Int) ∧ (0 : Int) ≤ t + (1 : Int)) ∧
 bif decide (rminI t n d (t + (1 : Int) - (0 : Int)).toNat (0 : Int) < (0 : Int)) then
 K (AV.tup [TV.one (SV.int IntKind.i64 (0 : Int)), TV.one (SV.bool false)]) []
 else
 K
 (AV.tup
 [TV.one (SV.int IntKind.i64 (rminI t n d (t + (1 : Int) - (0 : Int)).toNat (0 : Int))), TV.one (SV.bool true)])
 []) := by kernel_rfl
theorem exrmna (t c n d : Int) (K : Ex → List AV → List Blk → Prop) : evBody Ermn (lb Tryd.f45 0) [0, 3, 6] [4, 5] [.one (.int .i64 t), .one (.ptr 0 1 0 0), .one (.int .i64 c)] [.cells [.int .i64 n, .int .i64 d]] K = (
 bif decide (c ≤ t) then
 ((0 : Int) ≤ t ∧ t ≤ (29 : Int) ∧ (0 : Int) ≤ c ∧ c ≤ t) ∧
 bif
 decide
 (cmpG (wi (wi ((rtN t c).tdiv (divG (rtN t c) (rtD t))) * d))
 (wi (n * wi ((rtD t).tdiv (divG (rtN t c) (rtD t))))) ≤
 (0 : Int)) then
 K Ex.ret [AV.one (SV.int IntKind.i64 c), AV.one (SV.bool true)] []
 else
 K Ex.normal
 [AV.one (SV.int IntKind.i64 t), AV.one (SV.ptr (0 : Nat) (1 : Nat) (0 : Nat) (0 : Nat)),
 AV.one (SV.int IntKind.i64 (IntKind.i64.wrap (c + (1 : Int))))]
 [Blk.cells [SV.int IntKind.i64 n, SV.int IntKind.i64 d]]
 else K (Ex.exit (0 : Nat)) [AV.any, AV.any] []) := by kernel_rfl
end Go.Ev

namespace Go.Ev
open Go Go.Proofs
attribute [local irreducible] evFn evBody evRound
set_option maxRecDepth 20000

theorem condI {c : Bool} {p : Prop} (h : c = true) (hp : p) : cond c p False := by rw [h]; exact hp
theorem condT {c : Bool} {p q : Prop} (h : c = true) (hp : p) : cond c p q := by rw [h]; exact hp
theorem condE {c : Bool} {p q : Prop} (h : c = false) (hq : q) : cond c p q := by rw [h]; exact hq
theorem andT {a b : Bool} (h1 : a = true) (h2 : b = true) : (a && b) = true := by rw [h1, h2]; rfl

/-! ### Levels -/
theorem loklvl : LoopOK Elvl (lb Tryd.f113 0) [1, 3, 4] [1, 3] lvlL := by
  refine loopOK (.cons ok71 (.cons ok70 (.cons ok69 .nil))) (noInner (by kernel_rfl)) (fun vs _ => match vs with
    | [_, _, .one (.int .i64 b)] => b.natAbs
    | _ => 0) fun vs σ k h => ?_
  unfold lvlL at h
  split at h
  · rename_i a b n d
    rw [exlvla a b n d _]
    by_cases hb : b = 0
    · subst hb
      rw [gcdG] at h
      simpa using h
    · rw [gcdG, if_neg hb] at h
      simp only [bne, beq_eq_false_iff_ne.2 hb, hb, decide_false, Bool.not_false, cond_true]
      exact ⟨h, by rw [Int.natAbs_tmod]; exact Nat.mod_lt _ (by omega)⟩
  · exact h.elim
theorem oklvl : SpecOK Tryd.prog 113 lvlS := by
  refine specOK (n := 38) (m := 0) (lps := [(4, .spec [1, 3, 4] [1, 3] lvlL)]) (.cons ok71 (.cons ok70 (.cons ok69 .nil))) Tryd.func113 (by kernel_rfl) (by kernel_rfl) (theLoops (n := 1) (by kernel_rfl) fun i hi => ?_) fun args σ K h => ?_
  · match i, hi with
    | 0, _ => exact loopHyp_of (key := 4) (by kernel_rfl) rfl loklvl
  · unfold lvlS at h
    split at h
    · rename_i n d
      rw [exlvl n d K]
      unfold lvlE withinG at h
      cases c1 : decide (d ≤ 0) with
      | true => rw [c1] at h; exact h
      | false =>
        rw [c1] at h
        cases c2 : (gcdG n d == 1) with
        | true =>
          rw [c2] at h
          cases c3 : (decide (0 ≤ n) && decide (n ≤ d)) with
          | true => rw [c3] at h; exact ⟨by simp, h⟩
          | false => rw [c3] at h; exact ⟨by simp, h⟩
        | false =>
          rw [c2] at h
          cases c3 : (decide (0 ≤ n) && decide (n ≤ d)) with
          | true => rw [c3] at h; exact ⟨by simp, h⟩
          | false => rw [c3] at h; exact ⟨by simp, h⟩
    · exact h.elim
theorem okilw : SpecOK Tryd.prog 32 isLowestS := by
  refine specOK (n := 14) (m := 0) (lps := []) (.cons ok126 .nil) Tryd.func32 (by kernel_rfl) (by kernel_rfl) (noLoops (by kernel_rfl)) fun args σ K h => ?_
  unfold isLowestS at h
  split at h
  · rename_i n d
    rw [exilw n d K]
    unfold lowestG at h
    cases c : decide (d > 0) with
    | true => rw [c] at h; exact h
    | false => rw [c] at h; exact h
  · exact h.elim
theorem okrlv : SpecOK Tryd.prog 44 rlvlS := by
  refine specOK (n := 17) (m := 0) (lps := []) (.cons okilw (.cons ok25 .nil)) Tryd.func44 (by kernel_rfl) (by kernel_rfl) (noLoops (by kernel_rfl)) fun args σ K h => ?_
  unfold rlvlS at h
  split at h
  · rename_i n d
    rw [exrlv n d K]
    unfold rlvlE withinG at h
    cases c1 : lowestG n d with
    | false => rw [c1] at h; exact h
    | true =>
      rw [c1] at h
      cases c2 : (decide (0 ≤ n) && decide (n ≤ d)) with
      | false => rw [c2] at h; exact h
      | true =>
        rw [c2] at h
        by_cases c3 : d ≤ 1000000000
        · rw [decide_eq_true c3] at h
          rw [decide_eq_false (show ¬ d > 1000000000 by omega)]
          exact h
        · rw [decide_eq_false c3] at h
          rw [decide_eq_true (show d > 1000000000 by omega)]
          exact h
  · exact h.elim
theorem okcmp : SpecOK Tryd.prog 49 cmpS := by
  refine specOK (n := 23) (m := 0) (lps := []) .nil Tryd.func49 (by kernel_rfl) (by kernel_rfl) (noLoops (by kernel_rfl)) fun args σ K h => ?_
  unfold cmpS at h
  split at h
  · rename_i a b c d
    rw [excmp a b c d K]
    unfold cmpG wi at h
    cases c1 : decide (IntKind.i64.wrap (a * d) < IntKind.i64.wrap (c * b)) with
    | true => rw [c1] at h; exact h
    | false =>
      rw [c1] at h
      cases c2 : decide (IntKind.i64.wrap (a * d) > IntKind.i64.wrap (c * b)) with
      | true => rw [c2] at h; exact h
      | false => rw [c2] at h; exact h
  · exact h.elim
theorem okpst : SpecOK Tryd.prog 115 passTS := by
  refine specOK (n := 14) (m := 2) (lps := []) .nil Tryd.func115 (by kernel_rfl) (by kernel_rfl) (noLoops (by kernel_rfl)) fun args σ K h => ?_
  unfold passTS at h
  split at h
  · rename_i x n d t
    rw [expst x n d t K]
    obtain ⟨⟨⟨h1, h2, h3, h4, h5, h6⟩, h7, h8⟩, h⟩ := h
    obtain ⟨p1, p2⟩ := powD_range h1 h2
    have e : (2 : Int) ^ min t.toNat 64 = powD t := by
      have : ∀ m : Nat, m ≤ 29 → (2 : Int) ^ min m 64 = powD m := by decide +kernel
      have := this t.toNat (by omega)
      rw [show ((t.toNat : Nat) : Int) = t by omega] at this
      exact this
    have b1 := Int.mul_le_mul h8 h6 (by omega) (by decide : (0 : Int) ≤ 536870912)
    have b2 := Int.mul_nonneg h7 (show 0 ≤ d by omega)
    have b3 := Int.mul_le_mul (show n ≤ 1000000000 by omega) p2 (by omega) (by decide : (0 : Int) ≤ 1000000000)
    have b4 := Int.mul_nonneg h3 (show 0 ≤ powD t by omega)
    rw [e, wrap_id (n := x * d) (by omega) (by omega), wrap_id (n := n * powD t) (by omega) (by omega), decide_eq_false (show ¬ t < 0 by omega)]
    exact h
  · exact h.elim
theorem lokixm : LoopOK Eixm (lb Tryd.f114 0) [0, 1, 7, 8] [4] idxMnL := by
  refine loopOK (.cons okpst .nil) (noInner (by kernel_rfl)) (fun vs _ => match vs with
    | [.one (.data (.ints .i64 l)), _, _, .one (.int .i64 i)] => l.length - i.toNat
    | _ => 0) fun vs σ k h => ?_
  unfold idxMnL at h
  split at h
  · rename_i l m i n d t
    rw [exixma l m i n d t _]
    obtain ⟨⟨h1, h2, h3, rfl⟩, h⟩ := h
    have hll := h1.1
    by_cases hi : i < l.length
    · have hw : IntKind.i64.wrap (i + 1) = i + 1 := wrap_id (by omega) (by omega)
      have hi' : i.toNat < l.length := by omega
      have hmu : l.length - (i + 1).toNat < l.length - i.toNat := by omega
      have e : idxMn t n d i (l.drop i.toNat) = bif passT t n d (l.getD i.toNat 0) then i else idxMn t n d (i + 1) (l.drop (i + 1).toNat) := by
        rw [drop_step 0 hi', show (i + 1).toNat = i.toNat + 1 by omega]; rfl
      rw [any_step h3 hi, e] at h
      rw [hw]
      simp only [Nat.add_zero]
      refine condT (decide_eq_true hi) (condI (andT (decide_eq_true h3) (decide_eq_true hi)) (condI (decide_eq_true hi') ⟨⟨h2, getD_range (by decide) h1.2 i.toNat⟩, ?_⟩))
      cases hs : passT t n d (l.getD i.toNat 0) with
      | true => rw [hs] at h; exact h
      | false => rw [hs] at h; exact ⟨⟨⟨h1, h2, by omega, rfl⟩, h⟩, hmu⟩
    · rw [List.drop_eq_nil_of_le (by omega)] at h
      exact condE (decide_eq_false hi) h
  · exact h.elim
theorem idxMn_none {t n d : Int} : ∀ {l : List Int} {i : Int}, l.any (passT t n d) = false → idxMn t n d i l = -1
  | [], _, _ => rfl
  | x :: l, i, h => by
    rw [List.any_cons, Bool.or_eq_false_iff] at h
    simp only [idxMn]
    rw [h.1, cond_false]
    exact idxMn_none h.2
theorem okixm : SpecOK Tryd.prog 114 idxMnS := by
  refine specOK (n := 19) (m := 2) (lps := [(2, .spec [0, 1, 7, 8] [4] idxMnL)]) (.cons okpst .nil) Tryd.func114 (by kernel_rfl) (by kernel_rfl) (theLoops (n := 1) (by kernel_rfl) fun i hi => ?_) fun args σ K h => ?_
  · match i, hi with
    | 0, _ => exact loopHyp_of (key := 2) (by kernel_rfl) rfl lokixm
  · unfold idxMnS at h
    split at h
    · rename_i l n d t
      rw [exixm l n d t K]
      obtain ⟨⟨h1, h2⟩, h⟩ := h
      refine ⟨⟨h1, h2, by decide, by first | rfl | trivial⟩, ?_⟩
      cases ha : l.any (passT t n d) with
      | true => exact h
      | false => rw [idxMn_none ha] at h; exact h
    · exact h.elim

/-! ### The table -/
def sumL0 : List Int → Int
  | [] => 0
  | a :: l => a + sumL0 l
def sufs : List Int → List Int
  | [] => []
  | a :: l => (a + sumL0 l) :: sufs l
def tabT (t : Nat) : Bool := (sufs (chG t [1]) == tailsG t) && ((chG t [1]).all (fun x => decide (0 ≤ x)) && (((chG t [1]).length == t + 1) && ((pwG t 1 == powD t) && ((tailsG t).all fun x => decide (0 ≤ x) && decide (x ≤ 536870912)))))
theorem tab_all : ∀ t : Nat, t ≤ 29 → tabT t = true := by decide +kernel
theorem tab_facts {t : Int} (h1 : 0 ≤ t) (h2 : t ≤ 29) : sufs (chG t.toNat [1]) = tailsG t ∧ (∀ x ∈ chG t.toNat [1], 0 ≤ x) ∧ ((chG t.toNat [1]).length : Int) = t + 1 ∧ rtD t = powD t ∧ ∀ x ∈ tailsG t, 0 ≤ x ∧ x ≤ 536870912 := by
  obtain ⟨m, rfl⟩ := Int.eq_ofNat_of_zero_le h1
  have h := tab_all m (by omega)
  unfold tabT at h
  simp only [Bool.and_eq_true, beq_iff_eq, List.all_eq_true, decide_eq_true_eq] at h
  obtain ⟨a1, a2, a3, a4, a5⟩ := h
  exact ⟨a1, a2, by rw [Int.toNat_natCast]; omega, a4, a5⟩
theorem okTl_tails {t : Int} (h1 : 0 ≤ t) (h2 : t ≤ 29) : okTl (tailsG t) := by
  have := tailsG_length h1
  exact ⟨by omega, (tab_facts h1 h2).2.2.2.2⟩
theorem sufs_get : ∀ (l : List Int) (r : Nat), (sufs l).getD r 0 = sumL0 (l.drop r)
  | [], r => by simp [sufs, sumL0]
  | a :: l, 0 => rfl
  | a :: l, r + 1 => by
    show (sufs l).getD r 0 = sumL0 (l.drop r)
    exact sufs_get l r
theorem sumL0_nn : ∀ {l : List Int}, (∀ x ∈ l, 0 ≤ x) → 0 ≤ sumL0 l
  | [], _ => Int.le_refl _
  | a :: l, h => by
    have h1 := h a (by simp)
    have h2 := sumL0_nn (l := l) fun x hx => h x (by simp [hx])
    simp only [sumL0]
    omega
theorem smC_sum {t : Int} (hn : ∀ x ∈ chG t.toNat [1], 0 ≤ x) : ∀ (m : Nat) (s : Int) (k : Nat), k + m = (chG t.toNat [1]).length → 0 ≤ s → s + sumL0 ((chG t.toNat [1]).drop k) ≤ 4611686018427387904 → smC t m s k = s + sumL0 ((chG t.toNat [1]).drop k)
  | 0, s, k, h, _, _ => by
    rw [List.drop_eq_nil_of_le (by omega)]
    simp [smC, sumL0]
  | m + 1, s, k, h, hs, hb => by
    have hk : k < (chG t.toNat [1]).length := by omega
    have hv : 0 ≤ (chG t.toNat [1]).getD k 0 := hn _ (by rw [getD_of_lt hk]; exact List.getElem_mem hk)
    have hr : 0 ≤ sumL0 ((chG t.toNat [1]).drop (k + 1)) := sumL0_nn fun x hx => hn x (List.mem_of_mem_drop hx)
    rw [drop_step 0 hk] at hb ⊢
    simp only [sumL0] at hb ⊢
    simp only [smC, Int.toNat_natCast]
    rw [wi_id (by omega) (by omega), show ((k : Int) + 1) = ((k + 1 : Nat) : Int) by omega, smC_sum hn m _ (k + 1) (by omega) (by omega) (by omega)]
    omega
theorem rtN_tails {t r : Int} (h1 : 0 ≤ t) (h2 : t ≤ 29) (h3 : 0 ≤ r) (h4 : r ≤ t) : rtN t r = (tailsG t).getD r.toNat 0 := by
  obtain ⟨a1, a2, a3, a4, a5⟩ := tab_facts h1 h2
  have hv := getD_range (by decide) a5 r.toNat
  rw [← a1, sufs_get] at hv
  obtain ⟨m, rfl⟩ := Int.eq_ofNat_of_zero_le h3
  rw [Int.toNat_natCast] at hv
  unfold rtN
  rw [← a1, sufs_get, Int.toNat_natCast, smC_sum a2 _ 0 m (by omega) (by decide) (by omega), Int.zero_add]

/-! ### The minimum -/
theorem lvl_eq (n d : Int) (hd2 : d ≤ 9223372036854775807) : lvlE n d = rlvlE n d := by
  unfold lvlE rlvlE lowestG
  by_cases hd : d ≤ 0
  · rw [decide_eq_true hd, decide_eq_false (show ¬ d > 0 by omega)]
    rfl
  · rw [decide_eq_false hd, decide_eq_true (show d > 0 by omega)]
    obtain ⟨g1, g2, g3, _, _⟩ := gcdG_pos (a := n) (b := d) (by omega) hd2
    have hg := natAbs_gcdG n d
    have key : (gcdG n d = 1 ∨ gcdG n d = -1) ↔ sizeG (gcdG n d) = 1 := by omega
    simp only [cond_false, Bool.true_and]
    by_cases h1 : gcdG n d = 1
    · have : sizeG (gcdG n d) = 1 := key.1 (.inl h1)
      rw [h1] at this
      rw [h1, this]
      cases (withinG n 0 d && decide (d ≤ 1000000000)) <;> rfl
    · by_cases h2 : gcdG n d = -1
      · have : sizeG (gcdG n d) = 1 := key.1 (.inr h2)
        rw [h2] at this
        rw [h2, this]
        cases (withinG n 0 d && decide (d ≤ 1000000000)) <;> rfl
      · have h3 : ¬ sizeG (gcdG n d) = 1 := fun e => (key.2 e).elim h1 h2
        rw [beq_eq_false_iff_ne.2 h1, beq_eq_false_iff_ne.2 h2, beq_eq_false_iff_ne.2 h3]
        rfl
theorem rlvlE_zero {n d : Int} (h : rlvlE n d = 0) : lowestG n d = true ∧ 0 ≤ n ∧ n ≤ d ∧ 1 ≤ d ∧ d ≤ 1000000000 := by
  unfold rlvlE at h
  cases h1 : lowestG n d with
  | false => rw [h1] at h; cases h
  | true =>
    rw [h1] at h
    cases h2 : (withinG n 0 d && decide (d ≤ 1000000000)) with
    | false => rw [h2] at h; cases h
    | true =>
      unfold withinG at h2
      simp only [Bool.and_eq_true, decide_eq_true_eq] at h2
      unfold lowestG at h1
      simp only [Bool.and_eq_true, decide_eq_true_eq] at h1
      exact ⟨rfl, h2.1.1, h2.1.2, by omega, h2.2⟩
theorem lvlE_zero {n d : Int} (h : lvlE n d = 0) : 0 ≤ n ∧ n ≤ d ∧ 1 ≤ d ∧ d ≤ 1000000000 := by
  unfold lvlE at h
  cases h0 : decide (d ≤ 0) with
  | true => rw [h0] at h; cases h
  | false =>
    rw [h0, cond_false] at h
    obtain ⟨_, h2⟩ := firstE2 h
    cases h3 : (withinG n 0 d && decide (d ≤ 1000000000)) with
    | false => rw [h3] at h2; cases h2
    | true =>
      unfold withinG at h3
      simp only [Bool.and_eq_true, decide_eq_true_eq] at h3
      have := of_decide_eq_false h0
      exact ⟨h3.1.1, h3.1.2, by omega, h3.2⟩
theorem minE_zero {t n d : Int} (h : minE t n d = 0) : okLv t n d := by
  obtain ⟨h1, h2⟩ := firstE2 h
  obtain ⟨a1, a2, a3, a4⟩ := lvlE_zero h2
  cases hw : withinG t 0 29 with
  | false => rw [hw] at h1; cases h1
  | true =>
    unfold withinG at hw
    simp only [Bool.and_eq_true, decide_eq_true_eq] at hw
    exact ⟨hw.1, hw.2, a1, a2, a3, a4⟩
theorem okmin : SpecOK Tryd.prog 40 minS := by
  refine specOK (n := 24) (m := 0) (lps := []) (.cons oktrl (.cons oklvl (.cons ok69 (.cons oktls (.cons okixm .nil))))) Tryd.func40 (by kernel_rfl) (by kernel_rfl) (noLoops (by kernel_rfl)) fun args σ K h => ?_
  unfold minS at h
  split at h
  · rename_i t n d
    rw [exmin t n d K]
    refine ⟨by simp, ?_⟩
    by_cases he : minE t n d = 0
    · have hL := minE_zero he
      rw [he] at h
      refine condE (bne_eq_false_iff_eq.2 (show minE t n d = 0 from he)) ⟨⟨hL.1, hL.2.1⟩, ⟨okTl_tails hL.1 hL.2.1, hL⟩, h⟩
    · rw [beq_eq_false_iff_ne.2 he] at h
      exact condT (bne_iff_ne.2 (show ¬ minE t n d = 0 from he)) h
  · exact h.elim

/-! ### The reference -/
theorem okrtr : SpecOK Tryd.prog 43 trialsS := by
  refine specOK (n := 6) (m := 0) (lps := []) (.cons ok25 .nil) Tryd.func43 (by kernel_rfl) (by kernel_rfl) (noLoops (by kernel_rfl)) fun args σ K h => ?_
  unfold trialsS at h
  split at h
  · rename_i n
    rw [exrtr n K]
    unfold withinG at h
    cases c : (decide (0 ≤ n) && decide (n ≤ 29)) with
    | true => rw [c] at h; exact h
    | false => rw [c] at h; exact h
  · exact h.elim
theorem okrte : SpecOK Tryd.prog 41 rtailES := by
  refine specOK (n := 14) (m := 0) (lps := []) (.cons ok25 (.cons okrtr .nil)) Tryd.func41 (by kernel_rfl) (by kernel_rfl) (noLoops (by kernel_rfl)) fun args σ K h => ?_
  unfold rtailES at h
  split at h
  · rename_i t r
    rw [exrte t r K]
    unfold rtailE at h
    cases c1 : withinG t 0 29 with
    | false => rw [c1] at h; exact h
    | true =>
      rw [c1] at h
      unfold withinG at h
      cases c2 : (decide (0 ≤ r) && decide (r ≤ t)) with
      | true => rw [c2] at h; exact h
      | false => rw [c2] at h; exact h
  · exact h.elim
theorem adjF_length : ∀ (l : List Int), (adjF l).length = l.length - 1
  | [] => rfl
  | [_] => rfl
  | a :: b :: l => by
    have := adjF_length (b :: l)
    simp only [adjF, List.length_cons] at this ⊢
    omega
theorem adjF_step {l : List Int} {j : Nat} (h : j + 1 < l.length) : adjF (l.drop j) = wi (l.getD j 0 + l.getD (j + 1) 0) :: adjF (l.drop (j + 1)) := by
  rw [drop_step 0 (show j < l.length by omega), drop_step 0 h]
  rfl
theorem adjF_end {l : List Int} {j : Nat} (h : l.length ≤ j + 1) : adjF (l.drop j) = [] := by
  have hl : (l.drop j).length ≤ 1 := by rw [List.length_drop]; omega
  match hd : l.drop j, hl with
  | [], _ => rfl
  | [_], _ => rfl
theorem lokchb : LoopOK Ech (lb Tryd.f116 1) [0, 1, 5, 6, 7, 8] [0, 1, 6, 7] chInL := by
  refine loopOK .nil (noInner (by kernel_rfl)) (fun vs σ => match vs, σ with
    | [_, _, _, _, _, .one (.int .i64 j)], [.row _ (.ints _ row), _] => ((row.length : Int) - j).toNat
    | _, _ => 0) fun vs σ k h => ?_
  unfold chInL at h
  split at h
  · rename_i n c i j row next
    rw [exchb n c i j row next _]
    obtain ⟨⟨h1, h2, h3, h4⟩, h⟩ := h
    by_cases hj : j < row.length
    · have w1 : IntKind.i64.wrap (j - 1) = j - 1 := wrap_id (by omega) (by omega)
      have w2 : IntKind.i64.wrap (j + 1) = j + 1 := wrap_id (by omega) (by omega)
      have hmu : ((row.length : Int) - (j + 1)).toNat < ((row.length : Int) - j).toNat := by omega
      have hs := adjF_step (l := row) (j := (j - 1).toNat) (by omega)
      rw [show (j - 1).toNat + 1 = j.toNat by omega] at hs
      rw [hs] at h
      have hl : ∀ v : Int, (next ++ [v]).length = next.length + 1 := fun v => by simp
      rw [w1, w2]
      simp only [Nat.add_zero]
      refine condT (decide_eq_true hj) (condI (andT (decide_eq_true (by omega)) (decide_eq_true (by omega))) (condI (decide_eq_true (by omega)) (condI (andT (decide_eq_true (by omega)) (decide_eq_true hj)) (condI (decide_eq_true (by omega)) (condI (decide_eq_true (by rw [hl]; omega)) ?_)))))
      refine ⟨⟨⟨h1, by omega, by omega, by rw [hl]; omega⟩, ?_⟩, hmu⟩
      rw [List.append_assoc, show (j + 1 - 1).toNat = j.toNat by omega]
      exact h
    · rw [adjF_end (by omega), List.append_nil] at h
      exact condE (decide_eq_false hj) h
  · exact h.elim
theorem innerch : ∀ b' ∈ loopsOf (lb Tryd.f116 0), LoopHyp Ech b' := by
  have hl : loopsOf (lb Tryd.f116 0) = [lb Tryd.f116 1] := by kernel_rfl
  rw [hl]
  intro b' hb
  rw [List.mem_singleton] at hb
  subst hb
  exact loopHyp_of (key := 7) (by kernel_rfl) rfl lokchb
theorem lokcha : LoopOK Ech (lb Tryd.f116 0) [0, 1, 5, 6] [1, 5] chOutL := by
  refine loopOK .nil innerch (fun vs _ => match vs with
    | [.one (.int .i64 n), _, _, .one (.int .i64 i)] => (n - i).toNat
    | _ => 0) fun vs σ k h => ?_
  unfold chOutL at h
  split at h
  · rename_i n c i row
    rw [excha n c i row _]
    obtain ⟨⟨h1, h2, h3, h4⟩, h⟩ := h
    by_cases hi : i < n
    · have w1 : IntKind.i64.wrap (i + 1) = i + 1 := wrap_id (by omega) (by omega)
      have hmu : (n - (i + 1)).toNat < (n - i).toNat := by omega
      have hl : ((1 : Int) :: (adjF row ++ [1])).length = row.length + 1 := by
        simp only [List.length_cons, List.length_append, List.length_nil, adjF_length]
        omega
      rw [show (n - i).toNat = (n - (i + 1)).toNat + 1 by omega] at h
      rw [w1]
      refine condT (decide_eq_true hi) ⟨⟨by omega, by decide, by omega, by first | rfl | trivial⟩, condI (decide_eq_true (by rw [hl]; omega)) ?_⟩
      exact ⟨⟨⟨h1, by omega, by omega, by rw [hl]; omega⟩, h⟩, hmu⟩
    · rw [show (n - i).toNat = 0 by omega] at h
      exact condE (decide_eq_false hi) h
  · exact h.elim
theorem nextC_length (row : List Int) (h : 1 ≤ row.length) : (nextC row).length = row.length + 1 := by
  unfold nextC
  simp only [List.length_cons, List.length_append, List.length_nil, adjF_length]
  omega
theorem chG_length : ∀ (m : Nat) (row : List Int), 1 ≤ row.length → (chG m row).length = row.length + m
  | 0, row, _ => rfl
  | m + 1, row, h => by
    rw [chG, chG_length m _ (by rw [nextC_length row h]; omega), nextC_length row h]
    omega
theorem okch : SpecOK Tryd.prog 116 chS := by
  refine specOK (n := 42) (m := 0) (lps := [(3, .spec [0, 1, 5, 6] [1, 5] chOutL), (7, .spec [0, 1, 5, 6, 7, 8] [0, 1, 6, 7] chInL)]) .nil Tryd.func116 (by kernel_rfl) (by kernel_rfl) (theLoops (n := 2) (by kernel_rfl) fun i hi => ?_) fun args σ K h => ?_
  · match i, hi with
    | 0, _ => exact loopHyp_of (key := 3) (by kernel_rfl) rfl lokcha
    | 1, _ => exact loopHyp_of (key := 7) (by kernel_rfl) rfl lokchb
  · unfold chS at h
    split at h
    · rename_i n c
      rw [exch n c K]
      obtain ⟨⟨h1, h2, h3, h4⟩, h⟩ := h
      have hl : (chG n.toNat [1]).length = 1 + n.toNat := chG_length _ _ (by simp)
      rw [Int.sub_zero]
      exact ⟨⟨h2, by decide, h1, by first | rfl | trivial⟩, condI (andT (decide_eq_true h3) (decide_eq_true (by omega))) (condI (decide_eq_true (by omega)) h)⟩
    · exact h.elim
theorem lokpw : LoopOK Epw (lb Tryd.f117 0) [0, 3, 4] [3] pwL := by
  refine loopOK .nil (noInner (by kernel_rfl)) (fun vs _ => match vs with
    | [.one (.int .i64 n), _, .one (.int .i64 i)] => (n - i).toNat
    | _ => 0) fun vs σ k h => ?_
  unfold pwL at h
  split at h
  · rename_i n o i
    rw [expwa n o i _]
    obtain ⟨⟨h1, h2, h3⟩, h⟩ := h
    by_cases hi : i < n
    · have w1 : IntKind.i64.wrap (i + 1) = i + 1 := wrap_id (by omega) (by omega)
      rw [show (n - i).toNat = (n - (i + 1)).toNat + 1 by omega] at h
      rw [w1]
      exact condT (decide_eq_true hi) ⟨⟨⟨h1, by omega, by omega⟩, h⟩, by show (n - (i + 1)).toNat < (n - i).toNat; omega⟩
    · rw [show (n - i).toNat = 0 by omega] at h
      exact condE (decide_eq_false hi) h
  · exact h.elim
theorem okpw : SpecOK Tryd.prog 117 pwS := by
  refine specOK (n := 13) (m := 0) (lps := [(3, .spec [0, 3, 4] [3] pwL)]) .nil Tryd.func117 (by kernel_rfl) (by kernel_rfl) (theLoops (n := 1) (by kernel_rfl) fun i hi => ?_) fun args σ K h => ?_
  · match i, hi with
    | 0, _ => exact loopHyp_of (key := 3) (by kernel_rfl) rfl lokpw
  · unfold pwS at h
    split at h
    · rename_i n
      rw [expw n K, Int.sub_zero]
      exact ⟨⟨h.1.2, by decide, h.1.1⟩, h.2⟩
    · exact h.elim
theorem lokrt : LoopOK Ert (lb Tryd.f42 0) [0, 4, 5, 6] [0, 4, 5] rtL := by
  refine loopOK (.cons okch (.cons okpw (.cons ok76 .nil))) (noInner (by kernel_rfl)) (fun vs _ => match vs with
    | [.one (.int .i64 t), _, _, .one (.int .i64 c)] => (t + 1 - c).toNat
    | _ => 0) fun vs σ k h => ?_
  unfold rtL at h
  split at h
  · rename_i t s c
    rw [exrta t s c _]
    obtain ⟨⟨h1, h2, h3, h4⟩, h⟩ := h
    by_cases hi : c ≤ t
    · have w1 : IntKind.i64.wrap (c + 1) = c + 1 := wrap_id (by omega) (by omega)
      rw [show (t + 1 - c).toNat = (t + 1 - (c + 1)).toNat + 1 by omega] at h
      rw [w1]
      exact condT (decide_eq_true hi) ⟨⟨h1, h2, h3, hi⟩, ⟨⟨h1, h2, by omega, by omega⟩, h⟩, by show (t + 1 - (c + 1)).toNat < (t + 1 - c).toNat; omega⟩
    · rw [show (t + 1 - c).toNat = 0 by omega] at h
      exact condE (decide_eq_false hi) h
  · exact h.elim
theorem rtD_pos {t : Int} (h1 : 0 ≤ t) (h2 : t ≤ 29) : 1 ≤ rtD t ∧ rtD t ≤ 536870912 := by
  rw [(tab_facts h1 h2).2.2.2.1]
  exact powD_range h1 h2
theorem rt_div {t r : Int} (h1 : 0 ≤ t) (h2 : t ≤ 29) (h3 : 0 ≤ r) (h4 : r ≤ t) : divG (rtN t r) (rtD t) = gcdG (rtN t r) (rtD t) ∧ 0 < gcdG (rtN t r) (rtD t) ∧ gcdG (rtN t r) (rtD t) ≤ rtD t ∧ gcdG (rtN t r) (rtD t) ∣ rtN t r ∧ gcdG (rtN t r) (rtD t) ∣ rtD t ∧ 0 ≤ rtN t r ∧ rtN t r ≤ 536870912 := by
  obtain ⟨p1, p2⟩ := rtD_pos h1 h2
  have hv := getD_range (by decide) (tab_facts h1 h2).2.2.2.2 r.toNat
  rw [← rtN_tails h1 h2 h3 h4] at hv
  obtain ⟨g0, g1, g2, g3, g4⟩ := divG_gcdG (a := rtN t r) (b := rtD t) hv.1 (by omega) (by omega)
  exact ⟨g0, g1, g2, g3, g4, hv.1, hv.2⟩
theorem okrt : SpecOK Tryd.prog 42 rtailS := by
  refine specOK (n := 22) (m := 0) (lps := [(3, .spec [0, 4, 5, 6] [0, 4, 5] rtL)]) (.cons okch (.cons okpw (.cons ok76 .nil))) Tryd.func42 (by kernel_rfl) (by kernel_rfl) (theLoops (n := 1) (by kernel_rfl) fun i hi => ?_) fun args σ K h => ?_
  · match i, hi with
    | 0, _ => exact loopHyp_of (key := 3) (by kernel_rfl) rfl lokrt
  · unfold rtailS at h
    split at h
    · rename_i t r
      rw [exrt t r K]
      obtain ⟨⟨h1, h2, h3, h4⟩, h⟩ := h
      obtain ⟨g0, g1, _⟩ := rt_div h1 h2 h3 h4
      refine ⟨⟨h1, h2, h3, by omega⟩, ⟨h1, by omega⟩, ?_, h⟩
      change divG (rtN t r) (rtD t) ≠ 0
      omega
    · exact h.elim
theorem lokrmn : LoopOK Ermn (lb Tryd.f45 0) [0, 3, 6] [4, 5] rminL := by
  refine loopOK (.cons okrt (.cons okcmp .nil)) (noInner (by kernel_rfl)) (fun vs _ => match vs with
    | [.one (.int .i64 t), _, .one (.int .i64 c)] => (t + 1 - c).toNat
    | _ => 0) fun vs σ k h => ?_
  unfold rminL at h
  split at h
  · rename_i t c n d
    rw [exrmna t c n d _]
    obtain ⟨⟨h1, h2, h3, h4⟩, h⟩ := h
    by_cases hi : c ≤ t
    · have w1 : IntKind.i64.wrap (c + 1) = c + 1 := wrap_id (by omega) (by omega)
      have e : rminI t n d ((t + 1 - (c + 1)).toNat + 1) c = bif decide (cmpG (wi (rtA t c * d)) (wi (n * rtB t c)) ≤ 0) then c else rminI t n d (t + 1 - (c + 1)).toNat (c + 1) := rfl
      rw [show (t + 1 - c).toNat = (t + 1 - (c + 1)).toNat + 1 by omega, e] at h
      rw [w1]
      refine condT (decide_eq_true hi) ⟨⟨h1, h2, h3, hi⟩, ?_⟩
      cases hc : decide (cmpG (wi (rtA t c * d)) (wi (n * rtB t c)) ≤ 0) with
      | true =>
        rw [hc] at h
        simp only [cond_true] at h
        rw [decide_eq_false (show ¬ c < 0 by omega)] at h
        exact condT hc h
      | false =>
        rw [hc] at h
        exact condE hc ⟨⟨⟨h1, h2, by omega, by omega⟩, h⟩, by show (t + 1 - (c + 1)).toNat < (t + 1 - c).toNat; omega⟩
    · rw [show (t + 1 - c).toNat = 0 by omega] at h
      exact condE (decide_eq_false hi) h
  · exact h.elim
theorem okrmin : SpecOK Tryd.prog 45 rminS := by
  refine specOK (n := 19) (m := 0) (lps := [(2, .spec [0, 3, 6] [4, 5] rminL)]) (.cons okrt (.cons okcmp .nil)) Tryd.func45 (by kernel_rfl) (by kernel_rfl) (theLoops (n := 1) (by kernel_rfl) fun i hi => ?_) fun args σ K h => ?_
  · match i, hi with
    | 0, _ => exact loopHyp_of (key := 2) (by kernel_rfl) rfl lokrmn
  · unfold rminS at h
    split at h
    · rename_i t n d
      rw [exrmn t n d K, Int.sub_zero]
      exact ⟨⟨h.1.1, h.1.2, by decide, by omega⟩, h.2⟩
    · exact h.elim

/-! ### Both minima -/
theorem cmpG_le {x y : Int} : decide (cmpG x y ≤ 0) = decide (x ≤ y) := by
  unfold cmpG
  by_cases h1 : x < y
  · rw [decide_eq_true h1, decide_eq_true (show x ≤ y by omega)]; rfl
  · rw [decide_eq_false h1]
    by_cases h2 : x > y
    · rw [decide_eq_true h2, decide_eq_false (show ¬ x ≤ y by omega)]; rfl
    · rw [decide_eq_false h2, decide_eq_true (show x ≤ y by omega)]; rfl
theorem tdiv_exact {a g : Int} (hg : 0 < g) (h : g ∣ a) (ha : 0 ≤ a) : a.tdiv g * g = a ∧ 0 ≤ a.tdiv g ∧ a.tdiv g ≤ a := by
  obtain ⟨q, rfl⟩ := h
  have e : (g * q).tdiv g = q := Int.mul_tdiv_cancel_left _ (by omega)
  refine ⟨by rw [e, Int.mul_comm], (tdiv_le ha hg).1, (tdiv_le ha hg).2⟩
theorem pass_eq {t n d c : Int} (h : okLv t n d) (h3 : 0 ≤ c) (h4 : c ≤ t) : decide (cmpG (wi (rtA t c * d)) (wi (n * rtB t c)) ≤ 0) = passT t n d ((tailsG t).getD c.toNat 0) := by
  obtain ⟨t1, t2, n1, n2, d1, d2⟩ := h
  obtain ⟨g0, g1, g2, g3, g4, v1, v2⟩ := rt_div t1 t2 h3 h4
  obtain ⟨p1, p2⟩ := rtD_pos t1 t2
  have hp := (tab_facts t1 t2).2.2.2.1
  obtain ⟨x1, x2, x3⟩ := tdiv_exact g1 g3 v1
  obtain ⟨y1, y2, y3⟩ := tdiv_exact g1 g4 (by omega)
  rw [cmpG_le]
  unfold passT rtA rtB
  rw [g0, ← rtN_tails t1 t2 h3 h4, ← hp]
  rw [wi_id (n := (rtN t c).tdiv _) (by omega) (by omega), wi_id (n := (rtD t).tdiv _) (by omega) (by omega)]
  generalize (rtN t c).tdiv (gcdG (rtN t c) (rtD t)) = a at *
  generalize (rtD t).tdiv (gcdG (rtN t c) (rtD t)) = b at *
  generalize gcdG (rtN t c) (rtD t) = g at *
  have b1 := Int.mul_le_mul (show a ≤ 536870912 by omega) d2 (by omega) (by decide : (0 : Int) ≤ 536870912)
  have b2 := Int.mul_nonneg x2 (show 0 ≤ d by omega)
  have b3 := Int.mul_le_mul (show n ≤ 1000000000 by omega) (show b ≤ 536870912 by omega) y2 (by decide : (0 : Int) ≤ 1000000000)
  have b4 := Int.mul_nonneg n1 y2
  rw [wi_id (n := a * d) (by omega) (by omega), wi_id (n := n * b) (by omega) (by omega), ← x1, ← y1]
  have e1 : a * g * d = g * (a * d) := by rw [Int.mul_comm a g, Int.mul_assoc]
  have e2 : n * (b * g) = g * (n * b) := by rw [← Int.mul_assoc, Int.mul_comm (n * b) g]
  rw [e1, e2]
  have : (a * d ≤ n * b) ↔ (g * (a * d) ≤ g * (n * b)) := ⟨fun h => Int.mul_le_mul_of_nonneg_left h (by omega), fun h => Int.le_of_mul_le_mul_left h g1⟩
  exact decide_eq_decide.2 this
theorem rmin_idx {t n d : Int} (h : okLv t n d) : ∀ (m : Nat) (c : Int), 0 ≤ c → ((m : Nat) : Int) = t + 1 - c → rminI t n d m c = idxMn t n d c ((tailsG t).drop c.toNat)
  | 0, c, h0, hm => by
    have hl := tailsG_length h.1
    rw [List.drop_eq_nil_of_le (by omega)]
    rfl
  | m + 1, c, h0, hm => by
    have hl := tailsG_length h.1
    rw [drop_step 0 (show c.toNat < (tailsG t).length by omega)]
    simp only [rminI, idxMn]
    rw [pass_eq h h0 (by omega), rmin_idx h m (c + 1) (by omega) (by omega), show (c + 1).toNat = c.toNat + 1 by omega]
theorem rmin_min {t n d : Int} (h : okLv t n d) : rminI t n d (t + 1).toNat 0 = minI t n d := by
  rw [rmin_idx h _ 0 (by decide) (by have := h.1; omega)]
  rfl
end Go.Ev
