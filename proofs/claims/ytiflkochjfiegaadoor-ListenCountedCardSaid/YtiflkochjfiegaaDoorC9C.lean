/-
  Chapter 9, contracts: loudness.
-/
import Derived.Test.YtiflkochjfiegaaDoorC9B
import Derived.KernelRfl
set_option linter.unusedVariables false
set_option linter.unusedSimpArgs false
set_option linter.unusedSectionVars false
namespace Go.Ev
open Go Go.Proofs
set_option maxRecDepth 20000

def lowL : LSpec := fun vs σ k => match vs, σ with
  | [.one (.int .i64 n), .one (.int .i64 d), .one (.ptr 0 1 0 0), .one (.int .i64 a), .one (.int .i64 b)], [.cells [.int .i64 0, .int .i64 0]] => k (.exit 0) [.one (.int .i64 n), .one (.int .i64 d), .one (.ptr 0 1 0 0), .one (.int .i64 (gcdG a b))] [.cells [.int .i64 0, .int .i64 0]]
  | _, _ => False
def lowP (n d : Int) : AV := .agg [.int .i64 (wi (n.tdiv (gcdG n d))), .int .i64 (wi (d.tdiv (gcdG n d)))]
def lowS : Spec := fun args σ K => match args, σ with
  | [.one (.int .i64 n), .one (.int .i64 d)], [] => gcdG n d ≠ 0 ∧ K (.agg [.int .i64 (wi (n.tdiv (gcdG n d))), .int .i64 (wi (d.tdiv (gcdG n d)))]) []
  | _, _ => False
def meE (len hop gate pct : Int) (x : List Int) : Int := firstE [bif meterG len hop gate pct then 0 else 2, sigE x]
def gbS : Spec := fun args σ K => match args, σ with
  | [.agg [.int .i64 len, .int .i64 hop, .int .i64 gate, .int .i64 pct], .one (.data (.ints .i64 x))], [] => x.length ≤ 1000000000 ∧
    bif meE len hop gate pct x == 0 then (bif (gatG len gate pct (enG len hop x 0)).isEmpty then K (.tup [.one .nil, .one (.int .i64 0)]) [] else K (.tup [.one (.own 0 1), .one (.int .i64 0)]) [.row 3 (.ints .i64 (gatG len gate pct (enG len hop x 0)))])
    else K (.tup [.one .nil, .one (.int .i64 (meE len hop gate pct x))]) []
  | _, _ => False
def sumI (bs : List Int) : List Int → Int
  | [] => 0
  | j :: l => bs.getD j.toNat 0 + sumI bs l
def okI (bs is : List Int) : Prop := okB bs ∧ is.length ≤ 200 ∧ ∀ j ∈ is, 0 ≤ j ∧ j < bs.length
def sumL : LSpec := fun vs σ k => match vs, σ with
  | [.one (.ptr 0 1 0 0), .one (.ptr 1 1 0 0), .one (.own 2 1), .one (.own 3 1), .one (.int .i64 s), .one (.own 3 1), .one (.int .i64 n), .one (.int .i64 i)], [.cells [.int .i64 len, .int .i64 hop, .int .i64 gate, .int .i64 pct], .cells [.int .i64 z0, .int .i64 z1], .row 3 (.ints .i64 bs), .row 3 (.ints .i64 is)] =>
    (okI bs is ∧ n = is.length ∧ 0 ≤ i ∧ i ≤ n ∧ 0 ≤ s ∧ s ≤ 53683814450 * i) ∧
    k (.exit 0) [.one (.ptr 0 1 0 0), .one (.ptr 1 1 0 0), .one (.own 2 1), .one (.int .i64 (s + sumI bs (is.drop i.toNat)))] [.cells [.int .i64 len, .int .i64 hop, .int .i64 gate, .int .i64 pct], .cells [.int .i64 z0, .int .i64 z1], .row 3 (.ints .i64 is)]
  | _, _ => False
/-- The loudness: its sum and its denominator. -/
def ldI (len hop gate pct : Int) (x : List Int) : List Int := gatG len gate pct (enG len hop x 0)
def ldN (len hop gate pct : Int) (x : List Int) : Int := sumI (enG len hop x 0) (ldI len hop gate pct x)
def ldD (len hop gate pct : Int) (x : List Int) : Int := (ldI len hop gate pct x).length * len
def loudS : Spec := fun args σ K => match args, σ with
  | [.agg [.int .i64 len, .int .i64 hop, .int .i64 gate, .int .i64 pct], .one (.data (.ints .i64 x))], [] => x.length ≤ 1000000000 ∧
    bif meE len hop gate pct x == 0 then (bif (ldI len hop gate pct x).isEmpty then K (.tup [.agg [.int .i64 0, .int .i64 0], .one (.int .i64 12)]) []
      else K (.tup [.agg [.int .i64 (wi ((ldN len hop gate pct x).tdiv (gcdG (ldN len hop gate pct x) (ldD len hop gate pct x)))), .int .i64 (wi ((ldD len hop gate pct x).tdiv (gcdG (ldN len hop gate pct x) (ldD len hop gate pct x))))], .one (.int .i64 0)]) [])
    else K (.tup [.agg [.int .i64 0, .int .i64 0], .one (.int .i64 (meE len hop gate pct x))]) []
  | _, _ => False
def okR (len hop gate pct : Int) (bs : List Int) : Prop := okB bs ∧ meterG len hop gate pct = true
def rcntL : LSpec := fun vs σ k => match vs, σ with
  | [.one (.ptr 0 1 0 0), .one .nil, .one (.int .i64 s), .one (.int .i64 c), .one (.int .i64 i)], [.cells [.int .i64 len, .int .i64 hop, .int .i64 gate, .int .i64 pct]] => i = 0 ∧ k (.exit 0) [.one (.ptr 0 1 0 0), .one .nil, .one (.int .i64 s), .one (.int .i64 c)] [.cells [.int .i64 len, .int .i64 hop, .int .i64 gate, .int .i64 pct]]
  | [.one (.ptr 0 1 0 0), .one (.own 1 1), .one (.int .i64 s), .one (.int .i64 c), .one (.int .i64 i)], [.cells [.int .i64 len, .int .i64 hop, .int .i64 gate, .int .i64 pct], .row 3 (.ints .i64 bs)] =>
    (okR len hop gate pct bs ∧ 0 ≤ i ∧ i ≤ bs.length ∧ 0 ≤ c ∧ c ≤ i ∧ 0 ≤ s ∧ s ≤ 53683814450 * i) ∧
    k (.exit 0) [.one (.ptr 0 1 0 0), .one (.own 1 1), .one (.int .i64 (s + smG len gate (bs.drop i.toNat))), .one (.int .i64 (c + cntG len gate (bs.drop i.toNat)))] [.cells [.int .i64 len, .int .i64 hop, .int .i64 gate, .int .i64 pct], .row 3 (.ints .i64 bs)]
  | _, _ => False
def rgatL : LSpec := fun vs σ k => match vs, σ with
  | [.one (.ptr 0 1 0 0), .one .nil, .one (.int .i64 _), .one (.int .i64 _), .one .nil, .one (.int .i64 i)], [.cells [.int .i64 len, .int .i64 hop, .int .i64 gate, .int .i64 pct]] => i = 0 ∧ k (.exit 2) [.one .nil] []
  | [.one (.ptr 0 1 0 0), .one (.own 1 1), .one (.int .i64 s), .one (.int .i64 c), .one .nil, .one (.int .i64 i)], [.cells [.int .i64 len, .int .i64 hop, .int .i64 gate, .int .i64 pct], .row 3 (.ints .i64 bs)] =>
    (okG bs len hop gate pct c s ∧ 0 ≤ i ∧ i ≤ bs.length) ∧
    bif (gatI len gate pct c s i (bs.drop i.toNat)).isEmpty then k (.exit 2) [.one .nil] [] else k (.exit 2) [.one (.own 0 1)] [.row 3 (.ints .i64 (gatI len gate pct c s i (bs.drop i.toNat)))]
  | [.one (.ptr 0 1 0 0), .one (.own 1 1), .one (.int .i64 s), .one (.int .i64 c), .one (.own 2 1), .one (.int .i64 i)], [.cells [.int .i64 len, .int .i64 hop, .int .i64 gate, .int .i64 pct], .row 3 (.ints .i64 bs), .row 3 (.ints .i64 out)] =>
    (okG bs len hop gate pct c s ∧ 0 ≤ i ∧ i ≤ bs.length ∧ out.length ≤ i) ∧ k (.exit 2) [.one (.own 0 1)] [.row 3 (.ints .i64 (out ++ gatI len gate pct c s i (bs.drop i.toNat)))]
  | _, _ => False
def rgatS : Spec := fun args σ K => match args, σ with
  | [.agg [.int .i64 len, .int .i64 hop, .int .i64 gate, .int .i64 pct], .one (.data (.ints .i64 x))], [] =>
    (okX x len hop ∧ meterG len hop gate pct = true) ∧ bif (ldI len hop gate pct x).isEmpty then K (.one .nil) [] else K (.one (.own 0 1)) [.row 3 (.ints .i64 (ldI len hop gate pct x))]
  | _, _ => False
def rsumL : LSpec := fun vs σ k => match vs, σ with
  | [.one (.ptr 0 1 0 0), .one (.ptr 1 1 0 0), .one (.own 2 1), .one (.own 3 1), .one (.int .i64 s), .one (.int .i64 i)], [.cells [.int .i64 len, .int .i64 hop, .int .i64 gate, .int .i64 pct], .cells [.int .i64 z0, .int .i64 z1], .row 3 (.ints .i64 bs), .row 3 (.ints .i64 is)] =>
    (okI bs is ∧ 0 ≤ i ∧ i ≤ is.length ∧ 0 ≤ s ∧ s ≤ 53683814450 * i) ∧
    k (.exit 0) [.one (.ptr 0 1 0 0), .one (.ptr 1 1 0 0), .one (.own 2 1), .one (.int .i64 (s + sumI bs (is.drop i.toNat)))] [.cells [.int .i64 len, .int .i64 hop, .int .i64 gate, .int .i64 pct], .cells [.int .i64 z0, .int .i64 z1], .row 3 (.ints .i64 is)]
  | _, _ => False
def rloudS : Spec := fun args σ K => match args, σ with
  | [.agg [.int .i64 len, .int .i64 hop, .int .i64 gate, .int .i64 pct], .one (.data (.ints .i64 x))], [] => (okX x len hop ∧ meterG len hop gate pct = true) ∧
    bif (ldI len hop gate pct x).isEmpty then K (.tup [.agg [.int .i64 0, .int .i64 0], .one (.bool false)]) []
      else K (.tup [.agg [.int .i64 (wi ((ldN len hop gate pct x).tdiv (gcdG (ldN len hop gate pct x) (ldD len hop gate pct x)))), .int .i64 (wi ((ldD len hop gate pct x).tdiv (gcdG (ldN len hop gate pct x) (ldD len hop gate pct x))))], .one (.bool true)]) []
  | _, _ => False
noncomputable abbrev Elow : Env := envOf Tryd.prog [] [(2, .spec [0, 1, 4, 5, 6] [0, 1, 4, 5] lowL)] 22 0
noncomputable abbrev Egb : Env := envOf Tryd.prog [(25, meterS), (99, sigS), (98, firstS), (101, enS), (100, gatS)] [] 21 0
noncomputable abbrev Eloud : Env := envOf Tryd.prog [(25, meterS), (99, sigS), (98, firstS), (101, enS), (100, gatS), (102, lowS)] [(10, .spec [2, 4, 7, 8, 9, 33, 34, 35] [2, 4, 8, 9] sumL)] 58 0
noncomputable abbrev Ergat : Env := envOf Tryd.prog [(106, enS)] [(4, .spec [2, 5, 6, 7, 8] [2, 5, 6, 7] rcntL), (10, .spec [2, 5, 6, 7, 9, 10] [9] rgatL)] 73 0
noncomputable abbrev Erloud : Env := envOf Tryd.prog [(106, enS), (28, rgatS), (48, lowestS)] [(6, .spec [2, 4, 6, 7, 8, 9] [2, 4, 7, 8] rsumL)] 42 0
end Go.Ev

namespace Go.Ev
open Go Go.Proofs
set_option maxRecDepth 100000
theorem exlow (n d : Int) (K : AV → List Blk → Prop) : evFn Elow Tryd.f102 [.one (.int .i64 n), .one (.int .i64 d)] [] K = (
 bif !decide (gcdG n d = (0 : Int)) then
 bif !decide (gcdG n d = (0 : Int)) then
 K
 (AV.agg
 [SV.int IntKind.i64 (IntKind.i64.wrap (n.tdiv (gcdG n d))),
 SV.int IntKind.i64 (IntKind.i64.wrap (d.tdiv (gcdG n d)))])
 []
 else False
 else False) := by kernel_rfl
theorem exlowa (n d a b : Int) (K : Ex → List AV → List Blk → Prop) : evBody Elow (lb Tryd.f102 0) [0, 1, 4, 5, 6] [0, 1, 4, 5] [.one (.int .i64 n), .one (.int .i64 d), .one (.ptr 0 1 0 0), .one (.int .i64 a), .one (.int .i64 b)] [.cells [.int .i64 0, .int .i64 0]] K = (
 bif b != (0 : Int) then
 bif !decide (b = (0 : Int)) then
 K Ex.normal
 [AV.one (SV.int IntKind.i64 n), AV.one (SV.int IntKind.i64 d),
 AV.one (SV.ptr (0 : Nat) (1 : Nat) (0 : Nat) (0 : Nat)), AV.one (SV.int IntKind.i64 b),
 AV.one (SV.int IntKind.i64 (a.tmod b))]
 [Blk.cells [SV.int IntKind.i64 (0 : Int), SV.int IntKind.i64 (0 : Int)]]
 else False
 else
 K (Ex.exit (0 : Nat))
 [AV.one (SV.int IntKind.i64 n), AV.one (SV.int IntKind.i64 d),
 AV.one (SV.ptr (0 : Nat) (1 : Nat) (0 : Nat) (0 : Nat)), AV.one (SV.int IntKind.i64 a)]
 [Blk.cells [SV.int IntKind.i64 (0 : Int), SV.int IntKind.i64 (0 : Int)]]) := by kernel_rfl
theorem exgb (len hop gate pct : Int) (x : List Int) (K : AV → List Blk → Prop) : evFn Egb Tryd.f21 [.agg [.int .i64 len, .int .i64 hop, .int .i64 gate, .int .i64 pct], .one (.data (.ints .i64 x))] [] K = (
 x.length ≤ (1000000000 : Nat) ∧
 [bif meterG len hop gate pct then (0 : Int) else (2 : Int), sigE x].length ≤ (1000 : Nat) ∧
 bif firstE [bif meterG len hop gate pct then (0 : Int) else (2 : Int), sigE x] != (0 : Int) then
 K
 (AV.tup
 [TV.one SV.nil,
 TV.one (SV.int IntKind.i64 (firstE [bif meterG len hop gate pct then (0 : Int) else (2 : Int), sigE x]))])
 []
 else
 (x.length ≤ (200 : Nat) ∧
 x.all sampleG = true ∧ (1 : Int) ≤ len ∧ len ≤ (50 : Int) ∧ (1 : Int) ≤ hop ∧ hop ≤ len) ∧
 bif (enG len hop x (0 : Int)).isEmpty then
 (((0 : Nat) ≤ (200 : Nat) ∧ ∀ (e : Int), e ∈ [] → (0 : Int) ≤ e ∧ e ≤ (53683814450 : Int)) ∧
 meterG len hop gate pct = true) ∧
 K (AV.tup [TV.one SV.nil, TV.one (SV.int IntKind.i64 (0 : Int))]) []
 else
 (((enG len hop x (0 : Int)).length ≤ (200 : Nat) ∧
 ∀ (e : Int), e ∈ enG len hop x (0 : Int) → (0 : Int) ≤ e ∧ e ≤ (53683814450 : Int)) ∧
 meterG len hop gate pct = true) ∧
 bif (gatG len gate pct (enG len hop x (0 : Int))).isEmpty then
 K (AV.tup [TV.one SV.nil, TV.one (SV.int IntKind.i64 (0 : Int))]) []
 else
 K (AV.tup [TV.one (SV.own (0 : Nat) (1 : Nat)), TV.one (SV.int IntKind.i64 (0 : Int))])
 [Blk.row (3 : TypeId) (Row.ints IntKind.i64 (gatG len gate pct (enG len hop x (0 : Int))))]) := by kernel_rfl
theorem exloud (len hop gate pct : Int) (x : List Int) (K : AV → List Blk → Prop) : evFn Eloud Tryd.f23 [.agg [.int .i64 len, .int .i64 hop, .int .i64 gate, .int .i64 pct], .one (.data (.ints .i64 x))] [] K = (
 x.length ≤ (1000000000 : Nat) ∧
 [bif meterG len hop gate pct then (0 : Int) else (2 : Int), sigE x].length ≤ (1000 : Nat) ∧
 bif firstE [bif meterG len hop gate pct then (0 : Int) else (2 : Int), sigE x] != (0 : Int) then
 K
 (AV.tup
 [TV.agg [SV.int IntKind.i64 (0 : Int), SV.int IntKind.i64 (0 : Int)],
 TV.one (SV.int IntKind.i64 (firstE [bif meterG len hop gate pct then (0 : Int) else (2 : Int), sigE x]))])
 []
 else
 (x.length ≤ (200 : Nat) ∧
 x.all sampleG = true ∧ (1 : Int) ≤ len ∧ len ≤ (50 : Int) ∧ (1 : Int) ≤ hop ∧ hop ≤ len) ∧
 bif (enG len hop x (0 : Int)).isEmpty then
 (((0 : Nat) ≤ (200 : Nat) ∧ ∀ (e : Int), e ∈ [] → (0 : Int) ≤ e ∧ e ≤ (53683814450 : Int)) ∧
 meterG len hop gate pct = true) ∧
 K
 (AV.tup
 [TV.agg [SV.int IntKind.i64 (0 : Int), SV.int IntKind.i64 (0 : Int)],
 TV.one (SV.int IntKind.i64 (12 : Int))])
 []
 else
 (((enG len hop x (0 : Int)).length ≤ (200 : Nat) ∧
 ∀ (e : Int), e ∈ enG len hop x (0 : Int) → (0 : Int) ≤ e ∧ e ≤ (53683814450 : Int)) ∧
 meterG len hop gate pct = true) ∧
 bif (gatG len gate pct (enG len hop x (0 : Int))).isEmpty then
 K
 (AV.tup
 [TV.agg [SV.int IntKind.i64 (0 : Int), SV.int IntKind.i64 (0 : Int)],
 TV.one (SV.int IntKind.i64 (12 : Int))])
 []
 else
 bif (↑(gatG len gate pct (enG len hop x (0 : Int))).length : Int) == (0 : Int) then
 K
 (AV.tup
 [TV.agg [SV.int IntKind.i64 (0 : Int), SV.int IntKind.i64 (0 : Int)],
 TV.one (SV.int IntKind.i64 (12 : Int))])
 []
 else
 ((((enG len hop x (0 : Int)).length ≤ (200 : Nat) ∧
 ∀ (e : Int), e ∈ enG len hop x (0 : Int) → (0 : Int) ≤ e ∧ e ≤ (53683814450 : Int)) ∧
 (gatG len gate pct (enG len hop x (0 : Int))).length ≤ (200 : Nat) ∧
 ∀ (j : Int),
 j ∈ gatG len gate pct (enG len hop x (0 : Int)) →
 (0 : Int) ≤ j ∧ j < (↑(enG len hop x (0 : Int)).length : Int)) ∧
 (↑(gatG len gate pct (enG len hop x (0 : Int))).length : Int) =
 (↑(gatG len gate pct (enG len hop x (0 : Int))).length : Int) ∧
 (0 : Int) ≤ (0 : Int) ∧
 (0 : Int) ≤ (↑(gatG len gate pct (enG len hop x (0 : Int))).length : Int) ∧
 (0 : Int) ≤ (0 : Int) ∧ (0 : Int) ≤ (0 : Int)) ∧
 gcdG ((0 : Int) + sumI (enG len hop x (0 : Int)) (gatG len gate pct (enG len hop x (0 : Int))))
 (IntKind.i64.wrap ((↑(gatG len gate pct (enG len hop x (0 : Int))).length : Int) * len)) ≠
 (0 : Int) ∧
 bif
 decide
 (wi
 (((0 : Int) +
 sumI (enG len hop x (0 : Int)) (gatG len gate pct (enG len hop x (0 : Int)))).tdiv
 (gcdG
 ((0 : Int) +
 sumI (enG len hop x (0 : Int)) (gatG len gate pct (enG len hop x (0 : Int))))
 (IntKind.i64.wrap
 ((↑(gatG len gate pct (enG len hop x (0 : Int))).length : Int) * len)))) >
 (1000000000000000 : Int)) then
 K
 (AV.tup
 [TV.agg [SV.int IntKind.i64 (0 : Int), SV.int IntKind.i64 (0 : Int)],
 TV.one (SV.int IntKind.i64 (8 : Int))])
 []
 else
 K
 (AV.tup
 [TV.agg
 [SV.int IntKind.i64
 (wi
 (((0 : Int) +
 sumI (enG len hop x (0 : Int))
 (gatG len gate pct (enG len hop x (0 : Int)))).tdiv
 (gcdG
 ((0 : Int) +
 sumI (enG len hop x (0 : Int)) (gatG len gate pct (enG len hop x (0 : Int))))
 (IntKind.i64.wrap
 ((↑(gatG len gate pct (enG len hop x (0 : Int))).length : Int) * len))))),
 SV.int IntKind.i64
 (wi
 ((IntKind.i64.wrap
 ((↑(gatG len gate pct (enG len hop x (0 : Int))).length : Int) * len)).tdiv
 (gcdG
 ((0 : Int) +
 sumI (enG len hop x (0 : Int)) (gatG len gate pct (enG len hop x (0 : Int))))
 (IntKind.i64.wrap
 ((↑(gatG len gate pct (enG len hop x (0 : Int))).length : Int) * len)))))],
 TV.one (SV.int IntKind.i64 (0 : Int))])
 []) := by kernel_rfl
theorem exlouda (len hop gate pct z0 z1 s n i : Int) (bs is : List Int) (K : Ex → List AV → List Blk → Prop) : evBody Eloud (lb Tryd.f23 0) [2, 4, 7, 8, 9, 33, 34, 35] [2, 4, 8, 9] [.one (.ptr 0 1 0 0), .one (.ptr 1 1 0 0), .one (.own 2 1), .one (.own 3 1), .one (.int .i64 s), .one (.own 3 1), .one (.int .i64 n), .one (.int .i64 i)] [.cells [.int .i64 len, .int .i64 hop, .int .i64 gate, .int .i64 pct], .cells [.int .i64 z0, .int .i64 z1], .row 3 (.ints .i64 bs), .row 3 (.ints .i64 is)] K = (
 bif decide (i < n) then
 bif decide ((0 : Int) ≤ i) && decide (i < (↑is.length : Int)) then
 bif decide (i.toNat + (0 : Nat) < is.length) then
 bif
 decide ((0 : Int) ≤ is.getD (i.toNat + (0 : Nat)) (0 : Int)) &&
 decide (is.getD (i.toNat + (0 : Nat)) (0 : Int) < (↑bs.length : Int)) then
 bif decide ((is.getD (i.toNat + (0 : Nat)) (0 : Int)).toNat + (0 : Nat) < bs.length) then
 K Ex.normal
 [AV.one (SV.ptr (0 : Nat) (1 : Nat) (0 : Nat) (0 : Nat)),
 AV.one (SV.ptr (1 : Nat) (1 : Nat) (0 : Nat) (0 : Nat)), AV.one (SV.own (2 : Nat) (1 : Nat)),
 AV.one (SV.own (3 : Nat) (1 : Nat)),
 AV.one
 (SV.int IntKind.i64
 (IntKind.i64.wrap
 (s + bs.getD ((is.getD (i.toNat + (0 : Nat)) (0 : Int)).toNat + (0 : Nat)) (0 : Int)))),
 AV.one (SV.own (3 : Nat) (1 : Nat)), AV.one (SV.int IntKind.i64 n),
 AV.one (SV.int IntKind.i64 (IntKind.i64.wrap (i + (1 : Int))))]
 [Blk.cells
 [SV.int IntKind.i64 len, SV.int IntKind.i64 hop, SV.int IntKind.i64 gate, SV.int IntKind.i64 pct],
 Blk.cells [SV.int IntKind.i64 z0, SV.int IntKind.i64 z1], Blk.row (3 : TypeId) (Row.ints IntKind.i64 bs),
 Blk.row (3 : TypeId) (Row.ints IntKind.i64 is)]
 else False
 else False
 else False
 else False
 else
 K (Ex.exit (0 : Nat))
 [AV.one (SV.ptr (0 : Nat) (1 : Nat) (0 : Nat) (0 : Nat)), AV.one (SV.ptr (1 : Nat) (1 : Nat) (0 : Nat) (0 : Nat)),
 AV.one (SV.own (2 : Nat) (1 : Nat)), AV.one (SV.int IntKind.i64 s)]
 [Blk.cells [SV.int IntKind.i64 len, SV.int IntKind.i64 hop, SV.int IntKind.i64 gate, SV.int IntKind.i64 pct],
 Blk.cells [SV.int IntKind.i64 z0, SV.int IntKind.i64 z1], Blk.row (3 : TypeId) (Row.ints IntKind.i64 is)]) := by kernel_rfl
theorem exrgat (len hop gate pct : Int) (x : List Int) (K : AV → List Blk → Prop) : evFn Ergat Tryd.f28 [.agg [.int .i64 len, .int .i64 hop, .int .i64 gate, .int .i64 pct], .one (.data (.ints .i64 x))] [] K = (
 (x.length ≤ (200 : Nat) ∧ x.all sampleG = true ∧ (1 : Int) ≤ len ∧ len ≤ (50 : Int) ∧ (1 : Int) ≤ hop ∧ hop ≤ len) ∧
 bif (enG len hop x (0 : Int)).isEmpty then (0 : Int) = (0 : Int) ∧ (0 : Int) = (0 : Int) ∧ K (AV.one SV.nil) []
 else
 ((((enG len hop x (0 : Int)).length ≤ (200 : Nat) ∧
 ∀ (e : Int), e ∈ enG len hop x (0 : Int) → (0 : Int) ≤ e ∧ e ≤ (53683814450 : Int)) ∧
 meterG len hop gate pct = true) ∧
 (0 : Int) ≤ (0 : Int) ∧
 (0 : Int) ≤ (↑(enG len hop x (0 : Int)).length : Int) ∧
 (0 : Int) ≤ (0 : Int) ∧ (0 : Int) ≤ (0 : Int) ∧ (0 : Int) ≤ (0 : Int) ∧ (0 : Int) ≤ (0 : Int)) ∧
 ((((enG len hop x (0 : Int)).length ≤ (200 : Nat) ∧
 ∀ (e : Int), e ∈ enG len hop x (0 : Int) → (0 : Int) ≤ e ∧ e ≤ (53683814450 : Int)) ∧
 meterG len hop gate pct = true ∧
 (0 : Int) ≤ (0 : Int) + cntG len gate (enG len hop x (0 : Int)) ∧
 (0 : Int) + cntG len gate (enG len hop x (0 : Int)) ≤ (200 : Int) ∧
 (0 : Int) ≤ (0 : Int) + smG len gate (enG len hop x (0 : Int)) ∧
 (0 : Int) + smG len gate (enG len hop x (0 : Int)) ≤ (10736762890000 : Int)) ∧
 (0 : Int) ≤ (0 : Int) ∧ (0 : Int) ≤ (↑(enG len hop x (0 : Int)).length : Int)) ∧
 bif
 (gatI len gate pct ((0 : Int) + cntG len gate (enG len hop x (0 : Int)))
 ((0 : Int) + smG len gate (enG len hop x (0 : Int))) (0 : Int) (enG len hop x (0 : Int))).isEmpty then
 K (AV.one SV.nil) []
 else
 K (AV.one (SV.own (0 : Nat) (1 : Nat)))
 [Blk.row (3 : TypeId)
 (Row.ints IntKind.i64
 (gatI len gate pct ((0 : Int) + cntG len gate (enG len hop x (0 : Int)))
 ((0 : Int) + smG len gate (enG len hop x (0 : Int))) (0 : Int) (enG len hop x (0 : Int))))]) := by kernel_rfl
theorem exrgata (len hop gate pct s c : Int) (K : Ex → List AV → List Blk → Prop) : evBody Ergat (lb Tryd.f28 0) [2, 5, 6, 7, 8] [2, 5, 6, 7] [.one (.ptr 0 1 0 0), .one .nil, .one (.int .i64 s), .one (.int .i64 c), .one (.int .i64 0)] [.cells [.int .i64 len, .int .i64 hop, .int .i64 gate, .int .i64 pct]] K = (
 K (Ex.exit (0 : Nat))
 [AV.one (SV.ptr (0 : Nat) (1 : Nat) (0 : Nat) (0 : Nat)), AV.one SV.nil, AV.one (SV.int IntKind.i64 s),
 AV.one (SV.int IntKind.i64 c)]
 [Blk.cells [SV.int IntKind.i64 len, SV.int IntKind.i64 hop, SV.int IntKind.i64 gate, SV.int IntKind.i64 pct]]) := by kernel_rfl
theorem exrgatb (len hop gate pct s c i : Int) (bs : List Int) (K : Ex → List AV → List Blk → Prop) : evBody Ergat (lb Tryd.f28 0) [2, 5, 6, 7, 8] [2, 5, 6, 7] [.one (.ptr 0 1 0 0), .one (.own 1 1), .one (.int .i64 s), .one (.int .i64 c), .one (.int .i64 i)] [.cells [.int .i64 len, .int .i64 hop, .int .i64 gate, .int .i64 pct], .row 3 (.ints .i64 bs)] K = (
 bif decide (i < (↑bs.length : Int)) then
 bif decide ((0 : Int) ≤ i) && decide (i < (↑bs.length : Int)) then
 bif decide (i.toNat + (0 : Nat) < bs.length) then
 bif decide (bs.getD (i.toNat + (0 : Nat)) (0 : Int) ≥ IntKind.i64.wrap (gate * len)) then
 bif decide ((0 : Int) ≤ i) && decide (i < (↑bs.length : Int)) then
 bif decide (i.toNat + (0 : Nat) < bs.length) then
 K Ex.normal
 [AV.one (SV.ptr (0 : Nat) (1 : Nat) (0 : Nat) (0 : Nat)), AV.one (SV.own (1 : Nat) (1 : Nat)),
 AV.one (SV.int IntKind.i64 (IntKind.i64.wrap (s + bs.getD (i.toNat + (0 : Nat)) (0 : Int)))),
 AV.one (SV.int IntKind.i64 (IntKind.i64.wrap (c + (1 : Int)))),
 AV.one (SV.int IntKind.i64 (IntKind.i64.wrap (i + (1 : Int))))]
 [Blk.cells
 [SV.int IntKind.i64 len, SV.int IntKind.i64 hop, SV.int IntKind.i64 gate, SV.int IntKind.i64 pct],
 Blk.row (3 : TypeId) (Row.ints IntKind.i64 bs)]
 else False
 else False
 else
 K Ex.normal
 [AV.one (SV.ptr (0 : Nat) (1 : Nat) (0 : Nat) (0 : Nat)), AV.one (SV.own (1 : Nat) (1 : Nat)),
 AV.one (SV.int IntKind.i64 s), AV.one (SV.int IntKind.i64 c),
 AV.one (SV.int IntKind.i64 (IntKind.i64.wrap (i + (1 : Int))))]
 [Blk.cells [SV.int IntKind.i64 len, SV.int IntKind.i64 hop, SV.int IntKind.i64 gate, SV.int IntKind.i64 pct],
 Blk.row (3 : TypeId) (Row.ints IntKind.i64 bs)]
 else False
 else False
 else
 K (Ex.exit (0 : Nat))
 [AV.one (SV.ptr (0 : Nat) (1 : Nat) (0 : Nat) (0 : Nat)), AV.one (SV.own (1 : Nat) (1 : Nat)),
 AV.one (SV.int IntKind.i64 s), AV.one (SV.int IntKind.i64 c)]
 [Blk.cells [SV.int IntKind.i64 len, SV.int IntKind.i64 hop, SV.int IntKind.i64 gate, SV.int IntKind.i64 pct],
 Blk.row (3 : TypeId) (Row.ints IntKind.i64 bs)]) := by kernel_rfl
theorem exrgatc (len hop gate pct s c : Int) (K : Ex → List AV → List Blk → Prop) : evBody Ergat (lb Tryd.f28 1) [2, 5, 6, 7, 9, 10] [9] [.one (.ptr 0 1 0 0), .one .nil, .one (.int .i64 s), .one (.int .i64 c), .one .nil, .one (.int .i64 0)] [.cells [.int .i64 len, .int .i64 hop, .int .i64 gate, .int .i64 pct]] K = (
 K (Ex.exit (2 : Nat)) [AV.one SV.nil] []) := by kernel_rfl
theorem exrgatd (len hop gate pct s c i : Int) (bs : List Int) (K : Ex → List AV → List Blk → Prop) : evBody Ergat (lb Tryd.f28 1) [2, 5, 6, 7, 9, 10] [9] [.one (.ptr 0 1 0 0), .one (.own 1 1), .one (.int .i64 s), .one (.int .i64 c), .one .nil, .one (.int .i64 i)] [.cells [.int .i64 len, .int .i64 hop, .int .i64 gate, .int .i64 pct], .row 3 (.ints .i64 bs)] K = (
 bif decide (i < (↑bs.length : Int)) then
 bif decide ((0 : Int) ≤ i) && decide (i < (↑bs.length : Int)) then
 bif decide (i.toNat + (0 : Nat) < bs.length) then
 bif decide (bs.getD (i.toNat + (0 : Nat)) (0 : Int) ≥ IntKind.i64.wrap (gate * len)) then
 bif decide ((0 : Int) ≤ i) && decide (i < (↑bs.length : Int)) then
 bif decide (i.toNat + (0 : Nat) < bs.length) then
 bif
 decide
 (IntKind.i64.wrap (IntKind.i64.wrap (bs.getD (i.toNat + (0 : Nat)) (0 : Int) * (100 : Int)) * c) ≥
 IntKind.i64.wrap (pct * s)) then
 K Ex.normal
 [AV.one (SV.ptr (0 : Nat) (1 : Nat) (0 : Nat) (0 : Nat)), AV.one (SV.own (1 : Nat) (1 : Nat)),
 AV.one (SV.int IntKind.i64 s), AV.one (SV.int IntKind.i64 c), AV.one (SV.own (2 : Nat) (1 : Nat)),
 AV.one (SV.int IntKind.i64 (IntKind.i64.wrap (i + (1 : Int))))]
 [Blk.cells
 [SV.int IntKind.i64 len, SV.int IntKind.i64 hop, SV.int IntKind.i64 gate, SV.int IntKind.i64 pct],
 Blk.row (3 : TypeId) (Row.ints IntKind.i64 bs), Blk.row (3 : Nat) (Row.ints IntKind.i64 [i])]
 else
 K Ex.normal
 [AV.one (SV.ptr (0 : Nat) (1 : Nat) (0 : Nat) (0 : Nat)), AV.one (SV.own (1 : Nat) (1 : Nat)),
 AV.one (SV.int IntKind.i64 s), AV.one (SV.int IntKind.i64 c), AV.one SV.nil,
 AV.one (SV.int IntKind.i64 (IntKind.i64.wrap (i + (1 : Int))))]
 [Blk.cells
 [SV.int IntKind.i64 len, SV.int IntKind.i64 hop, SV.int IntKind.i64 gate, SV.int IntKind.i64 pct],
 Blk.row (3 : TypeId) (Row.ints IntKind.i64 bs)]
 else False
 else False
 else
 K Ex.normal
 [AV.one (SV.ptr (0 : Nat) (1 : Nat) (0 : Nat) (0 : Nat)), AV.one (SV.own (1 : Nat) (1 : Nat)),
 AV.one (SV.int IntKind.i64 s), AV.one (SV.int IntKind.i64 c), AV.one SV.nil,
 AV.one (SV.int IntKind.i64 (IntKind.i64.wrap (i + (1 : Int))))]
 [Blk.cells [SV.int IntKind.i64 len, SV.int IntKind.i64 hop, SV.int IntKind.i64 gate, SV.int IntKind.i64 pct],
 Blk.row (3 : TypeId) (Row.ints IntKind.i64 bs)]
 else False
 else False
 else K (Ex.exit (2 : Nat)) [AV.one SV.nil] []) := by kernel_rfl
theorem exrgate (len hop gate pct s c i : Int) (bs out : List Int) (K : Ex → List AV → List Blk → Prop) : evBody Ergat (lb Tryd.f28 1) [2, 5, 6, 7, 9, 10] [9] [.one (.ptr 0 1 0 0), .one (.own 1 1), .one (.int .i64 s), .one (.int .i64 c), .one (.own 2 1), .one (.int .i64 i)] [.cells [.int .i64 len, .int .i64 hop, .int .i64 gate, .int .i64 pct], .row 3 (.ints .i64 bs), .row 3 (.ints .i64 out)] K = (
 bif decide (i < (↑bs.length : Int)) then
 bif decide ((0 : Int) ≤ i) && decide (i < (↑bs.length : Int)) then
 bif decide (i.toNat + (0 : Nat) < bs.length) then
 bif decide (bs.getD (i.toNat + (0 : Nat)) (0 : Int) ≥ IntKind.i64.wrap (gate * len)) then
 bif decide ((0 : Int) ≤ i) && decide (i < (↑bs.length : Int)) then
 bif decide (i.toNat + (0 : Nat) < bs.length) then
 bif
 decide
 (IntKind.i64.wrap (IntKind.i64.wrap (bs.getD (i.toNat + (0 : Nat)) (0 : Int) * (100 : Int)) * c) ≥
 IntKind.i64.wrap (pct * s)) then
 bif
 decide
 ((out ++ [i]).length * (8 : Nat) ≤ (140737488355328 : Nat) ∧
 (out ++ [i]).length ≤ (140737488355328 : Nat)) then
 K Ex.normal
 [AV.one (SV.ptr (0 : Nat) (1 : Nat) (0 : Nat) (0 : Nat)), AV.one (SV.own (1 : Nat) (1 : Nat)),
 AV.one (SV.int IntKind.i64 s), AV.one (SV.int IntKind.i64 c), AV.one (SV.own (2 : Nat) (1 : Nat)),
 AV.one (SV.int IntKind.i64 (IntKind.i64.wrap (i + (1 : Int))))]
 [Blk.cells
 [SV.int IntKind.i64 len, SV.int IntKind.i64 hop, SV.int IntKind.i64 gate, SV.int IntKind.i64 pct],
 Blk.row (3 : TypeId) (Row.ints IntKind.i64 bs),
 Blk.row (3 : Nat) (Row.ints IntKind.i64 (out ++ [i]))]
 else False
 else
 K Ex.normal
 [AV.one (SV.ptr (0 : Nat) (1 : Nat) (0 : Nat) (0 : Nat)), AV.one (SV.own (1 : Nat) (1 : Nat)),
 AV.one (SV.int IntKind.i64 s), AV.one (SV.int IntKind.i64 c), AV.one (SV.own (2 : Nat) (1 : Nat)),
 AV.one (SV.int IntKind.i64 (IntKind.i64.wrap (i + (1 : Int))))]
 [Blk.cells
 [SV.int IntKind.i64 len, SV.int IntKind.i64 hop, SV.int IntKind.i64 gate, SV.int IntKind.i64 pct],
 Blk.row (3 : TypeId) (Row.ints IntKind.i64 bs), Blk.row (3 : TypeId) (Row.ints IntKind.i64 out)]
 else False
 else False
 else
 K Ex.normal
 [AV.one (SV.ptr (0 : Nat) (1 : Nat) (0 : Nat) (0 : Nat)), AV.one (SV.own (1 : Nat) (1 : Nat)),
 AV.one (SV.int IntKind.i64 s), AV.one (SV.int IntKind.i64 c), AV.one (SV.own (2 : Nat) (1 : Nat)),
 AV.one (SV.int IntKind.i64 (IntKind.i64.wrap (i + (1 : Int))))]
 [Blk.cells [SV.int IntKind.i64 len, SV.int IntKind.i64 hop, SV.int IntKind.i64 gate, SV.int IntKind.i64 pct],
 Blk.row (3 : TypeId) (Row.ints IntKind.i64 bs), Blk.row (3 : TypeId) (Row.ints IntKind.i64 out)]
 else False
 else False
 else K (Ex.exit (2 : Nat)) [AV.one (SV.own (0 : Nat) (1 : Nat))] [Blk.row (3 : TypeId) (Row.ints IntKind.i64 out)]) := by kernel_rfl
theorem exrloud (len hop gate pct : Int) (x : List Int) (K : AV → List Blk → Prop) : evFn Erloud Tryd.f29 [.agg [.int .i64 len, .int .i64 hop, .int .i64 gate, .int .i64 pct], .one (.data (.ints .i64 x))] [] K = (
 (x.length ≤ (200 : Nat) ∧ x.all sampleG = true ∧ (1 : Int) ≤ len ∧ len ≤ (50 : Int) ∧ (1 : Int) ≤ hop ∧ hop ≤ len) ∧
 bif (enG len hop x (0 : Int)).isEmpty then
 ((x.length ≤ (200 : Nat) ∧
 x.all sampleG = true ∧ (1 : Int) ≤ len ∧ len ≤ (50 : Int) ∧ (1 : Int) ≤ hop ∧ hop ≤ len) ∧
 meterG len hop gate pct = true) ∧
 bif (ldI len hop gate pct x).isEmpty then
 K (AV.tup [TV.agg [SV.int IntKind.i64 (0 : Int), SV.int IntKind.i64 (0 : Int)], TV.one (SV.bool false)]) []
 else
 bif (↑(ldI len hop gate pct x).length : Int) == (0 : Int) then
 K (AV.tup [TV.agg [SV.int IntKind.i64 (0 : Int), SV.int IntKind.i64 (0 : Int)], TV.one (SV.bool false)]) []
 else False
 else
 ((x.length ≤ (200 : Nat) ∧
 x.all sampleG = true ∧ (1 : Int) ≤ len ∧ len ≤ (50 : Int) ∧ (1 : Int) ≤ hop ∧ hop ≤ len) ∧
 meterG len hop gate pct = true) ∧
 bif (ldI len hop gate pct x).isEmpty then
 K (AV.tup [TV.agg [SV.int IntKind.i64 (0 : Int), SV.int IntKind.i64 (0 : Int)], TV.one (SV.bool false)]) []
 else
 bif (↑(ldI len hop gate pct x).length : Int) == (0 : Int) then
 K (AV.tup [TV.agg [SV.int IntKind.i64 (0 : Int), SV.int IntKind.i64 (0 : Int)], TV.one (SV.bool false)]) []
 else
 ((((enG len hop x (0 : Int)).length ≤ (200 : Nat) ∧
 ∀ (e : Int), e ∈ enG len hop x (0 : Int) → (0 : Int) ≤ e ∧ e ≤ (53683814450 : Int)) ∧
 (ldI len hop gate pct x).length ≤ (200 : Nat) ∧
 ∀ (j : Int),
 j ∈ ldI len hop gate pct x → (0 : Int) ≤ j ∧ j < (↑(enG len hop x (0 : Int)).length : Int)) ∧
 (0 : Int) ≤ (0 : Int) ∧
 (0 : Int) ≤ (↑(ldI len hop gate pct x).length : Int) ∧ (0 : Int) ≤ (0 : Int) ∧ (0 : Int) ≤ (0 : Int)) ∧
 divG ((0 : Int) + sumI (enG len hop x (0 : Int)) (ldI len hop gate pct x))
 (IntKind.i64.wrap ((↑(ldI len hop gate pct x).length : Int) * len)) ≠
 (0 : Int) ∧
 K
 (AV.tup
 [TV.agg
 [SV.int IntKind.i64
 (wi
 (((0 : Int) + sumI (enG len hop x (0 : Int)) (ldI len hop gate pct x)).tdiv
 (divG ((0 : Int) + sumI (enG len hop x (0 : Int)) (ldI len hop gate pct x))
 (IntKind.i64.wrap ((↑(ldI len hop gate pct x).length : Int) * len))))),
 SV.int IntKind.i64
 (wi
 ((IntKind.i64.wrap ((↑(ldI len hop gate pct x).length : Int) * len)).tdiv
 (divG ((0 : Int) + sumI (enG len hop x (0 : Int)) (ldI len hop gate pct x))
 (IntKind.i64.wrap ((↑(ldI len hop gate pct x).length : Int) * len)))))],
 TV.one (SV.bool true)])
 []) := by kernel_rfl
theorem exrlouda (len hop gate pct z0 z1 s i : Int) (bs is : List Int) (K : Ex → List AV → List Blk → Prop) : evBody Erloud (lb Tryd.f29 0) [2, 4, 6, 7, 8, 9] [2, 4, 7, 8] [.one (.ptr 0 1 0 0), .one (.ptr 1 1 0 0), .one (.own 2 1), .one (.own 3 1), .one (.int .i64 s), .one (.int .i64 i)] [.cells [.int .i64 len, .int .i64 hop, .int .i64 gate, .int .i64 pct], .cells [.int .i64 z0, .int .i64 z1], .row 3 (.ints .i64 bs), .row 3 (.ints .i64 is)] K = (
 bif decide (i < (↑is.length : Int)) then
 bif decide ((0 : Int) ≤ i) && decide (i < (↑is.length : Int)) then
 bif decide (i.toNat + (0 : Nat) < is.length) then
 bif
 decide ((0 : Int) ≤ is.getD (i.toNat + (0 : Nat)) (0 : Int)) &&
 decide (is.getD (i.toNat + (0 : Nat)) (0 : Int) < (↑bs.length : Int)) then
 bif decide ((is.getD (i.toNat + (0 : Nat)) (0 : Int)).toNat + (0 : Nat) < bs.length) then
 K Ex.normal
 [AV.one (SV.ptr (0 : Nat) (1 : Nat) (0 : Nat) (0 : Nat)),
 AV.one (SV.ptr (1 : Nat) (1 : Nat) (0 : Nat) (0 : Nat)), AV.one (SV.own (2 : Nat) (1 : Nat)),
 AV.one (SV.own (3 : Nat) (1 : Nat)),
 AV.one
 (SV.int IntKind.i64
 (IntKind.i64.wrap
 (s + bs.getD ((is.getD (i.toNat + (0 : Nat)) (0 : Int)).toNat + (0 : Nat)) (0 : Int)))),
 AV.one (SV.int IntKind.i64 (IntKind.i64.wrap (i + (1 : Int))))]
 [Blk.cells
 [SV.int IntKind.i64 len, SV.int IntKind.i64 hop, SV.int IntKind.i64 gate, SV.int IntKind.i64 pct],
 Blk.cells [SV.int IntKind.i64 z0, SV.int IntKind.i64 z1], Blk.row (3 : TypeId) (Row.ints IntKind.i64 bs),
 Blk.row (3 : TypeId) (Row.ints IntKind.i64 is)]
 else False
 else False
 else False
 else False
 else
 K (Ex.exit (0 : Nat))
 [AV.one (SV.ptr (0 : Nat) (1 : Nat) (0 : Nat) (0 : Nat)), AV.one (SV.ptr (1 : Nat) (1 : Nat) (0 : Nat) (0 : Nat)),
 AV.one (SV.own (2 : Nat) (1 : Nat)), AV.one (SV.int IntKind.i64 s)]
 [Blk.cells [SV.int IntKind.i64 len, SV.int IntKind.i64 hop, SV.int IntKind.i64 gate, SV.int IntKind.i64 pct],
 Blk.cells [SV.int IntKind.i64 z0, SV.int IntKind.i64 z1], Blk.row (3 : TypeId) (Row.ints IntKind.i64 is)]) := by kernel_rfl
end Go.Ev

namespace Go.Ev
open Go Go.Proofs
attribute [local irreducible] evFn evBody evRound
set_option maxRecDepth 20000

/-! ### Plain facts -/
theorem gcdG_nn (a b : Int) (ha : 0 ≤ a) (hb : 0 ≤ b) : 0 ≤ gcdG a b := by
  induction hn : b.natAbs using Nat.strongRecOn generalizing a b with
  | ind n ih =>
    subst hn
    rw [gcdG]
    by_cases h : b = 0
    · rw [if_pos h]; exact ha
    · rw [if_neg h]
      exact ih _ (by rw [Int.natAbs_tmod]; exact Nat.mod_lt _ (by omega)) b _ hb (Int.tmod_nonneg b ha) rfl
theorem divG_gcdG {a b : Int} (ha : 0 ≤ a) (hb : 0 < b) (hb2 : b ≤ 9223372036854775807) : divG a b = gcdG a b ∧ 0 < gcdG a b ∧ gcdG a b ≤ b ∧ gcdG a b ∣ a ∧ gcdG a b ∣ b := by
  obtain ⟨h1, h2, h3, h4, h5⟩ := gcdG_pos (a := a) hb hb2
  have hn := gcdG_nn a b ha (by omega)
  have hg := natAbs_gcdG a b
  have e : sizeG (gcdG a b) = gcdG a b := by omega
  have : divG a b = sizeG (gcdG a b) := by unfold divG; rw [if_neg (by omega)]
  rw [this, e]
  rw [e] at h2 h3 h4 h5
  exact ⟨rfl, h2, h3, h5, h4⟩
theorem tdiv_le {a g : Int} (ha : 0 ≤ a) (hg : 0 < g) : 0 ≤ a.tdiv g ∧ a.tdiv g ≤ a := ⟨Int.tdiv_nonneg ha (by omega), Int.tdiv_le_self _ ha⟩
theorem firstE2 {a b : Int} (h : firstE [a, b] = 0) : a = 0 ∧ b = 0 := by
  simp only [firstE] at h
  by_cases ha : a = 0
  · subst ha
    by_cases hb : b = 0
    · exact ⟨rfl, hb⟩
    · rw [beq_eq_false_iff_ne.2 hb] at h
      exact absurd h hb
  · rw [beq_eq_false_iff_ne.2 ha] at h
    exact absurd h ha
theorem sigE_zero {x : List Int} (h : sigE x = 0) : x.length ≤ 200 ∧ x.all sampleG = true := by
  unfold sigE at h
  by_cases h1 : (x.length : Int) ≤ 200
  · rw [decide_eq_true h1, cond_true] at h
    cases h2 : x.all sampleG with
    | true => exact ⟨by omega, rfl⟩
    | false => rw [h2] at h; cases h
  · rw [decide_eq_false h1] at h; cases h
theorem meE_zero {len hop gate pct : Int} {x : List Int} (h : meE len hop gate pct x = 0) : meterG len hop gate pct = true ∧ sigE x = 0 := by
  obtain ⟨h1, h2⟩ := firstE2 h
  cases hm : meterG len hop gate pct with
  | true => exact ⟨rfl, h2⟩
  | false => rw [hm] at h1; cases h1
theorem okX_of {len hop gate pct : Int} {x : List Int} (h1 : meterG len hop gate pct = true) (h2 : sigE x = 0) : okX x len hop := by
  obtain ⟨a1, a2, a3, a4, _⟩ := meter_facts h1
  obtain ⟨b1, b2⟩ := sigE_zero h2
  exact ⟨b1, b2, a1, a2, a3, a4⟩
theorem sqs_range : ∀ {p : List Int}, p.all sampleG = true → 0 ≤ sqs p ∧ sqs p ≤ 1073676289 * p.length
  | [], _ => by simp [sqs]
  | a :: l, h => by
    simp only [List.all_cons, Bool.and_eq_true] at h
    obtain ⟨i1, i2⟩ := sqs_range h.2
    obtain ⟨s1, s2⟩ := sq_range (sample_range h.1)
    simp only [sqs, List.length_cons]
    omega
theorem enG_facts {x : List Int} {len hop : Int} (hx : x.all sampleG = true) (hl : 1 ≤ len) (hl2 : len ≤ 50) (hh : 1 ≤ hop) (n : Nat) : ∀ a : Int, 0 ≤ a → ((x.length : Int) + 1 - a).toNat = n → ((enG len hop x a).length ≤ ((x.length : Int) - a).toNat ∧ ∀ e ∈ enG len hop x a, 0 ≤ e ∧ e ≤ 53683814450) := by
  induction n using Nat.strongRecOn with
  | ind n ih =>
    intro a ha hn
    by_cases h : a + len ≤ x.length
    · rw [enG_yes h hh hl]
      obtain ⟨i1, i2⟩ := ih _ (by omega) (a + hop) (by omega) rfl
      obtain ⟨s1, s2⟩ := sqs_range (part_all hx a len)
      have hp : (partG x a len).length ≤ 50 := by unfold partG; rw [List.length_take]; omega
      refine ⟨by rw [List.length_cons]; omega, fun e he => ?_⟩
      rcases List.mem_cons.1 he with rfl | he
      · omega
      · exact i2 e he
    · rw [enG_no h]
      exact ⟨Nat.zero_le _, fun e he => absurd he (List.not_mem_nil)⟩
theorem okB_en {x : List Int} {len hop : Int} (h : okX x len hop) : okB (enG len hop x 0) := by
  obtain ⟨h1, h2, h3, h4, h5, h6⟩ := h
  obtain ⟨i1, i2⟩ := enG_facts h2 h3 h4 h5 _ 0 (by decide) rfl
  exact ⟨by omega, i2⟩
theorem gatI_facts {len gate pct c s : Int} : ∀ {l : List Int} {i : Int}, (gatI len gate pct c s i l).length ≤ l.length ∧ ∀ j ∈ gatI len gate pct c s i l, i ≤ j ∧ j < i + l.length
  | [], _ => ⟨Nat.le_refl _, fun j hj => absurd hj List.not_mem_nil⟩
  | e :: l, i => by
    obtain ⟨h1, h2⟩ := gatI_facts (len := len) (gate := gate) (pct := pct) (c := c) (s := s) (l := l) (i := i + 1)
    simp only [gatI, List.length_cons]
    cases keepG len gate pct c s e with
    | true =>
      refine ⟨by rw [cond_true, List.length_cons]; omega, fun j hj => ?_⟩
      rw [cond_true] at hj
      rcases List.mem_cons.1 hj with rfl | hj
      · omega
      · have := h2 j hj; omega
    | false =>
      refine ⟨by rw [cond_false]; omega, fun j hj => ?_⟩
      rw [cond_false] at hj
      have := h2 j hj; omega
theorem okI_ld {len hop gate pct : Int} {x : List Int} (h : okX x len hop) : okI (enG len hop x 0) (ldI len hop gate pct x) := by
  have hb := okB_en h
  obtain ⟨h1, h2⟩ := gatI_facts (len := len) (gate := gate) (pct := pct) (c := cntG len gate (enG len hop x 0)) (s := smG len gate (enG len hop x 0)) (l := enG len hop x 0) (i := 0)
  have hl := hb.1
  refine ⟨hb, Nat.le_trans h1 hl, fun j hj => ?_⟩
  have := h2 j hj
  omega
theorem ldI_nil {len hop gate pct : Int} {x : List Int} (h : (enG len hop x 0).isEmpty = true) : (ldI len hop gate pct x).isEmpty = true := by
  unfold ldI
  rw [List.isEmpty_iff.1 h]
  rfl
theorem sumI_range {bs : List Int} (h : okB bs) : ∀ (l : List Int), 0 ≤ sumI bs l ∧ sumI bs l ≤ 53683814450 * l.length
  | [] => by simp [sumI]
  | j :: l => by
    obtain ⟨i1, i2⟩ := sumI_range h l
    have := okB_get h j.toNat
    simp only [sumI, List.length_cons]
    omega
theorem ld_facts {len hop gate pct : Int} {x : List Int} (h : okX x len hop) (hn : (ldI len hop gate pct x).isEmpty = false) :
    0 ≤ ldN len hop gate pct x ∧ ldN len hop gate pct x ≤ 10736762890000 ∧ 1 ≤ ldD len hop gate pct x ∧ ldD len hop gate pct x ≤ 10000 := by
  obtain ⟨hb, hl, _⟩ := okI_ld (gate := gate) (pct := pct) h
  obtain ⟨i1, i2⟩ := sumI_range hb (ldI len hop gate pct x)
  obtain ⟨_, _, h3, h4, _, _⟩ := h
  have hpos : 1 ≤ (ldI len hop gate pct x).length := by
    cases hc : ldI len hop gate pct x with
    | nil => rw [hc] at hn; cases hn
    | cons => simp
  have m1 := Int.mul_le_mul (show ((ldI len hop gate pct x).length : Int) ≤ 200 by omega) h4 (by omega) (by decide : (0 : Int) ≤ 200)
  have m2 := Int.mul_le_mul (show (1 : Int) ≤ ((ldI len hop gate pct x).length : Int) by omega) h3 (by decide) (by omega)
  refine ⟨i1, by unfold ldN; omega, by unfold ldD; omega, by unfold ldD; omega⟩
theorem sumI_step {bs is : List Int} {i : Nat} (h : i < is.length) : sumI bs (is.drop i) = bs.getD (is.getD i 0).toNat 0 + sumI bs (is.drop (i + 1)) := by
  rw [drop_step 0 h]; rfl

/-! ### Functions -/
theorem loklow : LoopOK Elow (lb Tryd.f102 0) [0, 1, 4, 5, 6] [0, 1, 4, 5] lowL := by
  refine loopOK .nil (noInner (by kernel_rfl)) (fun vs _ => match vs with
    | [_, _, _, _, .one (.int .i64 b)] => b.natAbs
    | _ => 0) fun vs σ k h => ?_
  unfold lowL at h
  split at h
  · rename_i n d a b
    rw [exlowa n d a b _]
    by_cases hb : b = 0
    · subst hb
      rw [gcdG] at h
      simpa using h
    · rw [gcdG, if_neg hb] at h
      simp only [bne, beq_eq_false_iff_ne.2 hb, hb, decide_false, Bool.not_false, cond_true]
      exact ⟨h, by rw [Int.natAbs_tmod]; exact Nat.mod_lt _ (by omega)⟩
  · exact h.elim
theorem oklow : SpecOK Tryd.prog 102 lowS := by
  refine specOK (n := 22) (m := 0) (lps := [(2, .spec [0, 1, 4, 5, 6] [0, 1, 4, 5] lowL)]) .nil Tryd.func102 (by kernel_rfl) (by kernel_rfl) (theLoops (n := 1) (by kernel_rfl) fun i hi => ?_) fun args σ K h => ?_
  · match i, hi with
    | 0, _ => exact loopHyp_of (key := 2) (by kernel_rfl) rfl loklow
  · unfold lowS at h
    split at h
    · rename_i n d
      rw [exlow n d K]
      obtain ⟨h1, h⟩ := h
      rw [decide_eq_false h1]
      exact h
    · exact h.elim
theorem okgb : SpecOK Tryd.prog 21 gbS := by
  refine specOK (n := 21) (m := 0) (lps := []) (.cons okmet (.cons oksig (.cons ok69 (.cons oken (.cons okgat .nil))))) Tryd.func21 (by kernel_rfl) (by kernel_rfl) (noLoops (by kernel_rfl)) fun args σ K h => ?_
  unfold gbS at h
  split at h
  · rename_i len hop gate pct x
    rw [exgb len hop gate pct x K]
    obtain ⟨h1, h⟩ := h
    refine ⟨h1, by simp, ?_⟩
    by_cases he : meE len hop gate pct x = 0
    · obtain ⟨hm, hs⟩ := meE_zero he
      have hX := okX_of hm hs
      rw [he] at h
      simp only [beq_self_eq_true, cond_true] at h
      have he' : firstE [bif meterG len hop gate pct then (0 : Int) else (2 : Int), sigE x] = 0 := he
      rw [he']
      simp only [bne_self_eq_false, cond_false]
      refine ⟨hX, ?_⟩
      cases hE : (enG len hop x 0).isEmpty with
      | true =>
        have hg : (gatG len gate pct (enG len hop x 0)).isEmpty = true := ldI_nil hE
        rw [hg, cond_true] at h
        rw [cond_true]
        exact ⟨⟨⟨by decide, fun e he => absurd he List.not_mem_nil⟩, hm⟩, h⟩
      | false =>
        rw [cond_false]
        exact ⟨⟨okB_en hX, hm⟩, h⟩
    · have e1 : (meE len hop gate pct x == 0) = false := beq_eq_false_iff_ne.2 he
      have e2 : (firstE [bif meterG len hop gate pct then (0 : Int) else (2 : Int), sigE x] != 0) = true := bne_iff_ne.2 (show ¬ meE len hop gate pct x = 0 from he)
      rw [e1, cond_false] at h
      rw [e2, cond_true]
      exact h
  · exact h.elim
theorem lokloud : LoopOK Eloud (lb Tryd.f23 0) [2, 4, 7, 8, 9, 33, 34, 35] [2, 4, 8, 9] sumL := by
  refine loopOK (.cons okmet (.cons oksig (.cons ok69 (.cons oken (.cons okgat (.cons oklow .nil)))))) (noInner (by kernel_rfl)) (fun vs _ => match vs with
    | [_, _, _, _, _, _, .one (.int .i64 n), .one (.int .i64 i)] => (n - i).toNat
    | _ => 0) fun vs σ k h => ?_
  unfold sumL at h
  split at h
  · rename_i s n i len hop gate pct z0 z1 bs is
    rw [exlouda len hop gate pct z0 z1 s n i bs is _]
    obtain ⟨⟨hI, rfl, h1, h2, h3, h4⟩, h⟩ := h
    have hl := hI.2.1
    by_cases hi : i < is.length
    · have hi' : i.toNat < is.length := by omega
      have hj : is.getD i.toNat 0 ∈ is := by rw [getD_of_lt hi']; exact List.getElem_mem hi'
      obtain ⟨j1, j2⟩ := hI.2.2 _ hj
      have hb := okB_get hI.1 (is.getD i.toNat 0).toNat
      have hmu : ((is.length : Int) - (i + 1)).toNat < ((is.length : Int) - i).toNat := by omega
      have j3 : (is.getD i.toNat 0).toNat < bs.length := by omega
      rw [sumI_step hi'] at h
      simp only [Nat.add_zero]
      rw [wrap_id (n := s + bs.getD (is.getD i.toNat 0).toNat 0) (by omega) (by omega), wrap_id (n := i + 1) (by omega) (by omega)]
      simp only [hi, hi', h1, j1, j2, j3, decide_true, Bool.and_self, cond_true]
      refine ⟨⟨⟨hI, rfl, by omega, by omega, by omega, by omega⟩, ?_⟩, hmu⟩
      rw [show (i + 1).toNat = i.toNat + 1 by omega, Int.add_assoc]
      exact h
    · rw [List.drop_eq_nil_of_le (by omega)] at h
      simp only [sumI, Int.add_zero] at h
      simp only [hi, decide_false, cond_false]
      exact h
  · exact h.elim
theorem okloud : SpecOK Tryd.prog 23 loudS := by
  refine specOK (n := 58) (m := 0) (lps := [(10, .spec [2, 4, 7, 8, 9, 33, 34, 35] [2, 4, 8, 9] sumL)]) (.cons okmet (.cons oksig (.cons ok69 (.cons oken (.cons okgat (.cons oklow .nil)))))) Tryd.func23 (by kernel_rfl) (by kernel_rfl) (theLoops (n := 1) (by kernel_rfl) fun i hi => ?_) fun args σ K h => ?_
  · match i, hi with
    | 0, _ => exact loopHyp_of (key := 10) (by kernel_rfl) rfl lokloud
  · unfold loudS at h
    split at h
    · rename_i len hop gate pct x
      rw [exloud len hop gate pct x K]
      obtain ⟨h1, h⟩ := h
      refine ⟨h1, by simp, ?_⟩
      by_cases he : meE len hop gate pct x = 0
      · obtain ⟨hm, hs⟩ := meE_zero he
        have hX := okX_of hm hs
        rw [he] at h
        simp only [beq_self_eq_true, cond_true] at h
        have he' : firstE [bif meterG len hop gate pct then (0 : Int) else (2 : Int), sigE x] = 0 := he
        rw [he']
        simp only [bne_self_eq_false, cond_false]
        refine ⟨hX, ?_⟩
        cases hE : (enG len hop x 0).isEmpty with
        | true =>
          rw [ldI_nil hE, cond_true] at h
          rw [cond_true]
          exact ⟨⟨⟨by decide, fun e he => absurd he List.not_mem_nil⟩, hm⟩, h⟩
        | false =>
          rw [cond_false]
          refine ⟨⟨okB_en hX, hm⟩, ?_⟩
          cases hg : (ldI len hop gate pct x).isEmpty with
          | true =>
            have hg' : (gatG len gate pct (enG len hop x 0)).isEmpty = true := hg
            rw [hg, cond_true] at h
            rw [hg', cond_true]
            exact h
          | false =>
            have hg' : (gatG len gate pct (enG len hop x 0)).isEmpty = false := hg
            rw [hg, cond_false] at h
            rw [hg', cond_false]
            obtain ⟨n1, n2, d1, d2⟩ := ld_facts hX hg
            have hI := okI_ld (gate := gate) (pct := pct) hX
            have hlen : (((gatG len gate pct (enG len hop x 0)).length : Int) == 0) = false := by
              refine beq_eq_false_iff_ne.2 fun e => ?_
              cases hc : gatG len gate pct (enG len hop x 0) with
              | nil => rw [hc] at hg'; cases hg'
              | cons => rw [hc] at e; simp at e; omega
            rw [hlen, cond_false, Int.zero_add, wrap_id (n := ((gatG len gate pct (enG len hop x 0)).length : Int) * len) (by change -9223372036854775808 ≤ ldD len hop gate pct x; omega) (by change ldD len hop gate pct x < 9223372036854775808; omega)]
            obtain ⟨_, g1, g2, g3, g4⟩ := divG_gcdG (a := ldN len hop gate pct x) (b := ldD len hop gate pct x) n1 (by omega) (by omega)
            obtain ⟨q1, q2⟩ := tdiv_le n1 g1
            refine ⟨⟨hI, by first | rfl | trivial, by decide, by omega, by decide, by decide⟩, ?_, ?_⟩
            · change gcdG (ldN len hop gate pct x) (ldD len hop gate pct x) ≠ 0
              omega
            · have hw : decide (wi ((ldN len hop gate pct x).tdiv (gcdG (ldN len hop gate pct x) (ldD len hop gate pct x))) > 1000000000000000) = false := by
                rw [wi_id (by omega) (by omega)]
                exact decide_eq_false (by omega)
              change bif decide (wi ((ldN len hop gate pct x).tdiv (gcdG (ldN len hop gate pct x) (ldD len hop gate pct x))) > 1000000000000000) then _ else _
              rw [hw, cond_false]
              exact h
      · have e1 : (meE len hop gate pct x == 0) = false := beq_eq_false_iff_ne.2 he
        have e2 : (firstE [bif meterG len hop gate pct then (0 : Int) else (2 : Int), sigE x] != 0) = true := bne_iff_ne.2 (show ¬ meE len hop gate pct x = 0 from he)
        rw [e1, cond_false] at h
        rw [e2, cond_true]
        exact h
    · exact h.elim

/-! ### The reference -/
theorem lokrgata : LoopOK Ergat (lb Tryd.f28 0) [2, 5, 6, 7, 8] [2, 5, 6, 7] rcntL := by
  refine loopOK (.cons okren .nil) (noInner (by kernel_rfl)) (fun vs σ => match vs, σ with
    | [_, _, _, _, .one (.int .i64 i)], [_, .row _ (.ints _ bs)] => ((bs.length : Int) - i).toNat
    | _, _ => 0) fun vs σ k h => ?_
  unfold rcntL at h
  split at h
  · rename_i s c i len hop gate pct
    obtain ⟨rfl, h⟩ := h
    rw [exrgata len hop gate pct s c _]
    exact h
  · rename_i s c i len hop gate pct bs
    rw [exrgatb len hop gate pct s c i bs _]
    obtain ⟨⟨⟨h1, h2⟩, h3, h4, h5, h6, h7, h8⟩, h⟩ := h
    have hbl := h1.1
    obtain ⟨_, _, _, _, _, _, _, _, f1, f2⟩ := meter_facts h2
    by_cases hi : i < bs.length
    · have hi' : i.toNat < bs.length := by omega
      have he := okB_get h1 i.toNat
      have hmu : ((bs.length : Int) - (i + 1)).toNat < ((bs.length : Int) - i).toNat := by omega
      rw [cnt_step hi', sm_step hi'] at h
      simp only [Nat.add_zero]
      rw [wrap_id (n := c + 1) (by omega) (by omega), wrap_id (n := s + bs.getD i.toNat 0) (by omega) (by omega), wrap_id (n := i + 1) (by omega) (by omega), wrap_id (n := gate * len) (by omega) (by omega)]
      simp only [hi, hi', h3, decide_true, Bool.and_self, cond_true]
      unfold passG at h
      cases hp : decide (bs.getD i.toNat 0 ≥ gate * len) with
      | true =>
        rw [hp] at h
        refine ⟨⟨⟨⟨h1, h2⟩, by omega, by omega, by omega, by omega, by omega, by omega⟩, ?_⟩, hmu⟩
        rw [show (i + 1).toNat = i.toNat + 1 by omega, Int.add_assoc, Int.add_assoc]
        exact h
      | false =>
        rw [hp] at h
        simp only [cond_false, Int.zero_add] at h
        refine ⟨⟨⟨⟨h1, h2⟩, by omega, by omega, by omega, by omega, by omega, by omega⟩, ?_⟩, hmu⟩
        rw [show (i + 1).toNat = i.toNat + 1 by omega]
        exact h
    · rw [List.drop_eq_nil_of_le (by omega)] at h
      simp only [cntG, smG, Int.add_zero] at h
      simp only [hi, decide_false, cond_false]
      exact h
  · exact h.elim
theorem lokrgatb : LoopOK Ergat (lb Tryd.f28 1) [2, 5, 6, 7, 9, 10] [9] rgatL := by
  refine loopOK (.cons okren .nil) (noInner (by kernel_rfl)) (fun vs σ => match vs, σ with
    | [_, _, _, _, _, .one (.int .i64 i)], _ :: .row _ (.ints _ bs) :: _ => ((bs.length : Int) - i).toNat
    | _, _ => 0) fun vs σ k h => ?_
  unfold rgatL at h
  split at h
  · rename_i s c i len hop gate pct
    obtain ⟨rfl, h⟩ := h
    rw [exrgatc len hop gate pct s c _]
    exact h
  · rename_i s c i len hop gate pct bs
    rw [exrgatd len hop gate pct s c i bs _]
    obtain ⟨⟨⟨h1, h2, h5, h6, h7, h8⟩, h3, h4⟩, h⟩ := h
    have hbl := h1.1
    obtain ⟨_, _, _, _, _, _, _, _, f1, f2⟩ := meter_facts h2
    by_cases hi : i < bs.length
    · have hi' : i.toNat < bs.length := by omega
      have he := okB_get h1 i.toNat
      have hmu : ((bs.length : Int) - (i + 1)).toNat < ((bs.length : Int) - i).toNat := by omega
      obtain ⟨w1, w2⟩ := keep_cond h2 he ⟨h5, h6⟩ ⟨h7, h8⟩
      rw [gat_step h3 hi] at h
      simp only [Nat.add_zero]
      simp only [w1, w2]
      rw [wrap_id (n := i + 1) (by omega) (by omega), wrap_id (n := gate * len) (by omega) (by omega)]
      simp only [hi, hi', h3, decide_true, Bool.and_self, cond_true]
      unfold keepG passG at h
      cases hp : decide (bs.getD i.toNat 0 ≥ gate * len) with
      | true =>
        rw [hp, Bool.true_and] at h
        simp only [cond_true]
        cases hq : decide (bs.getD i.toNat 0 * 100 * c ≥ pct * s) with
        | true =>
          rw [hq] at h
          exact ⟨⟨⟨⟨h1, h2, h5, h6, h7, h8⟩, by omega, by omega, by simp only [List.length_cons, List.length_nil]; omega⟩, h⟩, hmu⟩
        | false =>
          rw [hq] at h
          exact ⟨⟨⟨⟨h1, h2, h5, h6, h7, h8⟩, by omega, by omega⟩, h⟩, hmu⟩
      | false =>
        rw [hp, Bool.false_and] at h
        exact ⟨⟨⟨⟨h1, h2, h5, h6, h7, h8⟩, by omega, by omega⟩, h⟩, hmu⟩
    · rw [List.drop_eq_nil_of_le (by omega)] at h
      simp only [hi, decide_false, cond_false]
      exact h
  · rename_i s c i len hop gate pct bs out
    rw [exrgate len hop gate pct s c i bs out _]
    obtain ⟨⟨⟨h1, h2, h5, h6, h7, h8⟩, h3, h4, h9⟩, h⟩ := h
    have hbl := h1.1
    obtain ⟨_, _, _, _, _, _, _, _, f1, f2⟩ := meter_facts h2
    by_cases hi : i < bs.length
    · have hi' : i.toNat < bs.length := by omega
      have he := okB_get h1 i.toNat
      have hmu : ((bs.length : Int) - (i + 1)).toNat < ((bs.length : Int) - i).toNat := by omega
      obtain ⟨w1, w2⟩ := keep_cond h2 he ⟨h5, h6⟩ ⟨h7, h8⟩
      rw [gat_step h3 hi] at h
      have hlen : (out ++ [i]).length = out.length + 1 := by simp
      simp only [Nat.add_zero]
      simp only [w1, w2]
      rw [wrap_id (n := i + 1) (by omega) (by omega), wrap_id (n := gate * len) (by omega) (by omega), hlen]
      simp only [hi, hi', h3, decide_true, Bool.and_self, cond_true]
      unfold keepG passG at h
      cases hp : decide (bs.getD i.toNat 0 ≥ gate * len) with
      | true =>
        rw [hp, Bool.true_and] at h
        simp only [cond_true]
        cases hq : decide (bs.getD i.toNat 0 * 100 * c ≥ pct * s) with
        | true =>
          rw [hq] at h
          simp only [cond_true]
          rw [decide_eq_true (by omega), cond_true]
          refine ⟨⟨⟨⟨h1, h2, h5, h6, h7, h8⟩, by omega, by omega, by rw [hlen]; omega⟩, ?_⟩, hmu⟩
          rw [List.append_assoc]
          exact h
        | false =>
          rw [hq] at h
          exact ⟨⟨⟨⟨h1, h2, h5, h6, h7, h8⟩, by omega, by omega, by omega⟩, h⟩, hmu⟩
      | false =>
        rw [hp, Bool.false_and] at h
        exact ⟨⟨⟨⟨h1, h2, h5, h6, h7, h8⟩, by omega, by omega, by omega⟩, h⟩, hmu⟩
    · rw [List.drop_eq_nil_of_le (by omega)] at h
      simp only [gatI, List.append_nil] at h
      simp only [hi, decide_false, cond_false]
      exact h
  · exact h.elim
theorem okrgat : SpecOK Tryd.prog 28 rgatS := by
  refine specOK (n := 73) (m := 0) (lps := [(4, .spec [2, 5, 6, 7, 8] [2, 5, 6, 7] rcntL), (10, .spec [2, 5, 6, 7, 9, 10] [9] rgatL)]) (.cons okren .nil) Tryd.func28 (by kernel_rfl) (by kernel_rfl) (theLoops (n := 2) (by kernel_rfl) fun i hi => ?_) fun args σ K h => ?_
  · match i, hi with
    | 0, _ => exact loopHyp_of (key := 4) (by kernel_rfl) rfl lokrgata
    | 1, _ => exact loopHyp_of (key := 10) (by kernel_rfl) rfl lokrgatb
  · unfold rgatS at h
    split at h
    · rename_i len hop gate pct x
      rw [exrgat len hop gate pct x K]
      obtain ⟨⟨hX, hm⟩, h⟩ := h
      refine ⟨hX, ?_⟩
      have hb := okB_en hX
      obtain ⟨r1, r2, r3, r4⟩ := cnt_range (len := len) (gate := gate) hb.2
      have hbl := hb.1
      cases hE : (enG len hop x 0).isEmpty with
      | true =>
        rw [ldI_nil hE, cond_true] at h
        rw [cond_true]
        exact ⟨rfl, rfl, h⟩
      | false =>
        rw [cond_false]
        simp only [Int.zero_add]
        exact ⟨⟨⟨hb, hm⟩, by decide, by omega, by decide, by decide, by decide, by decide⟩, ⟨⟨hb, hm, r1, by omega, r3, by omega⟩, by decide, by omega⟩, h⟩
    · exact h.elim
theorem lokrloud : LoopOK Erloud (lb Tryd.f29 0) [2, 4, 6, 7, 8, 9] [2, 4, 7, 8] rsumL := by
  refine loopOK (.cons okren (.cons okrgat (.cons ok76 .nil))) (noInner (by kernel_rfl)) (fun vs σ => match vs, σ with
    | [_, _, _, _, _, .one (.int .i64 i)], [_, _, _, .row _ (.ints _ is)] => ((is.length : Int) - i).toNat
    | _, _ => 0) fun vs σ k h => ?_
  unfold rsumL at h
  split at h
  · rename_i s i len hop gate pct z0 z1 bs is
    rw [exrlouda len hop gate pct z0 z1 s i bs is _]
    obtain ⟨⟨hI, h1, h2, h3, h4⟩, h⟩ := h
    have hl := hI.2.1
    by_cases hi : i < is.length
    · have hi' : i.toNat < is.length := by omega
      have hj : is.getD i.toNat 0 ∈ is := by rw [getD_of_lt hi']; exact List.getElem_mem hi'
      obtain ⟨j1, j2⟩ := hI.2.2 _ hj
      have hb := okB_get hI.1 (is.getD i.toNat 0).toNat
      have hmu : ((is.length : Int) - (i + 1)).toNat < ((is.length : Int) - i).toNat := by omega
      have j3 : (is.getD i.toNat 0).toNat < bs.length := by omega
      rw [sumI_step hi'] at h
      simp only [Nat.add_zero]
      rw [wrap_id (n := s + bs.getD (is.getD i.toNat 0).toNat 0) (by omega) (by omega), wrap_id (n := i + 1) (by omega) (by omega)]
      simp only [hi, hi', h1, j1, j2, j3, decide_true, Bool.and_self, cond_true]
      refine ⟨⟨⟨hI, by omega, by omega, by omega, by omega⟩, ?_⟩, hmu⟩
      rw [show (i + 1).toNat = i.toNat + 1 by omega, Int.add_assoc]
      exact h
    · rw [List.drop_eq_nil_of_le (by omega)] at h
      simp only [sumI, Int.add_zero] at h
      simp only [hi, decide_false, cond_false]
      exact h
  · exact h.elim
theorem okrloud : SpecOK Tryd.prog 29 rloudS := by
  refine specOK (n := 42) (m := 0) (lps := [(6, .spec [2, 4, 6, 7, 8, 9] [2, 4, 7, 8] rsumL)]) (.cons okren (.cons okrgat (.cons ok76 .nil))) Tryd.func29 (by kernel_rfl) (by kernel_rfl) (theLoops (n := 1) (by kernel_rfl) fun i hi => ?_) fun args σ K h => ?_
  · match i, hi with
    | 0, _ => exact loopHyp_of (key := 6) (by kernel_rfl) rfl lokrloud
  · unfold rloudS at h
    split at h
    · rename_i len hop gate pct x
      rw [exrloud len hop gate pct x K]
      obtain ⟨⟨hX, hm⟩, h⟩ := h
      refine ⟨hX, ?_⟩
      cases hE : (enG len hop x 0).isEmpty with
      | true =>
        have hl := ldI_nil (gate := gate) (pct := pct) hE
        rw [hl, cond_true] at h
        rw [cond_true, hl, cond_true]
        exact ⟨⟨hX, hm⟩, h⟩
      | false =>
        rw [cond_false]
        refine ⟨⟨hX, hm⟩, ?_⟩
        cases hg : (ldI len hop gate pct x).isEmpty with
        | true =>
          rw [hg, cond_true] at h
          exact h
        | false =>
          rw [hg, cond_false] at h
          rw [cond_false]
          obtain ⟨n1, n2, d1, d2⟩ := ld_facts hX hg
          have hI := okI_ld (gate := gate) (pct := pct) hX
          have hlen : (((ldI len hop gate pct x).length : Int) == 0) = false := by
            refine beq_eq_false_iff_ne.2 fun e => ?_
            cases hc : ldI len hop gate pct x with
            | nil => rw [hc] at hg; cases hg
            | cons => rw [hc] at e; simp at e; omega
          rw [hlen, cond_false, Int.zero_add, wrap_id (n := ((ldI len hop gate pct x).length : Int) * len) (by change -9223372036854775808 ≤ ldD len hop gate pct x; omega) (by change ldD len hop gate pct x < 9223372036854775808; omega)]
          obtain ⟨g0, g1, g2, g3, g4⟩ := divG_gcdG (a := ldN len hop gate pct x) (b := ldD len hop gate pct x) n1 (by omega) (by omega)
          have g0' : divG (sumI (enG len hop x 0) (ldI len hop gate pct x)) (((ldI len hop gate pct x).length : Int) * len) = gcdG (ldN len hop gate pct x) (ldD len hop gate pct x) := g0
          rw [g0']
          exact ⟨⟨hI, by decide, by omega, by decide, by decide⟩, by omega, h⟩
    · exact h.elim
end Go.Ev
