/-
  Chapter 9, contracts: moves of notes.
-/
import Derived.Test.YtiflkochjfiegaaDoorC9MA
import Derived.Test.YtiflkochjfiegaaDoorC9G
import Derived.KernelRfl
set_option linter.unusedVariables false
set_option linter.unusedSimpArgs false
set_option linter.unusedSectionVars false
namespace Go.Ev
open Go Go.Proofs
set_option maxRecDepth 20000

def toB (d : List D) (j : Nat) : Bool := (d.getD j (.int 0)).toBool
def okN1 (B : Int) : List D → Bool
  | [.int a, .int l, .str _] => decide (0 ≤ a) && (decide (a ≤ B) && (decide (0 ≤ l) && decide (l ≤ B)))
  | _ => false
def wfN : List D → Bool
  | [.int _, .int _, .str _] => true
  | _ => false
def wfE : List D → Bool
  | [.bool _, .int _, .int _] => true
  | _ => false
def okE1 (e : List D) : Bool := wfE e && !oddD e
/-- What one edit makes of a note, of notes; what edits make of them. -/
def movD (b : Bool) (xa xl : Int) (d : List D) : List (List D) :=
  bif mvK b (toI d 0) (toI d 1) xa xl then [[.int (mvA b (toI d 0) (toI d 1) xa xl), .int (mvL b (toI d 0) (toI d 1) xa xl), .str (toS d 2)]] else []
def movL (b : Bool) (xa xl : Int) (p : List (List D)) : List (List D) := p.flatMap (movD b xa xl)
def movA : List (List D) → List (List D) → List (List D)
  | p, [] => p
  | p, e :: q => movA (movL (toB e 0) (toI e 1) (toI e 2) p) q
def okX3 (xa xl : Int) : Prop := 0 ≤ xa ∧ xa ≤ 1000000 ∧ 1 ≤ xl ∧ xl ≤ 1000000
def mvI : LSpec := fun vs σ k => match vs, σ with
  | [.one (.ptr 0 1 0 0), .one .nil, .one (.data (.recs [.bool, .int .i64, .int .i64] q)), .one (.int .i64 m), .one (.int .i64 c), .one .nil, .one (.int .i64 n), .one (.int .i64 i)], [.cells [.bool b, .int .i64 xa, .int .i64 xl]] =>
    (i = 0 ∧ n = 0) ∧ k (.exit 2) [.one .nil, .one (.data (.recs [.bool, .int .i64, .int .i64] q)), .one (.int .i64 m), .one (.int .i64 c)] []
  | [.one (.ptr 0 1 0 0), .one .nil, .one (.data (.recs [.bool, .int .i64, .int .i64] q)), .one (.int .i64 m), .one (.int .i64 c), .one (.own 1 3), .one (.int .i64 n), .one (.int .i64 i)], [.cells [.bool b, .int .i64 xa, .int .i64 xl], .row 114 (.recs [.int .i64, .int .i64, .str] o)] =>
    (okX3 xa xl ∧ o.all (okN1 100000000) = true ∧ n = o.length ∧ n ≤ 1000 ∧ 0 ≤ i ∧ i ≤ n) ∧
    bif (movL b xa xl (o.drop i.toNat)).isEmpty then k (.exit 2) [.one .nil, .one (.data (.recs [.bool, .int .i64, .int .i64] q)), .one (.int .i64 m), .one (.int .i64 c)] [] else k (.exit 2) [.one (.own 0 3), .one (.data (.recs [.bool, .int .i64, .int .i64] q)), .one (.int .i64 m), .one (.int .i64 c)] [.row 114 (.recs [.int .i64, .int .i64, .str] (movL b xa xl (o.drop i.toNat)))]
  | [.one (.ptr 0 1 0 0), .one (.own 1 3), .one (.data (.recs [.bool, .int .i64, .int .i64] q)), .one (.int .i64 m), .one (.int .i64 c), .one (.own 2 3), .one (.int .i64 n), .one (.int .i64 i)], [.cells [.bool b, .int .i64 xa, .int .i64 xl], .row 114 (.recs [.int .i64, .int .i64, .str] x), .row 114 (.recs [.int .i64, .int .i64, .str] o)] =>
    (okX3 xa xl ∧ o.all (okN1 100000000) = true ∧ n = o.length ∧ n ≤ 1000 ∧ 0 ≤ i ∧ i ≤ n ∧ x.length ≤ i) ∧
    k (.exit 2) [.one (.own 0 3), .one (.data (.recs [.bool, .int .i64, .int .i64] q)), .one (.int .i64 m), .one (.int .i64 c)] [.row 114 (.recs [.int .i64, .int .i64, .str] (x ++ movL b xa xl (o.drop i.toNat)))]
  | _, _ => False
def mvO : LSpec := fun vs σ k => match vs, σ with
  | [.one .nil, .one (.data (.recs [.bool, .int .i64, .int .i64] q)), .one (.int .i64 m), .one (.int .i64 c)], [] => (m = q.length ∧ m ≤ 20 ∧ 0 ≤ c ∧ c ≤ m) ∧ k (.exit 0) [.one .nil] []
  | [.one (.own 0 3), .one (.data (.recs [.bool, .int .i64, .int .i64] q)), .one (.int .i64 m), .one (.int .i64 c)], [.row 114 (.recs [.int .i64, .int .i64, .str] o)] =>
    (q.all okE1 = true ∧ m = q.length ∧ m ≤ 20 ∧ 0 ≤ c ∧ c ≤ m ∧ o.length ≤ 1000 ∧ o.all (okN1 (1000000 * (c + 1))) = true) ∧
    (k (.exit 0) [.one (.own 0 3)] [.row 114 (.recs [.int .i64, .int .i64, .str] (movA o (q.drop c.toNat)))] ∧ ((movA o (q.drop c.toNat)).length = 0 → k (.exit 0) [.one .nil] []))
  | _, _ => False
def mvE (p q : List (List D)) : Int := firstE [notE p, edE q]
def mvR (p q : List (List D)) : List (List D) := bif mvE p q == 0 then movA p q else []
def mvS : Spec := fun args σ K => match args, σ with
  | [.one (.data (.recs [.int .i64, .int .i64, .str] p)), .one (.data (.recs [.bool, .int .i64, .int .i64] q))], [] => (p.all wfN = true ∧ q.all wfE = true ∧ q.length ≤ 1000000000) ∧
    bif mvE p q == 0 then (K (.tup [.one (.own 0 3), .one (.int .i64 0)]) [.row 114 (.recs [.int .i64, .int .i64, .str] (movA p q))] ∧ ((movA p q).length = 0 → K (.tup [.one .nil, .one (.int .i64 0)]) [])) else K (.tup [.one .nil, .one (.int .i64 (mvE p q))]) []
  | _, _ => False
def mvDS : Spec := fun args σ K => match args, σ with
  | [.one (.data (.recs [.int .i64, .int .i64, .str] p)), .one (.data (.recs [.bool, .int .i64, .int .i64] q))], [] => (p.all wfN = true ∧ q.all wfE = true ∧ q.length ≤ 1000000000) ∧ K (.tup [.one (.data (.recs [.int .i64, .int .i64, .str] (mvR p q))), .one (.int .i64 (mvE p q))]) []
  | _, _ => False

/-! ### The reference -/
def movQ (q : List (List D)) (i : Int) (p : List (List D)) : List (List D) := movL (toB (q.getD i.toNat []) 0) (toI (q.getD i.toNat []) 1) (toI (q.getD i.toNat []) 2) p
def rmI : LSpec := fun vs σ k => match vs, σ with
  | [.one (.data (.recs [.bool, .int .i64, .int .i64] q)), .one .nil, .one (.int .i64 i), .one .nil, .one (.int .i64 j)], [] => j = 0 ∧ k (.exit 2) [.one (.data (.recs [.bool, .int .i64, .int .i64] q)), .one (.int .i64 i), .one .nil] []
  | [.one (.data (.recs [.bool, .int .i64, .int .i64] q)), .one (.own 0 3), .one (.int .i64 i), .one .nil, .one (.int .i64 j)], [.row 114 (.recs [.int .i64, .int .i64, .str] o)] =>
    (q.all okE1 = true ∧ 0 ≤ i ∧ i < q.length ∧ o.all (okN1 100000000) = true ∧ o.length ≤ 1000 ∧ 0 ≤ j ∧ j ≤ o.length) ∧
    bif (movQ q i (o.drop j.toNat)).isEmpty then k (.exit 2) [.one (.data (.recs [.bool, .int .i64, .int .i64] q)), .one (.int .i64 i), .one .nil] [] else k (.exit 2) [.one (.data (.recs [.bool, .int .i64, .int .i64] q)), .one (.int .i64 i), .one (.own 0 3)] [.row 114 (.recs [.int .i64, .int .i64, .str] (movQ q i (o.drop j.toNat)))]
  | [.one (.data (.recs [.bool, .int .i64, .int .i64] q)), .one (.own 0 3), .one (.int .i64 i), .one (.own 1 3), .one (.int .i64 j)], [.row 114 (.recs [.int .i64, .int .i64, .str] o), .row 114 (.recs [.int .i64, .int .i64, .str] x)] =>
    (q.all okE1 = true ∧ 0 ≤ i ∧ i < q.length ∧ o.all (okN1 100000000) = true ∧ o.length ≤ 1000 ∧ 0 ≤ j ∧ j ≤ o.length ∧ x.length ≤ j) ∧
    k (.exit 2) [.one (.data (.recs [.bool, .int .i64, .int .i64] q)), .one (.int .i64 i), .one (.own 0 3)] [.row 114 (.recs [.int .i64, .int .i64, .str] (x ++ movQ q i (o.drop j.toNat)))]
  | _, _ => False
def rmO : LSpec := fun vs σ k => match vs, σ with
  | [.one (.data (.recs [.bool, .int .i64, .int .i64] q)), .one .nil, .one (.int .i64 i)], [] => (q.length ≤ 20 ∧ 0 ≤ i ∧ i ≤ q.length) ∧ k (.exit 0) [.one .nil] []
  | [.one (.data (.recs [.bool, .int .i64, .int .i64] q)), .one (.own 0 3), .one (.int .i64 i)], [.row 114 (.recs [.int .i64, .int .i64, .str] o)] =>
    (q.all okE1 = true ∧ q.length ≤ 20 ∧ 0 ≤ i ∧ i ≤ q.length ∧ o.length ≤ 1000 ∧ o.all (okN1 (1000000 * (i + 1))) = true) ∧
    (k (.exit 0) [.one (.own 0 3)] [.row 114 (.recs [.int .i64, .int .i64, .str] (movA o (q.drop i.toNat)))] ∧ ((movA o (q.drop i.toNat)).length = 0 → k (.exit 0) [.one .nil] []))
  | _, _ => False
def rmS : Spec := fun args σ K => match args, σ with
  | [.one (.data (.recs [.int .i64, .int .i64, .str] p)), .one (.data (.recs [.bool, .int .i64, .int .i64] q))], [] => (q.all okE1 = true ∧ q.length ≤ 20 ∧ p.length ≤ 1000 ∧ p.all (okN1 1000000) = true) ∧
    (K (.one (.own 0 3)) [.row 114 (.recs [.int .i64, .int .i64, .str] (movA p q))] ∧ ((movA p q).length = 0 → K (.one .nil) []))
  | _, _ => False
def rmDS : Spec := fun args σ K => match args, σ with
  | [.one (.data (.recs [.int .i64, .int .i64, .str] p)), .one (.data (.recs [.bool, .int .i64, .int .i64] q))], [] => (q.all okE1 = true ∧ q.length ≤ 20 ∧ p.length ≤ 1000 ∧ p.all (okN1 1000000) = true) ∧ K (.one (.data (.recs [.int .i64, .int .i64, .str] (movA p q)))) []
  | _, _ => False
noncomputable abbrev Emvd : Env := envOf Tryd.prog [(130, ntS), (131, edS), (98, firstS), (132, nclS), (133, insS), (134, cutS)] [(6, .spec [7, 26, 27, 28] [7] mvO), (10, .spec [9, 10, 26, 27, 28, 32, 33, 34] [10, 26, 27, 28] mvI)] 61 0
noncomputable abbrev Ermd : Env := envOf Tryd.prog [(81, cpnS), (135, rmvS)] [(3, .spec [1, 5, 6] [5] rmO), (7, .spec [1, 5, 6, 7, 8] [1, 6, 7] rmI)] 44 0
end Go.Ev

namespace Go.Ev
open Go Go.Proofs
set_option maxRecDepth 100000
theorem exmvd (p q : List (List D)) (K : AV → List Blk → Prop) : evFn Emvd Tryd.f80 [.one (.data (.recs [.int .i64, .int .i64, .str] p)), .one (.data (.recs [.bool, .int .i64, .int .i64] q))] [] K = (
 q.length ≤ (1000000000 : Nat) ∧
 [notE p, edE q].length ≤ (1000 : Nat) ∧
 bif firstE [notE p, edE q] != (0 : Int) then
 K (AV.tup [TV.one SV.nil, TV.one (SV.int IntKind.i64 (firstE [notE p, edE q]))]) []
 else
 p.length ≤ (1000000 : Nat) ∧
 ((q.all okE1 = true ∧
 (↑q.length : Int) = (↑q.length : Int) ∧
 (↑q.length : Int) ≤ (20 : Int) ∧
 (0 : Int) ≤ (0 : Int) ∧
 (0 : Int) ≤ (↑q.length : Int) ∧
 p.length ≤ (1000 : Nat) ∧ p.all (okN1 ((1000000 : Int) * ((0 : Int) + (1 : Int)))) = true) ∧
 K (AV.tup [TV.one (SV.own (0 : Nat) (3 : Nat)), TV.one (SV.int IntKind.i64 (0 : Int))])
 [Blk.row (114 : TypeId) (Row.recs [CK.int IntKind.i64, CK.int IntKind.i64, CK.str] (movA p q))] ∧
 ((movA p q).length = (0 : Nat) → K (AV.tup [TV.one SV.nil, TV.one (SV.int IntKind.i64 (0 : Int))]) [])) ∧
 (p.length = (0 : Nat) →
 ((↑q.length : Int) = (↑q.length : Int) ∧
 (↑q.length : Int) ≤ (20 : Int) ∧ (0 : Int) ≤ (0 : Int) ∧ (0 : Int) ≤ (↑q.length : Int)) ∧
 K (AV.tup [TV.one SV.nil, TV.one (SV.int IntKind.i64 (0 : Int))]) [])) := by kernel_rfl
theorem exmvdl0a (q : List (List D)) (m c : Int) (K : Ex → List AV → List Blk → Prop) : evBody Emvd (lb Tryd.f80 0) [7, 26, 27, 28] [7] [.one .nil, .one (.data (.recs [.bool, .int .i64, .int .i64] q)), .one (.int .i64 m), .one (.int .i64 c)] [] K = (
 bif decide (c < m) then
 bif decide ((0 : Int) ≤ c) && decide (c < (↑q.length : Int)) then
 bif decide ((2 : Nat) < (3 : Nat)) && decide (c.toNat < q.length) then
 ((0 : Int) = (0 : Int) ∧ (0 : Int) = (0 : Int)) ∧
 K Ex.normal
 [AV.one SV.nil, AV.one (SV.data (Row.recs [CK.bool, CK.int IntKind.i64, CK.int IntKind.i64] q)),
 AV.one (SV.int IntKind.i64 m), AV.one (SV.int IntKind.i64 (IntKind.i64.wrap (c + (1 : Int))))]
 []
 else False
 else False
 else K (Ex.exit (0 : Nat)) [AV.one SV.nil] []) := by kernel_rfl
theorem exmvdl0b (q : List (List D)) (m c : Int) (o : List (List D)) (K : Ex → List AV → List Blk → Prop) : evBody Emvd (lb Tryd.f80 0) [7, 26, 27, 28] [7] [.one (.own 0 3), .one (.data (.recs [.bool, .int .i64, .int .i64] q)), .one (.int .i64 m), .one (.int .i64 c)] [.row 114 (.recs [.int .i64, .int .i64, .str] o)] K = (
 bif decide (c < m) then
 bif decide ((0 : Int) ≤ c) && decide (c < (↑q.length : Int)) then
 bif decide ((2 : Nat) < (3 : Nat)) && decide (c.toNat < q.length) then
 (((0 : Int) ≤ ((q.getD c.toNat []).getD (1 : Nat) (D.int (0 : Int))).toInt ∧
 ((q.getD c.toNat []).getD (1 : Nat) (D.int (0 : Int))).toInt ≤ (1000000 : Int) ∧
 (1 : Int) ≤ ((q.getD c.toNat []).getD (2 : Nat) (D.int (0 : Int))).toInt ∧
 ((q.getD c.toNat []).getD (2 : Nat) (D.int (0 : Int))).toInt ≤ (1000000 : Int)) ∧
 o.all (okN1 (100000000 : Int)) = true ∧
 (↑o.length : Int) = (↑o.length : Int) ∧
 (↑o.length : Int) ≤ (1000 : Int) ∧ (0 : Int) ≤ (0 : Int) ∧ (0 : Int) ≤ (↑o.length : Int)) ∧
 bif
 (movL ((q.getD c.toNat []).getD (0 : Nat) (D.int (0 : Int))).toBool
 ((q.getD c.toNat []).getD (1 : Nat) (D.int (0 : Int))).toInt
 ((q.getD c.toNat []).getD (2 : Nat) (D.int (0 : Int))).toInt o).isEmpty then
 K Ex.normal
 [AV.one SV.nil, AV.one (SV.data (Row.recs [CK.bool, CK.int IntKind.i64, CK.int IntKind.i64] q)),
 AV.one (SV.int IntKind.i64 m), AV.one (SV.int IntKind.i64 (IntKind.i64.wrap (c + (1 : Int))))]
 []
 else
 K Ex.normal
 [AV.one (SV.own (0 : Nat) (3 : Nat)),
 AV.one (SV.data (Row.recs [CK.bool, CK.int IntKind.i64, CK.int IntKind.i64] q)),
 AV.one (SV.int IntKind.i64 m), AV.one (SV.int IntKind.i64 (IntKind.i64.wrap (c + (1 : Int))))]
 [Blk.row (114 : TypeId)
 (Row.recs [CK.int IntKind.i64, CK.int IntKind.i64, CK.str]
 (movL ((q.getD c.toNat []).getD (0 : Nat) (D.int (0 : Int))).toBool
 ((q.getD c.toNat []).getD (1 : Nat) (D.int (0 : Int))).toInt
 ((q.getD c.toNat []).getD (2 : Nat) (D.int (0 : Int))).toInt o))]
 else False
 else False
 else
 K (Ex.exit (0 : Nat)) [AV.one (SV.own (0 : Nat) (3 : Nat))]
 [Blk.row (114 : TypeId) (Row.recs [CK.int IntKind.i64, CK.int IntKind.i64, CK.str] o)]) := by kernel_rfl
theorem exmvdl1a (q : List (List D)) (m c n i : Int) (b : Bool) (xa xl : Int) (K : Ex → List AV → List Blk → Prop) : evBody Emvd (lb Tryd.f80 1) [9, 10, 26, 27, 28, 32, 33, 34] [10, 26, 27, 28] [.one (.ptr 0 1 0 0), .one .nil, .one (.data (.recs [.bool, .int .i64, .int .i64] q)), .one (.int .i64 m), .one (.int .i64 c), .one .nil, .one (.int .i64 n), .one (.int .i64 i)] [.cells [.bool b, .int .i64 xa, .int .i64 xl]] K = (
 bif decide (i < n) then False
 else
 K (Ex.exit (2 : Nat))
 [AV.one SV.nil, AV.one (SV.data (Row.recs [CK.bool, CK.int IntKind.i64, CK.int IntKind.i64] q)),
 AV.one (SV.int IntKind.i64 m), AV.one (SV.int IntKind.i64 c)]
 []) := by kernel_rfl
theorem exmvdl1b (q : List (List D)) (m c n i : Int) (b : Bool) (xa xl : Int) (o : List (List D)) (K : Ex → List AV → List Blk → Prop) : evBody Emvd (lb Tryd.f80 1) [9, 10, 26, 27, 28, 32, 33, 34] [10, 26, 27, 28] [.one (.ptr 0 1 0 0), .one .nil, .one (.data (.recs [.bool, .int .i64, .int .i64] q)), .one (.int .i64 m), .one (.int .i64 c), .one (.own 1 3), .one (.int .i64 n), .one (.int .i64 i)] [.cells [.bool b, .int .i64 xa, .int .i64 xl], .row 114 (.recs [.int .i64, .int .i64, .str] o)] K = (
 bif decide (i < n) then
 bif decide ((0 : Int) ≤ i) && decide (i < (↑o.length : Int)) then
 bif decide ((2 : Nat) < (3 : Nat)) && decide (i.toNat < o.length) then
 bif b then
 ((0 : Int) ≤ ((o.getD i.toNat []).getD (0 : Nat) (D.int (0 : Int))).toInt ∧
 ((o.getD i.toNat []).getD (0 : Nat) (D.int (0 : Int))).toInt ≤ (1000000000 : Int) ∧
 (0 : Int) ≤ ((o.getD i.toNat []).getD (1 : Nat) (D.int (0 : Int))).toInt ∧
 ((o.getD i.toNat []).getD (1 : Nat) (D.int (0 : Int))).toInt ≤ (1000000000 : Int) ∧
 (0 : Int) ≤ xa ∧ xa ≤ (1000000 : Int) ∧ (1 : Int) ≤ xl ∧ xl ≤ (1000000 : Int)) ∧
 K Ex.normal
 [AV.one (SV.ptr (0 : Nat) (1 : Nat) (0 : Nat) (0 : Nat)), AV.one (SV.own (1 : Nat) (3 : Nat)),
 AV.one (SV.data (Row.recs [CK.bool, CK.int IntKind.i64, CK.int IntKind.i64] q)),
 AV.one (SV.int IntKind.i64 m), AV.one (SV.int IntKind.i64 c), AV.one (SV.own (2 : Nat) (3 : Nat)),
 AV.one (SV.int IntKind.i64 n), AV.one (SV.int IntKind.i64 (IntKind.i64.wrap (i + (1 : Int))))]
 [Blk.cells [SV.bool b, SV.int IntKind.i64 xa, SV.int IntKind.i64 xl],
 Blk.row (114 : Nat)
 (Row.recs [CK.int IntKind.i64, CK.int IntKind.i64, CK.str]
 [[D.int
 (mvA true ((o.getD i.toNat []).getD (0 : Nat) (D.int (0 : Int))).toInt
 ((o.getD i.toNat []).getD (1 : Nat) (D.int (0 : Int))).toInt xa xl),
 D.int
 (mvL true ((o.getD i.toNat []).getD (0 : Nat) (D.int (0 : Int))).toInt
 ((o.getD i.toNat []).getD (1 : Nat) (D.int (0 : Int))).toInt xa xl),
 D.str ((o.getD i.toNat []).getD (2 : Nat) (D.int (0 : Int))).toStr]]),
 Blk.row (114 : TypeId) (Row.recs [CK.int IntKind.i64, CK.int IntKind.i64, CK.str] o)]
 else
 ((0 : Int) ≤ ((o.getD i.toNat []).getD (0 : Nat) (D.int (0 : Int))).toInt ∧
 ((o.getD i.toNat []).getD (0 : Nat) (D.int (0 : Int))).toInt ≤ (1000000000 : Int) ∧
 (0 : Int) ≤ ((o.getD i.toNat []).getD (1 : Nat) (D.int (0 : Int))).toInt ∧
 ((o.getD i.toNat []).getD (1 : Nat) (D.int (0 : Int))).toInt ≤ (1000000000 : Int) ∧
 (0 : Int) ≤ xa ∧ xa ≤ (1000000 : Int) ∧ (1 : Int) ≤ xl ∧ xl ≤ (1000000 : Int)) ∧
 bif
 cutK ((o.getD i.toNat []).getD (0 : Nat) (D.int (0 : Int))).toInt
 ((o.getD i.toNat []).getD (1 : Nat) (D.int (0 : Int))).toInt xa xl then
 K Ex.normal
 [AV.one (SV.ptr (0 : Nat) (1 : Nat) (0 : Nat) (0 : Nat)), AV.one (SV.own (1 : Nat) (3 : Nat)),
 AV.one (SV.data (Row.recs [CK.bool, CK.int IntKind.i64, CK.int IntKind.i64] q)),
 AV.one (SV.int IntKind.i64 m), AV.one (SV.int IntKind.i64 c), AV.one (SV.own (2 : Nat) (3 : Nat)),
 AV.one (SV.int IntKind.i64 n), AV.one (SV.int IntKind.i64 (IntKind.i64.wrap (i + (1 : Int))))]
 [Blk.cells [SV.bool b, SV.int IntKind.i64 xa, SV.int IntKind.i64 xl],
 Blk.row (114 : Nat)
 (Row.recs [CK.int IntKind.i64, CK.int IntKind.i64, CK.str]
 [[D.int
 (mvA false ((o.getD i.toNat []).getD (0 : Nat) (D.int (0 : Int))).toInt
 ((o.getD i.toNat []).getD (1 : Nat) (D.int (0 : Int))).toInt xa xl),
 D.int
 (mvL false ((o.getD i.toNat []).getD (0 : Nat) (D.int (0 : Int))).toInt
 ((o.getD i.toNat []).getD (1 : Nat) (D.int (0 : Int))).toInt xa xl),
 D.str ((o.getD i.toNat []).getD (2 : Nat) (D.int (0 : Int))).toStr]]),
 Blk.row (114 : TypeId) (Row.recs [CK.int IntKind.i64, CK.int IntKind.i64, CK.str] o)]
 else
 K Ex.normal
 [AV.one (SV.ptr (0 : Nat) (1 : Nat) (0 : Nat) (0 : Nat)), AV.one SV.nil,
 AV.one (SV.data (Row.recs [CK.bool, CK.int IntKind.i64, CK.int IntKind.i64] q)),
 AV.one (SV.int IntKind.i64 m), AV.one (SV.int IntKind.i64 c), AV.one (SV.own (1 : Nat) (3 : Nat)),
 AV.one (SV.int IntKind.i64 n), AV.one (SV.int IntKind.i64 (IntKind.i64.wrap (i + (1 : Int))))]
 [Blk.cells [SV.bool b, SV.int IntKind.i64 xa, SV.int IntKind.i64 xl],
 Blk.row (114 : TypeId) (Row.recs [CK.int IntKind.i64, CK.int IntKind.i64, CK.str] o)]
 else False
 else False
 else
 K (Ex.exit (2 : Nat))
 [AV.one SV.nil, AV.one (SV.data (Row.recs [CK.bool, CK.int IntKind.i64, CK.int IntKind.i64] q)),
 AV.one (SV.int IntKind.i64 m), AV.one (SV.int IntKind.i64 c)]
 []) := by kernel_rfl
theorem exmvdl1c (q : List (List D)) (m c n i : Int) (b : Bool) (xa xl : Int) (x o : List (List D)) (K : Ex → List AV → List Blk → Prop) : evBody Emvd (lb Tryd.f80 1) [9, 10, 26, 27, 28, 32, 33, 34] [10, 26, 27, 28] [.one (.ptr 0 1 0 0), .one (.own 1 3), .one (.data (.recs [.bool, .int .i64, .int .i64] q)), .one (.int .i64 m), .one (.int .i64 c), .one (.own 2 3), .one (.int .i64 n), .one (.int .i64 i)] [.cells [.bool b, .int .i64 xa, .int .i64 xl], .row 114 (.recs [.int .i64, .int .i64, .str] x), .row 114 (.recs [.int .i64, .int .i64, .str] o)] K = (
 bif decide (i < n) then
 bif decide ((0 : Int) ≤ i) && decide (i < (↑o.length : Int)) then
 bif decide ((2 : Nat) < (3 : Nat)) && decide (i.toNat < o.length) then
 bif b then
 ((0 : Int) ≤ ((o.getD i.toNat []).getD (0 : Nat) (D.int (0 : Int))).toInt ∧
 ((o.getD i.toNat []).getD (0 : Nat) (D.int (0 : Int))).toInt ≤ (1000000000 : Int) ∧
 (0 : Int) ≤ ((o.getD i.toNat []).getD (1 : Nat) (D.int (0 : Int))).toInt ∧
 ((o.getD i.toNat []).getD (1 : Nat) (D.int (0 : Int))).toInt ≤ (1000000000 : Int) ∧
 (0 : Int) ≤ xa ∧ xa ≤ (1000000 : Int) ∧ (1 : Int) ≤ xl ∧ xl ≤ (1000000 : Int)) ∧
 bif
 decide
 ((x ++
 [[D.int
 (mvA true ((o.getD i.toNat []).getD (0 : Nat) (D.int (0 : Int))).toInt
 ((o.getD i.toNat []).getD (1 : Nat) (D.int (0 : Int))).toInt xa xl),
 D.int
 (mvL true ((o.getD i.toNat []).getD (0 : Nat) (D.int (0 : Int))).toInt
 ((o.getD i.toNat []).getD (1 : Nat) (D.int (0 : Int))).toInt xa xl),
 D.str ((o.getD i.toNat []).getD (2 : Nat) (D.int (0 : Int))).toStr]]).length *
 (32 : Nat) ≤
 (140737488355328 : Nat) ∧
 (x ++
 [[D.int
 (mvA true ((o.getD i.toNat []).getD (0 : Nat) (D.int (0 : Int))).toInt
 ((o.getD i.toNat []).getD (1 : Nat) (D.int (0 : Int))).toInt xa xl),
 D.int
 (mvL true ((o.getD i.toNat []).getD (0 : Nat) (D.int (0 : Int))).toInt
 ((o.getD i.toNat []).getD (1 : Nat) (D.int (0 : Int))).toInt xa xl),
 D.str ((o.getD i.toNat []).getD (2 : Nat) (D.int (0 : Int))).toStr]]).length ≤
 (140737488355328 : Nat)) then
 K Ex.normal
 [AV.one (SV.ptr (0 : Nat) (1 : Nat) (0 : Nat) (0 : Nat)), AV.one (SV.own (1 : Nat) (3 : Nat)),
 AV.one (SV.data (Row.recs [CK.bool, CK.int IntKind.i64, CK.int IntKind.i64] q)),
 AV.one (SV.int IntKind.i64 m), AV.one (SV.int IntKind.i64 c), AV.one (SV.own (2 : Nat) (3 : Nat)),
 AV.one (SV.int IntKind.i64 n), AV.one (SV.int IntKind.i64 (IntKind.i64.wrap (i + (1 : Int))))]
 [Blk.cells [SV.bool b, SV.int IntKind.i64 xa, SV.int IntKind.i64 xl],
 Blk.row (114 : Nat)
 (Row.recs [CK.int IntKind.i64, CK.int IntKind.i64, CK.str]
 (x ++
 [[D.int
 (mvA true ((o.getD i.toNat []).getD (0 : Nat) (D.int (0 : Int))).toInt
 ((o.getD i.toNat []).getD (1 : Nat) (D.int (0 : Int))).toInt xa xl),
 D.int
 (mvL true ((o.getD i.toNat []).getD (0 : Nat) (D.int (0 : Int))).toInt
 ((o.getD i.toNat []).getD (1 : Nat) (D.int (0 : Int))).toInt xa xl),
 D.str ((o.getD i.toNat []).getD (2 : Nat) (D.int (0 : Int))).toStr]])),
 Blk.row (114 : TypeId) (Row.recs [CK.int IntKind.i64, CK.int IntKind.i64, CK.str] o)]
 else False
 else
 ((0 : Int) ≤ ((o.getD i.toNat []).getD (0 : Nat) (D.int (0 : Int))).toInt ∧
 ((o.getD i.toNat []).getD (0 : Nat) (D.int (0 : Int))).toInt ≤ (1000000000 : Int) ∧
 (0 : Int) ≤ ((o.getD i.toNat []).getD (1 : Nat) (D.int (0 : Int))).toInt ∧
 ((o.getD i.toNat []).getD (1 : Nat) (D.int (0 : Int))).toInt ≤ (1000000000 : Int) ∧
 (0 : Int) ≤ xa ∧ xa ≤ (1000000 : Int) ∧ (1 : Int) ≤ xl ∧ xl ≤ (1000000 : Int)) ∧
 bif
 cutK ((o.getD i.toNat []).getD (0 : Nat) (D.int (0 : Int))).toInt
 ((o.getD i.toNat []).getD (1 : Nat) (D.int (0 : Int))).toInt xa xl then
 bif
 decide
 ((x ++
 [[D.int
 (mvA false ((o.getD i.toNat []).getD (0 : Nat) (D.int (0 : Int))).toInt
 ((o.getD i.toNat []).getD (1 : Nat) (D.int (0 : Int))).toInt xa xl),
 D.int
 (mvL false ((o.getD i.toNat []).getD (0 : Nat) (D.int (0 : Int))).toInt
 ((o.getD i.toNat []).getD (1 : Nat) (D.int (0 : Int))).toInt xa xl),
 D.str ((o.getD i.toNat []).getD (2 : Nat) (D.int (0 : Int))).toStr]]).length *
 (32 : Nat) ≤
 (140737488355328 : Nat) ∧
 (x ++
 [[D.int
 (mvA false ((o.getD i.toNat []).getD (0 : Nat) (D.int (0 : Int))).toInt
 ((o.getD i.toNat []).getD (1 : Nat) (D.int (0 : Int))).toInt xa xl),
 D.int
 (mvL false ((o.getD i.toNat []).getD (0 : Nat) (D.int (0 : Int))).toInt
 ((o.getD i.toNat []).getD (1 : Nat) (D.int (0 : Int))).toInt xa xl),
 D.str ((o.getD i.toNat []).getD (2 : Nat) (D.int (0 : Int))).toStr]]).length ≤
 (140737488355328 : Nat)) then
 K Ex.normal
 [AV.one (SV.ptr (0 : Nat) (1 : Nat) (0 : Nat) (0 : Nat)), AV.one (SV.own (1 : Nat) (3 : Nat)),
 AV.one (SV.data (Row.recs [CK.bool, CK.int IntKind.i64, CK.int IntKind.i64] q)),
 AV.one (SV.int IntKind.i64 m), AV.one (SV.int IntKind.i64 c), AV.one (SV.own (2 : Nat) (3 : Nat)),
 AV.one (SV.int IntKind.i64 n), AV.one (SV.int IntKind.i64 (IntKind.i64.wrap (i + (1 : Int))))]
 [Blk.cells [SV.bool b, SV.int IntKind.i64 xa, SV.int IntKind.i64 xl],
 Blk.row (114 : Nat)
 (Row.recs [CK.int IntKind.i64, CK.int IntKind.i64, CK.str]
 (x ++
 [[D.int
 (mvA false ((o.getD i.toNat []).getD (0 : Nat) (D.int (0 : Int))).toInt
 ((o.getD i.toNat []).getD (1 : Nat) (D.int (0 : Int))).toInt xa xl),
 D.int
 (mvL false ((o.getD i.toNat []).getD (0 : Nat) (D.int (0 : Int))).toInt
 ((o.getD i.toNat []).getD (1 : Nat) (D.int (0 : Int))).toInt xa xl),
 D.str ((o.getD i.toNat []).getD (2 : Nat) (D.int (0 : Int))).toStr]])),
 Blk.row (114 : TypeId) (Row.recs [CK.int IntKind.i64, CK.int IntKind.i64, CK.str] o)]
 else False
 else
 K Ex.normal
 [AV.one (SV.ptr (0 : Nat) (1 : Nat) (0 : Nat) (0 : Nat)), AV.one (SV.own (1 : Nat) (3 : Nat)),
 AV.one (SV.data (Row.recs [CK.bool, CK.int IntKind.i64, CK.int IntKind.i64] q)),
 AV.one (SV.int IntKind.i64 m), AV.one (SV.int IntKind.i64 c), AV.one (SV.own (2 : Nat) (3 : Nat)),
 AV.one (SV.int IntKind.i64 n), AV.one (SV.int IntKind.i64 (IntKind.i64.wrap (i + (1 : Int))))]
 [Blk.cells [SV.bool b, SV.int IntKind.i64 xa, SV.int IntKind.i64 xl],
 Blk.row (114 : TypeId) (Row.recs [CK.int IntKind.i64, CK.int IntKind.i64, CK.str] x),
 Blk.row (114 : TypeId) (Row.recs [CK.int IntKind.i64, CK.int IntKind.i64, CK.str] o)]
 else False
 else False
 else
 K (Ex.exit (2 : Nat))
 [AV.one (SV.own (0 : Nat) (3 : Nat)),
 AV.one (SV.data (Row.recs [CK.bool, CK.int IntKind.i64, CK.int IntKind.i64] q)), AV.one (SV.int IntKind.i64 m),
 AV.one (SV.int IntKind.i64 c)]
 [Blk.row (114 : TypeId) (Row.recs [CK.int IntKind.i64, CK.int IntKind.i64, CK.str] x)]) := by kernel_rfl
theorem exrmd (p q : List (List D)) (K : AV → List Blk → Prop) : evFn Ermd Tryd.f85 [.one (.data (.recs [.int .i64, .int .i64, .str] p)), .one (.data (.recs [.bool, .int .i64, .int .i64] q))] [] K = (
 p.length ≤ (1000000000 : Nat) ∧
 (q.all okE1 = true ∧
 q.length ≤ (20 : Nat) ∧
 (0 : Int) ≤ (0 : Int) ∧
 (0 : Int) ≤ (↑q.length : Int) ∧
 p.length ≤ (1000 : Nat) ∧ p.all (okN1 ((1000000 : Int) * ((0 : Int) + (1 : Int)))) = true) ∧
 K (AV.one (SV.own (0 : Nat) (3 : Nat)))
 [Blk.row (114 : TypeId) (Row.recs [CK.int IntKind.i64, CK.int IntKind.i64, CK.str] (movA p q))] ∧
 ((movA p q).length = (0 : Nat) → K (AV.one SV.nil) [])) := by kernel_rfl
theorem exrmdl0a (q : List (List D)) (i : Int) (K : Ex → List AV → List Blk → Prop) : evBody Ermd (lb Tryd.f85 0) [1, 5, 6] [5] [.one (.data (.recs [.bool, .int .i64, .int .i64] q)), .one .nil, .one (.int .i64 i)] [] K = (
 bif decide (i < (↑q.length : Int)) then
 (0 : Int) = (0 : Int) ∧
 K Ex.normal
 [AV.one (SV.data (Row.recs [CK.bool, CK.int IntKind.i64, CK.int IntKind.i64] q)), AV.one SV.nil,
 AV.one (SV.int IntKind.i64 (IntKind.i64.wrap (i + (1 : Int))))]
 []
 else K (Ex.exit (0 : Nat)) [AV.one SV.nil] []) := by kernel_rfl
theorem exrmdl0b (q : List (List D)) (i : Int) (o : List (List D)) (K : Ex → List AV → List Blk → Prop) : evBody Ermd (lb Tryd.f85 0) [1, 5, 6] [5] [.one (.data (.recs [.bool, .int .i64, .int .i64] q)), .one (.own 0 3), .one (.int .i64 i)] [.row 114 (.recs [.int .i64, .int .i64, .str] o)] K = (
 bif decide (i < (↑q.length : Int)) then
 (q.all okE1 = true ∧
 (0 : Int) ≤ i ∧
 i < (↑q.length : Int) ∧
 o.all (okN1 (100000000 : Int)) = true ∧
 o.length ≤ (1000 : Nat) ∧ (0 : Int) ≤ (0 : Int) ∧ (0 : Int) ≤ (↑o.length : Int)) ∧
 bif (movQ q i o).isEmpty then
 K Ex.normal
 [AV.one (SV.data (Row.recs [CK.bool, CK.int IntKind.i64, CK.int IntKind.i64] q)), AV.one SV.nil,
 AV.one (SV.int IntKind.i64 (IntKind.i64.wrap (i + (1 : Int))))]
 []
 else
 K Ex.normal
 [AV.one (SV.data (Row.recs [CK.bool, CK.int IntKind.i64, CK.int IntKind.i64] q)),
 AV.one (SV.own (0 : Nat) (3 : Nat)), AV.one (SV.int IntKind.i64 (IntKind.i64.wrap (i + (1 : Int))))]
 [Blk.row (114 : TypeId) (Row.recs [CK.int IntKind.i64, CK.int IntKind.i64, CK.str] (movQ q i o))]
 else
 K (Ex.exit (0 : Nat)) [AV.one (SV.own (0 : Nat) (3 : Nat))]
 [Blk.row (114 : TypeId) (Row.recs [CK.int IntKind.i64, CK.int IntKind.i64, CK.str] o)]) := by kernel_rfl
theorem exrmdl1a (q : List (List D)) (i j : Int) (K : Ex → List AV → List Blk → Prop) : evBody Ermd (lb Tryd.f85 1) [1, 5, 6, 7, 8] [1, 6, 7] [.one (.data (.recs [.bool, .int .i64, .int .i64] q)), .one .nil, .one (.int .i64 i), .one .nil, .one (.int .i64 j)] [] K = (
 bif decide (j < (0 : Int)) then False
 else
 K (Ex.exit (2 : Nat))
 [AV.one (SV.data (Row.recs [CK.bool, CK.int IntKind.i64, CK.int IntKind.i64] q)), AV.one (SV.int IntKind.i64 i),
 AV.one SV.nil]
 []) := by kernel_rfl
theorem exrmdl1b (q : List (List D)) (i j : Int) (o : List (List D)) (K : Ex → List AV → List Blk → Prop) : evBody Ermd (lb Tryd.f85 1) [1, 5, 6, 7, 8] [1, 6, 7] [.one (.data (.recs [.bool, .int .i64, .int .i64] q)), .one (.own 0 3), .one (.int .i64 i), .one .nil, .one (.int .i64 j)] [.row 114 (.recs [.int .i64, .int .i64, .str] o)] K = (
 bif decide (j < (↑o.length : Int)) then
 bif decide ((0 : Int) ≤ j) && decide (j < (↑o.length : Int)) then
 bif decide ((2 : Nat) < (3 : Nat)) && decide (j.toNat < o.length) then
 bif decide ((0 : Int) ≤ i) && decide (i < (↑q.length : Int)) then
 bif decide ((2 : Nat) < (3 : Nat)) && decide (i.toNat < q.length) then
 (((0 : Int) ≤ ((o.getD j.toNat []).getD (0 : Nat) (D.int (0 : Int))).toInt ∧
 ((o.getD j.toNat []).getD (0 : Nat) (D.int (0 : Int))).toInt ≤ (1000000000 : Int) ∧
 (0 : Int) ≤ ((o.getD j.toNat []).getD (1 : Nat) (D.int (0 : Int))).toInt ∧
 ((o.getD j.toNat []).getD (1 : Nat) (D.int (0 : Int))).toInt ≤ (1000000000 : Int) ∧
 (0 : Int) ≤ ((q.getD i.toNat []).getD (1 : Nat) (D.int (0 : Int))).toInt ∧
 ((q.getD i.toNat []).getD (1 : Nat) (D.int (0 : Int))).toInt ≤ (1000000 : Int) ∧
 (1 : Int) ≤ ((q.getD i.toNat []).getD (2 : Nat) (D.int (0 : Int))).toInt ∧
 ((q.getD i.toNat []).getD (2 : Nat) (D.int (0 : Int))).toInt ≤ (1000000 : Int)) ∧
 bif
 mvK ((q.getD i.toNat []).getD (0 : Nat) (D.int (0 : Int))).toBool
 ((o.getD j.toNat []).getD (0 : Nat) (D.int (0 : Int))).toInt
 ((o.getD j.toNat []).getD (1 : Nat) (D.int (0 : Int))).toInt
 ((q.getD i.toNat []).getD (1 : Nat) (D.int (0 : Int))).toInt
 ((q.getD i.toNat []).getD (2 : Nat) (D.int (0 : Int))).toInt then
 K Ex.normal
 [AV.one (SV.data (Row.recs [CK.bool, CK.int IntKind.i64, CK.int IntKind.i64] q)),
 AV.one (SV.own (0 : Nat) (3 : Nat)), AV.one (SV.int IntKind.i64 i),
 AV.one (SV.own (1 : Nat) (3 : Nat)), AV.one (SV.int IntKind.i64 (IntKind.i64.wrap (j + (1 : Int))))]
 [Blk.row (114 : TypeId) (Row.recs [CK.int IntKind.i64, CK.int IntKind.i64, CK.str] o),
 Blk.row (114 : Nat)
 (Row.recs [CK.int IntKind.i64, CK.int IntKind.i64, CK.str]
 [[D.int
 (mvA ((q.getD i.toNat []).getD (0 : Nat) (D.int (0 : Int))).toBool
 ((o.getD j.toNat []).getD (0 : Nat) (D.int (0 : Int))).toInt
 ((o.getD j.toNat []).getD (1 : Nat) (D.int (0 : Int))).toInt
 ((q.getD i.toNat []).getD (1 : Nat) (D.int (0 : Int))).toInt
 ((q.getD i.toNat []).getD (2 : Nat) (D.int (0 : Int))).toInt),
 D.int
 (mvL ((q.getD i.toNat []).getD (0 : Nat) (D.int (0 : Int))).toBool
 ((o.getD j.toNat []).getD (0 : Nat) (D.int (0 : Int))).toInt
 ((o.getD j.toNat []).getD (1 : Nat) (D.int (0 : Int))).toInt
 ((q.getD i.toNat []).getD (1 : Nat) (D.int (0 : Int))).toInt
 ((q.getD i.toNat []).getD (2 : Nat) (D.int (0 : Int))).toInt),
 D.str ((o.getD j.toNat []).getD (2 : Nat) (D.int (0 : Int))).toStr]])]
 else
 K Ex.normal
 [AV.one (SV.data (Row.recs [CK.bool, CK.int IntKind.i64, CK.int IntKind.i64] q)),
 AV.one (SV.own (0 : Nat) (3 : Nat)), AV.one (SV.int IntKind.i64 i), AV.one SV.nil,
 AV.one (SV.int IntKind.i64 (IntKind.i64.wrap (j + (1 : Int))))]
 [Blk.row (114 : TypeId) (Row.recs [CK.int IntKind.i64, CK.int IntKind.i64, CK.str] o)]) ∧
 ((0 : Int) ≤ ((o.getD j.toNat []).getD (0 : Nat) (D.int (0 : Int))).toInt ∧
 ((o.getD j.toNat []).getD (0 : Nat) (D.int (0 : Int))).toInt ≤ (1000000000 : Int) ∧
 (0 : Int) ≤ ((o.getD j.toNat []).getD (1 : Nat) (D.int (0 : Int))).toInt ∧
 ((o.getD j.toNat []).getD (1 : Nat) (D.int (0 : Int))).toInt ≤ (1000000000 : Int) ∧
 (0 : Int) ≤ ((q.getD i.toNat []).getD (1 : Nat) (D.int (0 : Int))).toInt ∧
 ((q.getD i.toNat []).getD (1 : Nat) (D.int (0 : Int))).toInt ≤ (1000000 : Int) ∧
 (1 : Int) ≤ ((q.getD i.toNat []).getD (2 : Nat) (D.int (0 : Int))).toInt ∧
 ((q.getD i.toNat []).getD (2 : Nat) (D.int (0 : Int))).toInt ≤ (1000000 : Int)) ∧
 bif
 mvK ((q.getD i.toNat []).getD (0 : Nat) (D.int (0 : Int))).toBool
 ((o.getD j.toNat []).getD (0 : Nat) (D.int (0 : Int))).toInt
 ((o.getD j.toNat []).getD (1 : Nat) (D.int (0 : Int))).toInt
 ((q.getD i.toNat []).getD (1 : Nat) (D.int (0 : Int))).toInt
 ((q.getD i.toNat []).getD (2 : Nat) (D.int (0 : Int))).toInt then
 K Ex.normal
 [AV.one (SV.data (Row.recs [CK.bool, CK.int IntKind.i64, CK.int IntKind.i64] q)),
 AV.one (SV.own (0 : Nat) (3 : Nat)), AV.one (SV.int IntKind.i64 i),
 AV.one (SV.own (1 : Nat) (3 : Nat)), AV.one (SV.int IntKind.i64 (IntKind.i64.wrap (j + (1 : Int))))]
 [Blk.row (114 : TypeId) (Row.recs [CK.int IntKind.i64, CK.int IntKind.i64, CK.str] o),
 Blk.row (114 : Nat)
 (Row.recs [CK.int IntKind.i64, CK.int IntKind.i64, CK.str]
 [[D.int
 (mvA ((q.getD i.toNat []).getD (0 : Nat) (D.int (0 : Int))).toBool
 ((o.getD j.toNat []).getD (0 : Nat) (D.int (0 : Int))).toInt
 ((o.getD j.toNat []).getD (1 : Nat) (D.int (0 : Int))).toInt
 ((q.getD i.toNat []).getD (1 : Nat) (D.int (0 : Int))).toInt
 ((q.getD i.toNat []).getD (2 : Nat) (D.int (0 : Int))).toInt),
 D.int
 (mvL ((q.getD i.toNat []).getD (0 : Nat) (D.int (0 : Int))).toBool
 ((o.getD j.toNat []).getD (0 : Nat) (D.int (0 : Int))).toInt
 ((o.getD j.toNat []).getD (1 : Nat) (D.int (0 : Int))).toInt
 ((q.getD i.toNat []).getD (1 : Nat) (D.int (0 : Int))).toInt
 ((q.getD i.toNat []).getD (2 : Nat) (D.int (0 : Int))).toInt),
 D.str ((o.getD j.toNat []).getD (2 : Nat) (D.int (0 : Int))).toStr]])]
 else
 K Ex.normal
 [AV.one (SV.data (Row.recs [CK.bool, CK.int IntKind.i64, CK.int IntKind.i64] q)),
 AV.one (SV.own (0 : Nat) (3 : Nat)), AV.one (SV.int IntKind.i64 i), AV.one SV.nil,
 AV.one (SV.int IntKind.i64 (IntKind.i64.wrap (j + (1 : Int))))]
 [Blk.row (114 : TypeId) (Row.recs [CK.int IntKind.i64, CK.int IntKind.i64, CK.str] o)]
 else False
 else False
 else False
 else False
 else
 K (Ex.exit (2 : Nat))
 [AV.one (SV.data (Row.recs [CK.bool, CK.int IntKind.i64, CK.int IntKind.i64] q)), AV.one (SV.int IntKind.i64 i),
 AV.one SV.nil]
 []) := by kernel_rfl
theorem exrmdl1c (q : List (List D)) (i j : Int) (o x : List (List D)) (K : Ex → List AV → List Blk → Prop) : evBody Ermd (lb Tryd.f85 1) [1, 5, 6, 7, 8] [1, 6, 7] [.one (.data (.recs [.bool, .int .i64, .int .i64] q)), .one (.own 0 3), .one (.int .i64 i), .one (.own 1 3), .one (.int .i64 j)] [.row 114 (.recs [.int .i64, .int .i64, .str] o), .row 114 (.recs [.int .i64, .int .i64, .str] x)] K = (
 bif decide (j < (↑o.length : Int)) then
 bif decide ((0 : Int) ≤ j) && decide (j < (↑o.length : Int)) then
 bif decide ((2 : Nat) < (3 : Nat)) && decide (j.toNat < o.length) then
 bif decide ((0 : Int) ≤ i) && decide (i < (↑q.length : Int)) then
 bif decide ((2 : Nat) < (3 : Nat)) && decide (i.toNat < q.length) then
 (((0 : Int) ≤ ((o.getD j.toNat []).getD (0 : Nat) (D.int (0 : Int))).toInt ∧
 ((o.getD j.toNat []).getD (0 : Nat) (D.int (0 : Int))).toInt ≤ (1000000000 : Int) ∧
 (0 : Int) ≤ ((o.getD j.toNat []).getD (1 : Nat) (D.int (0 : Int))).toInt ∧
 ((o.getD j.toNat []).getD (1 : Nat) (D.int (0 : Int))).toInt ≤ (1000000000 : Int) ∧
 (0 : Int) ≤ ((q.getD i.toNat []).getD (1 : Nat) (D.int (0 : Int))).toInt ∧
 ((q.getD i.toNat []).getD (1 : Nat) (D.int (0 : Int))).toInt ≤ (1000000 : Int) ∧
 (1 : Int) ≤ ((q.getD i.toNat []).getD (2 : Nat) (D.int (0 : Int))).toInt ∧
 ((q.getD i.toNat []).getD (2 : Nat) (D.int (0 : Int))).toInt ≤ (1000000 : Int)) ∧
 bif
 mvK ((q.getD i.toNat []).getD (0 : Nat) (D.int (0 : Int))).toBool
 ((o.getD j.toNat []).getD (0 : Nat) (D.int (0 : Int))).toInt
 ((o.getD j.toNat []).getD (1 : Nat) (D.int (0 : Int))).toInt
 ((q.getD i.toNat []).getD (1 : Nat) (D.int (0 : Int))).toInt
 ((q.getD i.toNat []).getD (2 : Nat) (D.int (0 : Int))).toInt then
 bif
 decide
 ((x ++
 [[D.int
 (mvA ((q.getD i.toNat []).getD (0 : Nat) (D.int (0 : Int))).toBool
 ((o.getD j.toNat []).getD (0 : Nat) (D.int (0 : Int))).toInt
 ((o.getD j.toNat []).getD (1 : Nat) (D.int (0 : Int))).toInt
 ((q.getD i.toNat []).getD (1 : Nat) (D.int (0 : Int))).toInt
 ((q.getD i.toNat []).getD (2 : Nat) (D.int (0 : Int))).toInt),
 D.int
 (mvL ((q.getD i.toNat []).getD (0 : Nat) (D.int (0 : Int))).toBool
 ((o.getD j.toNat []).getD (0 : Nat) (D.int (0 : Int))).toInt
 ((o.getD j.toNat []).getD (1 : Nat) (D.int (0 : Int))).toInt
 ((q.getD i.toNat []).getD (1 : Nat) (D.int (0 : Int))).toInt
 ((q.getD i.toNat []).getD (2 : Nat) (D.int (0 : Int))).toInt),
 D.str ((o.getD j.toNat []).getD (2 : Nat) (D.int (0 : Int))).toStr]]).length *
 (32 : Nat) ≤
 (140737488355328 : Nat) ∧
 (x ++
 [[D.int
 (mvA ((q.getD i.toNat []).getD (0 : Nat) (D.int (0 : Int))).toBool
 ((o.getD j.toNat []).getD (0 : Nat) (D.int (0 : Int))).toInt
 ((o.getD j.toNat []).getD (1 : Nat) (D.int (0 : Int))).toInt
 ((q.getD i.toNat []).getD (1 : Nat) (D.int (0 : Int))).toInt
 ((q.getD i.toNat []).getD (2 : Nat) (D.int (0 : Int))).toInt),
 D.int
 (mvL ((q.getD i.toNat []).getD (0 : Nat) (D.int (0 : Int))).toBool
 ((o.getD j.toNat []).getD (0 : Nat) (D.int (0 : Int))).toInt
 ((o.getD j.toNat []).getD (1 : Nat) (D.int (0 : Int))).toInt
 ((q.getD i.toNat []).getD (1 : Nat) (D.int (0 : Int))).toInt
 ((q.getD i.toNat []).getD (2 : Nat) (D.int (0 : Int))).toInt),
 D.str ((o.getD j.toNat []).getD (2 : Nat) (D.int (0 : Int))).toStr]]).length ≤
 (140737488355328 : Nat)) then
 K Ex.normal
 [AV.one (SV.data (Row.recs [CK.bool, CK.int IntKind.i64, CK.int IntKind.i64] q)),
 AV.one (SV.own (0 : Nat) (3 : Nat)), AV.one (SV.int IntKind.i64 i),
 AV.one (SV.own (1 : Nat) (3 : Nat)),
 AV.one (SV.int IntKind.i64 (IntKind.i64.wrap (j + (1 : Int))))]
 [Blk.row (114 : TypeId) (Row.recs [CK.int IntKind.i64, CK.int IntKind.i64, CK.str] o),
 Blk.row (114 : Nat)
 (Row.recs [CK.int IntKind.i64, CK.int IntKind.i64, CK.str]
 (x ++
 [[D.int
 (mvA ((q.getD i.toNat []).getD (0 : Nat) (D.int (0 : Int))).toBool
 ((o.getD j.toNat []).getD (0 : Nat) (D.int (0 : Int))).toInt
 ((o.getD j.toNat []).getD (1 : Nat) (D.int (0 : Int))).toInt
 ((q.getD i.toNat []).getD (1 : Nat) (D.int (0 : Int))).toInt
 ((q.getD i.toNat []).getD (2 : Nat) (D.int (0 : Int))).toInt),
 D.int
 (mvL ((q.getD i.toNat []).getD (0 : Nat) (D.int (0 : Int))).toBool
 ((o.getD j.toNat []).getD (0 : Nat) (D.int (0 : Int))).toInt
 ((o.getD j.toNat []).getD (1 : Nat) (D.int (0 : Int))).toInt
 ((q.getD i.toNat []).getD (1 : Nat) (D.int (0 : Int))).toInt
 ((q.getD i.toNat []).getD (2 : Nat) (D.int (0 : Int))).toInt),
 D.str ((o.getD j.toNat []).getD (2 : Nat) (D.int (0 : Int))).toStr]]))]
 else False
 else
 K Ex.normal
 [AV.one (SV.data (Row.recs [CK.bool, CK.int IntKind.i64, CK.int IntKind.i64] q)),
 AV.one (SV.own (0 : Nat) (3 : Nat)), AV.one (SV.int IntKind.i64 i),
 AV.one (SV.own (1 : Nat) (3 : Nat)), AV.one (SV.int IntKind.i64 (IntKind.i64.wrap (j + (1 : Int))))]
 [Blk.row (114 : TypeId) (Row.recs [CK.int IntKind.i64, CK.int IntKind.i64, CK.str] o),
 Blk.row (114 : TypeId) (Row.recs [CK.int IntKind.i64, CK.int IntKind.i64, CK.str] x)]) ∧
 ((0 : Int) ≤ ((o.getD j.toNat []).getD (0 : Nat) (D.int (0 : Int))).toInt ∧
 ((o.getD j.toNat []).getD (0 : Nat) (D.int (0 : Int))).toInt ≤ (1000000000 : Int) ∧
 (0 : Int) ≤ ((o.getD j.toNat []).getD (1 : Nat) (D.int (0 : Int))).toInt ∧
 ((o.getD j.toNat []).getD (1 : Nat) (D.int (0 : Int))).toInt ≤ (1000000000 : Int) ∧
 (0 : Int) ≤ ((q.getD i.toNat []).getD (1 : Nat) (D.int (0 : Int))).toInt ∧
 ((q.getD i.toNat []).getD (1 : Nat) (D.int (0 : Int))).toInt ≤ (1000000 : Int) ∧
 (1 : Int) ≤ ((q.getD i.toNat []).getD (2 : Nat) (D.int (0 : Int))).toInt ∧
 ((q.getD i.toNat []).getD (2 : Nat) (D.int (0 : Int))).toInt ≤ (1000000 : Int)) ∧
 bif
 mvK ((q.getD i.toNat []).getD (0 : Nat) (D.int (0 : Int))).toBool
 ((o.getD j.toNat []).getD (0 : Nat) (D.int (0 : Int))).toInt
 ((o.getD j.toNat []).getD (1 : Nat) (D.int (0 : Int))).toInt
 ((q.getD i.toNat []).getD (1 : Nat) (D.int (0 : Int))).toInt
 ((q.getD i.toNat []).getD (2 : Nat) (D.int (0 : Int))).toInt then
 bif
 decide
 ((x ++
 [[D.int
 (mvA ((q.getD i.toNat []).getD (0 : Nat) (D.int (0 : Int))).toBool
 ((o.getD j.toNat []).getD (0 : Nat) (D.int (0 : Int))).toInt
 ((o.getD j.toNat []).getD (1 : Nat) (D.int (0 : Int))).toInt
 ((q.getD i.toNat []).getD (1 : Nat) (D.int (0 : Int))).toInt
 ((q.getD i.toNat []).getD (2 : Nat) (D.int (0 : Int))).toInt),
 D.int
 (mvL ((q.getD i.toNat []).getD (0 : Nat) (D.int (0 : Int))).toBool
 ((o.getD j.toNat []).getD (0 : Nat) (D.int (0 : Int))).toInt
 ((o.getD j.toNat []).getD (1 : Nat) (D.int (0 : Int))).toInt
 ((q.getD i.toNat []).getD (1 : Nat) (D.int (0 : Int))).toInt
 ((q.getD i.toNat []).getD (2 : Nat) (D.int (0 : Int))).toInt),
 D.str ((o.getD j.toNat []).getD (2 : Nat) (D.int (0 : Int))).toStr]]).length *
 (32 : Nat) ≤
 (140737488355328 : Nat) ∧
 (x ++
 [[D.int
 (mvA ((q.getD i.toNat []).getD (0 : Nat) (D.int (0 : Int))).toBool
 ((o.getD j.toNat []).getD (0 : Nat) (D.int (0 : Int))).toInt
 ((o.getD j.toNat []).getD (1 : Nat) (D.int (0 : Int))).toInt
 ((q.getD i.toNat []).getD (1 : Nat) (D.int (0 : Int))).toInt
 ((q.getD i.toNat []).getD (2 : Nat) (D.int (0 : Int))).toInt),
 D.int
 (mvL ((q.getD i.toNat []).getD (0 : Nat) (D.int (0 : Int))).toBool
 ((o.getD j.toNat []).getD (0 : Nat) (D.int (0 : Int))).toInt
 ((o.getD j.toNat []).getD (1 : Nat) (D.int (0 : Int))).toInt
 ((q.getD i.toNat []).getD (1 : Nat) (D.int (0 : Int))).toInt
 ((q.getD i.toNat []).getD (2 : Nat) (D.int (0 : Int))).toInt),
 D.str ((o.getD j.toNat []).getD (2 : Nat) (D.int (0 : Int))).toStr]]).length ≤
 (140737488355328 : Nat)) then
 K Ex.normal
 [AV.one (SV.data (Row.recs [CK.bool, CK.int IntKind.i64, CK.int IntKind.i64] q)),
 AV.one (SV.own (0 : Nat) (3 : Nat)), AV.one (SV.int IntKind.i64 i),
 AV.one (SV.own (1 : Nat) (3 : Nat)),
 AV.one (SV.int IntKind.i64 (IntKind.i64.wrap (j + (1 : Int))))]
 [Blk.row (114 : TypeId) (Row.recs [CK.int IntKind.i64, CK.int IntKind.i64, CK.str] o),
 Blk.row (114 : Nat)
 (Row.recs [CK.int IntKind.i64, CK.int IntKind.i64, CK.str]
 (x ++
 [[D.int
 (mvA ((q.getD i.toNat []).getD (0 : Nat) (D.int (0 : Int))).toBool
 ((o.getD j.toNat []).getD (0 : Nat) (D.int (0 : Int))).toInt
 ((o.getD j.toNat []).getD (1 : Nat) (D.int (0 : Int))).toInt
 ((q.getD i.toNat []).getD (1 : Nat) (D.int (0 : Int))).toInt
 ((q.getD i.toNat []).getD (2 : Nat) (D.int (0 : Int))).toInt),
 D.int
 (mvL ((q.getD i.toNat []).getD (0 : Nat) (D.int (0 : Int))).toBool
 ((o.getD j.toNat []).getD (0 : Nat) (D.int (0 : Int))).toInt
 ((o.getD j.toNat []).getD (1 : Nat) (D.int (0 : Int))).toInt
 ((q.getD i.toNat []).getD (1 : Nat) (D.int (0 : Int))).toInt
 ((q.getD i.toNat []).getD (2 : Nat) (D.int (0 : Int))).toInt),
 D.str ((o.getD j.toNat []).getD (2 : Nat) (D.int (0 : Int))).toStr]]))]
 else False
 else
 K Ex.normal
 [AV.one (SV.data (Row.recs [CK.bool, CK.int IntKind.i64, CK.int IntKind.i64] q)),
 AV.one (SV.own (0 : Nat) (3 : Nat)), AV.one (SV.int IntKind.i64 i),
 AV.one (SV.own (1 : Nat) (3 : Nat)), AV.one (SV.int IntKind.i64 (IntKind.i64.wrap (j + (1 : Int))))]
 [Blk.row (114 : TypeId) (Row.recs [CK.int IntKind.i64, CK.int IntKind.i64, CK.str] o),
 Blk.row (114 : TypeId) (Row.recs [CK.int IntKind.i64, CK.int IntKind.i64, CK.str] x)]
 else False
 else False
 else False
 else False
 else
 K (Ex.exit (2 : Nat))
 [AV.one (SV.data (Row.recs [CK.bool, CK.int IntKind.i64, CK.int IntKind.i64] q)), AV.one (SV.int IntKind.i64 i),
 AV.one (SV.own (0 : Nat) (3 : Nat))]
 [Blk.row (114 : TypeId) (Row.recs [CK.int IntKind.i64, CK.int IntKind.i64, CK.str] x)]) := by kernel_rfl
end Go.Ev

namespace Go.Ev
open Go Go.Proofs
attribute [local irreducible] evFn evBody evRound
set_option maxRecDepth 20000

theorem mem_getD {α : Type} {l : List α} {i : Nat} {d : α} (h : i < l.length) : l.getD i d ∈ l := by rw [getD_of_lt h]; exact List.getElem_mem h
theorem okN1_form {B : Int} {d : List D} (h : okN1 B d = true) : ∃ a l t, d = [.int a, .int l, .str t] ∧ 0 ≤ a ∧ a ≤ B ∧ 0 ≤ l ∧ l ≤ B := by
  unfold okN1 at h
  split at h
  · rename_i a l t
    simp only [Bool.and_eq_true, decide_eq_true_eq] at h
    exact ⟨a, l, t, rfl, h.1, h.2.1, h.2.2.1, h.2.2.2⟩
  · cases h
theorem okN1_toI {B : Int} {d : List D} (h : okN1 B d = true) : 0 ≤ toI d 0 ∧ toI d 0 ≤ B ∧ 0 ≤ toI d 1 ∧ toI d 1 ≤ B := by
  obtain ⟨a, l, t, rfl, hr⟩ := okN1_form h
  exact hr
theorem okN1_up {B C : Int} (hBC : B ≤ C) {d : List D} (h : okN1 B d = true) : okN1 C d = true := by
  obtain ⟨a, l, t, rfl, h1, h2, h3, h4⟩ := okN1_form h
  show (decide (0 ≤ a) && (decide (a ≤ C) && (decide (0 ≤ l) && decide (l ≤ C)))) = true
  rw [decide_eq_true h1, decide_eq_true (show a ≤ C by omega), decide_eq_true h3, decide_eq_true (show l ≤ C by omega)]
  rfl
theorem all_up {B C : Int} (hBC : B ≤ C) {o : List (List D)} (h : o.all (okN1 B) = true) : o.all (okN1 C) = true := by
  rw [List.all_eq_true] at h ⊢
  exact fun d hd => okN1_up hBC (h d hd)
theorem okE1_facts {e : List D} (h : okE1 e = true) : okX3 (toI e 1) (toI e 2) := by
  unfold okE1 at h
  rw [Bool.and_eq_true] at h
  have h2 := h.2
  unfold oddD oddG withinG at h2
  simp only [Bool.not_or, Bool.not_not, Bool.and_eq_true, decide_eq_true_eq] at h2
  exact ⟨h2.1.1, h2.1.2, h2.2.1, h2.2.2⟩
theorem aft_mono {a l xa xl : Int} (h0 : 0 ≤ a) (h1 : 0 ≤ l) (h2 : 0 ≤ xa) (h3 : 1 ≤ xl) : 0 ≤ aftG (a + l) xa xl - aftG a xa xl ∧ aftG (a + l) xa xl - aftG a xa xl ≤ l := by
  unfold aftG
  repeat' split
  all_goals omega
theorem mv_range {b : Bool} {a l xa xl B : Int} (hx : okX3 xa xl) (h0 : 0 ≤ a) (h1 : a ≤ B) (h2 : 0 ≤ l) (h3 : l ≤ B) : 0 ≤ mvA b a l xa xl ∧ mvA b a l xa xl ≤ B + 1000000 ∧ 0 ≤ mvL b a l xa xl ∧ mvL b a l xa xl ≤ B + 1000000 := by
  obtain ⟨x1, x2, x3, x4⟩ := hx
  have r1 := aft_range (n := a) (xa := xa) (xl := xl) h0 x1 x3
  have r2 := aft_mono (a := a) (l := l) (xa := xa) (xl := xl) h0 h2 x1 x3
  unfold mvA mvL
  cases b <;> cases cutK a l xa xl <;> cases decide (xa ≤ a) <;> cases decide (xa < a + l) <;> simp only [cond_true, cond_false] <;> omega
theorem movL_step (b : Bool) (xa xl : Int) {o : List (List D)} {i : Nat} (h : i < o.length) : movL b xa xl (o.drop i) = movD b xa xl (o.getD i []) ++ movL b xa xl (o.drop (i + 1)) := by
  unfold movL
  rw [drop_step [] h, List.flatMap_cons]
theorem movD_le (b : Bool) (xa xl : Int) (d : List D) : (movD b xa xl d).length ≤ 1 := by
  unfold movD
  cases mvK b (toI d 0) (toI d 1) xa xl <;> simp
theorem movL_le (b : Bool) (xa xl : Int) : ∀ o : List (List D), (movL b xa xl o).length ≤ o.length
  | [] => Nat.le_refl _
  | d :: o => by
    have h1 := movD_le b xa xl d
    have h2 := movL_le b xa xl o
    unfold movL at h2 ⊢
    rw [List.flatMap_cons, List.length_append, List.length_cons]
    omega
theorem movL_ok {b : Bool} {xa xl B : Int} (hx : okX3 xa xl) : ∀ {o : List (List D)}, o.all (okN1 B) = true → (movL b xa xl o).all (okN1 (B + 1000000)) = true
  | [], _ => rfl
  | d :: o, h => by
    rw [List.all_cons, Bool.and_eq_true] at h
    have h2 := movL_ok (b := b) hx h.2
    unfold movL at h2 ⊢
    rw [List.flatMap_cons, List.all_append, h2, Bool.and_true]
    unfold movD
    cases mvK b (toI d 0) (toI d 1) xa xl with
    | false => rfl
    | true =>
      obtain ⟨t0, t1, t2, t3⟩ := okN1_toI h.1
      obtain ⟨r1, r2, r3, r4⟩ := mv_range (b := b) hx t0 t1 t2 t3
      show ((decide (0 ≤ mvA b (toI d 0) (toI d 1) xa xl) && (decide (mvA b (toI d 0) (toI d 1) xa xl ≤ B + 1000000) && (decide (0 ≤ mvL b (toI d 0) (toI d 1) xa xl) && decide (mvL b (toI d 0) (toI d 1) xa xl ≤ B + 1000000)))) && true) = true
      rw [decide_eq_true r1, decide_eq_true r2, decide_eq_true r3, decide_eq_true r4]
      rfl
theorem movA_nil : ∀ q, movA [] q = []
  | [] => rfl
  | e :: q => by
    show movA (movL _ _ _ []) q = []
    exact movA_nil q
theorem movA_step {o q : List (List D)} {c : Nat} (h : c < q.length) : movA o (q.drop c) = movA (movL (toB (q.getD c []) 0) (toI (q.getD c []) 1) (toI (q.getD c []) 2) o) (q.drop (c + 1)) := by
  rw [drop_step [] h]; rfl
theorem lokmvd_1 : LoopOK Emvd (lb Tryd.f80 1) [9, 10, 26, 27, 28, 32, 33, 34] [10, 26, 27, 28] mvI := by
  refine loopOK (.cons oknte (.cons okede (.cons ok69 (.cons okncl (.cons okins (.cons okcut .nil)))))) (noInner (by kernel_rfl)) (fun vs σ => match vs, σ with
    | [.one (.ptr 0 1 0 0), .one .nil, .one (.data (.recs [.bool, .int .i64, .int .i64] _)), .one (.int .i64 _), .one (.int .i64 _), .one .nil, .one (.int .i64 n), .one (.int .i64 i)], [.cells [.bool _, .int .i64 _, .int .i64 _]] => (n - i).toNat
    | [.one (.ptr 0 1 0 0), .one .nil, .one (.data (.recs [.bool, .int .i64, .int .i64] _)), .one (.int .i64 _), .one (.int .i64 _), .one (.own 1 3), .one (.int .i64 n), .one (.int .i64 i)], [.cells [.bool _, .int .i64 _, .int .i64 _], .row 114 (.recs [.int .i64, .int .i64, .str] _)] => (n - i).toNat
    | [.one (.ptr 0 1 0 0), .one (.own 1 3), .one (.data (.recs [.bool, .int .i64, .int .i64] _)), .one (.int .i64 _), .one (.int .i64 _), .one (.own 2 3), .one (.int .i64 n), .one (.int .i64 i)], [.cells [.bool _, .int .i64 _, .int .i64 _], .row 114 (.recs [.int .i64, .int .i64, .str] _), .row 114 (.recs [.int .i64, .int .i64, .str] _)] => (n - i).toNat
    | _, _ => 0) fun vs σ k h => ?_
  unfold mvI at h
  split at h
  rotate_right
  · exact h.elim
  · rename_i q m c n i b xa xl
    rw [exmvdl1a q m c n i b xa xl _]
    obtain ⟨⟨rfl, rfl⟩, h⟩ := h
    exact h
  · rename_i q m c n i b xa xl o
    rw [exmvdl1b q m c n i b xa xl o _]
    obtain ⟨⟨hx, ho, rfl, h1, h0, h2⟩, h⟩ := h
    by_cases hi : i < (o.length : Int)
    · have hw : IntKind.i64.wrap (i + 1) = i + 1 := wrap_id (by omega) (by omega)
      have hmu : ((o.length : Int) - (i + 1)).toNat < ((o.length : Int) - i).toNat := by omega
      have hd := List.all_eq_true.1 ho _ (mem_getD (d := []) (show i.toNat < o.length by omega))
      obtain ⟨t0, t1, t2, t3⟩ := okN1_toI hd
      rw [movL_step b xa xl (show i.toNat < o.length by omega), show i.toNat + 1 = (i + 1).toNat by omega] at h
      have g0 : ((o.getD i.toNat []).getD 0 (D.int 0)).toInt = toI (o.getD i.toNat []) 0 := rfl
      have g1 : ((o.getD i.toNat []).getD 1 (D.int 0)).toInt = toI (o.getD i.toNat []) 1 := rfl
      have g2 : ((o.getD i.toNat []).getD 2 (D.int 0)).toStr = toS (o.getD i.toNat []) 2 := rfl
      simp only [g0, g1, g2]
      rw [hw, decide_eq_true hi, decide_eq_true h0, decide_eq_true (show i.toNat < o.length by omega)]
      generalize o.getD i.toNat [] = d at *
      have hx' := hx
      obtain ⟨x1, x2, x3, x4⟩ := hx'
      have pre : (0 ≤ toI d 0 ∧ toI d 0 ≤ 1000000000 ∧ 0 ≤ toI d 1 ∧ toI d 1 ≤ 1000000000 ∧ 0 ≤ xa ∧ xa ≤ 1000000 ∧ 1 ≤ xl ∧ xl ≤ 1000000) := by omega
      unfold movD mvK at h
      cases b with
      | true => exact ⟨pre, ⟨⟨hx, ho, rfl, h1, by omega, by omega, by simp only [List.length_cons, List.length_nil]; omega⟩, h⟩, hmu⟩
      | false =>
        refine ⟨pre, ?_⟩
        cases hk : cutK (toI d 0) (toI d 1) xa xl with
        | true =>
          rw [hk] at h
          exact ⟨⟨⟨hx, ho, rfl, h1, by omega, by omega, by simp only [List.length_cons, List.length_nil]; omega⟩, h⟩, hmu⟩
        | false =>
          rw [hk] at h
          exact ⟨⟨⟨hx, ho, rfl, h1, by omega, by omega⟩, h⟩, hmu⟩
    · rw [decide_eq_false hi]
      rw [List.drop_eq_nil_of_le (by omega)] at h
      exact h
  · rename_i q m c n i b xa xl x o
    rw [exmvdl1c q m c n i b xa xl x o _]
    obtain ⟨⟨hx, ho, rfl, h1, h0, h2, h3⟩, h⟩ := h
    by_cases hi : i < (o.length : Int)
    · have hw : IntKind.i64.wrap (i + 1) = i + 1 := wrap_id (by omega) (by omega)
      have hmu : ((o.length : Int) - (i + 1)).toNat < ((o.length : Int) - i).toNat := by omega
      have hd := List.all_eq_true.1 ho _ (mem_getD (d := []) (show i.toNat < o.length by omega))
      obtain ⟨t0, t1, t2, t3⟩ := okN1_toI hd
      rw [movL_step b xa xl (show i.toNat < o.length by omega), show i.toNat + 1 = (i + 1).toNat by omega] at h
      have g0 : ((o.getD i.toNat []).getD 0 (D.int 0)).toInt = toI (o.getD i.toNat []) 0 := rfl
      have g1 : ((o.getD i.toNat []).getD 1 (D.int 0)).toInt = toI (o.getD i.toNat []) 1 := rfl
      have g2 : ((o.getD i.toNat []).getD 2 (D.int 0)).toStr = toS (o.getD i.toNat []) 2 := rfl
      simp only [g0, g1, g2]
      rw [hw, decide_eq_true hi, decide_eq_true h0, decide_eq_true (show i.toNat < o.length by omega)]
      generalize o.getD i.toNat [] = d at *
      have hx' := hx
      obtain ⟨x1, x2, x3, x4⟩ := hx'
      have pre : (0 ≤ toI d 0 ∧ toI d 0 ≤ 1000000000 ∧ 0 ≤ toI d 1 ∧ toI d 1 ≤ 1000000000 ∧ 0 ≤ xa ∧ xa ≤ 1000000 ∧ 1 ≤ xl ∧ xl ≤ 1000000) := by omega
      unfold movD mvK at h
      have hlen : ∀ v : List D, (x ++ [v]).length = x.length + 1 := fun v => by simp
      cases b with
      | true =>
        simp only [cond_true] at h
        rw [← List.append_assoc] at h
        refine ⟨pre, condM (decide_eq_true (by simp only [hlen]; omega)) ⟨⟨⟨hx, ho, rfl, h1, by omega, by omega, by simp only [hlen]; omega⟩, h⟩, hmu⟩⟩
      | false =>
        refine ⟨pre, ?_⟩
        cases hk : cutK (toI d 0) (toI d 1) xa xl with
        | true =>
          rw [hk] at h
          simp only [cond_true, cond_false] at h
          rw [← List.append_assoc] at h
          exact condM (decide_eq_true (by simp only [hlen]; omega)) ⟨⟨⟨hx, ho, rfl, h1, by omega, by omega, by simp only [hlen]; omega⟩, h⟩, hmu⟩
        | false =>
          rw [hk] at h
          exact ⟨⟨⟨hx, ho, rfl, h1, by omega, by omega, by omega⟩, h⟩, hmu⟩
    · rw [decide_eq_false hi]
      rw [List.drop_eq_nil_of_le (by omega)] at h
      have e0 : movL b xa xl [] = [] := rfl
      rw [e0, List.append_nil] at h
      exact h
theorem lokmvd_0 : LoopOK Emvd (lb Tryd.f80 0) [7, 26, 27, 28] [7] mvO := by
  refine loopOK (.cons oknte (.cons okede (.cons ok69 (.cons okncl (.cons okins (.cons okcut .nil)))))) (fun b' hb => by
    have hl : loopsOf (lb Tryd.f80 0) = [lb Tryd.f80 1] := by kernel_rfl
    rw [hl] at hb
    simp only [List.mem_cons, List.not_mem_nil, or_false] at hb
    subst hb
    exact loopHyp_of (key := 10) (by kernel_rfl) rfl lokmvd_1) (fun vs σ => match vs, σ with
    | [.one .nil, .one (.data (.recs [.bool, .int .i64, .int .i64] _)), .one (.int .i64 m), .one (.int .i64 c)], [] => (m - c).toNat
    | [.one (.own 0 3), .one (.data (.recs [.bool, .int .i64, .int .i64] _)), .one (.int .i64 m), .one (.int .i64 c)], [.row 114 (.recs [.int .i64, .int .i64, .str] _)] => (m - c).toNat
    | _, _ => 0) fun vs σ k h => ?_
  unfold mvO at h
  split at h
  rotate_right
  · exact h.elim
  · rename_i q m c
    rw [exmvdl0a q m c _]
    obtain ⟨⟨rfl, h1, h0, h2⟩, h⟩ := h
    by_cases hi : c < (q.length : Int)
    · have hw : IntKind.i64.wrap (c + 1) = c + 1 := wrap_id (by omega) (by omega)
      rw [hw, decide_eq_true hi, decide_eq_true h0, decide_eq_true (show c.toNat < q.length by omega)]
      exact ⟨⟨rfl, rfl⟩, ⟨⟨rfl, h1, by omega, by omega⟩, h⟩, by show ((q.length : Int) - (c + 1)).toNat < ((q.length : Int) - c).toNat; omega⟩
    · rw [decide_eq_false hi]; exact h
  · rename_i q m c o
    rw [exmvdl0b q m c o _]
    obtain ⟨⟨hq, rfl, h1, h0, h2, h3, ho⟩, h, hn⟩ := h
    by_cases hi : c < (q.length : Int)
    · have hw : IntKind.i64.wrap (c + 1) = c + 1 := wrap_id (by omega) (by omega)
      have hmu : ((q.length : Int) - (c + 1)).toNat < ((q.length : Int) - c).toNat := by omega
      have he := okE1_facts (List.all_eq_true.1 hq _ (mem_getD (d := []) (show c.toNat < q.length by omega)))
      rw [movA_step (show c.toNat < q.length by omega), show c.toNat + 1 = (c + 1).toNat by omega] at h hn
      have g0 : ((q.getD c.toNat []).getD 0 (D.int 0)).toBool = toB (q.getD c.toNat []) 0 := rfl
      have g1 : ((q.getD c.toNat []).getD 1 (D.int 0)).toInt = toI (q.getD c.toNat []) 1 := rfl
      have g2 : ((q.getD c.toNat []).getD 2 (D.int 0)).toInt = toI (q.getD c.toNat []) 2 := rfl
      simp only [g0, g1, g2]
      rw [hw, decide_eq_true hi, decide_eq_true h0, decide_eq_true (show c.toNat < q.length by omega)]
      have hle := movL_le (toB (q.getD c.toNat []) 0) (toI (q.getD c.toNat []) 1) (toI (q.getD c.toNat []) 2) o
      have hok := movL_ok (b := toB (q.getD c.toNat []) 0) he ho
      refine ⟨⟨he, all_up (by omega) ho, by first | rfl | trivial, by omega, by decide, by omega⟩, ?_⟩
      cases hm : (movL (toB (q.getD c.toNat []) 0) (toI (q.getD c.toNat []) 1) (toI (q.getD c.toNat []) 2) o).isEmpty with
      | true =>
        have hm0 := List.isEmpty_iff.1 hm
        rw [hm0, movA_nil] at hn
        exact ⟨⟨⟨rfl, h1, by omega, by omega⟩, hn rfl⟩, hmu⟩
      | false =>
        refine ⟨⟨⟨hq, rfl, h1, by omega, by omega, by omega, ?_⟩, h, hn⟩, hmu⟩
        rw [show 1000000 * (c + 1 + 1) = 1000000 * (c + 1) + 1000000 by omega]
        exact hok
    · rw [decide_eq_false hi]
      rw [List.drop_eq_nil_of_le (by omega)] at h
      exact h
theorem notE_ok {p : List (List D)} (hw : p.all wfN = true) (h : notE p = 0) : p.length ≤ 20 ∧ p.all (okN1 1000000) = true := by
  unfold notE at h
  by_cases hl : (p.length : Int) > 20
  · rw [decide_eq_true hl] at h; simp at h
  · rw [decide_eq_false hl, cond_false] at h
    refine ⟨by omega, ?_⟩
    clear hl
    induction p with
    | nil => rfl
    | cons d p ih =>
      rw [List.all_cons, Bool.and_eq_true] at hw
      simp only [ntsE] at h
      by_cases hd : nteE d = 0
      · rw [hd] at h
        rw [List.all_cons, ih hw.2 h, Bool.and_true]
        have hwd := hw.1
        unfold wfN at hwd
        split at hwd
        · rename_i a l t
          rw [nteE_first] at hd
          have t0 : toI [D.int a, D.int l, D.str t] 0 = a := rfl
          have t1 : toI [D.int a, D.int l, D.str t] 1 = l := rfl
          rw [t0, t1] at hd
          cases w1 : withinG a 0 1000000 with
          | false => rw [w1] at hd; simp at hd
          | true =>
            cases w2 : withinG l 0 1000000 with
            | false => rw [w1, w2] at hd; simp at hd
            | true =>
              unfold withinG at w1 w2
              simp only [Bool.and_eq_true, decide_eq_true_eq] at w1 w2
              show (decide (0 ≤ a) && (decide (a ≤ 1000000) && (decide (0 ≤ l) && decide (l ≤ 1000000)))) = true
              rw [decide_eq_true w1.1, decide_eq_true w1.2, decide_eq_true w2.1, decide_eq_true w2.2]
              rfl
        · cases hwd
      · rw [show (nteE d == 0) = false from beq_eq_false_iff_ne.2 hd, cond_false] at h
        exact absurd h hd
theorem edE_ok {q : List (List D)} (hw : q.all wfE = true) (h : edE q = 0) : q.length ≤ 20 ∧ q.all okE1 = true := by
  obtain ⟨h1, h2⟩ := firstE2 h
  refine ⟨?_, ?_⟩
  · by_cases hl : (q.length : Int) ≤ 20
    · omega
    · rw [decide_eq_false hl] at h1; exact absurd h1 (by decide)
  · rw [List.all_eq_true] at hw ⊢
    intro e he
    unfold okE1
    rw [hw e he, Bool.true_and]
    cases ho : oddD e with
    | false => rfl
    | true =>
      have : q.any oddD = true := List.any_eq_true.2 ⟨e, he, ho⟩
      rw [this] at h2
      exact absurd h2 (by decide)
theorem okmvd : SpecOK Tryd.prog 80 mvS := by
  refine specOK (n := 61) (m := 0) (lps := [(6, .spec [7, 26, 27, 28] [7] mvO), (10, .spec [9, 10, 26, 27, 28, 32, 33, 34] [10, 26, 27, 28] mvI)]) (.cons oknte (.cons okede (.cons ok69 (.cons okncl (.cons okins (.cons okcut .nil)))))) Tryd.func80 (by kernel_rfl) (by kernel_rfl) (theLoops (n := 2) (by kernel_rfl) fun i hi => ?_) fun args σ K h => ?_
  · match i, hi with
    | 0, _ => exact loopHyp_of (key := 6) (by kernel_rfl) rfl lokmvd_0
    | 1, _ => exact loopHyp_of (key := 10) (by kernel_rfl) rfl lokmvd_1
  unfold mvS at h
  split at h
  rotate_right
  · exact h.elim
  rename_i p q
  rw [exmvd p q K]
  obtain ⟨⟨hp, hq, hl⟩, h⟩ := h
  have hE : firstE [notE p, edE q] = mvE p q := rfl
  rw [hE]
  refine ⟨hl, by simp, ?_⟩
  by_cases he : mvE p q = 0
  · obtain ⟨e1, e2⟩ := firstE2 he
    obtain ⟨n1, n2⟩ := notE_ok hp e1
    obtain ⟨d1, d2⟩ := edE_ok hq e2
    rw [he] at h ⊢
    obtain ⟨h, hn⟩ := h
    refine ⟨by omega, ⟨⟨d2, rfl, by omega, by decide, by omega, by omega, n2⟩, h, hn⟩, fun h0 => ⟨⟨rfl, by omega, by decide, by omega⟩, hn ?_⟩⟩
    rw [List.length_eq_zero_iff.1 h0, movA_nil]; rfl
  · have c1 : (mvE p q == 0) = false := beq_eq_false_iff_ne.2 he
    rw [c1] at h
    rw [show (mvE p q != 0) = true by rw [bne, c1]; rfl]
    exact h
theorem okmvD : SpecOK Tryd.prog 80 mvDS := by
  refine okmvd.froze fun args σ K h => ?_
  unfold mvDS at h
  split at h
  · rename_i p q
    obtain ⟨h1, h⟩ := h
    refine ⟨rfl, h1, ?_⟩
    unfold mvR at h
    by_cases he : mvE p q = 0
    · rw [he] at h ⊢
      refine ⟨⟨_, ?_, h⟩, fun h0 => ⟨_, ?_, h⟩⟩
      · exact ⟨⟨_, _, rfl, rfl, rfl⟩, rfl, trivial⟩
      · exact ⟨.inr ⟨.recs [.int .i64, .int .i64, .str] (movA p q), h0, rfl⟩, rfl, trivial⟩
    · have c1 : (mvE p q == 0) = false := beq_eq_false_iff_ne.2 he
      rw [c1] at h ⊢
      refine ⟨_, ?_, h⟩
      exact ⟨.inr ⟨_, rfl, rfl⟩, rfl, trivial⟩
  · exact h.elim

/-! ### The reference -/
theorem lokrmd_1 : LoopOK Ermd (lb Tryd.f85 1) [1, 5, 6, 7, 8] [1, 6, 7] rmI := by
  refine loopOK (.cons okcpn (.cons okrmv .nil)) (noInner (by kernel_rfl)) (fun vs σ => match vs, σ with
    | [.one (.data (.recs [.bool, .int .i64, .int .i64] _)), .one .nil, .one (.int .i64 _), .one .nil, .one (.int .i64 j)], [] => (1000 - j).toNat
    | [.one (.data (.recs [.bool, .int .i64, .int .i64] _)), .one (.own 0 3), .one (.int .i64 _), .one .nil, .one (.int .i64 j)], [.row 114 (.recs [.int .i64, .int .i64, .str] _)] => (1000 - j).toNat
    | [.one (.data (.recs [.bool, .int .i64, .int .i64] _)), .one (.own 0 3), .one (.int .i64 _), .one (.own 1 3), .one (.int .i64 j)], [.row 114 (.recs [.int .i64, .int .i64, .str] _), .row 114 (.recs [.int .i64, .int .i64, .str] _)] => (1000 - j).toNat
    | _, _ => 0) fun vs σ k h => ?_
  unfold rmI at h
  split at h
  rotate_right
  · exact h.elim
  · rename_i q i j
    rw [exrmdl1a q i j _]
    obtain ⟨rfl, h⟩ := h
    exact h
  · rename_i q i j o
    rw [exrmdl1b q i j o _]
    obtain ⟨⟨hq, i0, i1, ho, h1, h0, h2⟩, h⟩ := h
    by_cases hi : j < (o.length : Int)
    · have hw : IntKind.i64.wrap (j + 1) = j + 1 := wrap_id (by omega) (by omega)
      have hmu : ((1000 : Int) - (j + 1)).toNat < ((1000 : Int) - j).toNat := by omega
      have hd := List.all_eq_true.1 ho _ (mem_getD (d := []) (show j.toNat < o.length by omega))
      obtain ⟨t0, t1, t2, t3⟩ := okN1_toI hd
      have he := okE1_facts (List.all_eq_true.1 hq _ (mem_getD (d := []) (show i.toNat < q.length by omega)))
      obtain ⟨x1, x2, x3, x4⟩ := he
      unfold movQ at h
      rw [movL_step _ _ _ (show j.toNat < o.length by omega), show j.toNat + 1 = (j + 1).toNat by omega] at h
      have g0 : ((o.getD j.toNat []).getD 0 (D.int 0)).toInt = toI (o.getD j.toNat []) 0 := rfl
      have g1 : ((o.getD j.toNat []).getD 1 (D.int 0)).toInt = toI (o.getD j.toNat []) 1 := rfl
      have g2 : ((o.getD j.toNat []).getD 2 (D.int 0)).toStr = toS (o.getD j.toNat []) 2 := rfl
      have k0 : ((q.getD i.toNat []).getD 0 (D.int 0)).toBool = toB (q.getD i.toNat []) 0 := rfl
      have k1 : ((q.getD i.toNat []).getD 1 (D.int 0)).toInt = toI (q.getD i.toNat []) 1 := rfl
      have k2 : ((q.getD i.toNat []).getD 2 (D.int 0)).toInt = toI (q.getD i.toNat []) 2 := rfl
      simp only [g0, g1, g2, k0, k1, k2]
      rw [hw, decide_eq_true hi, decide_eq_true h0, decide_eq_true (show j.toNat < o.length by omega), decide_eq_true i0, decide_eq_true i1, decide_eq_true (show i.toNat < q.length by omega)]
      have pre : (0 ≤ toI (o.getD j.toNat []) 0 ∧ toI (o.getD j.toNat []) 0 ≤ 1000000000 ∧ 0 ≤ toI (o.getD j.toNat []) 1 ∧ toI (o.getD j.toNat []) 1 ≤ 1000000000 ∧ 0 ≤ toI (q.getD i.toNat []) 1 ∧ toI (q.getD i.toNat []) 1 ≤ 1000000 ∧ 1 ≤ toI (q.getD i.toNat []) 2 ∧ toI (q.getD i.toNat []) 2 ≤ 1000000) := by omega
      unfold movD at h
      cases hk : mvK (toB (q.getD i.toNat []) 0) (toI (o.getD j.toNat []) 0) (toI (o.getD j.toNat []) 1) (toI (q.getD i.toNat []) 1) (toI (q.getD i.toNat []) 2) with
      | true =>
        rw [hk] at h
        refine ⟨⟨pre, ⟨⟨hq, i0, i1, ho, h1, by omega, by omega, by simp only [List.length_cons, List.length_nil]; omega⟩, h⟩, hmu⟩, pre, ⟨⟨hq, i0, i1, ho, h1, by omega, by omega, by simp only [List.length_cons, List.length_nil]; omega⟩, h⟩, hmu⟩
      | false =>
        rw [hk] at h
        exact ⟨⟨pre, ⟨⟨hq, i0, i1, ho, h1, by omega, by omega⟩, h⟩, hmu⟩, pre, ⟨⟨hq, i0, i1, ho, h1, by omega, by omega⟩, h⟩, hmu⟩
    · rw [decide_eq_false hi]
      rw [List.drop_eq_nil_of_le (by omega)] at h
      exact h
  · rename_i q i j o x
    rw [exrmdl1c q i j o x _]
    obtain ⟨⟨hq, i0, i1, ho, h1, h0, h2, h3⟩, h⟩ := h
    by_cases hi : j < (o.length : Int)
    · have hw : IntKind.i64.wrap (j + 1) = j + 1 := wrap_id (by omega) (by omega)
      have hmu : ((1000 : Int) - (j + 1)).toNat < ((1000 : Int) - j).toNat := by omega
      have hd := List.all_eq_true.1 ho _ (mem_getD (d := []) (show j.toNat < o.length by omega))
      obtain ⟨t0, t1, t2, t3⟩ := okN1_toI hd
      have he := okE1_facts (List.all_eq_true.1 hq _ (mem_getD (d := []) (show i.toNat < q.length by omega)))
      obtain ⟨x1, x2, x3, x4⟩ := he
      unfold movQ at h
      rw [movL_step _ _ _ (show j.toNat < o.length by omega), show j.toNat + 1 = (j + 1).toNat by omega] at h
      have g0 : ((o.getD j.toNat []).getD 0 (D.int 0)).toInt = toI (o.getD j.toNat []) 0 := rfl
      have g1 : ((o.getD j.toNat []).getD 1 (D.int 0)).toInt = toI (o.getD j.toNat []) 1 := rfl
      have g2 : ((o.getD j.toNat []).getD 2 (D.int 0)).toStr = toS (o.getD j.toNat []) 2 := rfl
      have k0 : ((q.getD i.toNat []).getD 0 (D.int 0)).toBool = toB (q.getD i.toNat []) 0 := rfl
      have k1 : ((q.getD i.toNat []).getD 1 (D.int 0)).toInt = toI (q.getD i.toNat []) 1 := rfl
      have k2 : ((q.getD i.toNat []).getD 2 (D.int 0)).toInt = toI (q.getD i.toNat []) 2 := rfl
      simp only [g0, g1, g2, k0, k1, k2]
      rw [hw, decide_eq_true hi, decide_eq_true h0, decide_eq_true (show j.toNat < o.length by omega), decide_eq_true i0, decide_eq_true i1, decide_eq_true (show i.toNat < q.length by omega)]
      have pre : (0 ≤ toI (o.getD j.toNat []) 0 ∧ toI (o.getD j.toNat []) 0 ≤ 1000000000 ∧ 0 ≤ toI (o.getD j.toNat []) 1 ∧ toI (o.getD j.toNat []) 1 ≤ 1000000000 ∧ 0 ≤ toI (q.getD i.toNat []) 1 ∧ toI (q.getD i.toNat []) 1 ≤ 1000000 ∧ 1 ≤ toI (q.getD i.toNat []) 2 ∧ toI (q.getD i.toNat []) 2 ≤ 1000000) := by omega
      have hlen : ∀ v : List D, (x ++ [v]).length = x.length + 1 := fun v => by simp
      unfold movD at h
      cases hk : mvK (toB (q.getD i.toNat []) 0) (toI (o.getD j.toNat []) 0) (toI (o.getD j.toNat []) 1) (toI (q.getD i.toNat []) 1) (toI (q.getD i.toNat []) 2) with
      | true =>
        rw [hk, cond_true, ← List.append_assoc] at h
        repeat' first
          | exact pre
          | exact condM (decide_eq_true (by simp only [hlen]; omega)) ⟨⟨⟨hq, i0, i1, ho, h1, by omega, by omega, by simp only [hlen]; omega⟩, h⟩, hmu⟩
          | refine And.intro ?_ ?_
      | false =>
        rw [hk] at h
        exact ⟨⟨pre, ⟨⟨hq, i0, i1, ho, h1, by omega, by omega, by omega⟩, h⟩, hmu⟩, pre, ⟨⟨hq, i0, i1, ho, h1, by omega, by omega, by omega⟩, h⟩, hmu⟩
    · rw [decide_eq_false hi]
      rw [List.drop_eq_nil_of_le (by omega)] at h
      have e0 : movQ q i [] = [] := rfl
      rw [e0, List.append_nil] at h
      exact h
theorem lokrmd_0 : LoopOK Ermd (lb Tryd.f85 0) [1, 5, 6] [5] rmO := by
  refine loopOK (.cons okcpn (.cons okrmv .nil)) (fun b' hb => by
    have hl : loopsOf (lb Tryd.f85 0) = [lb Tryd.f85 1] := by kernel_rfl
    rw [hl] at hb
    simp only [List.mem_cons, List.not_mem_nil, or_false] at hb
    subst hb
    exact loopHyp_of (key := 7) (by kernel_rfl) rfl lokrmd_1) (fun vs σ => match vs, σ with
    | [.one (.data (.recs [.bool, .int .i64, .int .i64] q)), .one .nil, .one (.int .i64 i)], [] => (q.length - i).toNat
    | [.one (.data (.recs [.bool, .int .i64, .int .i64] q)), .one (.own 0 3), .one (.int .i64 i)], [.row 114 (.recs [.int .i64, .int .i64, .str] _)] => (q.length - i).toNat
    | _, _ => 0) fun vs σ k h => ?_
  unfold rmO at h
  split at h
  rotate_right
  · exact h.elim
  · rename_i q i
    rw [exrmdl0a q i _]
    obtain ⟨⟨h1, h0, h2⟩, h⟩ := h
    by_cases hi : i < (q.length : Int)
    · have hw : IntKind.i64.wrap (i + 1) = i + 1 := wrap_id (by omega) (by omega)
      rw [hw, decide_eq_true hi]
      exact ⟨rfl, ⟨⟨h1, by omega, by omega⟩, h⟩, by show ((q.length : Int) - (i + 1)).toNat < ((q.length : Int) - i).toNat; omega⟩
    · rw [decide_eq_false hi]; exact h
  · rename_i q i o
    rw [exrmdl0b q i o _]
    obtain ⟨⟨hq, h1, h0, h2, h3, ho⟩, h, hn⟩ := h
    by_cases hi : i < (q.length : Int)
    · have hw : IntKind.i64.wrap (i + 1) = i + 1 := wrap_id (by omega) (by omega)
      have hmu : ((q.length : Int) - (i + 1)).toNat < ((q.length : Int) - i).toNat := by omega
      have he := okE1_facts (List.all_eq_true.1 hq _ (mem_getD (d := []) (show i.toNat < q.length by omega)))
      rw [movA_step (show i.toNat < q.length by omega), show i.toNat + 1 = (i + 1).toNat by omega] at h hn
      rw [hw, decide_eq_true hi]
      have hle := movL_le (toB (q.getD i.toNat []) 0) (toI (q.getD i.toNat []) 1) (toI (q.getD i.toNat []) 2) o
      have hok := movL_ok (b := toB (q.getD i.toNat []) 0) he ho
      refine ⟨⟨hq, h0, hi, all_up (by omega) ho, h3, by decide, by omega⟩, ?_⟩
      show (bif (movL (toB (q.getD i.toNat []) 0) (toI (q.getD i.toNat []) 1) (toI (q.getD i.toNat []) 2) o).isEmpty then _ else _)
      cases hm : (movL (toB (q.getD i.toNat []) 0) (toI (q.getD i.toNat []) 1) (toI (q.getD i.toNat []) 2) o).isEmpty with
      | true =>
        have hm0 := List.isEmpty_iff.1 hm
        rw [hm0, movA_nil] at hn
        exact ⟨⟨⟨h1, by omega, by omega⟩, hn rfl⟩, hmu⟩
      | false =>
        refine ⟨⟨⟨hq, h1, by omega, by omega, (show (movL (toB (q.getD i.toNat []) 0) (toI (q.getD i.toNat []) 1) (toI (q.getD i.toNat []) 2) o).length ≤ 1000 by omega), ?_⟩, h, hn⟩, hmu⟩
        rw [show 1000000 * (i + 1 + 1) = 1000000 * (i + 1) + 1000000 by omega]
        exact hok
    · rw [decide_eq_false hi]
      rw [List.drop_eq_nil_of_le (by omega)] at h
      exact h
theorem okrmd : SpecOK Tryd.prog 85 rmS := by
  refine specOK (n := 44) (m := 0) (lps := [(3, .spec [1, 5, 6] [5] rmO), (7, .spec [1, 5, 6, 7, 8] [1, 6, 7] rmI)]) (.cons okcpn (.cons okrmv .nil)) Tryd.func85 (by kernel_rfl) (by kernel_rfl) (theLoops (n := 2) (by kernel_rfl) fun i hi => ?_) fun args σ K h => ?_
  · match i, hi with
    | 0, _ => exact loopHyp_of (key := 3) (by kernel_rfl) rfl lokrmd_0
    | 1, _ => exact loopHyp_of (key := 7) (by kernel_rfl) rfl lokrmd_1
  unfold rmS at h
  split at h
  rotate_right
  · exact h.elim
  rename_i p q
  rw [exrmd p q K]
  obtain ⟨⟨h1, h2, h3, h4⟩, h, hn⟩ := h
  exact ⟨by omega, ⟨h1, h2, by decide, by omega, h3, h4⟩, h, hn⟩
theorem okrmD : SpecOK Tryd.prog 85 rmDS := by
  refine okrmd.froze fun args σ K h => ?_
  unfold rmDS at h
  split at h
  · rename_i p q
    obtain ⟨h1, h⟩ := h
    refine ⟨rfl, h1, ⟨_, ?_, h⟩, fun h0 => ⟨_, ?_, h⟩⟩
    · exact ⟨_, _, rfl, rfl, rfl⟩
    · exact .inr ⟨.recs [.int .i64, .int .i64, .str] (movA p q), h0, rfl⟩
  · exact h.elim
end Go.Ev
