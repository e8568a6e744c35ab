/-
  Chapter 1, contracts: unpacking.
-/
import Derived.Test.YtlejemnljojpgaaC1K
import Derived.KernelRfl
set_option linter.unusedVariables false
set_option linter.unusedSimpArgs false
namespace Go.Ev
open Go Go.Proofs
set_option maxRecDepth 20000

def oddB (b : Int) : Bool := !withinG b 0 1
def oddS : Spec := fun args σ K => match args, σ with
  | [.one (.int .i64 n)], [] => K (.one (.bool (oddB n))) []
  | _, _ => False
def idxI (i : Int) : List Int → Int
  | [] => -1
  | b :: l => bif oddB b then i else idxI (i + 1) l
def idxL : LSpec := fun vs σ k => match vs, σ with
  | [.one (.data (.ints .i64 l)), .one (.func 103 []), .one (.int .i64 n), .one (.int .i64 i)], [] =>
    (l.length ≤ 1000000000 ∧ 0 ≤ i ∧ n = l.length) ∧ bif (l.drop i.toNat).any oddB then k .ret [.one (.int .i64 (idxI i (l.drop i.toNat)))] [] else k (.exit 0) [.any] []
  | _, _ => False
def idxS : Spec := fun args σ K => match args, σ with
  | [.one (.data (.ints .i64 l)), .one (.func 103 [])], [] => l.length ≤ 1000000000 ∧ K (.one (.int .i64 (idxI 0 l))) []
  | _, _ => False
def containsOddS : Spec := fun args σ K => match args, σ with
  | [.one (.data (.ints .i64 l)), .one (.func 103 [])], [] => l.length ≤ 1000000000 ∧ K (.one (.bool (decide (idxI 0 l ≥ 0)))) []
  | _, _ => False
def bitS : Spec := fun args σ K => match args, σ with
  | [.one (.ptr 0 1 0 0)], [.cells [.data (.ints .i64 l), .bool e]] => K (.one (.int .i64 (l.getD 0 0))) [.cells [.data (.ints .i64 (l.drop 1)), .bool (e || l.isEmpty)]]
  | _, _ => False
def readV : Nat → Int → List Int → Int
  | 0, n, _ => n
  | c + 1, n, l => readV c (wi (wi (2 * n) + l.getD 0 0)) (l.drop 1)
def readL : LSpec := fun vs σ k => match vs, σ with
  | [.one (.ptr 0 1 0 0), .one (.int .i64 n), .one (.int .i64 c), .one (.int .i64 i)], [.cells [.data (.ints .i64 l), .bool e]] =>
    (0 ≤ i ∧ i ≤ c ∧ c ≤ 1000) ∧ k (.exit 0) [.one (.int .i64 (readV (c - i).toNat n l))] [.cells [.data (.ints .i64 (l.drop (c - i).toNat)), .bool (e || decide (l.length < (c - i).toNat))]]
  | _, _ => False
def readS : Spec := fun args σ K => match args, σ with
  | [.one (.ptr 0 1 0 0), .one (.int .i64 c)], [.cells [.data (.ints .i64 l), .bool e]] =>
    (0 ≤ c ∧ c ≤ 1000) ∧ K (.one (.int .i64 (readV c.toNat 0 l))) [.cells [.data (.ints .i64 (l.drop c.toNat)), .bool (e || decide (l.length < c.toNat))]]
  | _, _ => False
def onesN : List Int → Nat
  | [] => 0
  | b :: l => bif b == 1 then onesN l + 1 else 0
def onesRL : LSpec := fun vs σ k => match vs, σ with
  | [.one (.ptr 0 1 0 0), .one (.int .i64 p), .one (.int .i64 n)], [.cells [.data (.ints .i64 l), .bool e]] =>
    (0 ≤ n ∧ n + l.length ≤ 1000000000) ∧ k (.exit 0) [.one (.ptr 0 1 0 0), .one (.int .i64 p), .one (.int .i64 (n + onesN l))] [.cells [.data (.ints .i64 (l.drop (onesN l + 1))), .bool (e || decide (l.length < onesN l + 1))]]
  | _, _ => False
def codeV (k : Nat) (l : List Int) : Int := wi (wi ((onesN l : Int) * 2 ^ min k 64) + readV k 0 (l.drop (onesN l + 1)))
def codeS : Spec := fun args σ K => match args, σ with
  | [.one (.ptr 0 1 0 0), .one (.int .i64 c)], [.cells [.data (.ints .i64 l), .bool e]] =>
    (0 ≤ c ∧ c ≤ 60 ∧ l.length ≤ 100000000) ∧ K (.one (.int .i64 (codeV c.toNat l))) [.cells [.data (.ints .i64 (l.drop (onesN l + 1 + c.toNat))), .bool (e || decide (l.length < onesN l + 1 + c.toNat))]]
  | _, _ => False
def resid (u : Int) : Int := bif u.tmod 2 == 1 then wi (wi (0 - wi (u.tdiv 2)) - 1) else wi (u.tdiv 2)
def unpX (p : Int) (k : Nat) : Nat → Int → Int → List Int → List Int
  | 0, _, _, _ => []
  | n + 1, last, bef, l => wi (expG p last bef + resid (codeV k l)) :: unpX p k n (wi (expG p last bef + resid (codeV k l))) last (l.drop (onesN l + 1 + k))
def unpL (k : Nat) : Nat → List Int → List Int
  | 0, l => l
  | n + 1, l => unpL k n (l.drop (onesN l + 1 + k))
def unpE (k : Nat) : Nat → List Int → Bool
  | 0, _ => false
  | n + 1, l => decide (l.length < onesN l + 1 + k) || unpE k n (l.drop (onesN l + 1 + k))
def unpLS : LSpec := fun vs σ k => match vs, σ with
  | [.one (.ptr 0 1 0 0), .one (.ptr 1 1 0 0), .one (.int .i64 p), .one (.int .i64 c), .one (.ptr 2 1 0 0), .one (.int .i64 last), .one (.int .i64 bef), .one (.int .i64 i)],
    [.row 35 (.ints .i64 z), .cells [.data (.ints .i64 l), .bool e], .row 123 (.ints .i64 x)] =>
    (0 ≤ i ∧ i ≤ 8 ∧ 0 ≤ c ∧ c ≤ 60 ∧ x.length = 8 ∧ l.length ≤ 10000) ∧ k (.exit 0) [.one (.ptr 0 1 0 0), .one (.ptr 1 1 0 0), .one (.ptr 2 1 0 0)]
      [.row 35 (.ints .i64 z), .cells [.data (.ints .i64 (unpL c.toNat (8 - i).toNat l)), .bool (e || unpE c.toNat (8 - i).toNat l)], .row 123 (.ints .i64 (x.take i.toNat ++ unpX p c.toNat (8 - i).toNat last bef l))]
  | _, _ => False
def badE (l : List Int) : Int := firstE [bif decide ((l.length : Int) ≤ 3000) then 0 else 8, bif !decide (idxI 0 l ≥ 0) then 0 else 2, bif decide ((l.length : Int) ≥ 7) then 0 else 10]
def prG (l : List Int) : Int := readV 2 0 l
def paG (l : List Int) : Int := readV 5 0 (l.drop 2)
def unpackX (l : List Int) : List Int := unpX (prG l) (paG l).toNat 8 0 0 (l.drop 7)
def unpackE (l : List Int) : Int :=
  bif badE l != 0 then badE l else bif decide (prG l ≥ 3) || decide (paG l ≥ 18) then 3 else
  bif unpE (paG l).toNat 8 (l.drop 7) || decide ((unpL (paG l).toNat 8 (l.drop 7)).length > 0) then 10 else bif (unpackX l).all sampleG then 0 else 2
/-- Eight integers, and an error. -/
def ag8e (ys : List Int) (e : Int) : AV := .tup [.agg [.int .i64 (ys.getD 0 0), .int .i64 (ys.getD 1 0), .int .i64 (ys.getD 2 0), .int .i64 (ys.getD 3 0), .int .i64 (ys.getD 4 0), .int .i64 (ys.getD 5 0), .int .i64 (ys.getD 6 0), .int .i64 (ys.getD 7 0)], .one (.int .i64 e)]
def zeros8 : List Int := [0, 0, 0, 0, 0, 0, 0, 0]
def unpackS : Spec := fun args σ K => match args, σ with
  | [.one (.data (.ints .i64 l))], [] => l.length ≤ 1000000000 ∧ bif unpackE l == 0 then K (ag8e (unpackX l) 0) [] else K (ag8e zeros8 (unpackE l)) []
  | _, _ => False
noncomputable abbrev E103 : Env := envOf Try.prog [(71, withinS)] [] 6 0
noncomputable abbrev E131 : Env := envOf Try.prog [(103, oddS)] [(2, .spec [0, 1, 7, 8] [4] idxL)] 19 0
noncomputable abbrev E102 : Env := envOf Try.prog [(131, idxS)] [] 9 0
noncomputable abbrev E132 : Env := envOf Try.prog [] [] 28 1
noncomputable abbrev E104 : Env := envOf Try.prog [(132, bitS)] [(3, .spec [0, 5, 6, 7] [5] readL)] 16 1
noncomputable abbrev E105 : Env := envOf Try.prog [(132, bitS), (104, readS)] [(2, .spec [0, 1, 5] [0, 1, 5] onesRL)] 18 1
noncomputable abbrev E47 : Env := envOf Try.prog [(102, containsOddS), (70, unlessS), (69, firstS), (104, readS), (105, codeS), (106, expectedS), (82, samplesS)] [(12, .spec [2, 6, 7, 8, 9, 10, 11, 49] [2, 6, 9] unpLS)] 96 0
end Go.Ev

namespace Go.Ev
open Go Go.Proofs
set_option maxRecDepth 100000
theorem ex103 (n : Int) (K : AV → List Blk → Prop) : evFn E103 Try.f103 [.one (.int .i64 n)] [] K = (
 K (AV.one (SV.bool !(decide ((0 : Int) ≤ n) && decide (n ≤ (1 : Int))))) []) := by kernel_rfl
theorem ex131 (l : List Int) (K : AV → List Blk → Prop) : evFn E131 Try.f131 [.one (.data (.ints .i64 l)), .one (.func 103 [])] [] K = (
 (l.length ≤ (1000000000 : Nat) ∧ (0 : Int) ≤ (0 : Int) ∧ (↑l.length : Int) = (↑l.length : Int)) ∧
 bif l.any oddB then K (AV.one (SV.int IntKind.i64 (idxI (0 : Int) l))) []
 else K (AV.one (SV.int IntKind.i64 (-1 : Int))) []) := by kernel_rfl
theorem ex131a (l : List Int) (n i : Int) (K : Ex → List AV → List Blk → Prop) : evBody E131 (lb Try.f131 0) [0, 1, 7, 8] [4] [.one (.data (.ints .i64 l)), .one (.func 103 []), .one (.int .i64 n), .one (.int .i64 i)] [] K = (
 bif decide (i < n) then
 bif decide ((0 : Int) ≤ i) && decide (i < (↑l.length : Int)) then
 bif decide (i.toNat + (0 : Nat) < l.length) then
 bif oddB (l.getD (i.toNat + (0 : Nat)) (0 : Int)) then K Ex.ret [AV.one (SV.int IntKind.i64 i)] []
 else
 K Ex.normal
 [AV.one (SV.data (Row.ints IntKind.i64 l)), AV.one (SV.func (103 : FuncId) []), AV.one (SV.int IntKind.i64 n),
 AV.one (SV.int IntKind.i64 (IntKind.i64.wrap (i + (1 : Int))))]
 []
 else False
 else False
 else K (Ex.exit (0 : Nat)) [AV.any] []) := by kernel_rfl
theorem ex102 (l : List Int) (K : AV → List Blk → Prop) : evFn E102 Try.f102 [.one (.data (.ints .i64 l)), .one (.func 103 [])] [] K = (
 l.length ≤ (1000000000 : Nat) ∧ K (AV.one (SV.bool (decide (idxI (0 : Int) l ≥ (0 : Int))))) []) := by kernel_rfl
theorem ex132 (l : List Int) (e : Bool) (K : AV → List Blk → Prop) : evFn E132 Try.f132 [.one (.ptr 0 1 0 0)] [.cells [.data (.ints .i64 l), .bool e]] K = (
 bif (↑l.length : Int) == (0 : Int) then
 K (AV.one (SV.int IntKind.i64 (0 : Int))) [Blk.cells [SV.data (Row.ints IntKind.i64 l), SV.bool true]]
 else
 bif decide ((0 : Int) ≤ (0 : Int)) && decide ((0 : Int) < (↑l.length : Int)) then
 bif decide ((0 : Nat) < l.length) then
 bif decide ((0 : Int) ≤ (1 : Int)) && (decide (l.length ≤ l.length) && decide ((1 : Nat) ≤ l.length)) then
 K (AV.one (SV.int IntKind.i64 (l.getD (0 : Nat) (0 : Int))))
 [Blk.cells
 [SV.data (Row.ints IntKind.i64 (List.take (l.length - (1 : Nat)) (List.drop (1 : Nat) l))), SV.bool e]]
 else False
 else False
 else False) := by kernel_rfl
theorem ex104 (l : List Int) (e : Bool) (c : Int) (K : AV → List Blk → Prop) : evFn E104 Try.f104 [.one (.ptr 0 1 0 0), .one (.int .i64 c)] [.cells [.data (.ints .i64 l), .bool e]] K = (
 ((0 : Int) ≤ (0 : Int) ∧ (0 : Int) ≤ c ∧ c ≤ (1000 : Int)) ∧
 K (AV.one (SV.int IntKind.i64 (readV (c - (0 : Int)).toNat (0 : Int) l)))
 [Blk.cells
 [SV.data (Row.ints IntKind.i64 (List.drop (c - (0 : Int)).toNat l)),
 SV.bool (e || decide (l.length < (c - (0 : Int)).toNat))]]) := by kernel_rfl
theorem ex104a (l : List Int) (e : Bool) (n c i : Int) (K : Ex → List AV → List Blk → Prop) : evBody E104 (lb Try.f104 0) [0, 5, 6, 7] [5] [.one (.ptr 0 1 0 0), .one (.int .i64 n), .one (.int .i64 c), .one (.int .i64 i)] [.cells [.data (.ints .i64 l), .bool e]] K = (
 bif decide (i < c) then
 K Ex.normal
 [AV.one (SV.ptr (0 : Nat) (1 : Nat) (0 : Nat) (0 : Nat)),
 AV.one (SV.int IntKind.i64 (IntKind.i64.wrap (IntKind.i64.wrap ((2 : Int) * n) + l.getD (0 : Nat) (0 : Int)))),
 AV.one (SV.int IntKind.i64 c), AV.one (SV.int IntKind.i64 (IntKind.i64.wrap (i + (1 : Int))))]
 [Blk.cells [SV.data (Row.ints IntKind.i64 (List.drop (1 : Nat) l)), SV.bool (e || l.isEmpty)]]
 else K (Ex.exit (0 : Nat)) [AV.one (SV.int IntKind.i64 n)] [Blk.cells [SV.data (Row.ints IntKind.i64 l), SV.bool e]]) := by kernel_rfl
theorem ex105 (l : List Int) (e : Bool) (c : Int) (K : AV → List Blk → Prop) : evFn E105 Try.f105 [.one (.ptr 0 1 0 0), .one (.int .i64 c)] [.cells [.data (.ints .i64 l), .bool e]] K = (
 ((0 : Int) ≤ (0 : Int) ∧ (0 : Int) + (↑l.length : Int) ≤ (1000000000 : Int)) ∧
 bif !decide (c < (0 : Int)) then
 ((0 : Int) ≤ c ∧ c ≤ (1000 : Int)) ∧
 K
 (AV.one
 (SV.int IntKind.i64
 (IntKind.i64.wrap
 (IntKind.i64.wrap (((0 : Int) + (↑(onesN l) : Int)) * (2 : Int) ^ min c.toNat (64 : Nat)) +
 readV c.toNat (0 : Int) (List.drop (onesN l + (1 : Nat)) l)))))
 [Blk.cells
 [SV.data (Row.ints IntKind.i64 (List.drop c.toNat (List.drop (onesN l + (1 : Nat)) l))),
 SV.bool
 (e || decide (l.length < onesN l + (1 : Nat)) ||
 decide ((List.drop (onesN l + (1 : Nat)) l).length < c.toNat))]]
 else False) := by kernel_rfl
theorem ex105a (l : List Int) (e : Bool) (p n : Int) (K : Ex → List AV → List Blk → Prop) : evBody E105 (lb Try.f105 0) [0, 1, 5] [0, 1, 5] [.one (.ptr 0 1 0 0), .one (.int .i64 p), .one (.int .i64 n)] [.cells [.data (.ints .i64 l), .bool e]] K = (
 bif l.getD (0 : Nat) (0 : Int) == (1 : Int) then
 K Ex.normal
 [AV.one (SV.ptr (0 : Nat) (1 : Nat) (0 : Nat) (0 : Nat)), AV.one (SV.int IntKind.i64 p),
 AV.one (SV.int IntKind.i64 (IntKind.i64.wrap (n + (1 : Int))))]
 [Blk.cells [SV.data (Row.ints IntKind.i64 (List.drop (1 : Nat) l)), SV.bool (e || l.isEmpty)]]
 else
 K (Ex.exit (0 : Nat))
 [AV.one (SV.ptr (0 : Nat) (1 : Nat) (0 : Nat) (0 : Nat)), AV.one (SV.int IntKind.i64 p),
 AV.one (SV.int IntKind.i64 n)]
 [Blk.cells [SV.data (Row.ints IntKind.i64 (List.drop (1 : Nat) l)), SV.bool (e || l.isEmpty)]]) := by kernel_rfl
theorem ex47 (l : List Int) (K : AV → List Blk → Prop) : evFn E47 Try.f47 [.one (.data (.ints .i64 l))] [] K = (
 l.length ≤ (1000000000 : Nat) ∧
 [bif decide ((↑l.length : Int) ≤ (3000 : Int)) then (0 : Int) else (8 : Int),
 bif !decide (idxI (0 : Int) l ≥ (0 : Int)) then (0 : Int) else (2 : Int),
 bif decide ((↑l.length : Int) ≥ (7 : Int)) then (0 : Int) else (10 : Int)].length ≤
 (1000 : Nat) ∧
 bif
 firstE
 [bif decide ((↑l.length : Int) ≤ (3000 : Int)) then (0 : Int) else (8 : Int),
 bif !decide (idxI (0 : Int) l ≥ (0 : Int)) then (0 : Int) else (2 : Int),
 bif decide ((↑l.length : Int) ≥ (7 : Int)) then (0 : Int) else (10 : Int)] !=
 (0 : Int) then
 K
 (AV.tup
 [TV.agg
 [SV.int IntKind.i64 (0 : Int), SV.int IntKind.i64 (0 : Int), SV.int IntKind.i64 (0 : Int),
 SV.int IntKind.i64 (0 : Int), SV.int IntKind.i64 (0 : Int), SV.int IntKind.i64 (0 : Int),
 SV.int IntKind.i64 (0 : Int), SV.int IntKind.i64 (0 : Int)],
 TV.one
 (SV.int IntKind.i64
 (firstE
 [bif decide ((↑l.length : Int) ≤ (3000 : Int)) then (0 : Int) else (8 : Int),
 bif !decide (idxI (0 : Int) l ≥ (0 : Int)) then (0 : Int) else (2 : Int),
 bif decide ((↑l.length : Int) ≥ (7 : Int)) then (0 : Int) else (10 : Int)]))])
 []
 else
 ((0 : Int) ≤ (2 : Int) ∧ (2 : Int) ≤ (1000 : Int)) ∧
 ((0 : Int) ≤ (5 : Int) ∧ (5 : Int) ≤ (1000 : Int)) ∧
 bif decide (readV (2 : Nat) (0 : Int) l ≥ (3 : Int)) then
 K
 (AV.tup
 [TV.agg
 [SV.int IntKind.i64 (0 : Int), SV.int IntKind.i64 (0 : Int), SV.int IntKind.i64 (0 : Int),
 SV.int IntKind.i64 (0 : Int), SV.int IntKind.i64 (0 : Int), SV.int IntKind.i64 (0 : Int),
 SV.int IntKind.i64 (0 : Int), SV.int IntKind.i64 (0 : Int)],
 TV.one (SV.int IntKind.i64 (3 : Int))])
 []
 else
 bif decide (readV (5 : Nat) (0 : Int) (List.drop (2 : Nat) l) ≥ (18 : Int)) then
 K
 (AV.tup
 [TV.agg
 [SV.int IntKind.i64 (0 : Int), SV.int IntKind.i64 (0 : Int), SV.int IntKind.i64 (0 : Int),
 SV.int IntKind.i64 (0 : Int), SV.int IntKind.i64 (0 : Int), SV.int IntKind.i64 (0 : Int),
 SV.int IntKind.i64 (0 : Int), SV.int IntKind.i64 (0 : Int)],
 TV.one (SV.int IntKind.i64 (3 : Int))])
 []
 else
 ((0 : Int) ≤ (0 : Int) ∧
 (0 : Int) ≤ (8 : Int) ∧
 (0 : Int) ≤ readV (5 : Nat) (0 : Int) (List.drop (2 : Nat) l) ∧
 readV (5 : Nat) (0 : Int) (List.drop (2 : Nat) l) ≤ (60 : Int) ∧
 (8 : Nat) = (8 : Nat) ∧ (List.drop (5 : Nat) (List.drop (2 : Nat) l)).length ≤ (10000 : Nat)) ∧
 bif
 false || decide (l.length < (2 : Nat)) || decide ((List.drop (2 : Nat) l).length < (5 : Nat)) ||
 unpE (readV (5 : Nat) (0 : Int) (List.drop (2 : Nat) l)).toNat (8 : Nat)
 (List.drop (5 : Nat) (List.drop (2 : Nat) l)) then
 K
 (AV.tup
 [TV.agg
 [SV.int IntKind.i64 (0 : Int), SV.int IntKind.i64 (0 : Int), SV.int IntKind.i64 (0 : Int),
 SV.int IntKind.i64 (0 : Int), SV.int IntKind.i64 (0 : Int), SV.int IntKind.i64 (0 : Int),
 SV.int IntKind.i64 (0 : Int), SV.int IntKind.i64 (0 : Int)],
 TV.one (SV.int IntKind.i64 (10 : Int))])
 []
 else
 bif
 decide
 ((↑(unpL (readV (5 : Nat) (0 : Int) (List.drop (2 : Nat) l)).toNat (8 : Nat)
 (List.drop (5 : Nat) (List.drop (2 : Nat) l))).length :
 Int) >
 (0 : Int)) then
 K
 (AV.tup
 [TV.agg
 [SV.int IntKind.i64 (0 : Int), SV.int IntKind.i64 (0 : Int), SV.int IntKind.i64 (0 : Int),
 SV.int IntKind.i64 (0 : Int), SV.int IntKind.i64 (0 : Int), SV.int IntKind.i64 (0 : Int),
 SV.int IntKind.i64 (0 : Int), SV.int IntKind.i64 (0 : Int)],
 TV.one (SV.int IntKind.i64 (10 : Int))])
 []
 else
 bif
 (bif
 [(unpX (readV (2 : Nat) (0 : Int) l)
 (readV (5 : Nat) (0 : Int) (List.drop (2 : Nat) l)).toNat (8 : Nat) (0 : Int)
 (0 : Int) (List.drop (5 : Nat) (List.drop (2 : Nat) l))).getD
 (0 : Nat) (0 : Int),
 (unpX (readV (2 : Nat) (0 : Int) l)
 (readV (5 : Nat) (0 : Int) (List.drop (2 : Nat) l)).toNat (8 : Nat) (0 : Int)
 (0 : Int) (List.drop (5 : Nat) (List.drop (2 : Nat) l))).getD
 (1 : Nat) (0 : Int),
 (unpX (readV (2 : Nat) (0 : Int) l)
 (readV (5 : Nat) (0 : Int) (List.drop (2 : Nat) l)).toNat (8 : Nat) (0 : Int)
 (0 : Int) (List.drop (5 : Nat) (List.drop (2 : Nat) l))).getD
 (2 : Nat) (0 : Int),
 (unpX (readV (2 : Nat) (0 : Int) l)
 (readV (5 : Nat) (0 : Int) (List.drop (2 : Nat) l)).toNat (8 : Nat) (0 : Int)
 (0 : Int) (List.drop (5 : Nat) (List.drop (2 : Nat) l))).getD
 (3 : Nat) (0 : Int),
 (unpX (readV (2 : Nat) (0 : Int) l)
 (readV (5 : Nat) (0 : Int) (List.drop (2 : Nat) l)).toNat (8 : Nat) (0 : Int)
 (0 : Int) (List.drop (5 : Nat) (List.drop (2 : Nat) l))).getD
 (4 : Nat) (0 : Int),
 (unpX (readV (2 : Nat) (0 : Int) l)
 (readV (5 : Nat) (0 : Int) (List.drop (2 : Nat) l)).toNat (8 : Nat) (0 : Int)
 (0 : Int) (List.drop (5 : Nat) (List.drop (2 : Nat) l))).getD
 (5 : Nat) (0 : Int),
 (unpX (readV (2 : Nat) (0 : Int) l)
 (readV (5 : Nat) (0 : Int) (List.drop (2 : Nat) l)).toNat (8 : Nat) (0 : Int)
 (0 : Int) (List.drop (5 : Nat) (List.drop (2 : Nat) l))).getD
 (6 : Nat) (0 : Int),
 (unpX (readV (2 : Nat) (0 : Int) l)
 (readV (5 : Nat) (0 : Int) (List.drop (2 : Nat) l)).toNat (8 : Nat) (0 : Int)
 (0 : Int) (List.drop (5 : Nat) (List.drop (2 : Nat) l))).getD
 (7 : Nat) (0 : Int)].all
 sampleG then
 (0 : Int)
 else (2 : Int)) !=
 (0 : Int) then
 K
 (AV.tup
 [TV.agg
 [SV.int IntKind.i64 (0 : Int), SV.int IntKind.i64 (0 : Int), SV.int IntKind.i64 (0 : Int),
 SV.int IntKind.i64 (0 : Int), SV.int IntKind.i64 (0 : Int),
 SV.int IntKind.i64 (0 : Int), SV.int IntKind.i64 (0 : Int),
 SV.int IntKind.i64 (0 : Int)],
 TV.one
 (SV.int IntKind.i64
 (bif
 [(unpX (readV (2 : Nat) (0 : Int) l)
 (readV (5 : Nat) (0 : Int) (List.drop (2 : Nat) l)).toNat (8 : Nat)
 (0 : Int) (0 : Int) (List.drop (5 : Nat) (List.drop (2 : Nat) l))).getD
 (0 : Nat) (0 : Int),
 (unpX (readV (2 : Nat) (0 : Int) l)
 (readV (5 : Nat) (0 : Int) (List.drop (2 : Nat) l)).toNat (8 : Nat)
 (0 : Int) (0 : Int) (List.drop (5 : Nat) (List.drop (2 : Nat) l))).getD
 (1 : Nat) (0 : Int),
 (unpX (readV (2 : Nat) (0 : Int) l)
 (readV (5 : Nat) (0 : Int) (List.drop (2 : Nat) l)).toNat (8 : Nat)
 (0 : Int) (0 : Int) (List.drop (5 : Nat) (List.drop (2 : Nat) l))).getD
 (2 : Nat) (0 : Int),
 (unpX (readV (2 : Nat) (0 : Int) l)
 (readV (5 : Nat) (0 : Int) (List.drop (2 : Nat) l)).toNat (8 : Nat)
 (0 : Int) (0 : Int) (List.drop (5 : Nat) (List.drop (2 : Nat) l))).getD
 (3 : Nat) (0 : Int),
 (unpX (readV (2 : Nat) (0 : Int) l)
 (readV (5 : Nat) (0 : Int) (List.drop (2 : Nat) l)).toNat (8 : Nat)
 (0 : Int) (0 : Int) (List.drop (5 : Nat) (List.drop (2 : Nat) l))).getD
 (4 : Nat) (0 : Int),
 (unpX (readV (2 : Nat) (0 : Int) l)
 (readV (5 : Nat) (0 : Int) (List.drop (2 : Nat) l)).toNat (8 : Nat)
 (0 : Int) (0 : Int) (List.drop (5 : Nat) (List.drop (2 : Nat) l))).getD
 (5 : Nat) (0 : Int),
 (unpX (readV (2 : Nat) (0 : Int) l)
 (readV (5 : Nat) (0 : Int) (List.drop (2 : Nat) l)).toNat (8 : Nat)
 (0 : Int) (0 : Int) (List.drop (5 : Nat) (List.drop (2 : Nat) l))).getD
 (6 : Nat) (0 : Int),
 (unpX (readV (2 : Nat) (0 : Int) l)
 (readV (5 : Nat) (0 : Int) (List.drop (2 : Nat) l)).toNat (8 : Nat)
 (0 : Int) (0 : Int) (List.drop (5 : Nat) (List.drop (2 : Nat) l))).getD
 (7 : Nat) (0 : Int)].all
 sampleG then
 (0 : Int)
 else (2 : Int)))])
 []
 else
 K
 (AV.tup
 [TV.agg
 [SV.int IntKind.i64
 ((unpX (readV (2 : Nat) (0 : Int) l)
 (readV (5 : Nat) (0 : Int) (List.drop (2 : Nat) l)).toNat (8 : Nat) (0 : Int)
 (0 : Int) (List.drop (5 : Nat) (List.drop (2 : Nat) l))).getD
 (0 : Nat) (0 : Int)),
 SV.int IntKind.i64
 ((unpX (readV (2 : Nat) (0 : Int) l)
 (readV (5 : Nat) (0 : Int) (List.drop (2 : Nat) l)).toNat (8 : Nat) (0 : Int)
 (0 : Int) (List.drop (5 : Nat) (List.drop (2 : Nat) l))).getD
 (1 : Nat) (0 : Int)),
 SV.int IntKind.i64
 ((unpX (readV (2 : Nat) (0 : Int) l)
 (readV (5 : Nat) (0 : Int) (List.drop (2 : Nat) l)).toNat (8 : Nat) (0 : Int)
 (0 : Int) (List.drop (5 : Nat) (List.drop (2 : Nat) l))).getD
 (2 : Nat) (0 : Int)),
 SV.int IntKind.i64
 ((unpX (readV (2 : Nat) (0 : Int) l)
 (readV (5 : Nat) (0 : Int) (List.drop (2 : Nat) l)).toNat (8 : Nat) (0 : Int)
 (0 : Int) (List.drop (5 : Nat) (List.drop (2 : Nat) l))).getD
 (3 : Nat) (0 : Int)),
 SV.int IntKind.i64
 ((unpX (readV (2 : Nat) (0 : Int) l)
 (readV (5 : Nat) (0 : Int) (List.drop (2 : Nat) l)).toNat (8 : Nat) (0 : Int)
 (0 : Int) (List.drop (5 : Nat) (List.drop (2 : Nat) l))).getD
 (4 : Nat) (0 : Int)),
 SV.int IntKind.i64
 ((unpX (readV (2 : Nat) (0 : Int) l)
 (readV (5 : Nat) (0 : Int) (List.drop (2 : Nat) l)).toNat (8 : Nat) (0 : Int)
 (0 : Int) (List.drop (5 : Nat) (List.drop (2 : Nat) l))).getD
 (5 : Nat) (0 : Int)),
 SV.int IntKind.i64
 ((unpX (readV (2 : Nat) (0 : Int) l)
 (readV (5 : Nat) (0 : Int) (List.drop (2 : Nat) l)).toNat (8 : Nat) (0 : Int)
 (0 : Int) (List.drop (5 : Nat) (List.drop (2 : Nat) l))).getD
 (6 : Nat) (0 : Int)),
 SV.int IntKind.i64
 ((unpX (readV (2 : Nat) (0 : Int) l)
 (readV (5 : Nat) (0 : Int) (List.drop (2 : Nat) l)).toNat (8 : Nat) (0 : Int)
 (0 : Int) (List.drop (5 : Nat) (List.drop (2 : Nat) l))).getD
 (7 : Nat) (0 : Int))],
 TV.one (SV.int IntKind.i64 (0 : Int))])
 []) := by kernel_rfl
theorem ex47a (p c last bef i : Int) (z l x : List Int) (e : Bool) (K : Ex → List AV → List Blk → Prop) : evBody E47 (lb Try.f47 0) [2, 6, 7, 8, 9, 10, 11, 49] [2, 6, 9] [.one (.ptr 0 1 0 0), .one (.ptr 1 1 0 0), .one (.int .i64 p), .one (.int .i64 c), .one (.ptr 2 1 0 0), .one (.int .i64 last), .one (.int .i64 bef), .one (.int .i64 i)] [.row 35 (.ints .i64 z), .cells [.data (.ints .i64 l), .bool e], .row 123 (.ints .i64 x)] K = (
 bif decide (i < (8 : Int)) then
 ((0 : Int) ≤ c ∧ c ≤ (60 : Int) ∧ l.length ≤ (100000000 : Nat)) ∧
 bif (codeV c.toNat l).tmod (2 : Int) == (1 : Int) then
 bif decide ((0 : Int) ≤ i) && decide (i < (8 : Int)) then
 bif decide ((0 : Nat) + i.toNat + (0 : Nat) < x.length) then
 bif decide ((0 : Int) ≤ i) && decide (i < (8 : Int)) then
 bif
 decide
 ((0 : Nat) + i.toNat + (0 : Nat) <
 (x.set ((0 : Nat) + i.toNat + (0 : Nat))
 (IntKind.i64.wrap
 (expG p last bef +
 IntKind.i64.wrap
 (IntKind.i64.wrap ((0 : Int) - IntKind.i64.wrap ((codeV c.toNat l).tdiv (2 : Int))) -
 (1 : Int))))).length) then
 K Ex.normal
 [AV.one (SV.ptr (0 : Nat) (1 : Nat) (0 : Nat) (0 : Nat)),
 AV.one (SV.ptr (1 : Nat) (1 : Nat) (0 : Nat) (0 : Nat)), AV.one (SV.int IntKind.i64 p),
 AV.one (SV.int IntKind.i64 c), AV.one (SV.ptr (2 : Nat) (1 : Nat) (0 : Nat) (0 : Nat)),
 AV.one
 (SV.int IntKind.i64
 ((x.set ((0 : Nat) + i.toNat + (0 : Nat))
 (IntKind.i64.wrap
 (expG p last bef +
 IntKind.i64.wrap
 (IntKind.i64.wrap ((0 : Int) - IntKind.i64.wrap ((codeV c.toNat l).tdiv (2 : Int))) -
 (1 : Int))))).getD
 ((0 : Nat) + i.toNat + (0 : Nat)) (0 : Int))),
 AV.one (SV.int IntKind.i64 last), AV.one (SV.int IntKind.i64 (IntKind.i64.wrap (i + (1 : Int))))]
 [Blk.row (35 : TypeId) (Row.ints IntKind.i64 z),
 Blk.cells
 [SV.data (Row.ints IntKind.i64 (List.drop (onesN l + (1 : Nat) + c.toNat) l)),
 SV.bool (e || decide (l.length < onesN l + (1 : Nat) + c.toNat))],
 Blk.row (123 : TypeId)
 (Row.ints IntKind.i64
 (x.set ((0 : Nat) + i.toNat + (0 : Nat))
 (IntKind.i64.wrap
 (expG p last bef +
 IntKind.i64.wrap
 (IntKind.i64.wrap ((0 : Int) - IntKind.i64.wrap ((codeV c.toNat l).tdiv (2 : Int))) -
 (1 : Int))))))]
 else False
 else False
 else False
 else False
 else
 bif decide ((0 : Int) ≤ i) && decide (i < (8 : Int)) then
 bif decide ((0 : Nat) + i.toNat + (0 : Nat) < x.length) then
 bif decide ((0 : Int) ≤ i) && decide (i < (8 : Int)) then
 bif
 decide
 ((0 : Nat) + i.toNat + (0 : Nat) <
 (x.set ((0 : Nat) + i.toNat + (0 : Nat))
 (IntKind.i64.wrap
 (expG p last bef + IntKind.i64.wrap ((codeV c.toNat l).tdiv (2 : Int))))).length) then
 K Ex.normal
 [AV.one (SV.ptr (0 : Nat) (1 : Nat) (0 : Nat) (0 : Nat)),
 AV.one (SV.ptr (1 : Nat) (1 : Nat) (0 : Nat) (0 : Nat)), AV.one (SV.int IntKind.i64 p),
 AV.one (SV.int IntKind.i64 c), AV.one (SV.ptr (2 : Nat) (1 : Nat) (0 : Nat) (0 : Nat)),
 AV.one
 (SV.int IntKind.i64
 ((x.set ((0 : Nat) + i.toNat + (0 : Nat))
 (IntKind.i64.wrap
 (expG p last bef + IntKind.i64.wrap ((codeV c.toNat l).tdiv (2 : Int))))).getD
 ((0 : Nat) + i.toNat + (0 : Nat)) (0 : Int))),
 AV.one (SV.int IntKind.i64 last), AV.one (SV.int IntKind.i64 (IntKind.i64.wrap (i + (1 : Int))))]
 [Blk.row (35 : TypeId) (Row.ints IntKind.i64 z),
 Blk.cells
 [SV.data (Row.ints IntKind.i64 (List.drop (onesN l + (1 : Nat) + c.toNat) l)),
 SV.bool (e || decide (l.length < onesN l + (1 : Nat) + c.toNat))],
 Blk.row (123 : TypeId)
 (Row.ints IntKind.i64
 (x.set ((0 : Nat) + i.toNat + (0 : Nat))
 (IntKind.i64.wrap (expG p last bef + IntKind.i64.wrap ((codeV c.toNat l).tdiv (2 : Int))))))]
 else False
 else False
 else False
 else False
 else
 K (Ex.exit (0 : Nat))
 [AV.one (SV.ptr (0 : Nat) (1 : Nat) (0 : Nat) (0 : Nat)), AV.one (SV.ptr (1 : Nat) (1 : Nat) (0 : Nat) (0 : Nat)),
 AV.one (SV.ptr (2 : Nat) (1 : Nat) (0 : Nat) (0 : Nat))]
 [Blk.row (35 : TypeId) (Row.ints IntKind.i64 z), Blk.cells [SV.data (Row.ints IntKind.i64 l), SV.bool e],
 Blk.row (123 : TypeId) (Row.ints IntKind.i64 x)]) := by kernel_rfl
end Go.Ev

namespace Go.Ev
open Go Go.Proofs
attribute [local irreducible] evFn evBody
set_option maxRecDepth 20000

theorem ok103 : SpecOK Try.prog 103 oddS := by
  refine specOK (n := 6) (m := 0) (lps := []) (.cons ok71 .nil) Try.func103 (by kernel_rfl) (by kernel_rfl) (noLoops (by kernel_rfl)) fun args σ K h => ?_
  unfold oddS at h
  split at h
  · rw [ex103 _ K]; exact h
  · exact h.elim
theorem any_step {p : Int → Bool} {l : List Int} {i : Int} (h0 : 0 ≤ i) (h : i < l.length) : (l.drop i.toNat).any p = (p (l.getD i.toNat 0) || (l.drop (i + 1).toNat).any p) := by
  rw [drop_step 0 (by omega), show (i + 1).toNat = i.toNat + 1 by omega]
  rfl
theorem lok131 : LoopOK E131 (lb Try.f131 0) [0, 1, 7, 8] [4] idxL := by
  refine loopOK (.cons ok103 .nil) (noInner (by kernel_rfl)) (fun vs _ => match vs with
    | [.one (.data (.ints .i64 l)), _, _, .one (.int .i64 i)] => l.length - i.toNat
    | _ => 0) fun vs σ k h => ?_
  unfold idxL at h
  split at h
  · rename_i l n i
    rw [ex131a l n i _]
    obtain ⟨⟨h1, h2, rfl⟩, h⟩ := h
    by_cases hi : i < l.length
    · have hw : IntKind.i64.wrap (i + 1) = i + 1 := wrap_id (by omega) (by omega)
      have hi' : i.toNat < l.length := by omega
      have hmu : l.length - (i + 1).toNat < l.length - i.toNat := by omega
      have e : idxI i (l.drop i.toNat) = bif oddB (l.getD i.toNat 0) then i else idxI (i + 1) (l.drop (i + 1).toNat) := by
        rw [drop_step 0 (by omega), show (i + 1).toNat = i.toNat + 1 by omega]
        rfl
      rw [any_step h2 hi, e] at h
      simp only [hi, hi', h2, hw, Nat.add_zero, decide_true, Bool.and_self, cond_true]
      cases hs : oddB (l.getD i.toNat 0) with
      | false => rw [hs] at h; exact ⟨⟨⟨h1, by omega, rfl⟩, h⟩, hmu⟩
      | true => rw [hs] at h; exact h
    · rw [List.drop_eq_nil_of_le (by omega)] at h
      simp only [hi, decide_false, cond_false]
      exact h
  · exact h.elim
theorem idx_none : ∀ {l : List Int} {i : Int}, l.any oddB = false → idxI i l = -1
  | [], _, _ => rfl
  | b :: l, i, h => by
    simp only [List.any_cons, Bool.or_eq_false_iff] at h
    simp only [idxI, h.1, cond_false]
    exact idx_none h.2
theorem idx_some : ∀ {l : List Int} {i : Int}, l.any oddB = true → i ≤ idxI i l
  | [], _, h => by simp at h
  | b :: l, i, h => by
    simp only [idxI]
    cases hb : oddB b with
    | true => exact Int.le_refl _
    | false =>
      simp only [List.any_cons, hb, Bool.false_or] at h
      have := idx_some (i := i + 1) h
      simp only [cond_false]
      omega
theorem ok131 : SpecOK Try.prog 131 idxS := by
  refine specOK (n := 19) (m := 0) (lps := [(2, .spec [0, 1, 7, 8] [4] idxL)]) (.cons ok103 .nil) Try.func131 (by kernel_rfl) (by kernel_rfl) (theLoops (n := 1) (by kernel_rfl) fun i hi => ?_) fun args σ K h => ?_
  · match i, hi with
    | 0, _ => exact loopHyp_of (key := 2) (by kernel_rfl) rfl lok131
  · unfold idxS at h
    split at h
    · rename_i l
      rw [ex131 l K]
      obtain ⟨h1, h⟩ := h
      refine ⟨⟨h1, by omega, rfl⟩, ?_⟩
      cases hs : l.any oddB with
      | true => exact h
      | false => rw [idx_none hs] at h; exact h
    · exact h.elim
theorem ok102 : SpecOK Try.prog 102 containsOddS := by
  refine specOK (n := 9) (m := 0) (lps := []) (.cons ok131 .nil) Try.func102 (by kernel_rfl) (by kernel_rfl) (noLoops (by kernel_rfl)) fun args σ K h => ?_
  unfold containsOddS at h
  split at h
  · rw [ex102 _ K]; exact h
  · exact h.elim

theorem flag_step (l : List Int) (a b : Nat) : (decide (l.length < a) || decide ((l.drop a).length < b)) = decide (l.length < a + b) := by
  rw [← Bool.decide_or]
  refine decide_eq_decide.2 ?_
  rw [List.length_drop]
  omega
theorem empty_flag (l : List Int) : l.isEmpty = decide (l.length < 1) := by
  cases l <;> simp
theorem ok132 : SpecOK Try.prog 132 bitS := by
  refine specOK (n := 28) (m := 1) (lps := []) .nil Try.func132 (by kernel_rfl) (by kernel_rfl) (noLoops (by kernel_rfl)) fun args σ K h => ?_
  unfold bitS at h
  split at h
  · rename_i l e
    rw [ex132 l e K]
    cases l with
    | nil => simp at h; exact h
    | cons b l =>
      have h1 : (((b :: l).length : Nat) : Int) ≠ 0 := by simp only [List.length_cons]; omega
      have h2 : (0 : Int) < (((b :: l).length : Nat) : Int) := by simp only [List.length_cons]; omega
      have h3 : 0 < (b :: l).length := by simp
      have h4 : 1 ≤ (b :: l).length := by simp
      have h5 : List.take ((b :: l).length - 1) (List.drop 1 (b :: l)) = l := by simp
      simp only [beq_eq_false_iff_ne.2 h1, h2, h3, h4, h5, decide_true, Bool.and_self, Int.le_refl, Nat.le_refl, cond_true, cond_false]
      rw [decide_eq_true (show (0 : Int) ≤ 1 by decide)]
      simpa using h
  · exact h.elim
theorem lok104 : LoopOK E104 (lb Try.f104 0) [0, 5, 6, 7] [5] readL := by
  refine loopOK (.cons ok132 .nil) (noInner (by kernel_rfl)) (fun vs _ => match vs with
    | [_, _, .one (.int .i64 c), .one (.int .i64 i)] => (c - i).toNat
    | _ => 0) fun vs σ k h => ?_
  unfold readL at h
  split at h
  · rename_i n c i l e
    rw [ex104a l e n c i _]
    obtain ⟨⟨h1, h2, h3⟩, h⟩ := h
    by_cases hi : i < c
    · have hw : IntKind.i64.wrap (i + 1) = i + 1 := wrap_id (by omega) (by omega)
      have hmu : (c - (i + 1)).toNat < (c - i).toNat := by omega
      simp only [hi, decide_true, cond_true, hw]
      refine ⟨⟨⟨by omega, by omega, h3⟩, ?_⟩, hmu⟩
      rw [show (c - i).toNat = 1 + (c - (i + 1)).toNat by omega, ← flag_step, ← List.drop_drop, Nat.add_comm 1] at h
      rw [empty_flag, Bool.or_assoc]
      exact h
    · have e0 : (c - i).toNat = 0 := by omega
      rw [e0] at h
      simp only [hi, decide_false, cond_false]
      simpa [readV] using h
  · exact h.elim
theorem ok104 : SpecOK Try.prog 104 readS := by
  refine specOK (n := 16) (m := 1) (lps := [(3, .spec [0, 5, 6, 7] [5] readL)]) (.cons ok132 .nil) Try.func104 (by kernel_rfl) (by kernel_rfl) (theLoops (n := 1) (by kernel_rfl) fun i hi => ?_) fun args σ K h => ?_
  · match i, hi with
    | 0, _ => exact loopHyp_of (key := 3) (by kernel_rfl) rfl lok104
  · unfold readS at h
    split at h
    · rename_i c l e
      rw [ex104 l e c K]
      obtain ⟨⟨h1, h2⟩, h⟩ := h
      rw [Int.sub_zero]
      exact ⟨⟨by omega, h1, h2⟩, h⟩
    · exact h.elim
theorem lok105 : LoopOK E105 (lb Try.f105 0) [0, 1, 5] [0, 1, 5] onesRL := by
  refine loopOK (.cons ok132 (.cons ok104 .nil)) (noInner (by kernel_rfl)) (fun _ σ => match σ with
    | [.cells [.data (.ints .i64 l), _]] => l.length
    | _ => 0) fun vs σ k h => ?_
  unfold onesRL at h
  split at h
  · rename_i p n l e
    rw [ex105a l e p n _]
    obtain ⟨⟨h1, h2⟩, h⟩ := h
    cases l with
    | nil => simp [onesN] at h ⊢; exact h
    | cons b l =>
      simp only [List.length_cons] at h2
      cases hb : b == 1 with
      | true =>
        have eo : onesN (b :: l) = onesN l + 1 := by simp [onesN, hb]
        rw [eo] at h
        have hw : IntKind.i64.wrap (n + 1) = n + 1 := wrap_id (by omega) (by omega)
        simp only [List.getD_cons_zero, hb, cond_true, hw]
        simp only [List.length_cons, List.drop_succ_cons] at h
        refine ⟨⟨⟨by omega, by show n + 1 + ((List.drop 1 (b :: l)).length : Int) ≤ _; simp; omega⟩, ?_⟩, by show (List.drop 1 (b :: l)).length < (b :: l).length; simp⟩
        simp only [List.drop_succ_cons, List.drop_zero, List.isEmpty_cons, Bool.or_false]
        rw [show n + 1 + (onesN l : Int) = n + ((onesN l + 1 : Nat) : Int) by omega]
        rw [show decide (l.length < onesN l + 1) = decide (l.length + 1 < onesN l + 1 + 1) from decide_eq_decide.2 (by omega)]
        exact h
      | false =>
        have eo : onesN (b :: l) = 0 := by simp [onesN, hb]
        rw [eo] at h
        simp only [List.getD_cons_zero, hb, cond_false]
        simpa using h
  · exact h.elim
theorem ok105 : SpecOK Try.prog 105 codeS := by
  refine specOK (n := 18) (m := 1) (lps := [(2, .spec [0, 1, 5] [0, 1, 5] onesRL)]) (.cons ok132 (.cons ok104 .nil)) Try.func105 (by kernel_rfl) (by kernel_rfl) (theLoops (n := 1) (by kernel_rfl) fun i hi => ?_) fun args σ K h => ?_
  · match i, hi with
    | 0, _ => exact loopHyp_of (key := 2) (by kernel_rfl) rfl lok105
  · unfold codeS at h
    split at h
    · rename_i c l e
      rw [ex105 l e c K]
      obtain ⟨⟨h1, h2, h3⟩, h⟩ := h
      have hc : ¬ c < 0 := by omega
      refine ⟨⟨by omega, by omega⟩, ?_⟩
      simp only [hc, decide_false, Bool.not_false, cond_true]
      refine ⟨⟨h1, by omega⟩, ?_⟩
      rw [Int.zero_add, List.drop_drop, Bool.or_assoc, flag_step]
      exact h
    · exact h.elim

theorem unp_all : AllOK Try.prog [(102, containsOddS), (70, unlessS), (69, firstS), (104, readS), (105, codeS), (106, expectedS), (82, samplesS)] :=
  .cons ok102 (.cons ok70 (.cons ok69 (.cons ok104 (.cons ok105 (.cons ok106 (.cons ok82 .nil))))))
theorem lok47 : LoopOK E47 (lb Try.f47 0) [2, 6, 7, 8, 9, 10, 11, 49] [2, 6, 9] unpLS := by
  refine loopOK unp_all (noInner (by kernel_rfl)) (fun vs _ => match vs with
    | [_, _, _, _, _, _, _, .one (.int .i64 i)] => (8 - i).toNat
    | _ => 0) fun vs σ k h => ?_
  unfold unpLS at h
  split at h
  · rename_i p c last bef i z l e x
    rw [ex47a p c last bef i z l x e _]
    obtain ⟨⟨h1, h2, h3, h4, h5, h6⟩, h⟩ := h
    by_cases hi : i < 8
    · have hw : IntKind.i64.wrap (i + 1) = i + 1 := wrap_id (by omega) (by omega)
      have hmu : (8 - (i + 1)).toNat < (8 - i).toNat := by omega
      have hi' : i.toNat < x.length := by omega
      have hdl : (l.drop (onesN l + 1 + c.toNat)).length ≤ 10000 := by rw [List.length_drop]; omega
      rw [show (8 - i).toNat = (8 - (i + 1)).toNat + 1 by omega] at h
      simp only [unpX, unpL, unpE] at h
      have key : ∀ v, v = wi (expG p last bef + resid (codeV c.toNat l)) → x.set i.toNat v = x.set i.toNat v ∧ (unpLS [.one (.ptr 0 1 0 0), .one (.ptr 1 1 0 0), .one (.int .i64 p), .one (.int .i64 c), .one (.ptr 2 1 0 0), .one (.int .i64 v), .one (.int .i64 last), .one (.int .i64 (i + 1))]
          [.row 35 (.ints .i64 z), .cells [.data (.ints .i64 (l.drop (onesN l + 1 + c.toNat))), .bool (e || decide (l.length < onesN l + 1 + c.toNat))], .row 123 (.ints .i64 (x.set i.toNat v))] k ∧ (8 - (i + 1)).toNat < (8 - i).toNat) := by
        intro v hv
        refine ⟨rfl, ⟨⟨by omega, by omega, h3, h4, by rw [List.length_set]; exact h5, hdl⟩, ?_⟩, hmu⟩
        rw [show (i + 1).toNat = i.toNat + 1 by omega, take_set_succ hi', List.append_assoc, Bool.or_assoc, hv]
        exact h
      have hget : ∀ v : Int, (x.set i.toNat v).getD i.toNat 0 = v := fun v => by rw [getD_of_lt (by rw [List.length_set]; exact hi')]; simp
      simp only [Nat.zero_add, Nat.add_zero, List.length_set, hi, h1, hi', hw, hget, decide_true, Bool.and_self, cond_true]
      refine ⟨⟨h3, h4, by omega⟩, ?_⟩
      cases hr : (codeV c.toNat l).tmod 2 == 1 with
      | true => exact (key (IntKind.i64.wrap (expG p last bef + IntKind.i64.wrap (IntKind.i64.wrap (0 - IntKind.i64.wrap ((codeV c.toNat l).tdiv 2)) - 1))) (by unfold resid; rw [hr]; rfl)).2
      | false => exact (key (IntKind.i64.wrap (expG p last bef + IntKind.i64.wrap ((codeV c.toNat l).tdiv 2))) (by unfold resid; rw [hr]; rfl)).2
    · have e0 : i = 8 := by omega
      subst e0
      simp only [hi, decide_false, cond_false]
      have e1 : (8 - 8 : Int).toNat = 0 := rfl
      rw [e1] at h
      simp only [unpX, unpL, unpE, Bool.or_false, List.append_nil] at h
      rw [List.take_of_length_le (by show x.length ≤ 8; omega)] at h
      exact h
  · exact h.elim

theorem bit_range {b : Int} (h : oddB b = false) : 0 ≤ b ∧ b ≤ 1 := by
  unfold oddB withinG at h
  simpa using h
theorem bits_get {l : List Int} (h : l.any oddB = false) (j : Nat) : 0 ≤ l.getD j 0 ∧ l.getD j 0 ≤ 1 := by
  by_cases hj : j < l.length
  · rw [getD_of_lt hj]
    refine bit_range ?_
    have := List.any_eq_false.1 h _ (List.getElem_mem hj)
    simpa using this
  · rw [List.getD, List.getElem?_eq_none (by omega)]; decide
theorem any_drop {l : List Int} (h : l.any oddB = false) (j : Nat) : (l.drop j).any oddB = false :=
  List.any_eq_false.2 fun x hx => List.any_eq_false.1 h x (List.mem_of_mem_drop hx)
theorem readV_range : ∀ (c : Nat) (n : Int) (l : List Int), l.any oddB = false → 0 ≤ n → (n + 1) * 2 ^ c ≤ 4611686018427387904 → 0 ≤ readV c n l ∧ readV c n l + 1 ≤ (n + 1) * 2 ^ c
  | 0, n, l, _, h0, _ => by simp [readV]; omega
  | c + 1, n, l, h, h0, hb => by
    have hg := bits_get h 0
    have hp : (1 : Int) ≤ 2 ^ c := by have : (0 : Int) < 2 ^ c := Int.pow_pos (by decide); omega
    have e : (n + 1) * 2 ^ (c + 1) = (2 * n + 2) * 2 ^ c := by
      rw [Int.pow_succ, Int.mul_comm (2 ^ c) 2, ← Int.mul_assoc]
      congr 1
      omega
    have h2 : (2 * n + 2) ≤ (2 * n + 2) * 2 ^ c := by
      have := Int.mul_le_mul_of_nonneg_left hp (show 0 ≤ 2 * n + 2 by omega)
      omega
    rw [e] at hb ⊢
    have hw : wi (wi (2 * n) + l.getD 0 0) = 2 * n + l.getD 0 0 := by rw [wi_id (n := 2 * n) (by omega) (by omega), wi_id (by omega) (by omega)]
    simp only [readV]
    rw [hw]
    have h3 : (2 * n + l.getD 0 0 + 1) * 2 ^ c ≤ (2 * n + 2) * 2 ^ c := Int.mul_le_mul_of_nonneg_right (by omega) (by omega)
    have ih := readV_range c (2 * n + l.getD 0 0) (l.drop 1) (any_drop h 1) (by omega) (by omega)
    omega

theorem any_of_idx {l : List Int} (h : decide (idxI 0 l ≥ 0) = false) : l.any oddB = false := by
  rw [decide_eq_false_iff_not] at h
  cases ha : l.any oddB with
  | false => rfl
  | true => exact absurd (idx_some (i := 0) ha) h
theorem list8 {xs : List Int} (h : xs.length = 8) : [xs.getD 0 0, xs.getD 1 0, xs.getD 2 0, xs.getD 3 0, xs.getD 4 0, xs.getD 5 0, xs.getD 6 0, xs.getD 7 0] = xs :=
  match xs, h with
  | [_, _, _, _, _, _, _, _], _ => rfl
theorem unpX_length (p : Int) (k : Nat) : ∀ (n : Nat) (last bef : Int) (l : List Int), (unpX p k n last bef l).length = n
  | 0, _, _, _ => rfl
  | n + 1, _, _, _ => by simp [unpX, unpX_length p k n]
theorem ok47 : SpecOK Try.prog 47 unpackS := by
  refine specOK (n := 96) (m := 0) (lps := [(12, .spec [2, 6, 7, 8, 9, 10, 11, 49] [2, 6, 9] unpLS)]) unp_all Try.func47 (by kernel_rfl) (by kernel_rfl) (theLoops (n := 1) (by kernel_rfl) fun i hi => ?_) fun args σ K h => ?_
  · match i, hi with
    | 0, _ => exact loopHyp_of (key := 12) (by kernel_rfl) rfl lok47
  · unfold unpackS at h
    split at h
    · rename_i l
      rw [ex47 l K]
      obtain ⟨h1, h⟩ := h
      refine ⟨h1, by simp, ?_⟩
      unfold unpackE at h
      change bif badE l != 0 then K (ag8e zeros8 (badE l)) [] else _
      cases hb : badE l != 0 with
      | true =>
        rw [hb] at h
        have hb' : (badE l == 0) = false := by simpa [bne] using hb
        simp only [cond_true, hb', cond_false] at h
        exact h
      | false =>
        rw [hb] at h
        simp only [cond_false] at h
        have hb0 : badE l = 0 := by simpa using hb
        have hlen : l.length ≤ 3000 ∧ 7 ≤ l.length ∧ l.any oddB = false := by
          unfold badE at hb0
          cases a1 : decide ((l.length : Int) ≤ 3000) <;> cases a2 : decide (idxI 0 l ≥ 0) <;> cases a3 : decide ((l.length : Int) ≥ 7) <;> rw [a1, a2, a3] at hb0 <;> first
            | (exact absurd hb0 (by decide))
            | (simp only [decide_eq_true_eq] at a1 a3; exact ⟨by omega, by omega, any_of_idx a2⟩)
        obtain ⟨hl1, hl2, hodd⟩ := hlen
        have hr := readV_range 5 0 (l.drop 2) (any_drop hodd 2) (by decide) (by decide)
        change _ ∧ _ ∧ bif decide (prG l ≥ 3) then K (ag8e zeros8 3) [] else bif decide (paG l ≥ 18) then K (ag8e zeros8 3) [] else _
        refine ⟨⟨by decide, by decide⟩, ⟨by decide, by decide⟩, ?_⟩
        cases hp : decide (prG l ≥ 3) with
        | true => rw [hp] at h; exact h
        | false =>
          cases hq : decide (paG l ≥ 18) with
          | true => rw [hp, hq] at h; exact h
          | false =>
            rw [hp, hq] at h
            simp only [Bool.or_self, cond_false] at h ⊢
            have hq' : paG l ≤ 17 := by simp at hq; omega
            have hq0 : 0 ≤ paG l := hr.1
            have e7 : (l.drop 2).drop 5 = l.drop 7 := by rw [List.drop_drop]
            have ep : readV 5 0 (l.drop 2) = paG l := rfl
            have eq : readV 2 0 l = prG l := rfl
            rw [e7, ep, eq, list8 (unpX_length _ _ 8 _ _ _)]
            have hf1 : decide (l.length < 2) = false := by simp; omega
            have hf2 : decide ((l.drop 2).length < 5) = false := by simp; omega
            have hi : decide (((unpL (paG l).toNat 8 (l.drop 7)).length : Int) > 0) = decide ((unpL (paG l).toNat 8 (l.drop 7)).length > 0) := decide_eq_decide.2 (by omega)
            refine ⟨⟨by decide, by decide, hq0, by omega, trivial, by rw [List.length_drop]; omega⟩, ?_⟩
            rw [hf1, hf2, hi]
            simp only [Bool.false_or]
            change (bif unpE (paG l).toNat 8 (l.drop 7) then K (ag8e zeros8 10) [] else bif decide ((unpL (paG l).toNat 8 (l.drop 7)).length > 0) then K (ag8e zeros8 10) [] else
              bif (bif (unpackX l).all sampleG then 0 else 2) != 0 then K (ag8e zeros8 (bif (unpackX l).all sampleG then 0 else 2)) [] else K (ag8e (unpackX l) 0) [])
            cases hu : unpE (paG l).toNat 8 (l.drop 7) with
            | true => rw [hu] at h; exact h
            | false =>
              cases hv : decide ((unpL (paG l).toNat 8 (l.drop 7)).length > 0) with
              | true => rw [hu, hv] at h; exact h
              | false => cases ha : (unpackX l).all sampleG <;> rw [hu, hv, ha] at h <;> exact h
    · exact h.elim
end Go.Ev
