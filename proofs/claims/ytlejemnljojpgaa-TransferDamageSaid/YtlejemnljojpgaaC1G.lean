/-
  Chapter 1, contracts: packed samples; the examples.
-/
import Derived.Test.YtlejemnljojpgaaC1Fok
namespace Go.Ev
open Go Go.Proofs
set_option maxRecDepth 20000

abbrev Tri := Int × Int × Int
def bst (xs : List Int) (p k : Int) (s : Tri) : Tri := bif s.1 == 0 then (lenG p k xs, p, k) else bif decide (lenG p k xs < s.1) then (lenG p k xs, p, k) else s
def bestK (xs : List Int) (p : Int) : Nat → Int → Tri → Tri
  | 0, _, s => s
  | n + 1, k, s => bestK xs p n (k + 1) (bst xs p k s)
def bestP (xs : List Int) : Nat → Int → Tri → Tri
  | 0, _, s => s
  | n + 1, p, s => bestP xs n (p + 1) (bestK xs p 18 0 s)
def bestG (xs : List Int) : Tri := bestP xs 3 0 (0, 0, 0)
def codesG (k : Int) : List Int → List Int
  | [] => []
  | u :: l => (List.replicate (u.fdiv (2 ^ min k.toNat 64)).toNat 1 ++ [0] ++ bitsN u k.toNat) ++ codesG k l
def packG (xs : List Int) : List Int := bitsN (bestG xs).2.1 2 ++ bitsN (bestG xs).2.2 5 ++ codesG (bestG xs).2.2 (codG (bestG xs).2.1 xs)
def innerL : LSpec := fun vs σ k => match vs, σ with
  | [.one (.ptr 0 1 0 0), .one (.int .i64 b), .one (.int .i64 bp), .one (.int .i64 bk), .one (.int .i64 p), .one (.int .i64 q), .one (.int .i64 i)], [.row 35 (.ints .i64 [x0, x1, x2, x3, x4, x5, x6, x7])] =>
    ([x0, x1, x2, x3, x4, x5, x6, x7].all sampleG = true ∧ 0 ≤ i ∧ i ≤ 18) ∧ k (.exit 2) [.one (.ptr 0 1 0 0), .one (.int .i64 (bestK [x0, x1, x2, x3, x4, x5, x6, x7] p (18 - i).toNat i (b, bp, bk)).1), .one (.int .i64 (bestK [x0, x1, x2, x3, x4, x5, x6, x7] p (18 - i).toNat i (b, bp, bk)).2.1),
      .one (.int .i64 (bestK [x0, x1, x2, x3, x4, x5, x6, x7] p (18 - i).toNat i (b, bp, bk)).2.2), .one (.int .i64 q)] [.row 35 (.ints .i64 [x0, x1, x2, x3, x4, x5, x6, x7])]
  | _, _ => False
def outerL : LSpec := fun vs σ k => match vs, σ with
  | [.one (.ptr 0 1 0 0), .one (.int .i64 b), .one (.int .i64 bp), .one (.int .i64 bk), .one (.int .i64 p)], [.row 35 (.ints .i64 [x0, x1, x2, x3, x4, x5, x6, x7])] =>
    ([x0, x1, x2, x3, x4, x5, x6, x7].all sampleG = true ∧ 0 ≤ p ∧ p ≤ 3) ∧ k (.exit 0) [.one (.ptr 0 1 0 0), .one (.int .i64 (bestP [x0, x1, x2, x3, x4, x5, x6, x7] (3 - p).toNat p (b, bp, bk)).2.1), .one (.int .i64 (bestP [x0, x1, x2, x3, x4, x5, x6, x7] (3 - p).toNat p (b, bp, bk)).2.2)] [.row 35 (.ints .i64 [x0, x1, x2, x3, x4, x5, x6, x7])]
  | _, _ => False
def okU (u : Int) : Bool := decide (0 ≤ u) && decide (u ≤ 262136)
def codesL : LSpec := fun vs σ k => match vs, σ with
  | [.one (.int .i64 c), .one (.ptr 0 1 0 0), .agg [.int .i64 u0, .int .i64 u1, .int .i64 u2, .int .i64 u3, .int .i64 u4, .int .i64 u5, .int .i64 u6, .int .i64 u7], .one (.int .i64 i)], [.cells [.own 1 1], .row 3 (.ints .i64 xs)] =>
    (0 ≤ c ∧ c ≤ 17 ∧ 0 ≤ i ∧ i ≤ 8 ∧ (xs.length : Int) ≤ 1000000 * (i + 1) ∧ [u0, u1, u2, u3, u4, u5, u6, u7].all okU = true) ∧
    k (.exit 4) [.one (.ptr 0 1 0 0)] [.cells [.own 1 1], .row 3 (.ints .i64 (xs ++ codesG c ([u0, u1, u2, u3, u4, u5, u6, u7].drop i.toNat)))]
  | _, _ => False
def packedS : Spec := fun args σ K => match args, σ with
  | [.agg [.int .i64 x0, .int .i64 x1, .int .i64 x2, .int .i64 x3, .int .i64 x4, .int .i64 x5, .int .i64 x6, .int .i64 x7]], [] => bif [x0, x1, x2, x3, x4, x5, x6, x7].all sampleG then K (.tup [.one (.own 0 1), .one (.int .i64 0)]) [.row 3 (.ints .i64 (packG [x0, x1, x2, x3, x4, x5, x6, x7]))] else K (.tup [.one .nil, .one (.int .i64 2)]) []
  | _, _ => False
noncomputable abbrev E28 : Env := envOf Try.prog [(82, samplesS), (83, lengthS), (84, byS writeS1 writeS2), (85, codedS), (86, repeatS)] [(6, .spec [1, 5, 6, 7, 19] [1, 6, 7] outerL), (9, .spec [1, 5, 6, 7, 8, 19, 22] [1, 5, 6, 7, 19] innerL), (20, .spec [7, 11, 47, 48] [11] codesL)] 66 0
end Go.Ev
