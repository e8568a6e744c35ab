/-
  Chapter 1, contracts: packing.
-/
import Derived.Test.YtlejemnljojpgaaC1Eok
import Derived.Test.YtlejemnljojpgaaEvKit2
namespace Go.Ev
open Go Go.Proofs
set_option maxRecDepth 20000

def expG (p last bef : Int) : Int := bif p == 1 then last else bif p == 2 then wi (wi (2 * last) - bef) else 0
def expectedS : Spec := fun args σ K => match args, σ with
  | [.one (.int .i64 p), .one (.int .i64 l), .one (.int .i64 b)], [] => K (.one (.int .i64 (expG p l b))) []
  | _, _ => False
def foldG (r : Int) : Int := bif decide (r ≥ 0) then wi (2 * r) else wi (wi (-2 * r) - 1)
def codR (p : Int) : Int → Int → List Int → List Int
  | _, _, [] => []
  | last, bef, n :: l => foldG (wi (n - expG p last bef)) :: codR p n last l
def codG (p : Int) (xs : List Int) : List Int := codR p 0 0 xs
/-- Eight integers out of a list. -/
def ag8 (ys : List Int) : AV := .agg [.int .i64 (ys.getD 0 0), .int .i64 (ys.getD 1 0), .int .i64 (ys.getD 2 0), .int .i64 (ys.getD 3 0), .int .i64 (ys.getD 4 0), .int .i64 (ys.getD 5 0), .int .i64 (ys.getD 6 0), .int .i64 (ys.getD 7 0)]
def codL : LSpec := fun vs σ k => match vs, σ with
  | [.one (.int .i64 p), .one (.ptr 0 1 0 0), .one (.ptr 1 1 0 0), .one (.int .i64 last), .one (.int .i64 bef), .agg [.int .i64 x0, .int .i64 x1, .int .i64 x2, .int .i64 x3, .int .i64 x4, .int .i64 x5, .int .i64 x6, .int .i64 x7], .one (.int .i64 i)], [.row 123 (.ints .i64 z), .row 123 (.ints .i64 out)] =>
    (0 ≤ i ∧ i ≤ 8 ∧ out.length = 8) ∧ k (.exit 0) [.one (.ptr 0 1 0 0), .one (.ptr 1 1 0 0)] [.row 123 (.ints .i64 z), .row 123 (.ints .i64 (out.take i.toNat ++ codR p last bef ([x0, x1, x2, x3, x4, x5, x6, x7].drop i.toNat)))]
  | _, _ => False
def codedS : Spec := fun args σ K => match args, σ with
  | [.agg [.int .i64 x0, .int .i64 x1, .int .i64 x2, .int .i64 x3, .int .i64 x4, .int .i64 x5, .int .i64 x6, .int .i64 x7], .one (.int .i64 p)], [] => K (ag8 (codG p [x0, x1, x2, x3, x4, x5, x6, x7])) []
  | _, _ => False
def shrG (u k : Int) : Int := u.fdiv (2 ^ min k.toNat 64)
def lenR (k : Int) : List Int → Int
  | [] => 0
  | u :: l => (shrG u k + 1 + k) + lenR k l
def lenG (p k : Int) (xs : List Int) : Int := 7 + lenR k (codG p xs)
def lengthS : Spec := fun args σ K => match args, σ with
  | [.agg [.int .i64 x0, .int .i64 x1, .int .i64 x2, .int .i64 x3, .int .i64 x4, .int .i64 x5, .int .i64 x6, .int .i64 x7], .one (.int .i64 p), .one (.int .i64 k)], [] => ([x0, x1, x2, x3, x4, x5, x6, x7].all sampleG = true ∧ 0 ≤ k ∧ k ≤ 17) ∧ K (.one (.int .i64 (lenG p k [x0, x1, x2, x3, x4, x5, x6, x7]))) []
  | _, _ => False
def bitsForE (xs : List Int) (p k : Int) : Int := firstE [bif xs.all sampleG then 0 else 2, bif withinG p 0 2 && withinG k 0 17 then 0 else 2]
def bitsForS : Spec := fun args σ K => match args, σ with
  | [.agg [.int .i64 x0, .int .i64 x1, .int .i64 x2, .int .i64 x3, .int .i64 x4, .int .i64 x5, .int .i64 x6, .int .i64 x7], .one (.int .i64 p), .one (.int .i64 k)], [] =>
    bif bitsForE [x0, x1, x2, x3, x4, x5, x6, x7] p k == 0 then K (ne (lenG p k [x0, x1, x2, x3, x4, x5, x6, x7]) 0) [] else K (ne 0 2) []
  | _, _ => False
def bitG (n : Int) (i : Nat) : Int := wi (BitVec.ofInt 64 (n.fdiv (2 ^ min i 64)) &&& BitVec.ofInt 64 1).toNat
def bitsN (n : Int) : Nat → List Int
  | 0 => []
  | c + 1 => bitG n c :: bitsN n c
def wrL1 : LSpec := fun vs σ k => match vs, σ with
  | [.one (.ptr 0 1 0 0), .one (.int .i64 n), .one (.int .i64 i)], [.cells [.nil]] =>
    (-1 ≤ i ∧ i ≤ 100) ∧ bif decide (i ≥ 0) then k (.exit 0) [] [.cells [.own 1 1], .row 3 (.ints .i64 (bitsN n (i + 1).toNat))] else k (.exit 0) [] [.cells [.nil]]
  | [.one (.ptr 0 1 0 0), .one (.int .i64 n), .one (.int .i64 i)], [.cells [.own 1 1], .row 3 (.ints .i64 xs)] =>
    (-1 ≤ i ∧ i ≤ 100 ∧ (xs.length : Int) + i ≤ 2000000000) ∧ k (.exit 0) [] [.cells [.own 1 1], .row 3 (.ints .i64 (xs ++ bitsN n (i + 1).toNat))]
  | _, _ => False
def wrL2 : LSpec := fun vs σ k => match vs, σ with
  | [.one (.ptr 0 1 0 0), .one (.int .i64 n), .one (.int .i64 i)], [.cells [.own 1 1], .row 3 (.ints .i64 xs)] =>
    (-1 ≤ i ∧ i ≤ 100 ∧ (xs.length : Int) + i ≤ 2000000000) ∧ bif decide (i ≥ 0) then k (.exit 0) [] [.cells [.own 2 1], .dead, .row 3 (.ints .i64 (xs ++ bitsN n (i + 1).toNat))] else k (.exit 0) [] [.cells [.own 1 1], .row 3 (.ints .i64 xs)]
  | [.one (.ptr 0 1 0 0), .one (.int .i64 n), .one (.int .i64 i)], [.cells [.own 2 1], .dead, .row 3 (.ints .i64 xs)] =>
    (-1 ≤ i ∧ i ≤ 100 ∧ (xs.length : Int) + i ≤ 2000000000) ∧ k (.exit 0) [] [.cells [.own 2 1], .dead, .row 3 (.ints .i64 (xs ++ bitsN n (i + 1).toNat))]
  | _, _ => False
def writeS1 : Spec := fun args σ K => match args, σ with
  | [.one (.ptr 0 1 0 0), .one (.int .i64 n), .one (.int .i64 c)], [.cells [.nil]] =>
    (0 ≤ c ∧ c ≤ 100) ∧ bif decide (c > 0) then K (.tup []) [.cells [.own 1 1], .row 3 (.ints .i64 (bitsN n c.toNat))] else K (.tup []) [.cells [.nil]]
  | _, _ => False
def writeS2 : Spec := fun args σ K => match args, σ with
  | [.one (.ptr 0 1 0 0), .one (.int .i64 n), .one (.int .i64 c)], [.cells [.own 1 1], .row 3 (.ints .i64 xs)] =>
    (0 ≤ c ∧ c ≤ 100 ∧ xs.length ≤ 1000000000) ∧ bif decide (c > 0) then K (.tup []) [.cells [.own 2 1], .dead, .row 3 (.ints .i64 (xs ++ bitsN n c.toNat))] else K (.tup []) [.cells [.own 1 1], .row 3 (.ints .i64 xs)]
  | _, _ => False
def orS (S T : Spec) : Spec := fun args σ K => S args σ K ∨ T args σ K
/-- By the lent blocks' number. -/
def byS (S T : Spec) : Spec := fun args σ K => match σ with
  | [_] => S args σ K
  | _ => T args σ K
def mul64S : Spec := fun args σ K => match args, σ with
  | [.one (.int .u64 x), .one (.int .u64 y)], [] => (0 ≤ x ∧ x ≤ 2147483647 ∧ 0 ≤ y ∧ y ≤ 2147483647) ∧ K (.tup [.one (.int .u64 0), .one (.int .u64 (x * y))]) []
  | _, _ => False
def repL : LSpec := fun vs σ k => match vs, σ with
  | [.one (.own 0 1), .one (.int .i64 n)], [.row 3 (.ints .i64 xs)] =>
    (0 ≤ n ∧ n ≤ xs.length ∧ (0 < n ∨ xs.length = 0) ∧ xs.length ≤ 1000000000 ∧ xs.take n.toNat = List.replicate n.toNat (xs.getD 0 0)) ∧ k (.exit 0) [.one (.own 0 1)] [.row 3 (.ints .i64 (List.replicate xs.length (xs.getD 0 0)))]
  | _, _ => False
def repeatS : Spec := fun args σ K => match args, σ with
  | [.one (.data (.ints .i64 [x])), .one (.int .i64 c)], [] => (0 ≤ c ∧ c ≤ 1000000000) ∧ K (.one (.own 0 1)) [.row 3 (.ints .i64 (List.replicate c.toNat x))]
  | _, _ => False
noncomputable abbrev E106 : Env := envOf Try.prog [] [] 17 0
noncomputable abbrev E85 : Env := envOf Try.prog [(106, expectedS)] [(4, .spec [1, 4, 5, 6, 7, 11, 12] [4, 5] codL)] 37 0
noncomputable abbrev E83 : Env := envOf Try.prog [(85, codedS)] [(3, .unroll 9)] 26 0
noncomputable abbrev E27 : Env := envOf Try.prog [(71, withinS), (82, samplesS), (70, unlessS), (69, firstS), (83, lengthS)] [] 29 0
noncomputable abbrev E84a : Env := envOf Try.prog [] [(1, .spec [0, 1, 6] [] wrL1)] 24 1
noncomputable abbrev E84b : Env := envOf Try.prog [] [(1, .spec [0, 1, 6] [] wrL2)] 24 2
noncomputable abbrev E139 : Env := envOf Try.prog [] [] 51 0
noncomputable abbrev E127 : Env := envOf Try.prog [(139, mul64S)] [] 30 0
noncomputable abbrev E86 : Env := envOf Try.prog [(127, mul64S)] [(8, .spec [7, 8] [7] repL)] 48 0
end Go.Ev
