/-
  Chapter 1, contracts: small helpers, names, fractions, carriers.
-/
import Derived.Test.YtlejemnljojpgaaEvKit
import Derived.Test.YtlejemnljojpgaaProg
namespace Go.Ev
open Go Go.Proofs

def wi (n : Int) : Int := IntKind.i64.wrap n

def withinS : Spec := fun args σ K => match args, σ with
  | [.one (.int .i64 n), .one (.int .i64 lo), .one (.int .i64 hi)], [] => K (.one (.bool (decide (lo ≤ n) && decide (n ≤ hi)))) []
  | _, _ => False
def unlessS : Spec := fun args σ K => match args, σ with
  | [.one (.bool b), .one (.int .i64 e)], [] => K (.one (.int .i64 (cond b 0 e))) []
  | _, _ => False
def firstE : List Int → Int
  | [] => 0
  | e :: l => bif e == 0 then firstE l else e
def firstS : Spec := fun args σ K => match args, σ with
  | [.one (.data (.ints .i64 l))], [] => l.length ≤ 1000 ∧ K (.one (.int .i64 (firstE l))) []
  | _, _ => False
def firstL : LSpec := fun vs σ k => match vs, σ with
  | [.one (.data (.ints .i64 l)), .one (.int .i64 n), .one (.int .i64 i)], [] => (l.length ≤ 1000 ∧ 0 ≤ i ∧ n = l.length) ∧ bif firstE (l.drop i.toNat) == 0 then k (.exit 0) [.any] [] else k .ret [.one (.int .i64 (firstE (l.drop i.toNat)))] []
  | _, _ => False
def wholeS : Spec := fun args σ K => match args, σ with
  | [.one (.int .i64 n)], [] => K (.agg [.int .i64 n, .int .i64 1]) []
  | _, _ => False

/-- The loop of a greatest common divisor. -/
def gcdG (a b : Int) : Int := if b = 0 then a else gcdG b (a.tmod b)
termination_by b.natAbs
decreasing_by
  rename_i h
  rw [Int.natAbs_tmod]
  exact Nat.mod_lt _ (by omega)
def sizeG (n : Int) : Int := if wi (0 - n) > n then wi (0 - n) else n
def gcdL : LSpec := fun vs σ k => match vs, σ with
  | [.one (.int .i64 a), .one (.int .i64 b)], [] => k (.exit 0) [.one (.int .i64 (gcdG a b))] []
  | _, _ => False
def gcdS : Spec := fun args σ K => match args, σ with
  | [.one (.int .i64 a), .one (.int .i64 b)], [] => K (.one (.int .i64 (sizeG (gcdG a b)))) []
  | _, _ => False
def sizeS : Spec := fun args σ K => match args, σ with
  | [.one (.int .i64 a)], [] => K (.one (.int .i64 (sizeG a))) []
  | _, _ => False

noncomputable def E71 : Env := envOf Try.prog [] [] 15 0
noncomputable def E70 : Env := envOf Try.prog [] [] 7 0
noncomputable def E69 : Env := envOf Try.prog [] [(2, .spec [5, 6, 7] [2] firstL)] 15 0
noncomputable def E68 : Env := envOf Try.prog [] [] 5 0
noncomputable def E72 : Env := envOf Try.prog [] [(1, .spec [0, 1] [0] gcdL)] 15 0
end Go.Ev
