/-
  Chapter 1, contracts: names, fractions, carriers.
-/
import Derived.Test.YtlejemnljojpgaaC1Aok
namespace Go.Ev
open Go Go.Proofs
set_option maxRecDepth 20000

def letterG (c : Int) : Bool := (decide (c ≥ 97) && decide (c ≤ 122)) || (decide (c ≥ 65) && decide (c ≤ 90))
def badG (i c : Int) : Bool := !letterG c && (i == 0 || (c != 45 && (decide (c < 48) || decide (c > 57))))
def charsG (i : Int) : List Int → Bool
  | [] => true
  | c :: l => !badG i c && charsG (i + 1) l
def bytesG (s : List UInt8) : List Int := s.map fun b => (b.toNat : Int)
def nameG (s : List UInt8) : Bool := (decide (1 ≤ s.length) && decide (s.length ≤ 12)) && charsG 0 (bytesG s)
def nameS : Spec := fun args σ K => match args, σ with
  | [.one (.str s)], [] => s.length ≤ 1000000 ∧ K (.one (.bool (nameG s))) []
  | _, _ => False
def nameL1 : LSpec := fun vs σ k => match vs, σ with
  | [.one (.str s), .one (.int .i64 i)], [] => (s.length ≤ 1000000 ∧ 0 ≤ i) ∧ bif charsG i ((bytesG s).drop i.toNat) then k (.exit 0) [.any] [] else k .ret [.one (.bool false)] []
  | _, _ => False
def nameL2 : LSpec := fun vs σ k => match vs, σ with
  | [.one (.str s), .one (.data (.ints .u8 l)), .one (.int .i64 n), .one (.int .i64 i)], [] => (l.length ≤ 1000000 ∧ 0 ≤ i ∧ n = l.length) ∧ bif charsG i (l.drop i.toNat) then k (.exit 0) [.one (.str s), .any] [] else k .ret [.one (.str s), .one (.bool false)] []
  | _, _ => False
noncomputable def E73 : Env := envOf Try.prog [] [(4, .spec [0, 3] [2] nameL1)] 55 0
noncomputable def E75 : Env := envOf Try.prog [] [(2, .spec [0, 7, 8, 9] [0, 2] nameL2)] 54 0
noncomputable def E25 : Env := envOf Try.prog [] [] 15 0
noncomputable def E137 : Env := envOf Try.prog [] [] 8 0
noncomputable def E126 : Env := envOf Try.prog [(137, sizeS)] [(1, .spec [0, 1] [0] gcdL)] 13 0
end Go.Ev
