/-
  Chapter 1: the law that lost data are restored: contracts.
-/
import Derived.Test.YtlejemnljojpgaaC1BE
import Derived.Test.YtlejemnljojpgaaEvFrz
import Derived.Test.YtlejemnljojpgaaC1H
import Derived.KernelRfl
set_option linter.unusedVariables false
set_option linter.unusedSimpArgs false
set_option linter.unusedSectionVars false
namespace Go.Ev
open Go Go.Proofs
set_option maxRecDepth 20000
set_option linter.unusedVariables false
def resE (D P : List (List Int)) (L Q : List Int) : Int :=
  bif groE D P L Q == 0 then (bif decide ((keptJ Q 0 P.length).length < L.length) then 28 else bif L.all (rowOk (resF D P L (keptJ Q 0 P.length) 8 0 D)) && (keptJ Q 0 P.length).all (parOk (resF D P L (keptJ Q 0 P.length) 8 0 D) P) then 0 else 13) else groE D P L Q
def resV (D P : List (List Int)) (L Q : List Int) : List (List Int) := bif resE D P L Q == 0 then resF D P L (keptJ Q 0 P.length) 8 0 D else []
def rdDS : Spec := fun args σ K => match args, σ with
  | [.agg [.data (.mat .i64 8 D), .data (.mat .i64 8 P), .data (.ints .i64 L), .data (.ints .i64 Q)]], [] => okG D P L Q ∧ K (.tup [.one (.data (.mat .i64 8 (resV D P L Q))), .one (.int .i64 (resE D P L Q))]) []
  | _, _ => False
def parV (X : List (List Int)) (c : Int) : List (List Int) := bif dataE X c == 0 then parM X c else []
def parDS : Spec := fun args σ K => match args, σ with
  | [.one (.data (.mat .i64 8 X)), .one (.int .i64 c)], [] => (X.length ≤ 1000000000 ∧ X.all len8 = true) ∧ K (.tup [.one (.data (.mat .i64 8 (parV X c))), .one (.int .i64 (dataE X c))]) []
  | _, _ => False
def dataErr0S : Spec := fun args σ K => match args, σ with
  | [.one (.data (.mat .i64 8 X)), .one (.int .i64 c)], [] => X.all len8 = true ∧ K (.one (.int .i64 (dataE X c))) []
  | _, _ => False
def bitB (x i : Int) : Bool := IntKind.i64.wrap (((BitVec.ofInt 64 (x.fdiv ((2 : Int) ^ min i.toNat 64)) &&& BitVec.ofInt 64 (1 : Int)).toNat : Nat) : Int) == (1 : Int)
def lostJ (x : Int) : Int → Nat → List Int
  | _, 0 => []
  | i, c + 1 => bif bitB x i then i :: lostJ x (i + 1) c else lostJ x (i + 1) c
def thereJ (x : Int) : Int → Nat → List Int
  | _, 0 => []
  | i, c + 1 => bif bitB x i then thereJ x (i + 1) c else i :: thereJ x (i + 1) c
def markJ (x : Int) (row : List Int) : Int → Nat → List (List Int) → List (List Int)
  | _, 0, D => D
  | i, c + 1, D => markJ x row (i + 1) c (bif bitB x i then D.set i.toNat row else D)
def rlA : LSpec := fun vs σ k => match vs, σ with
  | [.one (.data (.mat .i64 8 X)), .one (.ptr 0 1 0 0), .one (.ptr 1 1 0 0), .one (.int .i64 i)], [.cells [.int .i64 x0, .int .i64 x1, .int .i64 x2, .int .i64 x3, .int .i64 x4], .cells [.own 2 8, .own 3 8, .nil, .nil], .row 35 (.mat .i64 8 D), .row 35 (.mat .i64 8 P)] => (X.length ≤ 12 ∧ D.length = X.length ∧ D.all len8 = true ∧ 0 ≤ i ∧ i ≤ X.length) ∧ bif (lostJ x0 i ((X.length : Int) - i).toNat).isEmpty then k (.exit 0) [] [.cells [.int .i64 x0, .int .i64 x1, .int .i64 x2, .int .i64 x3, .int .i64 x4], .cells [.own 2 8, .own 3 8, .nil, .nil], .row 35 (.mat .i64 8 D), .row 35 (.mat .i64 8 P)] else k (.exit 0) [] [.cells [.int .i64 x0, .int .i64 x1, .int .i64 x2, .int .i64 x3, .int .i64 x4], .cells [.own 2 8, .own 3 8, .own 4 1, .nil], .row 35 (.mat .i64 8 (markJ x0 [x4, x3, 0, 0, 0, 0, 0, 0] i ((X.length : Int) - i).toNat D)), .row 35 (.mat .i64 8 P), .row 3 (.ints .i64 (lostJ x0 i ((X.length : Int) - i).toNat))]
  | [.one (.data (.mat .i64 8 X)), .one (.ptr 0 1 0 0), .one (.ptr 1 1 0 0), .one (.int .i64 i)], [.cells [.int .i64 x0, .int .i64 x1, .int .i64 x2, .int .i64 x3, .int .i64 x4], .cells [.own 2 8, .own 3 8, .own 4 1, .nil], .row 35 (.mat .i64 8 D), .row 35 (.mat .i64 8 P), .row 3 (.ints .i64 S)] => (X.length ≤ 12 ∧ D.length = X.length ∧ D.all len8 = true ∧ 0 ≤ i ∧ i ≤ X.length ∧ S.length ≤ i) ∧ k (.exit 0) [] [.cells [.int .i64 x0, .int .i64 x1, .int .i64 x2, .int .i64 x3, .int .i64 x4], .cells [.own 2 8, .own 3 8, .own 4 1, .nil], .row 35 (.mat .i64 8 (markJ x0 [x4, x3, 0, 0, 0, 0, 0, 0] i ((X.length : Int) - i).toNat D)), .row 35 (.mat .i64 8 P), .row 3 (.ints .i64 (S ++ lostJ x0 i ((X.length : Int) - i).toNat))]
  | _, _ => False
def rlBA : LSpec := fun vs σ k => match vs, σ with
  | [.one (.int .i64 c), .one (.ptr 0 1 0 0), .one (.ptr 1 1 0 0), .one .nil, .one (.int .i64 j)], [.cells [.int .i64 x0, .int .i64 x1, .int .i64 x2, .int .i64 x3, .int .i64 x4], .cells [.own 2 8, .own 3 8, .nil, .nil], .row 35 (.mat .i64 8 D), .row 35 (.mat .i64 8 P)] => (c = P.length ∧ P.length ≤ 4 ∧ P.all len8 = true ∧ 0 ≤ j ∧ j ≤ c) ∧ bif (lostJ x1 j (c - j).toNat).isEmpty then (bif (thereJ x1 j (c - j).toNat).isEmpty then k (.exit 2) [.one .nil] [.cells [.int .i64 x0, .int .i64 x1, .int .i64 x2, .int .i64 x3, .int .i64 x4], .cells [.own 2 8, .own 3 8, .nil, .nil], .row 35 (.mat .i64 8 D), .row 35 (.mat .i64 8 (markJ x1 [0, 0, 0, 0, 0, 0, 0, 0] j (c - j).toNat P))] else k (.exit 2) [.one (.own 4 1)] [.cells [.int .i64 x0, .int .i64 x1, .int .i64 x2, .int .i64 x3, .int .i64 x4], .cells [.own 2 8, .own 3 8, .nil, .nil], .row 35 (.mat .i64 8 D), .row 35 (.mat .i64 8 (markJ x1 [0, 0, 0, 0, 0, 0, 0, 0] j (c - j).toNat P)), .row 3 (.ints .i64 (thereJ x1 j (c - j).toNat))]) else bif (thereJ x1 j (c - j).toNat).isEmpty then k (.exit 2) [.one .nil] [.cells [.int .i64 x0, .int .i64 x1, .int .i64 x2, .int .i64 x3, .int .i64 x4], .cells [.own 2 8, .own 3 8, .nil, .own 4 1], .row 35 (.mat .i64 8 D), .row 35 (.mat .i64 8 (markJ x1 [0, 0, 0, 0, 0, 0, 0, 0] j (c - j).toNat P)), .row 3 (.ints .i64 (lostJ x1 j (c - j).toNat))] else k (.exit 2) [.one (.own 5 1)] [.cells [.int .i64 x0, .int .i64 x1, .int .i64 x2, .int .i64 x3, .int .i64 x4], .cells [.own 2 8, .own 3 8, .nil, .own 4 1], .row 35 (.mat .i64 8 D), .row 35 (.mat .i64 8 (markJ x1 [0, 0, 0, 0, 0, 0, 0, 0] j (c - j).toNat P)), .row 3 (.ints .i64 (lostJ x1 j (c - j).toNat)), .row 3 (.ints .i64 (thereJ x1 j (c - j).toNat))]
  | [.one (.int .i64 c), .one (.ptr 0 1 0 0), .one (.ptr 1 1 0 0), .one (.own 4 1), .one (.int .i64 j)], [.cells [.int .i64 x0, .int .i64 x1, .int .i64 x2, .int .i64 x3, .int .i64 x4], .cells [.own 2 8, .own 3 8, .nil, .nil], .row 35 (.mat .i64 8 D), .row 35 (.mat .i64 8 P), .row 3 (.ints .i64 S)] => (c = P.length ∧ P.length ≤ 4 ∧ P.all len8 = true ∧ 0 ≤ j ∧ j ≤ c ∧ S.length ≤ j) ∧ bif (lostJ x1 j (c - j).toNat).isEmpty then (k (.exit 2) [.one (.own 4 1)] [.cells [.int .i64 x0, .int .i64 x1, .int .i64 x2, .int .i64 x3, .int .i64 x4], .cells [.own 2 8, .own 3 8, .nil, .nil], .row 35 (.mat .i64 8 D), .row 35 (.mat .i64 8 (markJ x1 [0, 0, 0, 0, 0, 0, 0, 0] j (c - j).toNat P)), .row 3 (.ints .i64 (S ++ thereJ x1 j (c - j).toNat))]) else k (.exit 2) [.one (.own 5 1)] [.cells [.int .i64 x0, .int .i64 x1, .int .i64 x2, .int .i64 x3, .int .i64 x4], .cells [.own 2 8, .own 3 8, .nil, .own 4 1], .row 35 (.mat .i64 8 D), .row 35 (.mat .i64 8 (markJ x1 [0, 0, 0, 0, 0, 0, 0, 0] j (c - j).toNat P)), .row 3 (.ints .i64 (lostJ x1 j (c - j).toNat)), .row 3 (.ints .i64 (S ++ thereJ x1 j (c - j).toNat))]
  | [.one (.int .i64 c), .one (.ptr 0 1 0 0), .one (.ptr 1 1 0 0), .one .nil, .one (.int .i64 j)], [.cells [.int .i64 x0, .int .i64 x1, .int .i64 x2, .int .i64 x3, .int .i64 x4], .cells [.own 2 8, .own 3 8, .nil, .own 4 1], .row 35 (.mat .i64 8 D), .row 35 (.mat .i64 8 P), .row 3 (.ints .i64 U)] => (c = P.length ∧ P.length ≤ 4 ∧ P.all len8 = true ∧ 0 ≤ j ∧ j ≤ c ∧ U.length ≤ j) ∧ bif (thereJ x1 j (c - j).toNat).isEmpty then k (.exit 2) [.one .nil] [.cells [.int .i64 x0, .int .i64 x1, .int .i64 x2, .int .i64 x3, .int .i64 x4], .cells [.own 2 8, .own 3 8, .nil, .own 4 1], .row 35 (.mat .i64 8 D), .row 35 (.mat .i64 8 (markJ x1 [0, 0, 0, 0, 0, 0, 0, 0] j (c - j).toNat P)), .row 3 (.ints .i64 (U ++ lostJ x1 j (c - j).toNat))] else k (.exit 2) [.one (.own 5 1)] [.cells [.int .i64 x0, .int .i64 x1, .int .i64 x2, .int .i64 x3, .int .i64 x4], .cells [.own 2 8, .own 3 8, .nil, .own 4 1], .row 35 (.mat .i64 8 D), .row 35 (.mat .i64 8 (markJ x1 [0, 0, 0, 0, 0, 0, 0, 0] j (c - j).toNat P)), .row 3 (.ints .i64 (U ++ lostJ x1 j (c - j).toNat)), .row 3 (.ints .i64 (thereJ x1 j (c - j).toNat))]
  | [.one (.int .i64 c), .one (.ptr 0 1 0 0), .one (.ptr 1 1 0 0), .one (.own 5 1), .one (.int .i64 j)], [.cells [.int .i64 x0, .int .i64 x1, .int .i64 x2, .int .i64 x3, .int .i64 x4], .cells [.own 2 8, .own 3 8, .nil, .own 4 1], .row 35 (.mat .i64 8 D), .row 35 (.mat .i64 8 P), .row 3 (.ints .i64 U), .row 3 (.ints .i64 S)] => (c = P.length ∧ P.length ≤ 4 ∧ P.all len8 = true ∧ 0 ≤ j ∧ j ≤ c ∧ U.length ≤ j ∧ S.length ≤ j) ∧ k (.exit 2) [.one (.own 5 1)] [.cells [.int .i64 x0, .int .i64 x1, .int .i64 x2, .int .i64 x3, .int .i64 x4], .cells [.own 2 8, .own 3 8, .nil, .own 4 1], .row 35 (.mat .i64 8 D), .row 35 (.mat .i64 8 (markJ x1 [0, 0, 0, 0, 0, 0, 0, 0] j (c - j).toNat P)), .row 3 (.ints .i64 (U ++ lostJ x1 j (c - j).toNat)), .row 3 (.ints .i64 (S ++ thereJ x1 j (c - j).toNat))]
  | _, _ => False
def rlBB : LSpec := fun vs σ k => match vs with
  | [.one (.int .i64 c), .one (.ptr 0 1 0 0), .one (.ptr 1 1 0 0), .one .nil, .one (.int .i64 j)] => (match σ with
    | [.cells [.int .i64 x0, .int .i64 x1, .int .i64 x2, .int .i64 x3, .int .i64 x4], .cells [.own 2 8, .own 3 8, .own 4 1, .nil], .row 35 (.mat .i64 8 D), .row 35 (.mat .i64 8 P), .row 3 (.ints .i64 L)] => (c = P.length ∧ P.length ≤ 4 ∧ P.all len8 = true ∧ 0 ≤ j ∧ j ≤ c) ∧ bif (lostJ x1 j (c - j).toNat).isEmpty then (bif (thereJ x1 j (c - j).toNat).isEmpty then k (.exit 2) [.one .nil] [.cells [.int .i64 x0, .int .i64 x1, .int .i64 x2, .int .i64 x3, .int .i64 x4], .cells [.own 2 8, .own 3 8, .own 4 1, .nil], .row 35 (.mat .i64 8 D), .row 35 (.mat .i64 8 (markJ x1 [0, 0, 0, 0, 0, 0, 0, 0] j (c - j).toNat P)), .row 3 (.ints .i64 L)] else k (.exit 2) [.one (.own 5 1)] [.cells [.int .i64 x0, .int .i64 x1, .int .i64 x2, .int .i64 x3, .int .i64 x4], .cells [.own 2 8, .own 3 8, .own 4 1, .nil], .row 35 (.mat .i64 8 D), .row 35 (.mat .i64 8 (markJ x1 [0, 0, 0, 0, 0, 0, 0, 0] j (c - j).toNat P)), .row 3 (.ints .i64 L), .row 3 (.ints .i64 (thereJ x1 j (c - j).toNat))]) else bif (thereJ x1 j (c - j).toNat).isEmpty then k (.exit 2) [.one .nil] [.cells [.int .i64 x0, .int .i64 x1, .int .i64 x2, .int .i64 x3, .int .i64 x4], .cells [.own 2 8, .own 3 8, .own 4 1, .own 5 1], .row 35 (.mat .i64 8 D), .row 35 (.mat .i64 8 (markJ x1 [0, 0, 0, 0, 0, 0, 0, 0] j (c - j).toNat P)), .row 3 (.ints .i64 L), .row 3 (.ints .i64 (lostJ x1 j (c - j).toNat))] else k (.exit 2) [.one (.own 6 1)] [.cells [.int .i64 x0, .int .i64 x1, .int .i64 x2, .int .i64 x3, .int .i64 x4], .cells [.own 2 8, .own 3 8, .own 4 1, .own 5 1], .row 35 (.mat .i64 8 D), .row 35 (.mat .i64 8 (markJ x1 [0, 0, 0, 0, 0, 0, 0, 0] j (c - j).toNat P)), .row 3 (.ints .i64 L), .row 3 (.ints .i64 (lostJ x1 j (c - j).toNat)), .row 3 (.ints .i64 (thereJ x1 j (c - j).toNat))]
    | [.cells [.int .i64 x0, .int .i64 x1, .int .i64 x2, .int .i64 x3, .int .i64 x4], .cells [.own 2 8, .own 3 8, .own 4 1, .own 5 1], .row 35 (.mat .i64 8 D), .row 35 (.mat .i64 8 P), .row 3 (.ints .i64 L), .row 3 (.ints .i64 U)] => (c = P.length ∧ P.length ≤ 4 ∧ P.all len8 = true ∧ 0 ≤ j ∧ j ≤ c ∧ U.length ≤ j) ∧ bif (thereJ x1 j (c - j).toNat).isEmpty then k (.exit 2) [.one .nil] [.cells [.int .i64 x0, .int .i64 x1, .int .i64 x2, .int .i64 x3, .int .i64 x4], .cells [.own 2 8, .own 3 8, .own 4 1, .own 5 1], .row 35 (.mat .i64 8 D), .row 35 (.mat .i64 8 (markJ x1 [0, 0, 0, 0, 0, 0, 0, 0] j (c - j).toNat P)), .row 3 (.ints .i64 L), .row 3 (.ints .i64 (U ++ lostJ x1 j (c - j).toNat))] else k (.exit 2) [.one (.own 6 1)] [.cells [.int .i64 x0, .int .i64 x1, .int .i64 x2, .int .i64 x3, .int .i64 x4], .cells [.own 2 8, .own 3 8, .own 4 1, .own 5 1], .row 35 (.mat .i64 8 D), .row 35 (.mat .i64 8 (markJ x1 [0, 0, 0, 0, 0, 0, 0, 0] j (c - j).toNat P)), .row 3 (.ints .i64 L), .row 3 (.ints .i64 (U ++ lostJ x1 j (c - j).toNat)), .row 3 (.ints .i64 (thereJ x1 j (c - j).toNat))]
    | _ => False)
  | [.one (.int .i64 c), .one (.ptr 0 1 0 0), .one (.ptr 1 1 0 0), .one (.own 5 1), .one (.int .i64 j)] => (match σ with
    | [.cells [.int .i64 x0, .int .i64 x1, .int .i64 x2, .int .i64 x3, .int .i64 x4], .cells [.own 2 8, .own 3 8, .own 4 1, .nil], .row 35 (.mat .i64 8 D), .row 35 (.mat .i64 8 P), .row 3 (.ints .i64 L), .row 3 (.ints .i64 S)] => (c = P.length ∧ P.length ≤ 4 ∧ P.all len8 = true ∧ 0 ≤ j ∧ j ≤ c ∧ S.length ≤ j) ∧ bif (lostJ x1 j (c - j).toNat).isEmpty then (k (.exit 2) [.one (.own 5 1)] [.cells [.int .i64 x0, .int .i64 x1, .int .i64 x2, .int .i64 x3, .int .i64 x4], .cells [.own 2 8, .own 3 8, .own 4 1, .nil], .row 35 (.mat .i64 8 D), .row 35 (.mat .i64 8 (markJ x1 [0, 0, 0, 0, 0, 0, 0, 0] j (c - j).toNat P)), .row 3 (.ints .i64 L), .row 3 (.ints .i64 (S ++ thereJ x1 j (c - j).toNat))]) else k (.exit 2) [.one (.own 6 1)] [.cells [.int .i64 x0, .int .i64 x1, .int .i64 x2, .int .i64 x3, .int .i64 x4], .cells [.own 2 8, .own 3 8, .own 4 1, .own 5 1], .row 35 (.mat .i64 8 D), .row 35 (.mat .i64 8 (markJ x1 [0, 0, 0, 0, 0, 0, 0, 0] j (c - j).toNat P)), .row 3 (.ints .i64 L), .row 3 (.ints .i64 (lostJ x1 j (c - j).toNat)), .row 3 (.ints .i64 (S ++ thereJ x1 j (c - j).toNat))]
    | _ => False)
  | [.one (.int .i64 c), .one (.ptr 0 1 0 0), .one (.ptr 1 1 0 0), .one (.own 6 1), .one (.int .i64 j)] => (match σ with
    | [.cells [.int .i64 x0, .int .i64 x1, .int .i64 x2, .int .i64 x3, .int .i64 x4], .cells [.own 2 8, .own 3 8, .own 4 1, .own 5 1], .row 35 (.mat .i64 8 D), .row 35 (.mat .i64 8 P), .row 3 (.ints .i64 L), .row 3 (.ints .i64 U), .row 3 (.ints .i64 S)] => (c = P.length ∧ P.length ≤ 4 ∧ P.all len8 = true ∧ 0 ≤ j ∧ j ≤ c ∧ U.length ≤ j ∧ S.length ≤ j) ∧ k (.exit 2) [.one (.own 6 1)] [.cells [.int .i64 x0, .int .i64 x1, .int .i64 x2, .int .i64 x3, .int .i64 x4], .cells [.own 2 8, .own 3 8, .own 4 1, .own 5 1], .row 35 (.mat .i64 8 D), .row 35 (.mat .i64 8 (markJ x1 [0, 0, 0, 0, 0, 0, 0, 0] j (c - j).toNat P)), .row 3 (.ints .i64 L), .row 3 (.ints .i64 (U ++ lostJ x1 j (c - j).toNat)), .row 3 (.ints .i64 (S ++ thereJ x1 j (c - j).toNat))]
    | _ => False)
  | _ => False
def lrSa : Spec := fun args σ K => match args, σ with
  | [.one (.data (.mat .i64 8 X)), .one (.int .i64 c), .agg [.int .i64 x0, .int .i64 x1, .int .i64 x2, .int .i64 x3, .int .i64 x4]], [] => (X.all len8 = true ∧ (lostJ x0 0 X.length).isEmpty = true) ∧ K (.one (.bool true)) []
  | _, _ => False
def lrSb : Spec := fun args σ K => match args, σ with
  | [.one (.data (.mat .i64 8 X)), .one (.int .i64 c), .agg [.int .i64 x0, .int .i64 x1, .int .i64 x2, .int .i64 x3, .int .i64 x4]], [] => (X.all len8 = true ∧ (lostJ x0 0 X.length).isEmpty = false) ∧ K (.one (.bool true)) []
  | _, _ => False
def lrS : Spec := fun args σ K => match args, σ with
  | [.one (.data (.mat .i64 8 X)), .one (.int .i64 c), .agg [.int .i64 x0, .int .i64 x1, .int .i64 x2, .int .i64 x3, .int .i64 x4]], [] => X.all len8 = true ∧ K (.one (.bool true)) []
  | _, _ => False
noncomputable abbrev slr : List (FuncId × Spec) := [(15, trueS), (44, dataErr0S), (41, copyDataS), (40, parDS), (64, cgrS), (63, rdDS), (45, sameDataS), (26, modS), (25, withinS)]
noncomputable abbrev llr (l1 : LoopBy) : List (Nat × LoopBy) := [(11, .frm 4 [0, 5, 9, 11] [] rlA), (17, l1)]
noncomputable abbrev ElrM (l1 : LoopBy) (m : Nat) : Env := envOf Try.prog slr (llr l1) 187 m [63, 40]
noncomputable abbrev lrA : LoopBy := .frm 4 [1, 5, 9, 10, 12] [10] rlBA
noncomputable abbrev lrB : LoopBy := .frm 5 [1, 5, 9, 10, 12] [10] rlBB
end Go.Ev

namespace Go.Ev
open Go Go.Proofs
set_option maxRecDepth 100000
theorem exlrl0a (l1 : LoopBy) (X : List (List Int)) (i x0 x1 x2 x3 x4 : Int) (D P : List (List Int)) (K : Ex → List AV → List Blk → Prop) : evBody (ElrM l1 4) (lb Try.f14 0) [0, 5, 9, 11] [] [.one (.data (.mat .i64 8 X)), .one (.ptr 0 1 0 0), .one (.ptr 1 1 0 0), .one (.int .i64 i)] [.cells [.int .i64 x0, .int .i64 x1, .int .i64 x2, .int .i64 x3, .int .i64 x4], .cells [.own 2 8, .own 3 8, .nil, .nil], .row 35 (.mat .i64 8 D), .row 35 (.mat .i64 8 P)] K = ( bif decide (i < (↑X.length : Int)) then bif !decide (i < (0 : Int)) then bif IntKind.i64.wrap (↑(BitVec.ofInt 64 (x0.fdiv ((2 : Int) ^ min i.toNat 64)) &&& BitVec.ofInt 64 (1 : Int)).toNat : Int) == (1 : Int) then bif decide ((0 : Int) ≤ i) && decide (i < (↑D.length : Int)) then bif decide (i.toNat < D.length) then K .normal [.one (.data (Row.mat .i64 8 X)), .one (.ptr 0 1 0 0), .one (.ptr 1 1 0 0), .one (.int .i64 (IntKind.i64.wrap (i + (1 : Int))))] [Blk.cells [SV.int .i64 x0, SV.int .i64 x1, SV.int .i64 x2, SV.int .i64 x3, SV.int .i64 x4], Blk.cells [SV.own 2 8, SV.own 3 8, SV.own 4 1, SV.nil], Blk.row 35 (Row.mat .i64 8 (D.set i.toNat [x4, x3, (0 : Int), (0 : Int), (0 : Int), (0 : Int), (0 : Int), (0 : Int)])), Blk.row 35 (Row.mat .i64 8 P), Blk.row 3 (Row.ints .i64 [i])] else False else False else K .normal [.one (.data (Row.mat .i64 8 X)), .one (.ptr 0 1 0 0), .one (.ptr 1 1 0 0), .one (.int .i64 (IntKind.i64.wrap (i + (1 : Int))))] [Blk.cells [SV.int .i64 x0, SV.int .i64 x1, SV.int .i64 x2, SV.int .i64 x3, SV.int .i64 x4], Blk.cells [SV.own 2 8, SV.own 3 8, SV.nil, SV.nil], Blk.row 35 (Row.mat .i64 8 D), Blk.row 35 (Row.mat .i64 8 P)] else False else K (.exit 0) [] [Blk.cells [SV.int .i64 x0, SV.int .i64 x1, SV.int .i64 x2, SV.int .i64 x3, SV.int .i64 x4], Blk.cells [SV.own 2 8, SV.own 3 8, SV.nil, SV.nil], Blk.row 35 (Row.mat .i64 8 D), Blk.row 35 (Row.mat .i64 8 P)]) := by kernel_rfl
theorem exlrl0b (l1 : LoopBy) (X : List (List Int)) (i x0 x1 x2 x3 x4 : Int) (D P : List (List Int)) (S : List Int) (K : Ex → List AV → List Blk → Prop) : evBody (ElrM l1 4) (lb Try.f14 0) [0, 5, 9, 11] [] [.one (.data (.mat .i64 8 X)), .one (.ptr 0 1 0 0), .one (.ptr 1 1 0 0), .one (.int .i64 i)] [.cells [.int .i64 x0, .int .i64 x1, .int .i64 x2, .int .i64 x3, .int .i64 x4], .cells [.own 2 8, .own 3 8, .own 4 1, .nil], .row 35 (.mat .i64 8 D), .row 35 (.mat .i64 8 P), .row 3 (.ints .i64 S)] K = ( bif decide (i < (↑X.length : Int)) then bif !decide (i < (0 : Int)) then bif IntKind.i64.wrap (↑(BitVec.ofInt 64 (x0.fdiv ((2 : Int) ^ min i.toNat 64)) &&& BitVec.ofInt 64 (1 : Int)).toNat : Int) == (1 : Int) then bif decide ((S ++ [i]).length * 8 ≤ 140737488355328 ∧ (S ++ [i]).length ≤ 140737488355328) then bif decide ((0 : Int) ≤ i) && decide (i < (↑D.length : Int)) then bif decide (i.toNat < D.length) then K .normal [.one (.data (Row.mat .i64 8 X)), .one (.ptr 0 1 0 0), .one (.ptr 1 1 0 0), .one (.int .i64 (IntKind.i64.wrap (i + (1 : Int))))] [Blk.cells [SV.int .i64 x0, SV.int .i64 x1, SV.int .i64 x2, SV.int .i64 x3, SV.int .i64 x4], Blk.cells [SV.own 2 8, SV.own 3 8, SV.own 4 1, SV.nil], Blk.row 35 (Row.mat .i64 8 (D.set i.toNat [x4, x3, (0 : Int), (0 : Int), (0 : Int), (0 : Int), (0 : Int), (0 : Int)])), Blk.row 35 (Row.mat .i64 8 P), Blk.row 3 (Row.ints .i64 (S ++ [i]))] else False else False else False else K .normal [.one (.data (Row.mat .i64 8 X)), .one (.ptr 0 1 0 0), .one (.ptr 1 1 0 0), .one (.int .i64 (IntKind.i64.wrap (i + (1 : Int))))] [Blk.cells [SV.int .i64 x0, SV.int .i64 x1, SV.int .i64 x2, SV.int .i64 x3, SV.int .i64 x4], Blk.cells [SV.own 2 8, SV.own 3 8, SV.own 4 1, SV.nil], Blk.row 35 (Row.mat .i64 8 D), Blk.row 35 (Row.mat .i64 8 P), Blk.row 3 (Row.ints .i64 S)] else False else K (.exit 0) [] [Blk.cells [SV.int .i64 x0, SV.int .i64 x1, SV.int .i64 x2, SV.int .i64 x3, SV.int .i64 x4], Blk.cells [SV.own 2 8, SV.own 3 8, SV.own 4 1, SV.nil], Blk.row 35 (Row.mat .i64 8 D), Blk.row 35 (Row.mat .i64 8 P), Blk.row 3 (Row.ints .i64 S)]) := by kernel_rfl
theorem exlrAa (c j x0 x1 x2 x3 x4 : Int) (D P : List (List Int)) (K : Ex → List AV → List Blk → Prop) : evBody (ElrM lrA 4) (lb Try.f14 1) [1, 5, 9, 10, 12] [10] [.one (.int .i64 c), .one (.ptr 0 1 0 0), .one (.ptr 1 1 0 0), .one .nil, .one (.int .i64 j)] [.cells [.int .i64 x0, .int .i64 x1, .int .i64 x2, .int .i64 x3, .int .i64 x4], .cells [.own 2 8, .own 3 8, .nil, .nil], .row 35 (.mat .i64 8 D), .row 35 (.mat .i64 8 P)] K = ( bif decide (j < c) then bif !decide (j < (0 : Int)) then bif IntKind.i64.wrap (↑(BitVec.ofInt 64 (x1.fdiv ((2 : Int) ^ min j.toNat 64)) &&& BitVec.ofInt 64 (1 : Int)).toNat : Int) == (1 : Int) then bif decide ((0 : Int) ≤ j) && decide (j < (↑P.length : Int)) then bif decide (j.toNat < P.length) then K .normal [.one (.int .i64 c), .one (.ptr 0 1 0 0), .one (.ptr 1 1 0 0), .one .nil, .one (.int .i64 (IntKind.i64.wrap (j + (1 : Int))))] [Blk.cells [SV.int .i64 x0, SV.int .i64 x1, SV.int .i64 x2, SV.int .i64 x3, SV.int .i64 x4], Blk.cells [SV.own 2 8, SV.own 3 8, SV.nil, SV.own 4 1], Blk.row 35 (Row.mat .i64 8 D), Blk.row 35 (Row.mat .i64 8 (P.set j.toNat [(0 : Int), (0 : Int), (0 : Int), (0 : Int), (0 : Int), (0 : Int), (0 : Int), (0 : Int)])), Blk.row 3 (Row.ints .i64 [j])] else False else False else K .normal [.one (.int .i64 c), .one (.ptr 0 1 0 0), .one (.ptr 1 1 0 0), .one (.own 4 1), .one (.int .i64 (IntKind.i64.wrap (j + (1 : Int))))] [Blk.cells [SV.int .i64 x0, SV.int .i64 x1, SV.int .i64 x2, SV.int .i64 x3, SV.int .i64 x4], Blk.cells [SV.own 2 8, SV.own 3 8, SV.nil, SV.nil], Blk.row 35 (Row.mat .i64 8 D), Blk.row 35 (Row.mat .i64 8 P), Blk.row 3 (Row.ints .i64 [j])] else False else K (.exit 2) [.one .nil] [Blk.cells [SV.int .i64 x0, SV.int .i64 x1, SV.int .i64 x2, SV.int .i64 x3, SV.int .i64 x4], Blk.cells [SV.own 2 8, SV.own 3 8, SV.nil, SV.nil], Blk.row 35 (Row.mat .i64 8 D), Blk.row 35 (Row.mat .i64 8 P)]) := by kernel_rfl
theorem exlrAb (c j x0 x1 x2 x3 x4 : Int) (D P : List (List Int)) (S : List Int) (K : Ex → List AV → List Blk → Prop) : evBody (ElrM lrA 4) (lb Try.f14 1) [1, 5, 9, 10, 12] [10] [.one (.int .i64 c), .one (.ptr 0 1 0 0), .one (.ptr 1 1 0 0), .one (.own 4 1), .one (.int .i64 j)] [.cells [.int .i64 x0, .int .i64 x1, .int .i64 x2, .int .i64 x3, .int .i64 x4], .cells [.own 2 8, .own 3 8, .nil, .nil], .row 35 (.mat .i64 8 D), .row 35 (.mat .i64 8 P), .row 3 (.ints .i64 S)] K = ( bif decide (j < c) then bif !decide (j < (0 : Int)) then bif IntKind.i64.wrap (↑(BitVec.ofInt 64 (x1.fdiv ((2 : Int) ^ min j.toNat 64)) &&& BitVec.ofInt 64 (1 : Int)).toNat : Int) == (1 : Int) then bif decide ((0 : Int) ≤ j) && decide (j < (↑P.length : Int)) then bif decide (j.toNat < P.length) then K .normal [.one (.int .i64 c), .one (.ptr 0 1 0 0), .one (.ptr 1 1 0 0), .one (.own 5 1), .one (.int .i64 (IntKind.i64.wrap (j + (1 : Int))))] [Blk.cells [SV.int .i64 x0, SV.int .i64 x1, SV.int .i64 x2, SV.int .i64 x3, SV.int .i64 x4], Blk.cells [SV.own 2 8, SV.own 3 8, SV.nil, SV.own 4 1], Blk.row 35 (Row.mat .i64 8 D), Blk.row 35 (Row.mat .i64 8 (P.set j.toNat [(0 : Int), (0 : Int), (0 : Int), (0 : Int), (0 : Int), (0 : Int), (0 : Int), (0 : Int)])), Blk.row 3 (Row.ints .i64 [j]), Blk.row 3 (Row.ints .i64 S)] else False else False else bif decide ((S ++ [j]).length * 8 ≤ 140737488355328 ∧ (S ++ [j]).length ≤ 140737488355328) then K .normal [.one (.int .i64 c), .one (.ptr 0 1 0 0), .one (.ptr 1 1 0 0), .one (.own 4 1), .one (.int .i64 (IntKind.i64.wrap (j + (1 : Int))))] [Blk.cells [SV.int .i64 x0, SV.int .i64 x1, SV.int .i64 x2, SV.int .i64 x3, SV.int .i64 x4], Blk.cells [SV.own 2 8, SV.own 3 8, SV.nil, SV.nil], Blk.row 35 (Row.mat .i64 8 D), Blk.row 35 (Row.mat .i64 8 P), Blk.row 3 (Row.ints .i64 (S ++ [j]))] else False else False else K (.exit 2) [.one (.own 4 1)] [Blk.cells [SV.int .i64 x0, SV.int .i64 x1, SV.int .i64 x2, SV.int .i64 x3, SV.int .i64 x4], Blk.cells [SV.own 2 8, SV.own 3 8, SV.nil, SV.nil], Blk.row 35 (Row.mat .i64 8 D), Blk.row 35 (Row.mat .i64 8 P), Blk.row 3 (Row.ints .i64 S)]) := by kernel_rfl
theorem exlrAc (c j x0 x1 x2 x3 x4 : Int) (D P : List (List Int)) (U : List Int) (K : Ex → List AV → List Blk → Prop) : evBody (ElrM lrA 4) (lb Try.f14 1) [1, 5, 9, 10, 12] [10] [.one (.int .i64 c), .one (.ptr 0 1 0 0), .one (.ptr 1 1 0 0), .one .nil, .one (.int .i64 j)] [.cells [.int .i64 x0, .int .i64 x1, .int .i64 x2, .int .i64 x3, .int .i64 x4], .cells [.own 2 8, .own 3 8, .nil, .own 4 1], .row 35 (.mat .i64 8 D), .row 35 (.mat .i64 8 P), .row 3 (.ints .i64 U)] K = ( bif decide (j < c) then bif !decide (j < (0 : Int)) then bif IntKind.i64.wrap (↑(BitVec.ofInt 64 (x1.fdiv ((2 : Int) ^ min j.toNat 64)) &&& BitVec.ofInt 64 (1 : Int)).toNat : Int) == (1 : Int) then bif decide ((U ++ [j]).length * 8 ≤ 140737488355328 ∧ (U ++ [j]).length ≤ 140737488355328) then bif decide ((0 : Int) ≤ j) && decide (j < (↑P.length : Int)) then bif decide (j.toNat < P.length) then K .normal [.one (.int .i64 c), .one (.ptr 0 1 0 0), .one (.ptr 1 1 0 0), .one .nil, .one (.int .i64 (IntKind.i64.wrap (j + (1 : Int))))] [Blk.cells [SV.int .i64 x0, SV.int .i64 x1, SV.int .i64 x2, SV.int .i64 x3, SV.int .i64 x4], Blk.cells [SV.own 2 8, SV.own 3 8, SV.nil, SV.own 4 1], Blk.row 35 (Row.mat .i64 8 D), Blk.row 35 (Row.mat .i64 8 (P.set j.toNat [(0 : Int), (0 : Int), (0 : Int), (0 : Int), (0 : Int), (0 : Int), (0 : Int), (0 : Int)])), Blk.row 3 (Row.ints .i64 (U ++ [j]))] else False else False else False else K .normal [.one (.int .i64 c), .one (.ptr 0 1 0 0), .one (.ptr 1 1 0 0), .one (.own 5 1), .one (.int .i64 (IntKind.i64.wrap (j + (1 : Int))))] [Blk.cells [SV.int .i64 x0, SV.int .i64 x1, SV.int .i64 x2, SV.int .i64 x3, SV.int .i64 x4], Blk.cells [SV.own 2 8, SV.own 3 8, SV.nil, SV.own 4 1], Blk.row 35 (Row.mat .i64 8 D), Blk.row 35 (Row.mat .i64 8 P), Blk.row 3 (Row.ints .i64 U), Blk.row 3 (Row.ints .i64 [j])] else False else K (.exit 2) [.one .nil] [Blk.cells [SV.int .i64 x0, SV.int .i64 x1, SV.int .i64 x2, SV.int .i64 x3, SV.int .i64 x4], Blk.cells [SV.own 2 8, SV.own 3 8, SV.nil, SV.own 4 1], Blk.row 35 (Row.mat .i64 8 D), Blk.row 35 (Row.mat .i64 8 P), Blk.row 3 (Row.ints .i64 U)]) := by kernel_rfl
theorem exlrAd (c j x0 x1 x2 x3 x4 : Int) (D P : List (List Int)) (U S : List Int) (K : Ex → List AV → List Blk → Prop) : evBody (ElrM lrA 4) (lb Try.f14 1) [1, 5, 9, 10, 12] [10] [.one (.int .i64 c), .one (.ptr 0 1 0 0), .one (.ptr 1 1 0 0), .one (.own 5 1), .one (.int .i64 j)] [.cells [.int .i64 x0, .int .i64 x1, .int .i64 x2, .int .i64 x3, .int .i64 x4], .cells [.own 2 8, .own 3 8, .nil, .own 4 1], .row 35 (.mat .i64 8 D), .row 35 (.mat .i64 8 P), .row 3 (.ints .i64 U), .row 3 (.ints .i64 S)] K = ( bif decide (j < c) then bif !decide (j < (0 : Int)) then bif IntKind.i64.wrap (↑(BitVec.ofInt 64 (x1.fdiv ((2 : Int) ^ min j.toNat 64)) &&& BitVec.ofInt 64 (1 : Int)).toNat : Int) == (1 : Int) then bif decide ((U ++ [j]).length * 8 ≤ 140737488355328 ∧ (U ++ [j]).length ≤ 140737488355328) then bif decide ((0 : Int) ≤ j) && decide (j < (↑P.length : Int)) then bif decide (j.toNat < P.length) then K .normal [.one (.int .i64 c), .one (.ptr 0 1 0 0), .one (.ptr 1 1 0 0), .one (.own 5 1), .one (.int .i64 (IntKind.i64.wrap (j + (1 : Int))))] [Blk.cells [SV.int .i64 x0, SV.int .i64 x1, SV.int .i64 x2, SV.int .i64 x3, SV.int .i64 x4], Blk.cells [SV.own 2 8, SV.own 3 8, SV.nil, SV.own 4 1], Blk.row 35 (Row.mat .i64 8 D), Blk.row 35 (Row.mat .i64 8 (P.set j.toNat [(0 : Int), (0 : Int), (0 : Int), (0 : Int), (0 : Int), (0 : Int), (0 : Int), (0 : Int)])), Blk.row 3 (Row.ints .i64 (U ++ [j])), Blk.row 3 (Row.ints .i64 S)] else False else False else False else bif decide ((S ++ [j]).length * 8 ≤ 140737488355328 ∧ (S ++ [j]).length ≤ 140737488355328) then K .normal [.one (.int .i64 c), .one (.ptr 0 1 0 0), .one (.ptr 1 1 0 0), .one (.own 5 1), .one (.int .i64 (IntKind.i64.wrap (j + (1 : Int))))] [Blk.cells [SV.int .i64 x0, SV.int .i64 x1, SV.int .i64 x2, SV.int .i64 x3, SV.int .i64 x4], Blk.cells [SV.own 2 8, SV.own 3 8, SV.nil, SV.own 4 1], Blk.row 35 (Row.mat .i64 8 D), Blk.row 35 (Row.mat .i64 8 P), Blk.row 3 (Row.ints .i64 U), Blk.row 3 (Row.ints .i64 (S ++ [j]))] else False else False else K (.exit 2) [.one (.own 5 1)] [Blk.cells [SV.int .i64 x0, SV.int .i64 x1, SV.int .i64 x2, SV.int .i64 x3, SV.int .i64 x4], Blk.cells [SV.own 2 8, SV.own 3 8, SV.nil, SV.own 4 1], Blk.row 35 (Row.mat .i64 8 D), Blk.row 35 (Row.mat .i64 8 P), Blk.row 3 (Row.ints .i64 U), Blk.row 3 (Row.ints .i64 S)]) := by kernel_rfl
theorem exlrBa (c j x0 x1 x2 x3 x4 : Int) (D P : List (List Int)) (L : List Int) (K : Ex → List AV → List Blk → Prop) : evBody (ElrM lrB 5) (lb Try.f14 1) [1, 5, 9, 10, 12] [10] [.one (.int .i64 c), .one (.ptr 0 1 0 0), .one (.ptr 1 1 0 0), .one .nil, .one (.int .i64 j)] [.cells [.int .i64 x0, .int .i64 x1, .int .i64 x2, .int .i64 x3, .int .i64 x4], .cells [.own 2 8, .own 3 8, .own 4 1, .nil], .row 35 (.mat .i64 8 D), .row 35 (.mat .i64 8 P), .row 3 (.ints .i64 L)] K = ( bif decide (j < c) then bif !decide (j < (0 : Int)) then bif IntKind.i64.wrap (↑(BitVec.ofInt 64 (x1.fdiv ((2 : Int) ^ min j.toNat 64)) &&& BitVec.ofInt 64 (1 : Int)).toNat : Int) == (1 : Int) then bif decide ((0 : Int) ≤ j) && decide (j < (↑P.length : Int)) then bif decide (j.toNat < P.length) then K .normal [.one (.int .i64 c), .one (.ptr 0 1 0 0), .one (.ptr 1 1 0 0), .one .nil, .one (.int .i64 (IntKind.i64.wrap (j + (1 : Int))))] [Blk.cells [SV.int .i64 x0, SV.int .i64 x1, SV.int .i64 x2, SV.int .i64 x3, SV.int .i64 x4], Blk.cells [SV.own 2 8, SV.own 3 8, SV.own 4 1, SV.own 5 1], Blk.row 35 (Row.mat .i64 8 D), Blk.row 35 (Row.mat .i64 8 (P.set j.toNat [(0 : Int), (0 : Int), (0 : Int), (0 : Int), (0 : Int), (0 : Int), (0 : Int), (0 : Int)])), Blk.row 3 (Row.ints .i64 L), Blk.row 3 (Row.ints .i64 [j])] else False else False else K .normal [.one (.int .i64 c), .one (.ptr 0 1 0 0), .one (.ptr 1 1 0 0), .one (.own 5 1), .one (.int .i64 (IntKind.i64.wrap (j + (1 : Int))))] [Blk.cells [SV.int .i64 x0, SV.int .i64 x1, SV.int .i64 x2, SV.int .i64 x3, SV.int .i64 x4], Blk.cells [SV.own 2 8, SV.own 3 8, SV.own 4 1, SV.nil], Blk.row 35 (Row.mat .i64 8 D), Blk.row 35 (Row.mat .i64 8 P), Blk.row 3 (Row.ints .i64 L), Blk.row 3 (Row.ints .i64 [j])] else False else K (.exit 2) [.one .nil] [Blk.cells [SV.int .i64 x0, SV.int .i64 x1, SV.int .i64 x2, SV.int .i64 x3, SV.int .i64 x4], Blk.cells [SV.own 2 8, SV.own 3 8, SV.own 4 1, SV.nil], Blk.row 35 (Row.mat .i64 8 D), Blk.row 35 (Row.mat .i64 8 P), Blk.row 3 (Row.ints .i64 L)]) := by kernel_rfl
theorem exlrBb (c j x0 x1 x2 x3 x4 : Int) (D P : List (List Int)) (L S : List Int) (K : Ex → List AV → List Blk → Prop) : evBody (ElrM lrB 5) (lb Try.f14 1) [1, 5, 9, 10, 12] [10] [.one (.int .i64 c), .one (.ptr 0 1 0 0), .one (.ptr 1 1 0 0), .one (.own 5 1), .one (.int .i64 j)] [.cells [.int .i64 x0, .int .i64 x1, .int .i64 x2, .int .i64 x3, .int .i64 x4], .cells [.own 2 8, .own 3 8, .own 4 1, .nil], .row 35 (.mat .i64 8 D), .row 35 (.mat .i64 8 P), .row 3 (.ints .i64 L), .row 3 (.ints .i64 S)] K = ( bif decide (j < c) then bif !decide (j < (0 : Int)) then bif IntKind.i64.wrap (↑(BitVec.ofInt 64 (x1.fdiv ((2 : Int) ^ min j.toNat 64)) &&& BitVec.ofInt 64 (1 : Int)).toNat : Int) == (1 : Int) then bif decide ((0 : Int) ≤ j) && decide (j < (↑P.length : Int)) then bif decide (j.toNat < P.length) then K .normal [.one (.int .i64 c), .one (.ptr 0 1 0 0), .one (.ptr 1 1 0 0), .one (.own 6 1), .one (.int .i64 (IntKind.i64.wrap (j + (1 : Int))))] [Blk.cells [SV.int .i64 x0, SV.int .i64 x1, SV.int .i64 x2, SV.int .i64 x3, SV.int .i64 x4], Blk.cells [SV.own 2 8, SV.own 3 8, SV.own 4 1, SV.own 5 1], Blk.row 35 (Row.mat .i64 8 D), Blk.row 35 (Row.mat .i64 8 (P.set j.toNat [(0 : Int), (0 : Int), (0 : Int), (0 : Int), (0 : Int), (0 : Int), (0 : Int), (0 : Int)])), Blk.row 3 (Row.ints .i64 L), Blk.row 3 (Row.ints .i64 [j]), Blk.row 3 (Row.ints .i64 S)] else False else False else bif decide ((S ++ [j]).length * 8 ≤ 140737488355328 ∧ (S ++ [j]).length ≤ 140737488355328) then K .normal [.one (.int .i64 c), .one (.ptr 0 1 0 0), .one (.ptr 1 1 0 0), .one (.own 5 1), .one (.int .i64 (IntKind.i64.wrap (j + (1 : Int))))] [Blk.cells [SV.int .i64 x0, SV.int .i64 x1, SV.int .i64 x2, SV.int .i64 x3, SV.int .i64 x4], Blk.cells [SV.own 2 8, SV.own 3 8, SV.own 4 1, SV.nil], Blk.row 35 (Row.mat .i64 8 D), Blk.row 35 (Row.mat .i64 8 P), Blk.row 3 (Row.ints .i64 L), Blk.row 3 (Row.ints .i64 (S ++ [j]))] else False else False else K (.exit 2) [.one (.own 5 1)] [Blk.cells [SV.int .i64 x0, SV.int .i64 x1, SV.int .i64 x2, SV.int .i64 x3, SV.int .i64 x4], Blk.cells [SV.own 2 8, SV.own 3 8, SV.own 4 1, SV.nil], Blk.row 35 (Row.mat .i64 8 D), Blk.row 35 (Row.mat .i64 8 P), Blk.row 3 (Row.ints .i64 L), Blk.row 3 (Row.ints .i64 S)]) := by kernel_rfl
theorem exlrBc (c j x0 x1 x2 x3 x4 : Int) (D P : List (List Int)) (L U : List Int) (K : Ex → List AV → List Blk → Prop) : evBody (ElrM lrB 5) (lb Try.f14 1) [1, 5, 9, 10, 12] [10] [.one (.int .i64 c), .one (.ptr 0 1 0 0), .one (.ptr 1 1 0 0), .one .nil, .one (.int .i64 j)] [.cells [.int .i64 x0, .int .i64 x1, .int .i64 x2, .int .i64 x3, .int .i64 x4], .cells [.own 2 8, .own 3 8, .own 4 1, .own 5 1], .row 35 (.mat .i64 8 D), .row 35 (.mat .i64 8 P), .row 3 (.ints .i64 L), .row 3 (.ints .i64 U)] K = ( bif decide (j < c) then bif !decide (j < (0 : Int)) then bif IntKind.i64.wrap (↑(BitVec.ofInt 64 (x1.fdiv ((2 : Int) ^ min j.toNat 64)) &&& BitVec.ofInt 64 (1 : Int)).toNat : Int) == (1 : Int) then bif decide ((U ++ [j]).length * 8 ≤ 140737488355328 ∧ (U ++ [j]).length ≤ 140737488355328) then bif decide ((0 : Int) ≤ j) && decide (j < (↑P.length : Int)) then bif decide (j.toNat < P.length) then K .normal [.one (.int .i64 c), .one (.ptr 0 1 0 0), .one (.ptr 1 1 0 0), .one .nil, .one (.int .i64 (IntKind.i64.wrap (j + (1 : Int))))] [Blk.cells [SV.int .i64 x0, SV.int .i64 x1, SV.int .i64 x2, SV.int .i64 x3, SV.int .i64 x4], Blk.cells [SV.own 2 8, SV.own 3 8, SV.own 4 1, SV.own 5 1], Blk.row 35 (Row.mat .i64 8 D), Blk.row 35 (Row.mat .i64 8 (P.set j.toNat [(0 : Int), (0 : Int), (0 : Int), (0 : Int), (0 : Int), (0 : Int), (0 : Int), (0 : Int)])), Blk.row 3 (Row.ints .i64 L), Blk.row 3 (Row.ints .i64 (U ++ [j]))] else False else False else False else K .normal [.one (.int .i64 c), .one (.ptr 0 1 0 0), .one (.ptr 1 1 0 0), .one (.own 6 1), .one (.int .i64 (IntKind.i64.wrap (j + (1 : Int))))] [Blk.cells [SV.int .i64 x0, SV.int .i64 x1, SV.int .i64 x2, SV.int .i64 x3, SV.int .i64 x4], Blk.cells [SV.own 2 8, SV.own 3 8, SV.own 4 1, SV.own 5 1], Blk.row 35 (Row.mat .i64 8 D), Blk.row 35 (Row.mat .i64 8 P), Blk.row 3 (Row.ints .i64 L), Blk.row 3 (Row.ints .i64 U), Blk.row 3 (Row.ints .i64 [j])] else False else K (.exit 2) [.one .nil] [Blk.cells [SV.int .i64 x0, SV.int .i64 x1, SV.int .i64 x2, SV.int .i64 x3, SV.int .i64 x4], Blk.cells [SV.own 2 8, SV.own 3 8, SV.own 4 1, SV.own 5 1], Blk.row 35 (Row.mat .i64 8 D), Blk.row 35 (Row.mat .i64 8 P), Blk.row 3 (Row.ints .i64 L), Blk.row 3 (Row.ints .i64 U)]) := by kernel_rfl
theorem exlrBd (c j x0 x1 x2 x3 x4 : Int) (D P : List (List Int)) (L U S : List Int) (K : Ex → List AV → List Blk → Prop) : evBody (ElrM lrB 5) (lb Try.f14 1) [1, 5, 9, 10, 12] [10] [.one (.int .i64 c), .one (.ptr 0 1 0 0), .one (.ptr 1 1 0 0), .one (.own 6 1), .one (.int .i64 j)] [.cells [.int .i64 x0, .int .i64 x1, .int .i64 x2, .int .i64 x3, .int .i64 x4], .cells [.own 2 8, .own 3 8, .own 4 1, .own 5 1], .row 35 (.mat .i64 8 D), .row 35 (.mat .i64 8 P), .row 3 (.ints .i64 L), .row 3 (.ints .i64 U), .row 3 (.ints .i64 S)] K = ( bif decide (j < c) then bif !decide (j < (0 : Int)) then bif IntKind.i64.wrap (↑(BitVec.ofInt 64 (x1.fdiv ((2 : Int) ^ min j.toNat 64)) &&& BitVec.ofInt 64 (1 : Int)).toNat : Int) == (1 : Int) then bif decide ((U ++ [j]).length * 8 ≤ 140737488355328 ∧ (U ++ [j]).length ≤ 140737488355328) then bif decide ((0 : Int) ≤ j) && decide (j < (↑P.length : Int)) then bif decide (j.toNat < P.length) then K .normal [.one (.int .i64 c), .one (.ptr 0 1 0 0), .one (.ptr 1 1 0 0), .one (.own 6 1), .one (.int .i64 (IntKind.i64.wrap (j + (1 : Int))))] [Blk.cells [SV.int .i64 x0, SV.int .i64 x1, SV.int .i64 x2, SV.int .i64 x3, SV.int .i64 x4], Blk.cells [SV.own 2 8, SV.own 3 8, SV.own 4 1, SV.own 5 1], Blk.row 35 (Row.mat .i64 8 D), Blk.row 35 (Row.mat .i64 8 (P.set j.toNat [(0 : Int), (0 : Int), (0 : Int), (0 : Int), (0 : Int), (0 : Int), (0 : Int), (0 : Int)])), Blk.row 3 (Row.ints .i64 L), Blk.row 3 (Row.ints .i64 (U ++ [j])), Blk.row 3 (Row.ints .i64 S)] else False else False else False else bif decide ((S ++ [j]).length * 8 ≤ 140737488355328 ∧ (S ++ [j]).length ≤ 140737488355328) then K .normal [.one (.int .i64 c), .one (.ptr 0 1 0 0), .one (.ptr 1 1 0 0), .one (.own 6 1), .one (.int .i64 (IntKind.i64.wrap (j + (1 : Int))))] [Blk.cells [SV.int .i64 x0, SV.int .i64 x1, SV.int .i64 x2, SV.int .i64 x3, SV.int .i64 x4], Blk.cells [SV.own 2 8, SV.own 3 8, SV.own 4 1, SV.own 5 1], Blk.row 35 (Row.mat .i64 8 D), Blk.row 35 (Row.mat .i64 8 P), Blk.row 3 (Row.ints .i64 L), Blk.row 3 (Row.ints .i64 U), Blk.row 3 (Row.ints .i64 (S ++ [j]))] else False else False else K (.exit 2) [.one (.own 6 1)] [Blk.cells [SV.int .i64 x0, SV.int .i64 x1, SV.int .i64 x2, SV.int .i64 x3, SV.int .i64 x4], Blk.cells [SV.own 2 8, SV.own 3 8, SV.own 4 1, SV.own 5 1], Blk.row 35 (Row.mat .i64 8 D), Blk.row 35 (Row.mat .i64 8 P), Blk.row 3 (Row.ints .i64 L), Blk.row 3 (Row.ints .i64 U), Blk.row 3 (Row.ints .i64 S)]) := by kernel_rfl
theorem exlrS1 (l1 : LoopBy) (X : List (List Int)) (c : Int) (x0 x1 x2 x3 x4 : Int) (K : AV → List Blk → Prop) (B : St → Prop) : evStage (ElrM l1 0) Try.f14 0 8 (st0 Try.f14 [.one (.data (.mat .i64 8 X)), .one (.int .i64 c), .agg [.int .i64 x0, .int .i64 x1, .int .i64 x2, .int .i64 x3, .int .i64 x4]] []) K B = ( X.all len8 = true ∧ bif dataE X c != (0 : Int) then K (.one (.bool true)) [] else X.length ≤ 1000000 ∧ (X.length ≤ 1000000000 ∧ X.all len8 = true) ∧ bif dataE X c != (0 : Int) then K (.one (.bool false)) [] else bif (↑(parV X c).length : Int) != c then K (.one (.bool false)) [] else B { t := [.one (.data (Row.mat .i64 8 X)), .one (.int .i64 c), AV.agg [SV.int .i64 x0, SV.int .i64 x1, SV.int .i64 x2, SV.int .i64 x3, SV.int .i64 x4], AV.any, AV.any, .one (.ptr ([] : List Int).length 1 0 0), .one (.bool false), .one (.data (Row.mat .i64 8 (parV X c))), .one (.int .i64 (dataE X c)), AV.any, AV.any, AV.any, AV.any, AV.any, AV.any, AV.any, AV.any, AV.any, AV.any, .one (.bool true), .one (.bool false), .one (.data (Row.mat .i64 8 X)), .one (.int .i64 c), .one (.int .i64 (dataE X c)), .one (.bool false), AV.tup [.one (.data (Row.mat .i64 8 (parV X c))), .one (.int .i64 (dataE X c))], .one (.data (Row.mat .i64 8 X)), .one (.own ([Blk.cells [SV.int .i64 x0, SV.int .i64 x1, SV.int .i64 x2, SV.int .i64 x3, SV.int .i64 x4]].length + (0 - ([] : List Int).length)) 8), .one (.int .i64 c), AV.tup [.one (.data (Row.mat .i64 8 (parV X c))), .one (.int .i64 (dataE X c))], .one (.data (Row.mat .i64 8 (parV X c))), .one (.int .i64 (dataE X c)), .one (.int .i64 (dataE X c)), .one (.bool (dataE X c != (0 : Int))), .one (.bool false), .one (.data (Row.mat .i64 8 (parV X c))), .one (.int .i64 (↑(parV X c).length : Int)), .one (.int .i64 c), .one (.bool ((↑(parV X c).length : Int) != c)), .one (.bool false), AV.any, AV.any, AV.any, AV.any, AV.any, AV.any, AV.any, AV.any, AV.any, AV.any, AV.any, AV.any, AV.any, AV.any, AV.any, AV.any, AV.any, AV.any, AV.any, AV.any, AV.any, AV.any, AV.any, AV.any, AV.any, AV.any, AV.any, AV.any, AV.any, AV.any, AV.any, AV.any, AV.any, AV.any, AV.any, AV.any, AV.any, AV.any, AV.any, AV.any, AV.any, AV.any, AV.any, AV.any, AV.any, AV.any, AV.any, AV.any, AV.any, AV.any, AV.any, AV.any, AV.any, AV.any, AV.any, AV.any, AV.any, AV.any, AV.any, AV.any, AV.any, AV.any, AV.any, AV.any, AV.any, AV.any, AV.any, AV.any, AV.any, AV.any, AV.any, AV.any, AV.any, AV.any, AV.any, AV.any, AV.any, AV.any, AV.any, AV.any, AV.any, AV.any, AV.any, AV.any, AV.any, AV.any, AV.any, AV.any, AV.any, AV.any, AV.any, AV.any, AV.any, AV.any, AV.any, AV.any, AV.any, AV.any, AV.any, AV.any, AV.any, AV.any, AV.any, AV.any, AV.any, AV.any, AV.any, AV.any, AV.any, AV.any, AV.any, AV.any, AV.any, AV.any, AV.any, AV.any, AV.any, AV.any, AV.any, AV.any, AV.any, AV.any, AV.any, AV.any, AV.any, AV.any, AV.any, AV.any, AV.any, AV.any, AV.any, AV.any, AV.any, AV.any, AV.any, AV.any, AV.any, AV.any, AV.any, AV.any, AV.any, AV.any, AV.any, AV.any, AV.any, AV.any, AV.any], σ := [Blk.cells [SV.int .i64 x0, SV.int .i64 x1, SV.int .i64 x2, SV.int .i64 x3, SV.int .i64 x4], Blk.dead] }) := by kernel_rfl
theorem exlrS1b (l1 : LoopBy) (X P : List (List Int)) (c : Int) (x0 x1 x2 x3 x4 : Int) (a2 a6 a8 a19 a20 a21 a22 a23 a24 a25 a26 a27 a28 a29 a30 a31 a32 a33 a34 a35 a36 a37 a38 a39 : AV) (K : AV → List Blk → Prop) (B : St → Prop) : evStage (ElrM l1 0) Try.f14 8 4 { t := ([AV.one (SV.data (Row.mat IntKind.i64 8 X)), AV.one (SV.int IntKind.i64 c), a2, AV.any, AV.any, AV.one (SV.ptr 0 1 0 0), a6, AV.one (SV.data (Row.mat IntKind.i64 8 P)), a8, AV.any, AV.any, AV.any, AV.any, AV.any, AV.any, AV.any, AV.any, AV.any, AV.any, a19, a20, a21, a22, a23, a24, a25, a26, a27, a28, a29, a30, a31, a32, a33, a34, a35, a36, a37, a38, a39] ++ List.replicate 147 .any), σ := [.cells [.int .i64 x0, .int .i64 x1, .int .i64 x2, .int .i64 x3, .int .i64 x4], .dead] } K B = ( X.length ≤ 1000000 ∧ P.length ≤ 1000000 ∧ (X.length ≤ 12 ∧ X.length = X.length ∧ X.all len8 = true ∧ (0 : Int) ≤ (0 : Int) ∧ (0 : Int) ≤ (↑X.length : Int)) ∧ bif (lostJ x0 (0 : Int) ((↑X.length : Int) - (0 : Int)).toNat).isEmpty then B { t := [.one (.data (Row.mat .i64 8 X)), .one (.int .i64 c), a2, AV.any, AV.any, .one (.ptr 0 1 0 0), a6, .one (.data (Row.mat .i64 8 P)), a8, .one (.ptr [Blk.cells [SV.int .i64 x0, SV.int .i64 x1, SV.int .i64 x2, SV.int .i64 x3, SV.int .i64 x4], Blk.dead, Blk.row 35 (Row.mat .i64 8 X), Blk.row 35 (Row.mat .i64 8 P)].length 1 0 0), .one .nil, AV.any, AV.any, AV.any, AV.any, AV.any, AV.any, AV.any, AV.any, a19, a20, a21, a22, a23, a24, a25, a26, a27, a28, a29, a30, a31, a32, a33, a34, a35, a36, a37, a38, a39, .one (.data (Row.mat .i64 8 X)), .one (.own ([Blk.cells [SV.int .i64 x0, SV.int .i64 x1, SV.int .i64 x2, SV.int .i64 x3, SV.int .i64 x4], Blk.dead].length + (0 - ([] : List Int).length)) 8), .one (.data (Row.mat .i64 8 P)), .one (.own ([Blk.cells [SV.int .i64 x0, SV.int .i64 x1, SV.int .i64 x2, SV.int .i64 x3, SV.int .i64 x4], Blk.dead, Blk.row 35 (Row.mat .i64 8 X)].length + (0 - ([] : List Int).length)) 8), AV.agg [SV.own ([Blk.cells [SV.int .i64 x0, SV.int .i64 x1, SV.int .i64 x2, SV.int .i64 x3, SV.int .i64 x4], Blk.dead].length + (0 - ([] : List Int).length)) 8, SV.own ([Blk.cells [SV.int .i64 x0, SV.int .i64 x1, SV.int .i64 x2, SV.int .i64 x3, SV.int .i64 x4], Blk.dead, Blk.row 35 (Row.mat .i64 8 X)].length + (0 - ([] : List Int).length)) 8, SV.nil, SV.nil], AV.any, AV.any, AV.any, AV.any, AV.any, AV.any, AV.any, AV.any, AV.any, AV.any, AV.any, AV.any, AV.any, AV.any, AV.any, AV.any, AV.any, AV.any, AV.any, AV.any, AV.any, AV.any, AV.any, AV.any, AV.any, AV.any, AV.any, AV.any, AV.any, AV.any, AV.any, AV.any, AV.any, AV.any, AV.any, AV.any, AV.any, AV.any, AV.any, AV.any, AV.any, AV.any, AV.any, AV.any, AV.any, AV.any, AV.any, AV.any, AV.any, AV.any, AV.any, AV.any, AV.any, AV.any, AV.any, AV.any, AV.any, AV.any, AV.any, AV.any, AV.any, AV.any, AV.any, AV.any, AV.any, AV.any, AV.any, AV.any, AV.any, AV.any, AV.any, AV.any, AV.any, AV.any, AV.any, AV.any, AV.any, AV.any, AV.any, AV.any, AV.any, AV.any, AV.any, AV.any, AV.any, AV.any, AV.any, AV.any, AV.any, AV.any, AV.any, AV.any, AV.any, AV.any, AV.any, AV.any, AV.any, AV.any, AV.any, AV.any, AV.any, AV.any, AV.any, AV.any, AV.any, AV.any, AV.any, AV.any, AV.any, AV.any, AV.any, AV.any, AV.any, AV.any, AV.any, AV.any, AV.any, AV.any, AV.any, AV.any, AV.any, AV.any, AV.any, AV.any, AV.any, AV.any, AV.any, AV.any, AV.any, AV.any, AV.any, AV.any, AV.any, AV.any, AV.any, AV.any, AV.any, AV.any, AV.any, AV.any, AV.any, AV.any], σ := [Blk.cells [SV.int .i64 x0, SV.int .i64 x1, SV.int .i64 x2, SV.int .i64 x3, SV.int .i64 x4], Blk.dead, Blk.row 35 (Row.mat .i64 8 X), Blk.row 35 (Row.mat .i64 8 P), Blk.cells [SV.own ([Blk.cells [SV.int .i64 x0, SV.int .i64 x1, SV.int .i64 x2, SV.int .i64 x3, SV.int .i64 x4], Blk.dead].length + (0 - ([] : List Int).length)) 8, SV.own ([Blk.cells [SV.int .i64 x0, SV.int .i64 x1, SV.int .i64 x2, SV.int .i64 x3, SV.int .i64 x4], Blk.dead, Blk.row 35 (Row.mat .i64 8 X)].length + (0 - ([] : List Int).length)) 8, SV.nil, SV.nil]] } else B { t := [.one (.data (Row.mat .i64 8 X)), .one (.int .i64 c), a2, AV.any, AV.any, .one (.ptr 0 1 0 0), a6, .one (.data (Row.mat .i64 8 P)), a8, .one (.ptr [Blk.cells [SV.int .i64 x0, SV.int .i64 x1, SV.int .i64 x2, SV.int .i64 x3, SV.int .i64 x4], Blk.dead, Blk.row 35 (Row.mat .i64 8 X), Blk.row 35 (Row.mat .i64 8 P)].length 1 0 0), .one .nil, AV.any, AV.any, AV.any, AV.any, AV.any, AV.any, AV.any, AV.any, a19, a20, a21, a22, a23, a24, a25, a26, a27, a28, a29, a30, a31, a32, a33, a34, a35, a36, a37, a38, a39, .one (.data (Row.mat .i64 8 X)), .one (.own ([Blk.cells [SV.int .i64 x0, SV.int .i64 x1, SV.int .i64 x2, SV.int .i64 x3, SV.int .i64 x4], Blk.dead].length + (0 - ([] : List Int).length)) 8), .one (.data (Row.mat .i64 8 P)), .one (.own ([Blk.cells [SV.int .i64 x0, SV.int .i64 x1, SV.int .i64 x2, SV.int .i64 x3, SV.int .i64 x4], Blk.dead, Blk.row 35 (Row.mat .i64 8 X)].length + (0 - ([] : List Int).length)) 8), AV.agg [SV.own ([Blk.cells [SV.int .i64 x0, SV.int .i64 x1, SV.int .i64 x2, SV.int .i64 x3, SV.int .i64 x4], Blk.dead].length + (0 - ([] : List Int).length)) 8, SV.own ([Blk.cells [SV.int .i64 x0, SV.int .i64 x1, SV.int .i64 x2, SV.int .i64 x3, SV.int .i64 x4], Blk.dead, Blk.row 35 (Row.mat .i64 8 X)].length + (0 - ([] : List Int).length)) 8, SV.nil, SV.nil], AV.any, AV.any, AV.any, AV.any, AV.any, AV.any, AV.any, AV.any, AV.any, AV.any, AV.any, AV.any, AV.any, AV.any, AV.any, AV.any, AV.any, AV.any, AV.any, AV.any, AV.any, AV.any, AV.any, AV.any, AV.any, AV.any, AV.any, AV.any, AV.any, AV.any, AV.any, AV.any, AV.any, AV.any, AV.any, AV.any, AV.any, AV.any, AV.any, AV.any, AV.any, AV.any, AV.any, AV.any, AV.any, AV.any, AV.any, AV.any, AV.any, AV.any, AV.any, AV.any, AV.any, AV.any, AV.any, AV.any, AV.any, AV.any, AV.any, AV.any, AV.any, AV.any, AV.any, AV.any, AV.any, AV.any, AV.any, AV.any, AV.any, AV.any, AV.any, AV.any, AV.any, AV.any, AV.any, AV.any, AV.any, AV.any, AV.any, AV.any, AV.any, AV.any, AV.any, AV.any, AV.any, AV.any, AV.any, AV.any, AV.any, AV.any, AV.any, AV.any, AV.any, AV.any, AV.any, AV.any, AV.any, AV.any, AV.any, AV.any, AV.any, AV.any, AV.any, AV.any, AV.any, AV.any, AV.any, AV.any, AV.any, AV.any, AV.any, AV.any, AV.any, AV.any, AV.any, AV.any, AV.any, AV.any, AV.any, AV.any, AV.any, AV.any, AV.any, AV.any, AV.any, AV.any, AV.any, AV.any, AV.any, AV.any, AV.any, AV.any, AV.any, AV.any, AV.any, AV.any, AV.any, AV.any, AV.any, AV.any, AV.any, AV.any], σ := [Blk.cells [SV.int .i64 x0, SV.int .i64 x1, SV.int .i64 x2, SV.int .i64 x3, SV.int .i64 x4], Blk.dead, Blk.row 35 (Row.mat .i64 8 (markJ x0 [x4, x3, (0 : Int), (0 : Int), (0 : Int), (0 : Int), (0 : Int), (0 : Int)] (0 : Int) ((↑X.length : Int) - (0 : Int)).toNat X)), Blk.row 35 (Row.mat .i64 8 P), Blk.cells [SV.own ([Blk.cells [SV.int .i64 x0, SV.int .i64 x1, SV.int .i64 x2, SV.int .i64 x3, SV.int .i64 x4], Blk.dead].length + (0 - ([] : List Int).length)) 8, SV.own ([Blk.cells [SV.int .i64 x0, SV.int .i64 x1, SV.int .i64 x2, SV.int .i64 x3, SV.int .i64 x4], Blk.dead, Blk.row 35 (Row.mat .i64 8 X)].length + (0 - ([] : List Int).length)) 8, SV.own ([Blk.cells [SV.int .i64 x0, SV.int .i64 x1, SV.int .i64 x2, SV.int .i64 x3, SV.int .i64 x4], Blk.dead, Blk.row 35 (Row.mat .i64 8 X), Blk.row 35 (Row.mat .i64 8 P), Blk.cells [SV.own ([Blk.cells [SV.int .i64 x0, SV.int .i64 x1, SV.int .i64 x2, SV.int .i64 x3, SV.int .i64 x4], Blk.dead].length + (0 - ([] : List Int).length)) 8, SV.own ([Blk.cells [SV.int .i64 x0, SV.int .i64 x1, SV.int .i64 x2, SV.int .i64 x3, SV.int .i64 x4], Blk.dead, Blk.row 35 (Row.mat .i64 8 X)].length + (0 - ([] : List Int).length)) 8, SV.nil, SV.nil]].length + (4 - (reach [Blk.cells [SV.int .i64 x0, SV.int .i64 x1, SV.int .i64 x2, SV.int .i64 x3, SV.int .i64 x4], Blk.dead, Blk.row 35 (Row.mat .i64 8 X), Blk.row 35 (Row.mat .i64 8 P), Blk.cells [SV.own ([Blk.cells [SV.int .i64 x0, SV.int .i64 x1, SV.int .i64 x2, SV.int .i64 x3, SV.int .i64 x4], Blk.dead].length + (0 - ([] : List Int).length)) 8, SV.own ([Blk.cells [SV.int .i64 x0, SV.int .i64 x1, SV.int .i64 x2, SV.int .i64 x3, SV.int .i64 x4], Blk.dead, Blk.row 35 (Row.mat .i64 8 X)].length + (0 - ([] : List Int).length)) 8, SV.nil, SV.nil]] 60 ((List.map idsS [SV.nil, SV.nil]).flatten ++ []) [0, [Blk.cells [SV.int .i64 x0, SV.int .i64 x1, SV.int .i64 x2, SV.int .i64 x3, SV.int .i64 x4], Blk.dead, Blk.row 35 (Row.mat .i64 8 X), Blk.row 35 (Row.mat .i64 8 P)].length, [Blk.cells [SV.int .i64 x0, SV.int .i64 x1, SV.int .i64 x2, SV.int .i64 x3, SV.int .i64 x4], Blk.dead].length + (0 - ([] : List Int).length), [Blk.cells [SV.int .i64 x0, SV.int .i64 x1, SV.int .i64 x2, SV.int .i64 x3, SV.int .i64 x4], Blk.dead, Blk.row 35 (Row.mat .i64 8 X)].length + (0 - ([] : List Int).length)]).length)) 1, SV.nil], Blk.row 3 (Row.ints .i64 (lostJ x0 (0 : Int) ((↑X.length : Int) - (0 : Int)).toNat))] }) := by kernel_rfl
theorem exlrS2A (X D P : List (List Int)) (c : Int) (x0 x1 x2 x3 x4 : Int) (a2 a6 a7 a8 a11 a19 a20 a21 a22 a23 a24 a25 a26 a27 a28 a29 a30 a31 a32 a33 a34 a35 a36 a37 a38 a39 a40 a41 a42 a43 a44 a45 a46 a47 a48 a49 a50 a51 a52 a53 a54 a55 a56 a57 a58 a59 a60 a61 a62 a63 a64 a65 a66 a67 a68 a69 a70 a71 : AV) (K : AV → List Blk → Prop) (B : St → Prop) : evStage (ElrM lrA 0) Try.f14 12 2 { t := ([AV.one (SV.data (Row.mat IntKind.i64 8 X)), AV.one (SV.int IntKind.i64 c), a2, AV.any, AV.any, AV.one (SV.ptr 0 1 0 0), a6, a7, a8, AV.one (SV.ptr 4 1 0 0), AV.one SV.nil, a11, AV.any, AV.any, AV.any, AV.any, AV.any, AV.any, AV.any, a19, a20, a21, a22, a23, a24, a25, a26, a27, a28, a29, a30, a31, a32, a33, a34, a35, a36, a37, a38, a39, a40, a41, a42, a43, a44, a45, a46, a47, a48, a49, a50, a51, a52, a53, a54, a55, a56, a57, a58, a59, a60, a61, a62, a63, a64, a65, a66, a67, a68, a69, a70, a71] ++ List.replicate 115 .any), σ := [.cells [.int .i64 x0, .int .i64 x1, .int .i64 x2, .int .i64 x3, .int .i64 x4], .dead, .row 35 (.mat .i64 8 D), .row 35 (.mat .i64 8 P), .cells [.own 2 8, .own 3 8, .nil, .nil]] } K B = ( (c = (↑P.length : Int) ∧ P.length ≤ 4 ∧ P.all len8 = true ∧ (0 : Int) ≤ (0 : Int) ∧ (0 : Int) ≤ c) ∧ bif (lostJ x1 (0 : Int) (c - (0 : Int)).toNat).isEmpty then bif (thereJ x1 (0 : Int) (c - (0 : Int)).toNat).isEmpty then B { t := [.one (.data (Row.mat .i64 8 X)), .one (.int .i64 c), a2, AV.any, AV.any, .one (.ptr 0 1 0 0), a6, a7, a8, .one (.ptr 4 1 0 0), .one .nil, a11, AV.any, AV.any, AV.any, AV.any, AV.any, AV.any, AV.any, a19, a20, a21, a22, a23, a24, a25, a26, a27, a28, a29, a30, a31, a32, a33, a34, a35, a36, a37, a38, a39, a40, a41, a42, a43, a44, a45, a46, a47, a48, a49, a50, a51, a52, a53, a54, a55, a56, a57, a58, a59, a60, a61, a62, a63, a64, a65, a66, a67, a68, a69, a70, a71, AV.any, AV.any, AV.any, AV.any, AV.any, AV.any, AV.any, AV.any, AV.any, AV.any, AV.any, AV.any, AV.any, AV.any, AV.any, AV.any, AV.any, AV.any, AV.any, AV.any, AV.any, AV.any, AV.any, AV.any, AV.any, AV.any, AV.any, AV.any, AV.any, AV.any, AV.any, AV.any, AV.any, AV.any, AV.any, AV.any, AV.any, AV.any, AV.any, AV.any, AV.any, AV.any, AV.any, AV.any, AV.any, AV.any, AV.any, AV.any, AV.any, AV.any, AV.any, AV.any, AV.any, AV.any, AV.any, AV.any, AV.any, AV.any, AV.any, AV.any, AV.any, AV.any, AV.any, AV.any, AV.any, AV.any, AV.any, AV.any, AV.any, AV.any, AV.any, AV.any, AV.any, AV.any, AV.any, AV.any, AV.any, AV.any, AV.any, AV.any, AV.any, AV.any, AV.any, AV.any, AV.any, AV.any, AV.any, AV.any, AV.any, AV.any, AV.any, AV.any, AV.any, AV.any, AV.any, AV.any, AV.any, AV.any, AV.any, AV.any, AV.any, AV.any, AV.any, AV.any, AV.any, AV.any, AV.any, AV.any, AV.any, AV.any, AV.any, AV.any, AV.any, AV.any, AV.any], σ := [Blk.cells [SV.int .i64 x0, SV.int .i64 x1, SV.int .i64 x2, SV.int .i64 x3, SV.int .i64 x4], Blk.dead, Blk.row 35 (Row.mat .i64 8 D), Blk.row 35 (Row.mat .i64 8 (markJ x1 [(0 : Int), (0 : Int), (0 : Int), (0 : Int), (0 : Int), (0 : Int), (0 : Int), (0 : Int)] (0 : Int) (c - (0 : Int)).toNat P)), Blk.cells [SV.own 2 8, SV.own 3 8, SV.nil, SV.nil]] } else B { t := [.one (.data (Row.mat .i64 8 X)), .one (.int .i64 c), a2, AV.any, AV.any, .one (.ptr 0 1 0 0), a6, a7, a8, .one (.ptr 4 1 0 0), .one (.own ([Blk.cells [SV.int .i64 x0, SV.int .i64 x1, SV.int .i64 x2, SV.int .i64 x3, SV.int .i64 x4], Blk.dead, Blk.row 35 (Row.mat .i64 8 D), Blk.row 35 (Row.mat .i64 8 P), Blk.cells [SV.own 2 8, SV.own 3 8, SV.nil, SV.nil]].length + (4 - [0, 4, 2, 3].length)) 1), a11, AV.any, AV.any, AV.any, AV.any, AV.any, AV.any, AV.any, a19, a20, a21, a22, a23, a24, a25, a26, a27, a28, a29, a30, a31, a32, a33, a34, a35, a36, a37, a38, a39, a40, a41, a42, a43, a44, a45, a46, a47, a48, a49, a50, a51, a52, a53, a54, a55, a56, a57, a58, a59, a60, a61, a62, a63, a64, a65, a66, a67, a68, a69, a70, a71, AV.any, AV.any, AV.any, AV.any, AV.any, AV.any, AV.any, AV.any, AV.any, AV.any, AV.any, AV.any, AV.any, AV.any, AV.any, AV.any, AV.any, AV.any, AV.any, AV.any, AV.any, AV.any, AV.any, AV.any, AV.any, AV.any, AV.any, AV.any, AV.any, AV.any, AV.any, AV.any, AV.any, AV.any, AV.any, AV.any, AV.any, AV.any, AV.any, AV.any, AV.any, AV.any, AV.any, AV.any, AV.any, AV.any, AV.any, AV.any, AV.any, AV.any, AV.any, AV.any, AV.any, AV.any, AV.any, AV.any, AV.any, AV.any, AV.any, AV.any, AV.any, AV.any, AV.any, AV.any, AV.any, AV.any, AV.any, AV.any, AV.any, AV.any, AV.any, AV.any, AV.any, AV.any, AV.any, AV.any, AV.any, AV.any, AV.any, AV.any, AV.any, AV.any, AV.any, AV.any, AV.any, AV.any, AV.any, AV.any, AV.any, AV.any, AV.any, AV.any, AV.any, AV.any, AV.any, AV.any, AV.any, AV.any, AV.any, AV.any, AV.any, AV.any, AV.any, AV.any, AV.any, AV.any, AV.any, AV.any, AV.any, AV.any, AV.any, AV.any, AV.any, AV.any, AV.any], σ := [Blk.cells [SV.int .i64 x0, SV.int .i64 x1, SV.int .i64 x2, SV.int .i64 x3, SV.int .i64 x4], Blk.dead, Blk.row 35 (Row.mat .i64 8 D), Blk.row 35 (Row.mat .i64 8 (markJ x1 [(0 : Int), (0 : Int), (0 : Int), (0 : Int), (0 : Int), (0 : Int), (0 : Int), (0 : Int)] (0 : Int) (c - (0 : Int)).toNat P)), Blk.cells [SV.own 2 8, SV.own 3 8, SV.nil, SV.nil], Blk.row 3 (Row.ints .i64 (thereJ x1 (0 : Int) (c - (0 : Int)).toNat))] } else bif (thereJ x1 (0 : Int) (c - (0 : Int)).toNat).isEmpty then B { t := [.one (.data (Row.mat .i64 8 X)), .one (.int .i64 c), a2, AV.any, AV.any, .one (.ptr 0 1 0 0), a6, a7, a8, .one (.ptr 4 1 0 0), .one .nil, a11, AV.any, AV.any, AV.any, AV.any, AV.any, AV.any, AV.any, a19, a20, a21, a22, a23, a24, a25, a26, a27, a28, a29, a30, a31, a32, a33, a34, a35, a36, a37, a38, a39, a40, a41, a42, a43, a44, a45, a46, a47, a48, a49, a50, a51, a52, a53, a54, a55, a56, a57, a58, a59, a60, a61, a62, a63, a64, a65, a66, a67, a68, a69, a70, a71, AV.any, AV.any, AV.any, AV.any, AV.any, AV.any, AV.any, AV.any, AV.any, AV.any, AV.any, AV.any, AV.any, AV.any, AV.any, AV.any, AV.any, AV.any, AV.any, AV.any, AV.any, AV.any, AV.any, AV.any, AV.any, AV.any, AV.any, AV.any, AV.any, AV.any, AV.any, AV.any, AV.any, AV.any, AV.any, AV.any, AV.any, AV.any, AV.any, AV.any, AV.any, AV.any, AV.any, AV.any, AV.any, AV.any, AV.any, AV.any, AV.any, AV.any, AV.any, AV.any, AV.any, AV.any, AV.any, AV.any, AV.any, AV.any, AV.any, AV.any, AV.any, AV.any, AV.any, AV.any, AV.any, AV.any, AV.any, AV.any, AV.any, AV.any, AV.any, AV.any, AV.any, AV.any, AV.any, AV.any, AV.any, AV.any, AV.any, AV.any, AV.any, AV.any, AV.any, AV.any, AV.any, AV.any, AV.any, AV.any, AV.any, AV.any, AV.any, AV.any, AV.any, AV.any, AV.any, AV.any, AV.any, AV.any, AV.any, AV.any, AV.any, AV.any, AV.any, AV.any, AV.any, AV.any, AV.any, AV.any, AV.any, AV.any, AV.any, AV.any, AV.any, AV.any, AV.any], σ := [Blk.cells [SV.int .i64 x0, SV.int .i64 x1, SV.int .i64 x2, SV.int .i64 x3, SV.int .i64 x4], Blk.dead, Blk.row 35 (Row.mat .i64 8 D), Blk.row 35 (Row.mat .i64 8 (markJ x1 [(0 : Int), (0 : Int), (0 : Int), (0 : Int), (0 : Int), (0 : Int), (0 : Int), (0 : Int)] (0 : Int) (c - (0 : Int)).toNat P)), Blk.cells [SV.own 2 8, SV.own 3 8, SV.nil, SV.own ([Blk.cells [SV.int .i64 x0, SV.int .i64 x1, SV.int .i64 x2, SV.int .i64 x3, SV.int .i64 x4], Blk.dead, Blk.row 35 (Row.mat .i64 8 D), Blk.row 35 (Row.mat .i64 8 P), Blk.cells [SV.own 2 8, SV.own 3 8, SV.nil, SV.nil]].length + (4 - [0, 4, 2, 3].length)) 1], Blk.row 3 (Row.ints .i64 (lostJ x1 (0 : Int) (c - (0 : Int)).toNat))] } else B { t := [.one (.data (Row.mat .i64 8 X)), .one (.int .i64 c), a2, AV.any, AV.any, .one (.ptr 0 1 0 0), a6, a7, a8, .one (.ptr 4 1 0 0), .one (.own ([Blk.cells [SV.int .i64 x0, SV.int .i64 x1, SV.int .i64 x2, SV.int .i64 x3, SV.int .i64 x4], Blk.dead, Blk.row 35 (Row.mat .i64 8 D), Blk.row 35 (Row.mat .i64 8 P), Blk.cells [SV.own 2 8, SV.own 3 8, SV.nil, SV.nil]].length + (5 - [0, 4, 2, 3].length)) 1), a11, AV.any, AV.any, AV.any, AV.any, AV.any, AV.any, AV.any, a19, a20, a21, a22, a23, a24, a25, a26, a27, a28, a29, a30, a31, a32, a33, a34, a35, a36, a37, a38, a39, a40, a41, a42, a43, a44, a45, a46, a47, a48, a49, a50, a51, a52, a53, a54, a55, a56, a57, a58, a59, a60, a61, a62, a63, a64, a65, a66, a67, a68, a69, a70, a71, AV.any, AV.any, AV.any, AV.any, AV.any, AV.any, AV.any, AV.any, AV.any, AV.any, AV.any, AV.any, AV.any, AV.any, AV.any, AV.any, AV.any, AV.any, AV.any, AV.any, AV.any, AV.any, AV.any, AV.any, AV.any, AV.any, AV.any, AV.any, AV.any, AV.any, AV.any, AV.any, AV.any, AV.any, AV.any, AV.any, AV.any, AV.any, AV.any, AV.any, AV.any, AV.any, AV.any, AV.any, AV.any, AV.any, AV.any, AV.any, AV.any, AV.any, AV.any, AV.any, AV.any, AV.any, AV.any, AV.any, AV.any, AV.any, AV.any, AV.any, AV.any, AV.any, AV.any, AV.any, AV.any, AV.any, AV.any, AV.any, AV.any, AV.any, AV.any, AV.any, AV.any, AV.any, AV.any, AV.any, AV.any, AV.any, AV.any, AV.any, AV.any, AV.any, AV.any, AV.any, AV.any, AV.any, AV.any, AV.any, AV.any, AV.any, AV.any, AV.any, AV.any, AV.any, AV.any, AV.any, AV.any, AV.any, AV.any, AV.any, AV.any, AV.any, AV.any, AV.any, AV.any, AV.any, AV.any, AV.any, AV.any, AV.any, AV.any, AV.any, AV.any, AV.any, AV.any], σ := [Blk.cells [SV.int .i64 x0, SV.int .i64 x1, SV.int .i64 x2, SV.int .i64 x3, SV.int .i64 x4], Blk.dead, Blk.row 35 (Row.mat .i64 8 D), Blk.row 35 (Row.mat .i64 8 (markJ x1 [(0 : Int), (0 : Int), (0 : Int), (0 : Int), (0 : Int), (0 : Int), (0 : Int), (0 : Int)] (0 : Int) (c - (0 : Int)).toNat P)), Blk.cells [SV.own 2 8, SV.own 3 8, SV.nil, SV.own ([Blk.cells [SV.int .i64 x0, SV.int .i64 x1, SV.int .i64 x2, SV.int .i64 x3, SV.int .i64 x4], Blk.dead, Blk.row 35 (Row.mat .i64 8 D), Blk.row 35 (Row.mat .i64 8 P), Blk.cells [SV.own 2 8, SV.own 3 8, SV.nil, SV.nil]].length + (4 - [0, 4, 2, 3].length)) 1], Blk.row 3 (Row.ints .i64 (lostJ x1 (0 : Int) (c - (0 : Int)).toNat)), Blk.row 3 (Row.ints .i64 (thereJ x1 (0 : Int) (c - (0 : Int)).toNat))] }) := by kernel_rfl
theorem exlrS2B (X D P : List (List Int)) (c : Int) (L : List Int) (x0 x1 x2 x3 x4 : Int) (a2 a6 a7 a8 a11 a19 a20 a21 a22 a23 a24 a25 a26 a27 a28 a29 a30 a31 a32 a33 a34 a35 a36 a37 a38 a39 a40 a41 a42 a43 a44 a45 a46 a47 a48 a49 a50 a51 a52 a53 a54 a55 a56 a57 a58 a59 a60 a61 a62 a63 a64 a65 a66 a67 a68 a69 a70 a71 : AV) (K : AV → List Blk → Prop) (B : St → Prop) : evStage (ElrM lrB 0) Try.f14 12 2 { t := ([AV.one (SV.data (Row.mat IntKind.i64 8 X)), AV.one (SV.int IntKind.i64 c), a2, AV.any, AV.any, AV.one (SV.ptr 0 1 0 0), a6, a7, a8, AV.one (SV.ptr 4 1 0 0), AV.one SV.nil, a11, AV.any, AV.any, AV.any, AV.any, AV.any, AV.any, AV.any, a19, a20, a21, a22, a23, a24, a25, a26, a27, a28, a29, a30, a31, a32, a33, a34, a35, a36, a37, a38, a39, a40, a41, a42, a43, a44, a45, a46, a47, a48, a49, a50, a51, a52, a53, a54, a55, a56, a57, a58, a59, a60, a61, a62, a63, a64, a65, a66, a67, a68, a69, a70, a71] ++ List.replicate 115 .any), σ := [.cells [.int .i64 x0, .int .i64 x1, .int .i64 x2, .int .i64 x3, .int .i64 x4], .dead, .row 35 (.mat .i64 8 D), .row 35 (.mat .i64 8 P), .cells [.own 2 8, .own 3 8, .own 5 1, .nil], .row 3 (.ints .i64 L)] } K B = ( (c = (↑P.length : Int) ∧ P.length ≤ 4 ∧ P.all len8 = true ∧ (0 : Int) ≤ (0 : Int) ∧ (0 : Int) ≤ c) ∧ bif (lostJ x1 (0 : Int) (c - (0 : Int)).toNat).isEmpty then bif (thereJ x1 (0 : Int) (c - (0 : Int)).toNat).isEmpty then B { t := [.one (.data (Row.mat .i64 8 X)), .one (.int .i64 c), a2, AV.any, AV.any, .one (.ptr 0 1 0 0), a6, a7, a8, .one (.ptr 4 1 0 0), .one .nil, a11, AV.any, AV.any, AV.any, AV.any, AV.any, AV.any, AV.any, a19, a20, a21, a22, a23, a24, a25, a26, a27, a28, a29, a30, a31, a32, a33, a34, a35, a36, a37, a38, a39, a40, a41, a42, a43, a44, a45, a46, a47, a48, a49, a50, a51, a52, a53, a54, a55, a56, a57, a58, a59, a60, a61, a62, a63, a64, a65, a66, a67, a68, a69, a70, a71, AV.any, AV.any, AV.any, AV.any, AV.any, AV.any, AV.any, AV.any, AV.any, AV.any, AV.any, AV.any, AV.any, AV.any, AV.any, AV.any, AV.any, AV.any, AV.any, AV.any, AV.any, AV.any, AV.any, AV.any, AV.any, AV.any, AV.any, AV.any, AV.any, AV.any, AV.any, AV.any, AV.any, AV.any, AV.any, AV.any, AV.any, AV.any, AV.any, AV.any, AV.any, AV.any, AV.any, AV.any, AV.any, AV.any, AV.any, AV.any, AV.any, AV.any, AV.any, AV.any, AV.any, AV.any, AV.any, AV.any, AV.any, AV.any, AV.any, AV.any, AV.any, AV.any, AV.any, AV.any, AV.any, AV.any, AV.any, AV.any, AV.any, AV.any, AV.any, AV.any, AV.any, AV.any, AV.any, AV.any, AV.any, AV.any, AV.any, AV.any, AV.any, AV.any, AV.any, AV.any, AV.any, AV.any, AV.any, AV.any, AV.any, AV.any, AV.any, AV.any, AV.any, AV.any, AV.any, AV.any, AV.any, AV.any, AV.any, AV.any, AV.any, AV.any, AV.any, AV.any, AV.any, AV.any, AV.any, AV.any, AV.any, AV.any, AV.any, AV.any, AV.any, AV.any, AV.any], σ := [Blk.cells [SV.int .i64 x0, SV.int .i64 x1, SV.int .i64 x2, SV.int .i64 x3, SV.int .i64 x4], Blk.dead, Blk.row 35 (Row.mat .i64 8 D), Blk.row 35 (Row.mat .i64 8 (markJ x1 [(0 : Int), (0 : Int), (0 : Int), (0 : Int), (0 : Int), (0 : Int), (0 : Int), (0 : Int)] (0 : Int) (c - (0 : Int)).toNat P)), Blk.cells [SV.own 2 8, SV.own 3 8, SV.own 5 1, SV.nil], Blk.row 3 (Row.ints .i64 L)] } else B { t := [.one (.data (Row.mat .i64 8 X)), .one (.int .i64 c), a2, AV.any, AV.any, .one (.ptr 0 1 0 0), a6, a7, a8, .one (.ptr 4 1 0 0), .one (.own ([Blk.cells [SV.int .i64 x0, SV.int .i64 x1, SV.int .i64 x2, SV.int .i64 x3, SV.int .i64 x4], Blk.dead, Blk.row 35 (Row.mat .i64 8 D), Blk.row 35 (Row.mat .i64 8 P), Blk.cells [SV.own 2 8, SV.own 3 8, SV.own 5 1, SV.nil], Blk.row 3 (Row.ints .i64 L)].length + (5 - [0, 4, 2, 3, 5].length)) 1), a11, AV.any, AV.any, AV.any, AV.any, AV.any, AV.any, AV.any, a19, a20, a21, a22, a23, a24, a25, a26, a27, a28, a29, a30, a31, a32, a33, a34, a35, a36, a37, a38, a39, a40, a41, a42, a43, a44, a45, a46, a47, a48, a49, a50, a51, a52, a53, a54, a55, a56, a57, a58, a59, a60, a61, a62, a63, a64, a65, a66, a67, a68, a69, a70, a71, AV.any, AV.any, AV.any, AV.any, AV.any, AV.any, AV.any, AV.any, AV.any, AV.any, AV.any, AV.any, AV.any, AV.any, AV.any, AV.any, AV.any, AV.any, AV.any, AV.any, AV.any, AV.any, AV.any, AV.any, AV.any, AV.any, AV.any, AV.any, AV.any, AV.any, AV.any, AV.any, AV.any, AV.any, AV.any, AV.any, AV.any, AV.any, AV.any, AV.any, AV.any, AV.any, AV.any, AV.any, AV.any, AV.any, AV.any, AV.any, AV.any, AV.any, AV.any, AV.any, AV.any, AV.any, AV.any, AV.any, AV.any, AV.any, AV.any, AV.any, AV.any, AV.any, AV.any, AV.any, AV.any, AV.any, AV.any, AV.any, AV.any, AV.any, AV.any, AV.any, AV.any, AV.any, AV.any, AV.any, AV.any, AV.any, AV.any, AV.any, AV.any, AV.any, AV.any, AV.any, AV.any, AV.any, AV.any, AV.any, AV.any, AV.any, AV.any, AV.any, AV.any, AV.any, AV.any, AV.any, AV.any, AV.any, AV.any, AV.any, AV.any, AV.any, AV.any, AV.any, AV.any, AV.any, AV.any, AV.any, AV.any, AV.any, AV.any, AV.any, AV.any, AV.any, AV.any], σ := [Blk.cells [SV.int .i64 x0, SV.int .i64 x1, SV.int .i64 x2, SV.int .i64 x3, SV.int .i64 x4], Blk.dead, Blk.row 35 (Row.mat .i64 8 D), Blk.row 35 (Row.mat .i64 8 (markJ x1 [(0 : Int), (0 : Int), (0 : Int), (0 : Int), (0 : Int), (0 : Int), (0 : Int), (0 : Int)] (0 : Int) (c - (0 : Int)).toNat P)), Blk.cells [SV.own 2 8, SV.own 3 8, SV.own 5 1, SV.nil], Blk.row 3 (Row.ints .i64 L), Blk.row 3 (Row.ints .i64 (thereJ x1 (0 : Int) (c - (0 : Int)).toNat))] } else bif (thereJ x1 (0 : Int) (c - (0 : Int)).toNat).isEmpty then B { t := [.one (.data (Row.mat .i64 8 X)), .one (.int .i64 c), a2, AV.any, AV.any, .one (.ptr 0 1 0 0), a6, a7, a8, .one (.ptr 4 1 0 0), .one .nil, a11, AV.any, AV.any, AV.any, AV.any, AV.any, AV.any, AV.any, a19, a20, a21, a22, a23, a24, a25, a26, a27, a28, a29, a30, a31, a32, a33, a34, a35, a36, a37, a38, a39, a40, a41, a42, a43, a44, a45, a46, a47, a48, a49, a50, a51, a52, a53, a54, a55, a56, a57, a58, a59, a60, a61, a62, a63, a64, a65, a66, a67, a68, a69, a70, a71, AV.any, AV.any, AV.any, AV.any, AV.any, AV.any, AV.any, AV.any, AV.any, AV.any, AV.any, AV.any, AV.any, AV.any, AV.any, AV.any, AV.any, AV.any, AV.any, AV.any, AV.any, AV.any, AV.any, AV.any, AV.any, AV.any, AV.any, AV.any, AV.any, AV.any, AV.any, AV.any, AV.any, AV.any, AV.any, AV.any, AV.any, AV.any, AV.any, AV.any, AV.any, AV.any, AV.any, AV.any, AV.any, AV.any, AV.any, AV.any, AV.any, AV.any, AV.any, AV.any, AV.any, AV.any, AV.any, AV.any, AV.any, AV.any, AV.any, AV.any, AV.any, AV.any, AV.any, AV.any, AV.any, AV.any, AV.any, AV.any, AV.any, AV.any, AV.any, AV.any, AV.any, AV.any, AV.any, AV.any, AV.any, AV.any, AV.any, AV.any, AV.any, AV.any, AV.any, AV.any, AV.any, AV.any, AV.any, AV.any, AV.any, AV.any, AV.any, AV.any, AV.any, AV.any, AV.any, AV.any, AV.any, AV.any, AV.any, AV.any, AV.any, AV.any, AV.any, AV.any, AV.any, AV.any, AV.any, AV.any, AV.any, AV.any, AV.any, AV.any, AV.any, AV.any, AV.any], σ := [Blk.cells [SV.int .i64 x0, SV.int .i64 x1, SV.int .i64 x2, SV.int .i64 x3, SV.int .i64 x4], Blk.dead, Blk.row 35 (Row.mat .i64 8 D), Blk.row 35 (Row.mat .i64 8 (markJ x1 [(0 : Int), (0 : Int), (0 : Int), (0 : Int), (0 : Int), (0 : Int), (0 : Int), (0 : Int)] (0 : Int) (c - (0 : Int)).toNat P)), Blk.cells [SV.own 2 8, SV.own 3 8, SV.own 5 1, SV.own ([Blk.cells [SV.int .i64 x0, SV.int .i64 x1, SV.int .i64 x2, SV.int .i64 x3, SV.int .i64 x4], Blk.dead, Blk.row 35 (Row.mat .i64 8 D), Blk.row 35 (Row.mat .i64 8 P), Blk.cells [SV.own 2 8, SV.own 3 8, SV.own 5 1, SV.nil], Blk.row 3 (Row.ints .i64 L)].length + (5 - [0, 4, 2, 3, 5].length)) 1], Blk.row 3 (Row.ints .i64 L), Blk.row 3 (Row.ints .i64 (lostJ x1 (0 : Int) (c - (0 : Int)).toNat))] } else B { t := [.one (.data (Row.mat .i64 8 X)), .one (.int .i64 c), a2, AV.any, AV.any, .one (.ptr 0 1 0 0), a6, a7, a8, .one (.ptr 4 1 0 0), .one (.own ([Blk.cells [SV.int .i64 x0, SV.int .i64 x1, SV.int .i64 x2, SV.int .i64 x3, SV.int .i64 x4], Blk.dead, Blk.row 35 (Row.mat .i64 8 D), Blk.row 35 (Row.mat .i64 8 P), Blk.cells [SV.own 2 8, SV.own 3 8, SV.own 5 1, SV.nil], Blk.row 3 (Row.ints .i64 L)].length + (6 - [0, 4, 2, 3, 5].length)) 1), a11, AV.any, AV.any, AV.any, AV.any, AV.any, AV.any, AV.any, a19, a20, a21, a22, a23, a24, a25, a26, a27, a28, a29, a30, a31, a32, a33, a34, a35, a36, a37, a38, a39, a40, a41, a42, a43, a44, a45, a46, a47, a48, a49, a50, a51, a52, a53, a54, a55, a56, a57, a58, a59, a60, a61, a62, a63, a64, a65, a66, a67, a68, a69, a70, a71, AV.any, AV.any, AV.any, AV.any, AV.any, AV.any, AV.any, AV.any, AV.any, AV.any, AV.any, AV.any, AV.any, AV.any, AV.any, AV.any, AV.any, AV.any, AV.any, AV.any, AV.any, AV.any, AV.any, AV.any, AV.any, AV.any, AV.any, AV.any, AV.any, AV.any, AV.any, AV.any, AV.any, AV.any, AV.any, AV.any, AV.any, AV.any, AV.any, AV.any, AV.any, AV.any, AV.any, AV.any, AV.any, AV.any, AV.any, AV.any, AV.any, AV.any, AV.any, AV.any, AV.any, AV.any, AV.any, AV.any, AV.any, AV.any, AV.any, AV.any, AV.any, AV.any, AV.any, AV.any, AV.any, AV.any, AV.any, AV.any, AV.any, AV.any, AV.any, AV.any, AV.any, AV.any, AV.any, AV.any, AV.any, AV.any, AV.any, AV.any, AV.any, AV.any, AV.any, AV.any, AV.any, AV.any, AV.any, AV.any, AV.any, AV.any, AV.any, AV.any, AV.any, AV.any, AV.any, AV.any, AV.any, AV.any, AV.any, AV.any, AV.any, AV.any, AV.any, AV.any, AV.any, AV.any, AV.any, AV.any, AV.any, AV.any, AV.any, AV.any, AV.any, AV.any, AV.any], σ := [Blk.cells [SV.int .i64 x0, SV.int .i64 x1, SV.int .i64 x2, SV.int .i64 x3, SV.int .i64 x4], Blk.dead, Blk.row 35 (Row.mat .i64 8 D), Blk.row 35 (Row.mat .i64 8 (markJ x1 [(0 : Int), (0 : Int), (0 : Int), (0 : Int), (0 : Int), (0 : Int), (0 : Int), (0 : Int)] (0 : Int) (c - (0 : Int)).toNat P)), Blk.cells [SV.own 2 8, SV.own 3 8, SV.own 5 1, SV.own ([Blk.cells [SV.int .i64 x0, SV.int .i64 x1, SV.int .i64 x2, SV.int .i64 x3, SV.int .i64 x4], Blk.dead, Blk.row 35 (Row.mat .i64 8 D), Blk.row 35 (Row.mat .i64 8 P), Blk.cells [SV.own 2 8, SV.own 3 8, SV.own 5 1, SV.nil], Blk.row 3 (Row.ints .i64 L)].length + (5 - [0, 4, 2, 3, 5].length)) 1], Blk.row 3 (Row.ints .i64 L), Blk.row 3 (Row.ints .i64 (lostJ x1 (0 : Int) (c - (0 : Int)).toNat)), Blk.row 3 (Row.ints .i64 (thereJ x1 (0 : Int) (c - (0 : Int)).toNat))] }) := by kernel_rfl
theorem exlrTAs (X D P : List (List Int)) (S : List Int) (x0 x1 x2 x3 x4 : Int) (a1 a2 a6 a7 a8 a11 a12 a19 a20 a21 a22 a23 a24 a25 a26 a27 a28 a29 a30 a31 a32 a33 a34 a35 a36 a37 a38 a39 a40 a41 a42 a43 a44 a45 a46 a47 a48 a49 a50 a51 a52 a53 a54 a55 a56 a57 a58 a59 a60 a61 a62 a63 a64 a65 a66 a67 a68 a69 a70 a71 a72 a73 a74 a75 a76 a77 a78 a79 a80 a81 a82 a83 a84 a85 a86 a87 a88 a89 a90 a91 a92 a93 a94 a95 a96 a97 : AV) (K : AV → List Blk → Prop) : evRest (ElrM lrA 0) Try.f14 14 { t := ([AV.one (SV.data (Row.mat IntKind.i64 8 X)), a1, a2, AV.any, AV.any, AV.one (SV.ptr 0 1 0 0), a6, a7, a8, AV.one (SV.ptr 4 1 0 0), AV.one (SV.own 5 1), a11, a12, AV.any, AV.any, AV.any, AV.any, AV.any, AV.any, a19, a20, a21, a22, a23, a24, a25, a26, a27, a28, a29, a30, a31, a32, a33, a34, a35, a36, a37, a38, a39, a40, a41, a42, a43, a44, a45, a46, a47, a48, a49, a50, a51, a52, a53, a54, a55, a56, a57, a58, a59, a60, a61, a62, a63, a64, a65, a66, a67, a68, a69, a70, a71, a72, a73, a74, a75, a76, a77, a78, a79, a80, a81, a82, a83, a84, a85, a86, a87, a88, a89, a90, a91, a92, a93, a94, a95, a96, a97] ++ List.replicate 89 .any), σ := [.cells [.int .i64 x0, .int .i64 x1, .int .i64 x2, .int .i64 x3, .int .i64 x4], .dead, .row 35 (.mat .i64 8 D), .row 35 (.mat .i64 8 P), .cells [.own 2 8, .own 3 8, .nil, .nil], .row 3 (.ints .i64 S)] } K = ( okG D P [] [] ∧ okG D P [] [] ∧ bif resE D P [] [] != (0 : Int) then K (.one (.bool false)) [] else ((resV D P [] []).length ≤ 1000000000 ∧ (resV D P [] []).all len8 = true ∧ X.all len8 = true) ∧ bif !resV D P [] [] == X then K (.one (.bool false)) [] else bif (0 : Int) == (↑S.length : Int) then K (.one (.bool true)) [] else (65537 : Int) ≠ (0 : Int) ∧ bif modB x4 (65537 : Int) == (0 : Int) then K (.one (.bool true)) [] else (↑S.length : Int) ≠ (0 : Int) ∧ bif decide ((0 : Int) ≤ modB x2 (↑S.length : Int)) && decide (modB x2 (↑S.length : Int) < (↑S.length : Int)) then bif decide ((modB x2 (↑S.length : Int)).toNat + 0 < S.length) then (8 : Int) ≠ (0 : Int) ∧ bif decide ((0 : Int) ≤ S.getD ((modB x2 (↑S.length : Int)).toNat + 0) (0 : Int)) && decide (S.getD ((modB x2 (↑S.length : Int)).toNat + 0) (0 : Int) < (↑P.length : Int)) then bif decide ((0 : Int) ≤ modB x3 (8 : Int)) && decide (modB x3 (8 : Int) < (8 : Int)) then bif decide (0 + (modB x3 (8 : Int)).toNat + 0 < 8) && decide ((S.getD ((modB x2 (↑S.length : Int)).toNat + 0) (0 : Int)).toNat < P.length) then bif !(decide ((0 : Int) ≤ (P.getD (S.getD ((modB x2 (↑S.length : Int)).toNat + 0) (0 : Int)).toNat []).getD (0 + (modB x3 (8 : Int)).toNat + 0) (0 : Int)) && decide ((P.getD (S.getD ((modB x2 (↑S.length : Int)).toNat + 0) (0 : Int)).toNat []).getD (0 + (modB x3 (8 : Int)).toNat + 0) (0 : Int) ≤ (65536 : Int))) then K (.one (.bool false)) [] else bif decide ((0 : Int) ≤ S.getD ((modB x2 (↑S.length : Int)).toNat + 0) (0 : Int)) && decide (S.getD ((modB x2 (↑S.length : Int)).toNat + 0) (0 : Int) < (↑P.length : Int)) then bif decide ((0 : Int) ≤ modB x3 (8 : Int)) && decide (modB x3 (8 : Int) < (8 : Int)) then bif decide (0 + (modB x3 (8 : Int)).toNat + 0 < 8) && decide ((S.getD ((modB x2 (↑S.length : Int)).toNat + 0) (0 : Int)).toNat < P.length) then bif decide ((0 : Int) ≤ S.getD ((modB x2 (↑S.length : Int)).toNat + 0) (0 : Int)) && decide (S.getD ((modB x2 (↑S.length : Int)).toNat + 0) (0 : Int) < (↑P.length : Int)) then (65537 : Int) ≠ (0 : Int) ∧ bif decide ((0 : Int) ≤ modB x3 (8 : Int)) && decide (modB x3 (8 : Int) < (8 : Int)) then bif decide (0 + (modB x3 (8 : Int)).toNat < 8) && decide ((S.getD ((modB x2 (↑S.length : Int)).toNat + 0) (0 : Int)).toNat < P.length) && decide ((P.getD (S.getD ((modB x2 (↑S.length : Int)).toNat + 0) (0 : Int)).toNat []).length = 8) then okG D (P.set (S.getD ((modB x2 (↑S.length : Int)).toNat + 0) (0 : Int)).toNat ((P.getD (S.getD ((modB x2 (↑S.length : Int)).toNat + 0) (0 : Int)).toNat []).set (0 + (modB x3 (8 : Int)).toNat) ((IntKind.i64.wrap ((P.getD (S.getD ((modB x2 (↑S.length : Int)).toNat + 0) (0 : Int)).toNat []).getD (0 + (modB x3 (8 : Int)).toNat + 0) (0 : Int) + modB x4 (65537 : Int))).tmod (65537 : Int)))) [] [] ∧ bif resE D (P.set (S.getD ((modB x2 (↑S.length : Int)).toNat + 0) (0 : Int)).toNat ((P.getD (S.getD ((modB x2 (↑S.length : Int)).toNat + 0) (0 : Int)).toNat []).set (0 + (modB x3 (8 : Int)).toNat) ((IntKind.i64.wrap ((P.getD (S.getD ((modB x2 (↑S.length : Int)).toNat + 0) (0 : Int)).toNat []).getD (0 + (modB x3 (8 : Int)).toNat + 0) (0 : Int) + modB x4 (65537 : Int))).tmod (65537 : Int)))) [] [] == (13 : Int) then K (.one (.bool ((↑(resV D (P.set (S.getD ((modB x2 (↑S.length : Int)).toNat + 0) (0 : Int)).toNat ((P.getD (S.getD ((modB x2 (↑S.length : Int)).toNat + 0) (0 : Int)).toNat []).set (0 + (modB x3 (8 : Int)).toNat) ((IntKind.i64.wrap ((P.getD (S.getD ((modB x2 (↑S.length : Int)).toNat + 0) (0 : Int)).toNat []).getD (0 + (modB x3 (8 : Int)).toNat + 0) (0 : Int) + modB x4 (65537 : Int))).tmod (65537 : Int)))) [] []).length : Int) == (0 : Int)))) [] else K (.one (.bool false)) [] else False else False else False else False else False else False else False else False else False else False else False) := by kernel_rfl
theorem exlrTAu (X D P : List (List Int)) (U : List Int) (x0 x1 x2 x3 x4 : Int) (a1 a2 a6 a7 a8 a11 a12 a19 a20 a21 a22 a23 a24 a25 a26 a27 a28 a29 a30 a31 a32 a33 a34 a35 a36 a37 a38 a39 a40 a41 a42 a43 a44 a45 a46 a47 a48 a49 a50 a51 a52 a53 a54 a55 a56 a57 a58 a59 a60 a61 a62 a63 a64 a65 a66 a67 a68 a69 a70 a71 a72 a73 a74 a75 a76 a77 a78 a79 a80 a81 a82 a83 a84 a85 a86 a87 a88 a89 a90 a91 a92 a93 a94 a95 a96 a97 : AV) (K : AV → List Blk → Prop) : evRest (ElrM lrA 0) Try.f14 14 { t := ([AV.one (SV.data (Row.mat IntKind.i64 8 X)), a1, a2, AV.any, AV.any, AV.one (SV.ptr 0 1 0 0), a6, a7, a8, AV.one (SV.ptr 4 1 0 0), AV.one SV.nil, a11, a12, AV.any, AV.any, AV.any, AV.any, AV.any, AV.any, a19, a20, a21, a22, a23, a24, a25, a26, a27, a28, a29, a30, a31, a32, a33, a34, a35, a36, a37, a38, a39, a40, a41, a42, a43, a44, a45, a46, a47, a48, a49, a50, a51, a52, a53, a54, a55, a56, a57, a58, a59, a60, a61, a62, a63, a64, a65, a66, a67, a68, a69, a70, a71, a72, a73, a74, a75, a76, a77, a78, a79, a80, a81, a82, a83, a84, a85, a86, a87, a88, a89, a90, a91, a92, a93, a94, a95, a96, a97] ++ List.replicate 89 .any), σ := [.cells [.int .i64 x0, .int .i64 x1, .int .i64 x2, .int .i64 x3, .int .i64 x4], .dead, .row 35 (.mat .i64 8 D), .row 35 (.mat .i64 8 P), .cells [.own 2 8, .own 3 8, .nil, .own 5 1], .row 3 (.ints .i64 U)] } K = ( okG D P [] U ∧ okG D P [] U ∧ bif resE D P [] U != (0 : Int) then K (.one (.bool false)) [] else ((resV D P [] U).length ≤ 1000000000 ∧ (resV D P [] U).all len8 = true ∧ X.all len8 = true) ∧ bif !resV D P [] U == X then K (.one (.bool false)) [] else K (.one (.bool true)) []) := by kernel_rfl
theorem exlrTAus (X D P : List (List Int)) (U S : List Int) (x0 x1 x2 x3 x4 : Int) (a1 a2 a6 a7 a8 a11 a12 a19 a20 a21 a22 a23 a24 a25 a26 a27 a28 a29 a30 a31 a32 a33 a34 a35 a36 a37 a38 a39 a40 a41 a42 a43 a44 a45 a46 a47 a48 a49 a50 a51 a52 a53 a54 a55 a56 a57 a58 a59 a60 a61 a62 a63 a64 a65 a66 a67 a68 a69 a70 a71 a72 a73 a74 a75 a76 a77 a78 a79 a80 a81 a82 a83 a84 a85 a86 a87 a88 a89 a90 a91 a92 a93 a94 a95 a96 a97 : AV) (K : AV → List Blk → Prop) : evRest (ElrM lrA 0) Try.f14 14 { t := ([AV.one (SV.data (Row.mat IntKind.i64 8 X)), a1, a2, AV.any, AV.any, AV.one (SV.ptr 0 1 0 0), a6, a7, a8, AV.one (SV.ptr 4 1 0 0), AV.one (SV.own 6 1), a11, a12, AV.any, AV.any, AV.any, AV.any, AV.any, AV.any, a19, a20, a21, a22, a23, a24, a25, a26, a27, a28, a29, a30, a31, a32, a33, a34, a35, a36, a37, a38, a39, a40, a41, a42, a43, a44, a45, a46, a47, a48, a49, a50, a51, a52, a53, a54, a55, a56, a57, a58, a59, a60, a61, a62, a63, a64, a65, a66, a67, a68, a69, a70, a71, a72, a73, a74, a75, a76, a77, a78, a79, a80, a81, a82, a83, a84, a85, a86, a87, a88, a89, a90, a91, a92, a93, a94, a95, a96, a97] ++ List.replicate 89 .any), σ := [.cells [.int .i64 x0, .int .i64 x1, .int .i64 x2, .int .i64 x3, .int .i64 x4], .dead, .row 35 (.mat .i64 8 D), .row 35 (.mat .i64 8 P), .cells [.own 2 8, .own 3 8, .nil, .own 5 1], .row 3 (.ints .i64 U), .row 3 (.ints .i64 S)] } K = ( okG D P [] U ∧ okG D P [] U ∧ bif resE D P [] U != (0 : Int) then K (.one (.bool false)) [] else ((resV D P [] U).length ≤ 1000000000 ∧ (resV D P [] U).all len8 = true ∧ X.all len8 = true) ∧ bif !resV D P [] U == X then K (.one (.bool false)) [] else bif (0 : Int) == (↑S.length : Int) then K (.one (.bool true)) [] else (65537 : Int) ≠ (0 : Int) ∧ bif modB x4 (65537 : Int) == (0 : Int) then K (.one (.bool true)) [] else (↑S.length : Int) ≠ (0 : Int) ∧ bif decide ((0 : Int) ≤ modB x2 (↑S.length : Int)) && decide (modB x2 (↑S.length : Int) < (↑S.length : Int)) then bif decide ((modB x2 (↑S.length : Int)).toNat + 0 < S.length) then (8 : Int) ≠ (0 : Int) ∧ bif decide ((0 : Int) ≤ S.getD ((modB x2 (↑S.length : Int)).toNat + 0) (0 : Int)) && decide (S.getD ((modB x2 (↑S.length : Int)).toNat + 0) (0 : Int) < (↑P.length : Int)) then bif decide ((0 : Int) ≤ modB x3 (8 : Int)) && decide (modB x3 (8 : Int) < (8 : Int)) then bif decide (0 + (modB x3 (8 : Int)).toNat + 0 < 8) && decide ((S.getD ((modB x2 (↑S.length : Int)).toNat + 0) (0 : Int)).toNat < P.length) then bif !(decide ((0 : Int) ≤ (P.getD (S.getD ((modB x2 (↑S.length : Int)).toNat + 0) (0 : Int)).toNat []).getD (0 + (modB x3 (8 : Int)).toNat + 0) (0 : Int)) && decide ((P.getD (S.getD ((modB x2 (↑S.length : Int)).toNat + 0) (0 : Int)).toNat []).getD (0 + (modB x3 (8 : Int)).toNat + 0) (0 : Int) ≤ (65536 : Int))) then K (.one (.bool false)) [] else bif decide ((0 : Int) ≤ S.getD ((modB x2 (↑S.length : Int)).toNat + 0) (0 : Int)) && decide (S.getD ((modB x2 (↑S.length : Int)).toNat + 0) (0 : Int) < (↑P.length : Int)) then bif decide ((0 : Int) ≤ modB x3 (8 : Int)) && decide (modB x3 (8 : Int) < (8 : Int)) then bif decide (0 + (modB x3 (8 : Int)).toNat + 0 < 8) && decide ((S.getD ((modB x2 (↑S.length : Int)).toNat + 0) (0 : Int)).toNat < P.length) then bif decide ((0 : Int) ≤ S.getD ((modB x2 (↑S.length : Int)).toNat + 0) (0 : Int)) && decide (S.getD ((modB x2 (↑S.length : Int)).toNat + 0) (0 : Int) < (↑P.length : Int)) then (65537 : Int) ≠ (0 : Int) ∧ bif decide ((0 : Int) ≤ modB x3 (8 : Int)) && decide (modB x3 (8 : Int) < (8 : Int)) then bif decide (0 + (modB x3 (8 : Int)).toNat < 8) && decide ((S.getD ((modB x2 (↑S.length : Int)).toNat + 0) (0 : Int)).toNat < P.length) && decide ((P.getD (S.getD ((modB x2 (↑S.length : Int)).toNat + 0) (0 : Int)).toNat []).length = 8) then okG D (P.set (S.getD ((modB x2 (↑S.length : Int)).toNat + 0) (0 : Int)).toNat ((P.getD (S.getD ((modB x2 (↑S.length : Int)).toNat + 0) (0 : Int)).toNat []).set (0 + (modB x3 (8 : Int)).toNat) ((IntKind.i64.wrap ((P.getD (S.getD ((modB x2 (↑S.length : Int)).toNat + 0) (0 : Int)).toNat []).getD (0 + (modB x3 (8 : Int)).toNat + 0) (0 : Int) + modB x4 (65537 : Int))).tmod (65537 : Int)))) [] U ∧ bif resE D (P.set (S.getD ((modB x2 (↑S.length : Int)).toNat + 0) (0 : Int)).toNat ((P.getD (S.getD ((modB x2 (↑S.length : Int)).toNat + 0) (0 : Int)).toNat []).set (0 + (modB x3 (8 : Int)).toNat) ((IntKind.i64.wrap ((P.getD (S.getD ((modB x2 (↑S.length : Int)).toNat + 0) (0 : Int)).toNat []).getD (0 + (modB x3 (8 : Int)).toNat + 0) (0 : Int) + modB x4 (65537 : Int))).tmod (65537 : Int)))) [] U == (13 : Int) then K (.one (.bool ((↑(resV D (P.set (S.getD ((modB x2 (↑S.length : Int)).toNat + 0) (0 : Int)).toNat ((P.getD (S.getD ((modB x2 (↑S.length : Int)).toNat + 0) (0 : Int)).toNat []).set (0 + (modB x3 (8 : Int)).toNat) ((IntKind.i64.wrap ((P.getD (S.getD ((modB x2 (↑S.length : Int)).toNat + 0) (0 : Int)).toNat []).getD (0 + (modB x3 (8 : Int)).toNat + 0) (0 : Int) + modB x4 (65537 : Int))).tmod (65537 : Int)))) [] U).length : Int) == (0 : Int)))) [] else K (.one (.bool false)) [] else False else False else False else False else False else False else False else False else False else False else False) := by kernel_rfl
theorem exlrTBs (X D P : List (List Int)) (L S : List Int) (x0 x1 x2 x3 x4 : Int) (a1 a2 a6 a7 a8 a11 a12 a19 a20 a21 a22 a23 a24 a25 a26 a27 a28 a29 a30 a31 a32 a33 a34 a35 a36 a37 a38 a39 a40 a41 a42 a43 a44 a45 a46 a47 a48 a49 a50 a51 a52 a53 a54 a55 a56 a57 a58 a59 a60 a61 a62 a63 a64 a65 a66 a67 a68 a69 a70 a71 a72 a73 a74 a75 a76 a77 a78 a79 a80 a81 a82 a83 a84 a85 a86 a87 a88 a89 a90 a91 a92 a93 a94 a95 a96 a97 : AV) (K : AV → List Blk → Prop) : evRest (ElrM lrB 0) Try.f14 14 { t := ([AV.one (SV.data (Row.mat IntKind.i64 8 X)), a1, a2, AV.any, AV.any, AV.one (SV.ptr 0 1 0 0), a6, a7, a8, AV.one (SV.ptr 4 1 0 0), AV.one (SV.own 6 1), a11, a12, AV.any, AV.any, AV.any, AV.any, AV.any, AV.any, a19, a20, a21, a22, a23, a24, a25, a26, a27, a28, a29, a30, a31, a32, a33, a34, a35, a36, a37, a38, a39, a40, a41, a42, a43, a44, a45, a46, a47, a48, a49, a50, a51, a52, a53, a54, a55, a56, a57, a58, a59, a60, a61, a62, a63, a64, a65, a66, a67, a68, a69, a70, a71, a72, a73, a74, a75, a76, a77, a78, a79, a80, a81, a82, a83, a84, a85, a86, a87, a88, a89, a90, a91, a92, a93, a94, a95, a96, a97] ++ List.replicate 89 .any), σ := [.cells [.int .i64 x0, .int .i64 x1, .int .i64 x2, .int .i64 x3, .int .i64 x4], .dead, .row 35 (.mat .i64 8 D), .row 35 (.mat .i64 8 P), .cells [.own 2 8, .own 3 8, .own 5 1, .nil], .row 3 (.ints .i64 L), .row 3 (.ints .i64 S)] } K = ( okG D P L [] ∧ okG D P L [] ∧ bif decide ((↑L.length : Int) > (↑S.length : Int)) then bif resE D P L [] == (28 : Int) then K (.one (.bool ((↑(resV D P L []).length : Int) == (0 : Int)))) [] else K (.one (.bool false)) [] else bif resE D P L [] != (0 : Int) then K (.one (.bool false)) [] else ((resV D P L []).length ≤ 1000000000 ∧ (resV D P L []).all len8 = true ∧ X.all len8 = true) ∧ bif !resV D P L [] == X then K (.one (.bool false)) [] else bif (↑L.length : Int) == (↑S.length : Int) then K (.one (.bool true)) [] else (65537 : Int) ≠ (0 : Int) ∧ bif modB x4 (65537 : Int) == (0 : Int) then K (.one (.bool true)) [] else (↑S.length : Int) ≠ (0 : Int) ∧ bif decide ((0 : Int) ≤ modB x2 (↑S.length : Int)) && decide (modB x2 (↑S.length : Int) < (↑S.length : Int)) then bif decide ((modB x2 (↑S.length : Int)).toNat + 0 < S.length) then (8 : Int) ≠ (0 : Int) ∧ bif decide ((0 : Int) ≤ S.getD ((modB x2 (↑S.length : Int)).toNat + 0) (0 : Int)) && decide (S.getD ((modB x2 (↑S.length : Int)).toNat + 0) (0 : Int) < (↑P.length : Int)) then bif decide ((0 : Int) ≤ modB x3 (8 : Int)) && decide (modB x3 (8 : Int) < (8 : Int)) then bif decide (0 + (modB x3 (8 : Int)).toNat + 0 < 8) && decide ((S.getD ((modB x2 (↑S.length : Int)).toNat + 0) (0 : Int)).toNat < P.length) then bif !(decide ((0 : Int) ≤ (P.getD (S.getD ((modB x2 (↑S.length : Int)).toNat + 0) (0 : Int)).toNat []).getD (0 + (modB x3 (8 : Int)).toNat + 0) (0 : Int)) && decide ((P.getD (S.getD ((modB x2 (↑S.length : Int)).toNat + 0) (0 : Int)).toNat []).getD (0 + (modB x3 (8 : Int)).toNat + 0) (0 : Int) ≤ (65536 : Int))) then K (.one (.bool false)) [] else bif decide ((0 : Int) ≤ S.getD ((modB x2 (↑S.length : Int)).toNat + 0) (0 : Int)) && decide (S.getD ((modB x2 (↑S.length : Int)).toNat + 0) (0 : Int) < (↑P.length : Int)) then bif decide ((0 : Int) ≤ modB x3 (8 : Int)) && decide (modB x3 (8 : Int) < (8 : Int)) then bif decide (0 + (modB x3 (8 : Int)).toNat + 0 < 8) && decide ((S.getD ((modB x2 (↑S.length : Int)).toNat + 0) (0 : Int)).toNat < P.length) then bif decide ((0 : Int) ≤ S.getD ((modB x2 (↑S.length : Int)).toNat + 0) (0 : Int)) && decide (S.getD ((modB x2 (↑S.length : Int)).toNat + 0) (0 : Int) < (↑P.length : Int)) then (65537 : Int) ≠ (0 : Int) ∧ bif decide ((0 : Int) ≤ modB x3 (8 : Int)) && decide (modB x3 (8 : Int) < (8 : Int)) then bif decide (0 + (modB x3 (8 : Int)).toNat < 8) && decide ((S.getD ((modB x2 (↑S.length : Int)).toNat + 0) (0 : Int)).toNat < P.length) && decide ((P.getD (S.getD ((modB x2 (↑S.length : Int)).toNat + 0) (0 : Int)).toNat []).length = 8) then okG D (P.set (S.getD ((modB x2 (↑S.length : Int)).toNat + 0) (0 : Int)).toNat ((P.getD (S.getD ((modB x2 (↑S.length : Int)).toNat + 0) (0 : Int)).toNat []).set (0 + (modB x3 (8 : Int)).toNat) ((IntKind.i64.wrap ((P.getD (S.getD ((modB x2 (↑S.length : Int)).toNat + 0) (0 : Int)).toNat []).getD (0 + (modB x3 (8 : Int)).toNat + 0) (0 : Int) + modB x4 (65537 : Int))).tmod (65537 : Int)))) L [] ∧ bif resE D (P.set (S.getD ((modB x2 (↑S.length : Int)).toNat + 0) (0 : Int)).toNat ((P.getD (S.getD ((modB x2 (↑S.length : Int)).toNat + 0) (0 : Int)).toNat []).set (0 + (modB x3 (8 : Int)).toNat) ((IntKind.i64.wrap ((P.getD (S.getD ((modB x2 (↑S.length : Int)).toNat + 0) (0 : Int)).toNat []).getD (0 + (modB x3 (8 : Int)).toNat + 0) (0 : Int) + modB x4 (65537 : Int))).tmod (65537 : Int)))) L [] == (13 : Int) then K (.one (.bool ((↑(resV D (P.set (S.getD ((modB x2 (↑S.length : Int)).toNat + 0) (0 : Int)).toNat ((P.getD (S.getD ((modB x2 (↑S.length : Int)).toNat + 0) (0 : Int)).toNat []).set (0 + (modB x3 (8 : Int)).toNat) ((IntKind.i64.wrap ((P.getD (S.getD ((modB x2 (↑S.length : Int)).toNat + 0) (0 : Int)).toNat []).getD (0 + (modB x3 (8 : Int)).toNat + 0) (0 : Int) + modB x4 (65537 : Int))).tmod (65537 : Int)))) L []).length : Int) == (0 : Int)))) [] else K (.one (.bool false)) [] else False else False else False else False else False else False else False else False else False else False else False) := by kernel_rfl
theorem exlrTBu (X D P : List (List Int)) (L U : List Int) (x0 x1 x2 x3 x4 : Int) (a1 a2 a6 a7 a8 a11 a12 a19 a20 a21 a22 a23 a24 a25 a26 a27 a28 a29 a30 a31 a32 a33 a34 a35 a36 a37 a38 a39 a40 a41 a42 a43 a44 a45 a46 a47 a48 a49 a50 a51 a52 a53 a54 a55 a56 a57 a58 a59 a60 a61 a62 a63 a64 a65 a66 a67 a68 a69 a70 a71 a72 a73 a74 a75 a76 a77 a78 a79 a80 a81 a82 a83 a84 a85 a86 a87 a88 a89 a90 a91 a92 a93 a94 a95 a96 a97 : AV) (K : AV → List Blk → Prop) : evRest (ElrM lrB 0) Try.f14 14 { t := ([AV.one (SV.data (Row.mat IntKind.i64 8 X)), a1, a2, AV.any, AV.any, AV.one (SV.ptr 0 1 0 0), a6, a7, a8, AV.one (SV.ptr 4 1 0 0), AV.one SV.nil, a11, a12, AV.any, AV.any, AV.any, AV.any, AV.any, AV.any, a19, a20, a21, a22, a23, a24, a25, a26, a27, a28, a29, a30, a31, a32, a33, a34, a35, a36, a37, a38, a39, a40, a41, a42, a43, a44, a45, a46, a47, a48, a49, a50, a51, a52, a53, a54, a55, a56, a57, a58, a59, a60, a61, a62, a63, a64, a65, a66, a67, a68, a69, a70, a71, a72, a73, a74, a75, a76, a77, a78, a79, a80, a81, a82, a83, a84, a85, a86, a87, a88, a89, a90, a91, a92, a93, a94, a95, a96, a97] ++ List.replicate 89 .any), σ := [.cells [.int .i64 x0, .int .i64 x1, .int .i64 x2, .int .i64 x3, .int .i64 x4], .dead, .row 35 (.mat .i64 8 D), .row 35 (.mat .i64 8 P), .cells [.own 2 8, .own 3 8, .own 5 1, .own 6 1], .row 3 (.ints .i64 L), .row 3 (.ints .i64 U)] } K = ( okG D P L U ∧ okG D P L U ∧ bif decide ((↑L.length : Int) > (0 : Int)) then bif resE D P L U == (28 : Int) then K (.one (.bool ((↑(resV D P L U).length : Int) == (0 : Int)))) [] else K (.one (.bool false)) [] else bif resE D P L U != (0 : Int) then K (.one (.bool false)) [] else ((resV D P L U).length ≤ 1000000000 ∧ (resV D P L U).all len8 = true ∧ X.all len8 = true) ∧ bif !resV D P L U == X then K (.one (.bool false)) [] else bif (↑L.length : Int) == (0 : Int) then K (.one (.bool true)) [] else (65537 : Int) ≠ (0 : Int) ∧ bif modB x4 (65537 : Int) == (0 : Int) then K (.one (.bool true)) [] else (0 : Int) ≠ (0 : Int) ∧ False) := by kernel_rfl
theorem exlrTBus (X D P : List (List Int)) (L U S : List Int) (x0 x1 x2 x3 x4 : Int) (a1 a2 a6 a7 a8 a11 a12 a19 a20 a21 a22 a23 a24 a25 a26 a27 a28 a29 a30 a31 a32 a33 a34 a35 a36 a37 a38 a39 a40 a41 a42 a43 a44 a45 a46 a47 a48 a49 a50 a51 a52 a53 a54 a55 a56 a57 a58 a59 a60 a61 a62 a63 a64 a65 a66 a67 a68 a69 a70 a71 a72 a73 a74 a75 a76 a77 a78 a79 a80 a81 a82 a83 a84 a85 a86 a87 a88 a89 a90 a91 a92 a93 a94 a95 a96 a97 : AV) (K : AV → List Blk → Prop) : evRest (ElrM lrB 0) Try.f14 14 { t := ([AV.one (SV.data (Row.mat IntKind.i64 8 X)), a1, a2, AV.any, AV.any, AV.one (SV.ptr 0 1 0 0), a6, a7, a8, AV.one (SV.ptr 4 1 0 0), AV.one (SV.own 7 1), a11, a12, AV.any, AV.any, AV.any, AV.any, AV.any, AV.any, a19, a20, a21, a22, a23, a24, a25, a26, a27, a28, a29, a30, a31, a32, a33, a34, a35, a36, a37, a38, a39, a40, a41, a42, a43, a44, a45, a46, a47, a48, a49, a50, a51, a52, a53, a54, a55, a56, a57, a58, a59, a60, a61, a62, a63, a64, a65, a66, a67, a68, a69, a70, a71, a72, a73, a74, a75, a76, a77, a78, a79, a80, a81, a82, a83, a84, a85, a86, a87, a88, a89, a90, a91, a92, a93, a94, a95, a96, a97] ++ List.replicate 89 .any), σ := [.cells [.int .i64 x0, .int .i64 x1, .int .i64 x2, .int .i64 x3, .int .i64 x4], .dead, .row 35 (.mat .i64 8 D), .row 35 (.mat .i64 8 P), .cells [.own 2 8, .own 3 8, .own 5 1, .own 6 1], .row 3 (.ints .i64 L), .row 3 (.ints .i64 U), .row 3 (.ints .i64 S)] } K = ( okG D P L U ∧ okG D P L U ∧ bif decide ((↑L.length : Int) > (↑S.length : Int)) then bif resE D P L U == (28 : Int) then K (.one (.bool ((↑(resV D P L U).length : Int) == (0 : Int)))) [] else K (.one (.bool false)) [] else bif resE D P L U != (0 : Int) then K (.one (.bool false)) [] else ((resV D P L U).length ≤ 1000000000 ∧ (resV D P L U).all len8 = true ∧ X.all len8 = true) ∧ bif !resV D P L U == X then K (.one (.bool false)) [] else bif (↑L.length : Int) == (↑S.length : Int) then K (.one (.bool true)) [] else (65537 : Int) ≠ (0 : Int) ∧ bif modB x4 (65537 : Int) == (0 : Int) then K (.one (.bool true)) [] else (↑S.length : Int) ≠ (0 : Int) ∧ bif decide ((0 : Int) ≤ modB x2 (↑S.length : Int)) && decide (modB x2 (↑S.length : Int) < (↑S.length : Int)) then bif decide ((modB x2 (↑S.length : Int)).toNat + 0 < S.length) then (8 : Int) ≠ (0 : Int) ∧ bif decide ((0 : Int) ≤ S.getD ((modB x2 (↑S.length : Int)).toNat + 0) (0 : Int)) && decide (S.getD ((modB x2 (↑S.length : Int)).toNat + 0) (0 : Int) < (↑P.length : Int)) then bif decide ((0 : Int) ≤ modB x3 (8 : Int)) && decide (modB x3 (8 : Int) < (8 : Int)) then bif decide (0 + (modB x3 (8 : Int)).toNat + 0 < 8) && decide ((S.getD ((modB x2 (↑S.length : Int)).toNat + 0) (0 : Int)).toNat < P.length) then bif !(decide ((0 : Int) ≤ (P.getD (S.getD ((modB x2 (↑S.length : Int)).toNat + 0) (0 : Int)).toNat []).getD (0 + (modB x3 (8 : Int)).toNat + 0) (0 : Int)) && decide ((P.getD (S.getD ((modB x2 (↑S.length : Int)).toNat + 0) (0 : Int)).toNat []).getD (0 + (modB x3 (8 : Int)).toNat + 0) (0 : Int) ≤ (65536 : Int))) then K (.one (.bool false)) [] else bif decide ((0 : Int) ≤ S.getD ((modB x2 (↑S.length : Int)).toNat + 0) (0 : Int)) && decide (S.getD ((modB x2 (↑S.length : Int)).toNat + 0) (0 : Int) < (↑P.length : Int)) then bif decide ((0 : Int) ≤ modB x3 (8 : Int)) && decide (modB x3 (8 : Int) < (8 : Int)) then bif decide (0 + (modB x3 (8 : Int)).toNat + 0 < 8) && decide ((S.getD ((modB x2 (↑S.length : Int)).toNat + 0) (0 : Int)).toNat < P.length) then bif decide ((0 : Int) ≤ S.getD ((modB x2 (↑S.length : Int)).toNat + 0) (0 : Int)) && decide (S.getD ((modB x2 (↑S.length : Int)).toNat + 0) (0 : Int) < (↑P.length : Int)) then (65537 : Int) ≠ (0 : Int) ∧ bif decide ((0 : Int) ≤ modB x3 (8 : Int)) && decide (modB x3 (8 : Int) < (8 : Int)) then bif decide (0 + (modB x3 (8 : Int)).toNat < 8) && decide ((S.getD ((modB x2 (↑S.length : Int)).toNat + 0) (0 : Int)).toNat < P.length) && decide ((P.getD (S.getD ((modB x2 (↑S.length : Int)).toNat + 0) (0 : Int)).toNat []).length = 8) then okG D (P.set (S.getD ((modB x2 (↑S.length : Int)).toNat + 0) (0 : Int)).toNat ((P.getD (S.getD ((modB x2 (↑S.length : Int)).toNat + 0) (0 : Int)).toNat []).set (0 + (modB x3 (8 : Int)).toNat) ((IntKind.i64.wrap ((P.getD (S.getD ((modB x2 (↑S.length : Int)).toNat + 0) (0 : Int)).toNat []).getD (0 + (modB x3 (8 : Int)).toNat + 0) (0 : Int) + modB x4 (65537 : Int))).tmod (65537 : Int)))) L U ∧ bif resE D (P.set (S.getD ((modB x2 (↑S.length : Int)).toNat + 0) (0 : Int)).toNat ((P.getD (S.getD ((modB x2 (↑S.length : Int)).toNat + 0) (0 : Int)).toNat []).set (0 + (modB x3 (8 : Int)).toNat) ((IntKind.i64.wrap ((P.getD (S.getD ((modB x2 (↑S.length : Int)).toNat + 0) (0 : Int)).toNat []).getD (0 + (modB x3 (8 : Int)).toNat + 0) (0 : Int) + modB x4 (65537 : Int))).tmod (65537 : Int)))) L U == (13 : Int) then K (.one (.bool ((↑(resV D (P.set (S.getD ((modB x2 (↑S.length : Int)).toNat + 0) (0 : Int)).toNat ((P.getD (S.getD ((modB x2 (↑S.length : Int)).toNat + 0) (0 : Int)).toNat []).set (0 + (modB x3 (8 : Int)).toNat) ((IntKind.i64.wrap ((P.getD (S.getD ((modB x2 (↑S.length : Int)).toNat + 0) (0 : Int)).toNat []).getD (0 + (modB x3 (8 : Int)).toNat + 0) (0 : Int) + modB x4 (65537 : Int))).tmod (65537 : Int)))) L U).length : Int) == (0 : Int)))) [] else K (.one (.bool false)) [] else False else False else False else False else False else False else False else False else False else False else False) := by kernel_rfl
end Go.Ev

namespace Go.Ev
open Go Go.Proofs
attribute [local irreducible] evFn evBody evRound
attribute [local irreducible] evStage evRest
set_option maxRecDepth 20000
set_option linter.unusedVariables false
set_option linter.unusedSimpArgs false
theorem okrdD : SpecOK Try.prog 63 rdDS := by
  refine okrd.froze fun args σ K h => ?_
  unfold rdDS at h
  split at h
  rotate_right
  · exact h.elim
  rename_i D P L Q
  obtain ⟨hg, h⟩ := h
  refine ⟨rfl, hg, ?_⟩
  unfold rdK
  cases h1 : (groE D P L Q == 0) with
  | false =>
    have e : resE D P L Q = groE D P L Q := by unfold resE; rw [h1]; rfl
    have ev : resV D P L Q = [] := by unfold resV; rw [e, h1]; rfl
    rw [e, ev] at h
    exact ⟨_, (show frzA [] (.tup [.one .nil, .one (.int .i64 _)]) (.tup [.one (.data (.mat .i64 8 [])), .one (.int .i64 _)]) from ⟨.inr ⟨_, rfl, rfl⟩, frzS_int (σ := []) _ _, trivial⟩), h⟩
  | true =>
    cases h2 : decide ((keptJ Q 0 P.length).length < L.length) with
    | true =>
      have e : resE D P L Q = 28 := by unfold resE; rw [h1, h2]; rfl
      have ev : resV D P L Q = [] := by unfold resV; rw [e]; rfl
      rw [e, ev] at h
      exact ⟨_, (show frzA [] (.tup [.one .nil, .one (.int .i64 _)]) (.tup [.one (.data (.mat .i64 8 [])), .one (.int .i64 _)]) from ⟨.inr ⟨_, rfl, rfl⟩, frzS_int (σ := []) _ _, trivial⟩), h⟩
    | false =>
      cases h3 : (L.all (rowOk (resF D P L (keptJ Q 0 P.length) 8 0 D)) && (keptJ Q 0 P.length).all (parOk (resF D P L (keptJ Q 0 P.length) 8 0 D) P)) with
      | true =>
        have e : resE D P L Q = 0 := by unfold resE; rw [h1, h2, h3]; rfl
        have ev : resV D P L Q = resF D P L (keptJ Q 0 P.length) 8 0 D := by unfold resV; rw [e]; rfl
        rw [e, ev] at h
        exact ⟨_, (show frzA [.row 35 (.mat .i64 8 (resF D P L (keptJ Q 0 P.length) 8 0 D))] (.tup [.one (.own 0 8), .one (.int .i64 _)]) (.tup [.one (.data (.mat .i64 8 _)), .one (.int .i64 _)]) from ⟨⟨_, _, rfl, rfl, rfl⟩, rfl, trivial⟩), h⟩
      | false =>
        have e : resE D P L Q = 13 := by unfold resE; rw [h1, h2, h3]; rfl
        have ev : resV D P L Q = [] := by unfold resV; rw [e]; rfl
        rw [e, ev] at h
        exact ⟨_, (show frzA [] (.tup [.one .nil, .one (.int .i64 _)]) (.tup [.one (.data (.mat .i64 8 [])), .one (.int .i64 _)]) from ⟨.inr ⟨_, rfl, rfl⟩, frzS_int (σ := []) _ _, trivial⟩), h⟩
theorem okparD : SpecOK Try.prog 40 parDS := by
  refine ok40.froze fun args σ K h => ?_
  unfold parDS at h
  split at h
  rotate_right
  · exact h.elim
  rename_i X c
  obtain ⟨hg, h⟩ := h
  refine ⟨rfl, hg, ?_⟩
  cases h1 : (dataE X c == 0) with
  | false =>
    have ev : parV X c = [] := by unfold parV; rw [h1]; rfl
    rw [ev] at h
    exact ⟨_, (show frzA [] (.tup [.one .nil, .one (.int .i64 _)]) (.tup [.one (.data (.mat .i64 8 [])), .one (.int .i64 _)]) from ⟨.inr ⟨_, rfl, rfl⟩, frzS_int (σ := []) _ _, trivial⟩), h⟩
  | true =>
    have e0 : dataE X c = 0 := eq_of_beq h1
    have ev : parV X c = parM X c := by unfold parV; rw [h1]; rfl
    rw [ev, e0] at h
    exact ⟨_, (show frzA [.row 35 (.mat .i64 8 (parM X c))] (.tup [.one (.own 0 8), .one (.int .i64 _)]) (.tup [.one (.data (.mat .i64 8 _)), .one (.int .i64 _)]) from ⟨⟨_, _, rfl, rfl, rfl⟩, rfl, trivial⟩), h⟩
theorem ok44z : SpecOK Try.prog 44 dataErr0S := by
  refine specOK (n := 30) (m := 0) (lps := [(6, .spec [0, 1, 5] [1, 4] dataErrL)]) (.cons ok29 (.cons ok25 .nil)) Try.func44 (by kernel_rfl) (by kernel_rfl) (theLoops (n := 1) (by kernel_rfl) fun i hi => ?_) fun args σ K h => ?_
  · match i, hi with
    | 0, _ => exact loopHyp_of (key := 6) (by kernel_rfl) rfl lok44
  · unfold dataErr0S at h
    split at h
    · rename_i xss c
      rw [ex44 xss c K]
      obtain ⟨h8, h⟩ := h
      unfold dataE withinG at h
      by_cases c1 : (xss.length : Int) > 0
      · have e1 : ((xss.length : Int) == 0) = false := beq_eq_false_iff_ne.2 (by omega)
        by_cases c2 : (xss.length : Int) ≤ 12
        · have e2 : ¬ (xss.length : Int) > 12 := by omega
          simp only [e1, e2, decide_false, cond_false]
          simp only [c1, c2, decide_true, cond_true] at h
          refine ⟨⟨by omega, by decide, h8⟩, ?_⟩
          generalize xss.all okRow = a at *
          generalize (decide (1 ≤ c) && decide (c ≤ 4)) = b at *
          cases a <;> cases b <;> exact h
        · have e2 : (xss.length : Int) > 12 := by omega
          simp only [e1, e2, decide_true, cond_true, cond_false]
          simp only [c1, c2, decide_true, decide_false, cond_true, cond_false] at h
          exact h
      · have e1 : ((xss.length : Int) == 0) = true := beq_iff_eq.2 (by omega)
        simp only [e1, cond_true]
        simp only [c1, decide_false, cond_false] at h
        exact h
    · exact h.elim
theorem lostJ_step {x i n : Int} (h : i < n) : lostJ x i (n - i).toNat = bif bitB x i then i :: lostJ x (i + 1) (n - (i + 1)).toNat else lostJ x (i + 1) (n - (i + 1)).toNat := by
  rw [show (n - i).toNat = (n - (i + 1)).toNat + 1 by omega]; rfl
theorem thereJ_step {x i n : Int} (h : i < n) : thereJ x i (n - i).toNat = bif bitB x i then thereJ x (i + 1) (n - (i + 1)).toNat else i :: thereJ x (i + 1) (n - (i + 1)).toNat := by
  rw [show (n - i).toNat = (n - (i + 1)).toNat + 1 by omega]; rfl
theorem markJ_step {x i n : Int} {row : List Int} {D : List (List Int)} (h : i < n) : markJ x row i (n - i).toNat D = markJ x row (i + 1) (n - (i + 1)).toNat (bif bitB x i then D.set i.toNat row else D) := by
  rw [show (n - i).toNat = (n - (i + 1)).toNat + 1 by omega]; rfl
theorem set_len8 {O : List (List Int)} {x : Nat} {r : List Int} (h : O.all len8 = true) (hr : len8 r = true) : (O.set x r).all len8 = true := by
  rw [List.all_eq_true]
  intro y hy
  rcases List.mem_or_eq_of_mem_set hy with e | e
  · exact List.all_eq_true.1 h y e
  · rw [e]; exact hr
theorem alllr : AllOK Try.prog slr := (.cons ok15 (.cons ok44z (.cons ok41 (.cons okparD (.cons okcgr (.cons okrdD (.cons ok45 (.cons ok26 (.cons ok25 .nil)))))))))
theorem loklr_0 {l1 : LoopBy} : LoopOK (ElrM l1 4) (lb Try.f14 0) [0, 5, 9, 11] [] rlA := by
  refine loopOK alllr (noInner (by kernel_rfl)) (fun vs σ => match vs, σ with
    | [.one (.data (.mat .i64 8 X)), _, _, .one (.int .i64 i)], _ => ((X.length : Int) - i).toNat
    | _, _ => 0) fun vs σ k h => ?_
  unfold rlA at h
  split at h
  rotate_right
  · exact h.elim
  · rw [exlrl0a]
    rename_i X i x0 x1 x2 x3 x4 D P
    obtain ⟨⟨h1, h2, h8, hi0, hi1⟩, h⟩ := h
    by_cases hi : i < (X.length : Int)
    · have hw : IntKind.i64.wrap (i + 1) = i + 1 := wrap_id (by omega) (by omega)
      rw [decide_eq_true hi, cond_true, decide_eq_false (show ¬ i < 0 by omega), Bool.not_false, cond_true, hw]
      show bif bitB x0 i then _ else _
      rw [lostJ_step hi, markJ_step hi] at h
      cases hb : bitB x0 i with
      | true =>
        rw [hb] at h
        simp only [cond_true, List.isEmpty_cons, cond_false] at h
        rw [cond_true]
        refine condI (and2 (decide_eq_true hi0) (decide_eq_true (by omega))) (condI (decide_eq_true (by omega)) ?_)
        exact ⟨⟨⟨h1, by rw [List.length_set]; exact h2, set_len8 h8 rfl, by omega, by omega, by show 1 ≤ i + 1; omega⟩, h⟩, by show ((X.length : Int) - (i + 1)).toNat < ((X.length : Int) - i).toNat; omega⟩
      | false =>
        rw [hb] at h
        rw [cond_false]
        exact ⟨⟨⟨h1, h2, h8, by omega, by omega⟩, h⟩, by show ((X.length : Int) - (i + 1)).toNat < ((X.length : Int) - i).toNat; omega⟩
    · rw [decide_eq_false hi]
      rw [show ((X.length : Int) - i).toNat = 0 by omega] at h
      exact h
  · rw [exlrl0b]
    rename_i X i x0 x1 x2 x3 x4 D P S
    obtain ⟨⟨h1, h2, h8, hi0, hi1, hS⟩, h⟩ := h
    by_cases hi : i < (X.length : Int)
    · have hw : IntKind.i64.wrap (i + 1) = i + 1 := wrap_id (by omega) (by omega)
      rw [decide_eq_true hi, cond_true, decide_eq_false (show ¬ i < 0 by omega), Bool.not_false, cond_true, hw]
      show bif bitB x0 i then _ else _
      rw [lostJ_step hi, markJ_step hi] at h
      cases hb : bitB x0 i with
      | true =>
        rw [hb] at h
        simp only [cond_true] at h
        rw [List.append_cons] at h
        rw [cond_true]
        have hl : (S ++ [i]).length = S.length + 1 := by simp
        refine condI (by rw [hl]; exact decide_eq_true (by omega)) (condI (and2 (decide_eq_true hi0) (decide_eq_true (by omega))) (condI (decide_eq_true (by omega)) ?_))
        exact ⟨⟨⟨h1, by rw [List.length_set]; exact h2, set_len8 h8 rfl, by omega, by omega, by rw [hl]; omega⟩, h⟩, by show ((X.length : Int) - (i + 1)).toNat < ((X.length : Int) - i).toNat; omega⟩
      | false =>
        rw [hb] at h
        rw [cond_false]
        exact ⟨⟨⟨h1, h2, h8, by omega, by omega, by omega⟩, h⟩, by show ((X.length : Int) - (i + 1)).toNat < ((X.length : Int) - i).toNat; omega⟩
    · rw [decide_eq_false hi]
      rw [show ((X.length : Int) - i).toNat = 0 by omega] at h
      unfold lostJ markJ at h
      rw [List.append_nil] at h
      exact h
theorem loklrA : LoopOK (ElrM lrA 4) (lb Try.f14 1) [1, 5, 9, 10, 12] [10] rlBA := by
  refine loopOK alllr (noInner (by kernel_rfl)) (fun vs σ => match vs, σ with
    | [.one (.int .i64 c), _, _, _, .one (.int .i64 j)], _ => (c - j).toNat
    | _, _ => 0) fun vs σ k h => ?_
  unfold rlBA at h
  split at h
  rotate_right
  · exact h.elim
  · rw [exlrAa]
    rename_i c j x0 x1 x2 x3 x4 D P
    obtain ⟨⟨rfl, hp4, h8, hj0, hj1⟩, h⟩ := h
    by_cases hj : j < (P.length : Int)
    · have hw : IntKind.i64.wrap (j + 1) = j + 1 := wrap_id (by omega) (by omega)
      rw [decide_eq_true hj, cond_true, decide_eq_false (show ¬ j < 0 by omega), Bool.not_false, cond_true, hw]
      show bif bitB x1 j then _ else _
      rw [lostJ_step hj, thereJ_step hj, markJ_step hj] at h
      cases hb : bitB x1 j with
      | true =>
        rw [hb] at h
        simp only [cond_true, cond_false, List.isEmpty_cons] at h
        rw [cond_true]
        refine (condI (and2 (decide_eq_true hj0) rfl) (condI (decide_eq_true (by omega)) ?_))
        exact ⟨⟨⟨by rw [List.length_set], by rw [List.length_set]; exact hp4, set_len8 h8 rfl, by omega, by omega, by show 1 ≤ j + 1; omega⟩, h⟩, by show ((P.length : Int) - (j + 1)).toNat < ((P.length : Int) - j).toNat; omega⟩
      | false =>
        rw [hb] at h
        simp only [cond_true, cond_false, List.isEmpty_cons] at h
        rw [cond_false]
        exact ⟨⟨⟨rfl, hp4, h8, by omega, by omega, by show 1 ≤ j + 1; omega⟩, h⟩, by show ((P.length : Int) - (j + 1)).toNat < ((P.length : Int) - j).toNat; omega⟩
    · rw [decide_eq_false hj]
      rw [show ((P.length : Int) - j).toNat = 0 by omega] at h
      unfold lostJ thereJ markJ at h
      exact h
  · rw [exlrAb]
    rename_i c j x0 x1 x2 x3 x4 D P S
    obtain ⟨⟨rfl, hp4, h8, hj0, hj1, hS⟩, h⟩ := h
    by_cases hj : j < (P.length : Int)
    · have hw : IntKind.i64.wrap (j + 1) = j + 1 := wrap_id (by omega) (by omega)
      rw [decide_eq_true hj, cond_true, decide_eq_false (show ¬ j < 0 by omega), Bool.not_false, cond_true, hw]
      show bif bitB x1 j then _ else _
      rw [lostJ_step hj, thereJ_step hj, markJ_step hj] at h
      cases hb : bitB x1 j with
      | true =>
        rw [hb] at h
        simp only [cond_true, cond_false, List.isEmpty_cons] at h
        rw [cond_true]
        refine (condI (and2 (decide_eq_true hj0) rfl) (condI (decide_eq_true (by omega)) ?_))
        exact ⟨⟨⟨by rw [List.length_set], by rw [List.length_set]; exact hp4, set_len8 h8 rfl, by omega, by omega, by show 1 ≤ j + 1; omega, by omega⟩, h⟩, by show ((P.length : Int) - (j + 1)).toNat < ((P.length : Int) - j).toNat; omega⟩
      | false =>
        rw [hb] at h
        simp only [cond_true, cond_false, List.isEmpty_cons] at h
        rw [cond_false]
        rw [List.append_cons] at h
        have hl : (S ++ [j]).length = S.length + 1 := by simp
        refine (condI (by rw [hl]; exact decide_eq_true (by omega)) ?_)
        exact ⟨⟨⟨rfl, hp4, h8, by omega, by omega, by rw [hl]; omega⟩, h⟩, by show ((P.length : Int) - (j + 1)).toNat < ((P.length : Int) - j).toNat; omega⟩
    · rw [decide_eq_false hj]
      rw [show ((P.length : Int) - j).toNat = 0 by omega] at h
      unfold lostJ thereJ markJ at h
      simp only [List.append_nil] at h
      exact h
  · rw [exlrAc]
    rename_i c j x0 x1 x2 x3 x4 D P U
    obtain ⟨⟨rfl, hp4, h8, hj0, hj1, hU⟩, h⟩ := h
    by_cases hj : j < (P.length : Int)
    · have hw : IntKind.i64.wrap (j + 1) = j + 1 := wrap_id (by omega) (by omega)
      rw [decide_eq_true hj, cond_true, decide_eq_false (show ¬ j < 0 by omega), Bool.not_false, cond_true, hw]
      show bif bitB x1 j then _ else _
      rw [lostJ_step hj, thereJ_step hj, markJ_step hj] at h
      cases hb : bitB x1 j with
      | true =>
        rw [hb] at h
        simp only [cond_true, cond_false, List.isEmpty_cons] at h
        rw [cond_true]
        rw [List.append_cons] at h
        have hl : (U ++ [j]).length = U.length + 1 := by simp
        refine (condI (by rw [hl]; exact decide_eq_true (by omega)) (condI (and2 (decide_eq_true hj0) rfl) (condI (decide_eq_true (by omega)) ?_)))
        exact ⟨⟨⟨by rw [List.length_set], by rw [List.length_set]; exact hp4, set_len8 h8 rfl, by omega, by omega, by rw [hl]; omega⟩, h⟩, by show ((P.length : Int) - (j + 1)).toNat < ((P.length : Int) - j).toNat; omega⟩
      | false =>
        rw [hb] at h
        simp only [cond_true, cond_false, List.isEmpty_cons] at h
        rw [cond_false]
        exact ⟨⟨⟨rfl, hp4, h8, by omega, by omega, by omega, by show 1 ≤ j + 1; omega⟩, h⟩, by show ((P.length : Int) - (j + 1)).toNat < ((P.length : Int) - j).toNat; omega⟩
    · rw [decide_eq_false hj]
      rw [show ((P.length : Int) - j).toNat = 0 by omega] at h
      unfold lostJ thereJ markJ at h
      simp only [List.append_nil] at h
      exact h
  · rw [exlrAd]
    rename_i c j x0 x1 x2 x3 x4 D P U S
    obtain ⟨⟨rfl, hp4, h8, hj0, hj1, hU, hS⟩, h⟩ := h
    by_cases hj : j < (P.length : Int)
    · have hw : IntKind.i64.wrap (j + 1) = j + 1 := wrap_id (by omega) (by omega)
      rw [decide_eq_true hj, cond_true, decide_eq_false (show ¬ j < 0 by omega), Bool.not_false, cond_true, hw]
      show bif bitB x1 j then _ else _
      rw [lostJ_step hj, thereJ_step hj, markJ_step hj] at h
      cases hb : bitB x1 j with
      | true =>
        rw [hb] at h
        simp only [cond_true, cond_false, List.isEmpty_cons] at h
        rw [cond_true]
        rw [List.append_cons] at h
        have hl : (U ++ [j]).length = U.length + 1 := by simp
        refine (condI (by rw [hl]; exact decide_eq_true (by omega)) (condI (and2 (decide_eq_true hj0) rfl) (condI (decide_eq_true (by omega)) ?_)))
        exact ⟨⟨⟨by rw [List.length_set], by rw [List.length_set]; exact hp4, set_len8 h8 rfl, by omega, by omega, by rw [hl]; omega, by omega⟩, h⟩, by show ((P.length : Int) - (j + 1)).toNat < ((P.length : Int) - j).toNat; omega⟩
      | false =>
        rw [hb] at h
        simp only [cond_true, cond_false, List.isEmpty_cons] at h
        rw [cond_false]
        rw [List.append_cons] at h
        have hl : (S ++ [j]).length = S.length + 1 := by simp
        refine (condI (by rw [hl]; exact decide_eq_true (by omega)) ?_)
        exact ⟨⟨⟨rfl, hp4, h8, by omega, by omega, by omega, by rw [hl]; omega⟩, h⟩, by show ((P.length : Int) - (j + 1)).toNat < ((P.length : Int) - j).toNat; omega⟩
    · rw [decide_eq_false hj]
      rw [show ((P.length : Int) - j).toNat = 0 by omega] at h
      unfold lostJ thereJ markJ at h
      simp only [List.append_nil] at h
      exact h
theorem loklrB : LoopOK (ElrM lrB 5) (lb Try.f14 1) [1, 5, 9, 10, 12] [10] rlBB := by
  refine loopOK alllr (noInner (by kernel_rfl)) (fun vs σ => match vs, σ with
    | [.one (.int .i64 c), _, _, _, .one (.int .i64 j)], _ => (c - j).toNat
    | _, _ => 0) fun vs σ k h => ?_
  unfold rlBB at h
  split at h
  rotate_right
  · exact h.elim
  · split at h
    rotate_right
    · exact h.elim
    · rw [exlrBa]
      rename_i c j sg x0 x1 x2 x3 x4 D P L
      obtain ⟨⟨rfl, hp4, h8, hj0, hj1⟩, h⟩ := h
      by_cases hj : j < (P.length : Int)
      · have hw : IntKind.i64.wrap (j + 1) = j + 1 := wrap_id (by omega) (by omega)
        rw [decide_eq_true hj, cond_true, decide_eq_false (show ¬ j < 0 by omega), Bool.not_false, cond_true, hw]
        show bif bitB x1 j then _ else _
        rw [lostJ_step hj, thereJ_step hj, markJ_step hj] at h
        cases hb : bitB x1 j with
        | true =>
          rw [hb] at h
          simp only [cond_true, cond_false, List.isEmpty_cons] at h
          rw [cond_true]
          refine (condI (and2 (decide_eq_true hj0) rfl) (condI (decide_eq_true (by omega)) ?_))
          exact ⟨⟨⟨by rw [List.length_set], by rw [List.length_set]; exact hp4, set_len8 h8 rfl, by omega, by omega, by show 1 ≤ j + 1; omega⟩, h⟩, by show ((P.length : Int) - (j + 1)).toNat < ((P.length : Int) - j).toNat; omega⟩
        | false =>
          rw [hb] at h
          simp only [cond_true, cond_false, List.isEmpty_cons] at h
          rw [cond_false]
          exact ⟨⟨⟨rfl, hp4, h8, by omega, by omega, by show 1 ≤ j + 1; omega⟩, h⟩, by show ((P.length : Int) - (j + 1)).toNat < ((P.length : Int) - j).toNat; omega⟩
      · rw [decide_eq_false hj]
        rw [show ((P.length : Int) - j).toNat = 0 by omega] at h
        unfold lostJ thereJ markJ at h
        exact h
    · rw [exlrBc]
      rename_i c j sg x0 x1 x2 x3 x4 D P L U
      obtain ⟨⟨rfl, hp4, h8, hj0, hj1, hU⟩, h⟩ := h
      by_cases hj : j < (P.length : Int)
      · have hw : IntKind.i64.wrap (j + 1) = j + 1 := wrap_id (by omega) (by omega)
        rw [decide_eq_true hj, cond_true, decide_eq_false (show ¬ j < 0 by omega), Bool.not_false, cond_true, hw]
        show bif bitB x1 j then _ else _
        rw [lostJ_step hj, thereJ_step hj, markJ_step hj] at h
        cases hb : bitB x1 j with
        | true =>
          rw [hb] at h
          simp only [cond_true, cond_false, List.isEmpty_cons] at h
          rw [cond_true]
          rw [List.append_cons] at h
          have hl : (U ++ [j]).length = U.length + 1 := by simp
          refine (condI (by rw [hl]; exact decide_eq_true (by omega)) (condI (and2 (decide_eq_true hj0) rfl) (condI (decide_eq_true (by omega)) ?_)))
          exact ⟨⟨⟨by rw [List.length_set], by rw [List.length_set]; exact hp4, set_len8 h8 rfl, by omega, by omega, by rw [hl]; omega⟩, h⟩, by show ((P.length : Int) - (j + 1)).toNat < ((P.length : Int) - j).toNat; omega⟩
        | false =>
          rw [hb] at h
          simp only [cond_true, cond_false, List.isEmpty_cons] at h
          rw [cond_false]
          exact ⟨⟨⟨rfl, hp4, h8, by omega, by omega, by omega, by show 1 ≤ j + 1; omega⟩, h⟩, by show ((P.length : Int) - (j + 1)).toNat < ((P.length : Int) - j).toNat; omega⟩
      · rw [decide_eq_false hj]
        rw [show ((P.length : Int) - j).toNat = 0 by omega] at h
        unfold lostJ thereJ markJ at h
        simp only [List.append_nil] at h
        exact h
  · split at h
    rotate_right
    · exact h.elim
    · rw [exlrBb]
      rename_i c j sg x0 x1 x2 x3 x4 D P L S
      obtain ⟨⟨rfl, hp4, h8, hj0, hj1, hS⟩, h⟩ := h
      by_cases hj : j < (P.length : Int)
      · have hw : IntKind.i64.wrap (j + 1) = j + 1 := wrap_id (by omega) (by omega)
        rw [decide_eq_true hj, cond_true, decide_eq_false (show ¬ j < 0 by omega), Bool.not_false, cond_true, hw]
        show bif bitB x1 j then _ else _
        rw [lostJ_step hj, thereJ_step hj, markJ_step hj] at h
        cases hb : bitB x1 j with
        | true =>
          rw [hb] at h
          simp only [cond_true, cond_false, List.isEmpty_cons] at h
          rw [cond_true]
          refine (condI (and2 (decide_eq_true hj0) rfl) (condI (decide_eq_true (by omega)) ?_))
          exact ⟨⟨⟨by rw [List.length_set], by rw [List.length_set]; exact hp4, set_len8 h8 rfl, by omega, by omega, by show 1 ≤ j + 1; omega, by omega⟩, h⟩, by show ((P.length : Int) - (j + 1)).toNat < ((P.length : Int) - j).toNat; omega⟩
        | false =>
          rw [hb] at h
          simp only [cond_true, cond_false, List.isEmpty_cons] at h
          rw [cond_false]
          rw [List.append_cons] at h
          have hl : (S ++ [j]).length = S.length + 1 := by simp
          refine (condI (by rw [hl]; exact decide_eq_true (by omega)) ?_)
          exact ⟨⟨⟨rfl, hp4, h8, by omega, by omega, by rw [hl]; omega⟩, h⟩, by show ((P.length : Int) - (j + 1)).toNat < ((P.length : Int) - j).toNat; omega⟩
      · rw [decide_eq_false hj]
        rw [show ((P.length : Int) - j).toNat = 0 by omega] at h
        unfold lostJ thereJ markJ at h
        simp only [List.append_nil] at h
        exact h
  · split at h
    rotate_right
    · exact h.elim
    · rw [exlrBd]
      rename_i c j sg x0 x1 x2 x3 x4 D P L U S
      obtain ⟨⟨rfl, hp4, h8, hj0, hj1, hU, hS⟩, h⟩ := h
      by_cases hj : j < (P.length : Int)
      · have hw : IntKind.i64.wrap (j + 1) = j + 1 := wrap_id (by omega) (by omega)
        rw [decide_eq_true hj, cond_true, decide_eq_false (show ¬ j < 0 by omega), Bool.not_false, cond_true, hw]
        show bif bitB x1 j then _ else _
        rw [lostJ_step hj, thereJ_step hj, markJ_step hj] at h
        cases hb : bitB x1 j with
        | true =>
          rw [hb] at h
          simp only [cond_true, cond_false, List.isEmpty_cons] at h
          rw [cond_true]
          rw [List.append_cons] at h
          have hl : (U ++ [j]).length = U.length + 1 := by simp
          refine (condI (by rw [hl]; exact decide_eq_true (by omega)) (condI (and2 (decide_eq_true hj0) rfl) (condI (decide_eq_true (by omega)) ?_)))
          exact ⟨⟨⟨by rw [List.length_set], by rw [List.length_set]; exact hp4, set_len8 h8 rfl, by omega, by omega, by rw [hl]; omega, by omega⟩, h⟩, by show ((P.length : Int) - (j + 1)).toNat < ((P.length : Int) - j).toNat; omega⟩
        | false =>
          rw [hb] at h
          simp only [cond_true, cond_false, List.isEmpty_cons] at h
          rw [cond_false]
          rw [List.append_cons] at h
          have hl : (S ++ [j]).length = S.length + 1 := by simp
          refine (condI (by rw [hl]; exact decide_eq_true (by omega)) ?_)
          exact ⟨⟨⟨rfl, hp4, h8, by omega, by omega, by omega, by rw [hl]; omega⟩, h⟩, by show ((P.length : Int) - (j + 1)).toNat < ((P.length : Int) - j).toNat; omega⟩
      · rw [decide_eq_false hj]
        rw [show ((P.length : Int) - j).toNat = 0 by omega] at h
        unfold lostJ thereJ markJ at h
        simp only [List.append_nil] at h
        exact h
theorem modB_rng (x : Int) {b : Int} (h0 : 0 < b) (h1 : b ≤ 1000000) : 0 ≤ modB x b ∧ modB x b < b := by
  unfold modB
  have e : x.tmod b = if 0 ≤ x then x % b else -((-x) % b) := by
    split
    · exact Int.tmod_eq_emod_of_nonneg (by assumption)
    · rw [← Int.tmod_eq_emod_of_nonneg (by omega), Int.neg_tmod, Int.neg_neg]
  have m1 := Int.emod_nonneg x (show b ≠ 0 by omega)
  have m2 := Int.emod_lt_of_pos x h0
  have m3 := Int.emod_nonneg (-x) (show b ≠ 0 by omega)
  have m4 := Int.emod_lt_of_pos (-x) h0
  by_cases hn : x.tmod b < 0
  · rw [decide_eq_true hn, cond_true]
    have hw : wi (x.tmod b + b) = x.tmod b + b := wrap_id (by split at e <;> omega) (by split at e <;> omega)
    rw [hw]
    split at e <;> omega
  · rw [decide_eq_false hn, cond_false]
    split at e <;> omega
structure Tail (X D P : List (List Int)) (c : Int) (L U S : List Int) : Prop where
  g : okG D P L U
  x8 : X.all len8 = true
  x12 : X.length ≤ 12
  s4 : S.length ≤ 4
  h1 : S.length < L.length → resE D P L U = 28 ∧ resV D P L U = []
  h2 : L.length ≤ S.length → resE D P L U = 0 ∧ resV D P L U = X
  h3 : ∀ q ∈ S, 0 ≤ q ∧ q < P.length ∧ resRow (P.getD q.toNat []) = true
  l8 : ∀ q ∈ S, (P.getD q.toNat []).length = 8
  h4 : L.length < S.length → ∀ q ∈ S, ∀ k, k < 8 → ∀ v, 0 ≤ v → v < 65537 → v ≠ (P.getD q.toNat []).getD k 0 → okG D (P.set q.toNat ((P.getD q.toNat []).set k v)) L U ∧ resE D (P.set q.toNat ((P.getD q.toNat []).set k v)) L U = 13 ∧ resV D (P.set q.toNat ((P.getD q.toNat []).set k v)) L U = []
theorem lostJ_mem (x : Int) : ∀ (c : Nat) (j y : Int), y ∈ lostJ x j c ↔ j ≤ y ∧ y < j + c ∧ bitB x y = true
  | 0, j, y => by simp [lostJ]; omega
  | c + 1, j, y => by
    unfold lostJ
    cases hb : bitB x j with
    | true =>
      rw [cond_true, List.mem_cons, lostJ_mem x c (j + 1) y]
      constructor
      · rintro (rfl | ⟨h1, h2, h3⟩)
        · exact ⟨by omega, by omega, hb⟩
        · exact ⟨by omega, by omega, h3⟩
      · rintro ⟨h1, h2, h3⟩
        by_cases e : y = j
        · exact .inl e
        · exact .inr ⟨by omega, by omega, h3⟩
    | false =>
      rw [cond_false, lostJ_mem x c (j + 1) y]
      constructor
      · rintro ⟨h1, h2, h3⟩
        exact ⟨by omega, by omega, h3⟩
      · rintro ⟨h1, h2, h3⟩
        have : y ≠ j := fun e => by rw [e, hb] at h3; cases h3
        exact ⟨by omega, by omega, h3⟩
theorem lostJ_lost (x : Int) : ∀ (c : Nat) (j last : Int), 0 ≤ j → last < j → lostF (j + c) last (lostJ x j c) = 0
  | 0, _, _, _, _ => rfl
  | c + 1, j, last, h0, hl => by
    unfold lostJ
    have e : j + ((c + 1 : Nat) : Int) = (j + 1) + (c : Int) := by omega
    cases bitB x j with
    | false => rw [cond_false, e]; exact lostJ_lost x c (j + 1) last (by omega) (by omega)
    | true =>
      rw [cond_true]
      unfold lostF withinG
      rw [decide_eq_true h0, decide_eq_true (show j ≤ j + ((c + 1 : Nat) : Int) - 1 by omega), decide_eq_true (show j > last from hl), e]
      exact lostJ_lost x c (j + 1) j (by omega) (by omega)
theorem lostJ_len (x : Int) : ∀ (c : Nat) (j : Int), (lostJ x j c).length ≤ c
  | 0, _ => Nat.le_refl _
  | c + 1, j => by
    unfold lostJ
    have := lostJ_len x c (j + 1)
    cases bitB x j with
    | true => rw [cond_true, List.length_cons]; omega
    | false => rw [cond_false]; omega
theorem kept_there (x : Int) (Q : List Int) : ∀ (c : Nat) (j : Int), (∀ y, j ≤ y → y < j + c → memB y Q = bitB x y) → keptJ Q j c = thereJ x j c
  | 0, _, _ => rfl
  | c + 1, j, h => by
    unfold keptJ thereJ
    rw [h j (by omega) (by omega), kept_there x Q c (j + 1) (fun y h1 h2 => h y (by omega) (by omega))]
theorem kept_lost (x : Int) (c : Nat) : keptJ (lostJ x 0 c) 0 c = thereJ x 0 c := by
  refine kept_there x _ c 0 fun y h1 h2 => ?_
  cases hb : bitB x y with
  | true => exact Pl.memB_iff.2 ((lostJ_mem x c 0 y).2 ⟨h1, h2, hb⟩)
  | false => exact Pl.memB_no fun hm => by have := ((lostJ_mem x c 0 y).1 hm).2.2; rw [hb] at this; cases this
theorem there_ne (x : Int) {c : Nat} (hc : 0 < c) (h : lostJ x 0 c = []) : thereJ x 0 c ≠ [] := by
  cases c with
  | zero => omega
  | succ c =>
    unfold lostJ at h
    unfold thereJ
    cases hb : bitB x 0 with
    | true => rw [hb] at h; cases h
    | false => rw [cond_false]; simp
theorem mark_len (x : Int) (row : List Int) : ∀ (c : Nat) (j : Int) (D : List (List Int)), (markJ x row j c D).length = D.length
  | 0, _, _ => rfl
  | c + 1, j, D => by
    unfold markJ
    rw [mark_len x row c (j + 1)]
    cases bitB x j with
    | true => exact List.length_set ..
    | false => rfl
theorem mark_len8 (x : Int) (row : List Int) (hr : len8 row = true) : ∀ (c : Nat) (j : Int) (D : List (List Int)), D.all len8 = true → (markJ x row j c D).all len8 = true
  | 0, _, _, h => h
  | c + 1, j, D, h => by
    unfold markJ
    refine mark_len8 x row hr c (j + 1) _ ?_
    cases bitB x j with
    | true => exact set_len8 h hr
    | false => exact h
theorem mark_none {x : Int} (row : List Int) : ∀ (c : Nat) (j : Int) (D : List (List Int)), lostJ x j c = [] → markJ x row j c D = D
  | 0, _, _, _ => rfl
  | c + 1, j, D, h => by
    unfold lostJ at h
    unfold markJ
    cases hb : bitB x j with
    | true => rw [hb] at h; cases h
    | false =>
      rw [hb, cond_false] at h
      rw [cond_false]
      exact mark_none row c (j + 1) D h
theorem mark_get (x : Int) (row : List Int) : ∀ (c : Nat) (j : Int) (D : List (List Int)), 0 ≤ j → j + c ≤ D.length → ∀ k : Nat, ¬ (j ≤ (k : Int) ∧ (k : Int) < j + c ∧ bitB x (k : Int) = true) → (markJ x row j c D).getD k [] = D.getD k []
  | 0, _, _, _, _, _, _ => rfl
  | c + 1, j, D, h0, hl, k, hk => by
    unfold markJ
    have hl2 : (bif bitB x j then D.set j.toNat row else D).length = D.length := by cases bitB x j <;> simp
    rw [mark_get x row c (j + 1) _ (by omega) (by rw [hl2]; omega) k (fun q => hk ⟨by omega, by omega, q.2.2⟩)]
    cases hb : bitB x j with
    | false => rfl
    | true =>
      rw [cond_true, Pl.getD_set (by omega), if_neg]
      intro e
      exact hk ⟨by omega, by omega, by rw [show (k : Int) = j by omega]; exact hb⟩
theorem dataE_all {X : List (List Int)} {c : Int} (h : dataE X c = 0) : 0 < X.length ∧ X.length ≤ 12 ∧ X.all okRow = true ∧ 1 ≤ c ∧ c ≤ 4 := dataE_ok (by rw [h]; rfl)
theorem rows_get (X : List (List Int)) : ∀ (c : Nat) (j : Int) (k : Nat), k < c → (rowsF X j c).getD k [] = colsF X (j + k) 0 8
  | 0, _, _, h => by omega
  | c + 1, j, 0, _ => by rw [show j + ((0 : Nat) : Int) = j by omega]; rfl
  | c + 1, j, k + 1, h => by
    rw [show j + ((k + 1 : Nat) : Int) = (j + 1) + (k : Int) by omega, ← rows_get X c (j + 1) k (by omega)]
    rfl
theorem cols_get (X : List (List Int)) (j : Int) : ∀ (c a k : Nat), k < c → (colsF X j a c).getD k 0 = parR [] j (a + k) 0 0 X
  | 0, _, _, h => by omega
  | c + 1, a, 0, _ => rfl
  | c + 1, a, k + 1, h => by
    rw [show a + (k + 1) = (a + 1) + k by omega, ← cols_get X j c (a + 1) k (by omega)]
    rfl
theorem parFr_iff (O P : List (List Int)) (j : Int) : ∀ (f s : Nat), parFr O P j f s = true ↔ ∀ k, s ≤ k → k < s + f → parR [] j k 0 0 O = (P.getD j.toNat []).getD k 0
  | 0, s => by unfold parFr; constructor <;> intro _ <;> first | (intro k h1 h2; omega) | rfl
  | f + 1, s => by
    unfold parFr parAt
    rw [Bool.and_eq_true, parFr_iff O P j f (s + 1), beq_iff_eq]
    constructor
    · rintro ⟨h1, h2⟩ k h3 h4
      by_cases e : k = s
      · rw [e]; exact h1
      · exact h2 k (by omega) (by omega)
    · intro h
      exact ⟨h s (by omega) (by omega), fun k h1 h2 => h k (by omega) (by omega)⟩
theorem parOk_iff {O P : List (List Int)} {j : Int} : parOk O P j = true ↔ ∀ k, k < 8 → parR [] j k 0 0 O = (P.getD j.toNat []).getD k 0 := by
  unfold parOk
  rw [parFr_iff]
  exact ⟨fun h k hk => h k (by omega) (by omega), fun h k _ hk => h k (by omega)⟩
theorem keptB_all {L : List Int} : ∀ {l : List (List Int)} {i : Int}, (∀ k : Nat, k < l.length → memB (i + k) L = false → okRow (l.getD k []) = true) → keptB L i l = true
  | [], _, _ => rfl
  | xs :: l, i, h => by
    unfold keptB
    rw [Bool.and_eq_true]
    refine ⟨?_, keptB_all fun k hk hm => h (k + 1) (by simpa using hk) (by rw [show i + ((k + 1 : Nat) : Int) = i + 1 + (k : Int) by omega]; exact hm)⟩
    cases hm : memB i L with
    | true => rfl
    | false => exact h 0 (by simp) (by rw [show i + ((0 : Nat) : Int) = i by omega]; exact hm)
theorem keptR_all {L : List Int} : ∀ {l : List (List Int)} {i : Int}, (∀ k : Nat, k < l.length → memB (i + k) L = false → resRow (l.getD k []) = true) → keptR L i l = true
  | [], _, _ => rfl
  | xs :: l, i, h => by
    unfold keptR
    rw [Bool.and_eq_true]
    refine ⟨?_, keptR_all fun k hk hm => h (k + 1) (by simpa using hk) (by rw [show i + ((k + 1 : Nat) : Int) = i + 1 + (k : Int) by omega]; exact hm)⟩
    cases hm : memB i L with
    | true => rfl
    | false => exact h 0 (by simp) (by rw [show i + ((0 : Nat) : Int) = i by omega]; exact hm)
theorem gro_of {D P : List (List Int)} {L Q : List Int} (g : Gro D P L Q) : groE D P L Q = 0 := by
  have hd0 := g.d0
  have hd1 := g.d1
  have hp0 := g.p0
  have hp1 := g.p1
  unfold groE
  rw [decide_eq_true (show (D.length : Int) > 0 by omega), decide_eq_true (show (P.length : Int) > 0 by omega), decide_eq_true (show (D.length : Int) ≤ 12 by omega), decide_eq_true (show (P.length : Int) ≤ 4 by omega), g.lL, g.lQ, g.kb, g.kr]
  rfl
structure Grp (X D P : List (List Int)) (L U S : List Int) : Prop where
  g : okG D P L U
  gr : Gro D P L U
  x8 : X.all len8 = true
  xo : X.all okRow = true
  out : Pl.sameOut L D X
  kep : keptJ U 0 P.length = S
  par : ∀ q ∈ S, ∀ k, k < 8 → (P.getD q.toNat []).getD k 0 = parR [] q k 0 0 X
theorem Grp.sS {X D P : List (List Int)} {L U S : List Int} (h : Grp X D P L U S) : lostF 4 (-1) S = 0 := by
  have := h.gr.p1
  rw [← h.kep]
  refine Pl.lost_wider (show (P.length : Int) ≤ 4 by omega) ?_
  have := keptJ_lost U P.length 0 (-1) (by decide) (by decide)
  rw [Int.zero_add] at this
  exact this
theorem Grp.s4 {X D P : List (List Int)} {L U S : List Int} (h : Grp X D P L U S) : S.length ≤ 4 := by
  have := keptJ_len U P.length 0
  have := h.gr.p1
  rw [← h.kep]; omega
theorem Grp.lost {X D P : List (List Int)} {L U S : List Int} (h : Grp X D P L U S) (hl : S.length < L.length) : resE D P L U = 28 ∧ resV D P L U = [] := by
  have e : resE D P L U = 28 := by
    unfold resE
    rw [gro_of h.gr, h.kep, decide_eq_true hl]; rfl
  exact ⟨e, by unfold resV; rw [e]; rfl⟩
theorem Grp.res {X D P : List (List Int)} {L U S : List Int} (h : Grp X D P L U S) (hl : L.length ≤ S.length) : resF D P L S 8 0 D = X := by
  by_cases h0 : L.length = 0
  · have : L = [] := List.length_eq_zero_iff.1 h0
    subst this
    rw [resF_nil]
    refine List.ext_getElem h.out.1 fun k h1 h2 => ?_
    have := h.out.2 k rfl
    rw [List.getD_eq_getElem?_getD, List.getElem?_eq_getElem h1, List.getD_eq_getElem?_getD, List.getElem?_eq_getElem h2] at this
    exact this
  · have hs := h.s4
    exact Pl.restored_eq (by omega) h.gr.d1 h.gr.lL h.sS hl h.out h.g.2.2.2.2.1 h.x8 h.xo fun q hq k hk => h.par q hq k hk
theorem Grp.fine {X D P : List (List Int)} {L U S : List Int} (h : Grp X D P L U S) (hl : L.length ≤ S.length) : resE D P L U = 0 ∧ resV D P L U = X := by
  have hr := h.res hl
  have e : resE D P L U = 0 := by
    unfold resE
    rw [gro_of h.gr, h.kep, hr, decide_eq_false (by omega)]
    have b1 : L.all (rowOk X) = true := by
      rw [List.all_eq_true]
      intro i hi
      have := Pl.lost_mem h.gr.lL i hi
      have hlen := h.out.1
      unfold rowOk
      refine List.all_eq_true.1 h.xo _ ?_
      rw [List.getD_eq_getElem?_getD, List.getElem?_eq_getElem (by omega)]
      exact List.getElem_mem _
    have b2 : S.all (parOk X P) = true := by
      rw [List.all_eq_true]
      intro q hq
      exact parOk_iff.2 fun k hk => (h.par q hq k hk).symm
    rw [b1, b2]; rfl
  refine ⟨e, ?_⟩
  unfold resV
  rw [e, h.kep, hr]; rfl
theorem lost_filter {c : Int} (q : Int) : ∀ {S : List Int} {last : Int}, lostF c last S = 0 → lostF c last (S.filter fun y => !(y == q)) = 0
  | [], _, _ => rfl
  | y :: S, last, h => by
    have ht := Pl.lost_tail h
    obtain ⟨h1, h2, h3⟩ := Pl.lost_mem h y (List.mem_cons_self ..)
    have ih := lost_filter q ht
    rw [List.filter_cons]
    split
    · unfold lostF withinG
      rw [decide_eq_true h2, decide_eq_true h3, decide_eq_true (show y > last from h1)]
      exact ih
    · refine Pl.lost_last ih fun z hz => ?_
      have := (Pl.lost_mem ih z hz).1
      omega
theorem filter_len {c : Int} (q : Int) : ∀ {S : List Int} {last : Int}, lostF c last S = 0 → S.length ≤ (S.filter fun y => !(y == q)).length + 1
  | [], _, _ => by simp
  | y :: S, last, h => by
    have ht := Pl.lost_tail h
    rw [List.filter_cons]
    by_cases e : y = q
    · subst e
      have : (!(y == y)) = false := by simp
      rw [this, if_neg (by simp), List.length_cons]
      have hf : S.filter (fun z => !(z == y)) = S := by
        rw [List.filter_eq_self]
        intro z hz
        have := (Pl.lost_mem ht z hz).1
        simp; omega
      rw [hf]
      omega
    · have : (!(y == q)) = true := by simpa using e
      rw [this, if_pos rfl, List.length_cons, List.length_cons]
      have := filter_len q ht
      omega
theorem Grp.clash {X D P : List (List Int)} {L U S : List Int} (h : Grp X D P L U S) (hl : L.length < S.length) {q : Int} (hq : q ∈ S) {k : Nat} (hk : k < 8) {v : Int} (v0 : 0 ≤ v) (v1 : v < 65537) (hv : v ≠ (P.getD q.toNat []).getD k 0) :
    okG D (P.set q.toNat ((P.getD q.toNat []).set k v)) L U ∧ resE D (P.set q.toNat ((P.getD q.toNat []).set k v)) L U = 13 ∧ resV D (P.set q.toNat ((P.getD q.toNat []).set k v)) L U = [] := by
  have hqm := hq
  rw [← h.kep] at hqm
  obtain ⟨q0, q1, q2⟩ := keptJ_mem U P.length 0 q hqm
  have hp8 := h.g.2.2.2.2.2
  have hrow : (P.getD q.toNat []).length = 8 := Pl.row_len hp8 (by omega)
  have hrr : resRow (P.getD q.toNat []) = true := keptR_get h.gr.kr q.toNat (by omega) (by rw [Int.zero_add, show ((q.toNat : Nat) : Int) = q by omega]; exact q2)
  have hP8 : (P.set q.toNat ((P.getD q.toNat []).set k v)).all len8 = true := set_len8 hp8 (by unfold len8; rw [List.length_set, hrow]; rfl)
  have hg : okG D (P.set q.toNat ((P.getD q.toNat []).set k v)) L U := ⟨h.g.1, by rw [List.length_set]; exact h.g.2.1, h.g.2.2.1, h.g.2.2.2.1, h.g.2.2.2.2.1, hP8⟩
  have get : ∀ j : Nat, (P.set q.toNat ((P.getD q.toNat []).set k v)).getD j [] = if j = q.toNat then (P.getD q.toNat []).set k v else P.getD j [] := fun j => Pl.getD_set (by omega)
  have gr : Gro D (P.set q.toNat ((P.getD q.toNat []).set k v)) L U := {
    d0 := h.gr.d0, d1 := h.gr.d1, p0 := by rw [List.length_set]; exact h.gr.p0, p1 := by rw [List.length_set]; exact h.gr.p1,
    lL := h.gr.lL, lQ := by rw [List.length_set]; exact h.gr.lQ, kb := h.gr.kb,
    kr := keptR_all fun j hj hm => by
      rw [List.length_set] at hj
      rw [get]
      split
      · exact res_set hrr (resG_iff.2 ⟨v0, v1⟩)
      · exact keptR_get h.gr.kr j hj hm }
  have kep : keptJ U 0 (P.set q.toNat ((P.getD q.toNat []).set k v)).length = S := by rw [List.length_set]; exact h.kep
  refine ⟨hg, ?_⟩
  have hs4 := h.s4
  have main : (L.all (rowOk (resF D (P.set q.toNat ((P.getD q.toNat []).set k v)) L S 8 0 D)) && S.all (parOk (resF D (P.set q.toNat ((P.getD q.toNat []).set k v)) L S 8 0 D) (P.set q.toNat ((P.getD q.toNat []).set k v)))) = false := by
    rw [Bool.eq_false_iff]
    intro hh
    rw [Bool.and_eq_true] at hh
    obtain ⟨h1, h2⟩ := hh
    have hi : ∀ x ∈ L, 0 ≤ x ∧ x < (D.length : Int) := fun x hx => by have := Pl.lost_mem h.gr.lL x hx; omega
    have ho := Pl.resF_out (D := D) (P := P.set q.toNat ((P.getD q.toNat []).set k v)) (L := L) (K := S) 8 0 D hi
    have hok := all_rows ho h.gr.kb h1
    generalize resF D (P.set q.toNat ((P.getD q.toNat []).set k v)) L S 8 0 D = O at *
    have hx : Pl.sameOut L X D := ⟨h.out.1.symm, fun k hk => (h.out.2 k hk).symm⟩
    have pq := parOk_iff.1 (List.all_eq_true.1 h2 q hq) k hk
    rw [get, if_pos rfl, Pl.getD_set1 (by omega), if_pos rfl] at pq
    have px := h.par q hq k hk
    have same : ∀ j : Nat, (X.getD j []).getD k 0 = (O.getD j []).getD k 0 := by
      by_cases h0 : L.length = 0
      · have : L = [] := List.length_eq_zero_iff.1 h0
        subst this
        intro j
        rw [hx.2 j rfl, ho.2 j rfl]
      · have hf := lost_filter q h.sS
        have hfl := filter_len q h.sS
        refine Pl.same_par (K := (S.filter fun y => !(y == q)).take L.length) (by omega) h.gr.d1 h.gr.lL (Pl.lost_take _ hf) (by rw [List.length_take]; omega) hx ho h.xo hok fun j hj => ?_
        have hj2 := List.mem_of_mem_take hj
        rw [List.mem_filter] at hj2
        obtain ⟨hjS, hjq⟩ := hj2
        have hjq : j ≠ q := by simpa using hjq
        have hjm := hjS
        rw [← h.kep] at hjm
        obtain ⟨j0, j1, _⟩ := keptJ_mem U P.length 0 j hjm
        have pj := parOk_iff.1 (List.all_eq_true.1 h2 j hjS) k hk
        rw [get, if_neg (by omega)] at pj
        rw [← h.par j hjS k hk, pj]
    have := Pl.par_same (a := k) q (by rw [hx.1, ho.1]) same
    rw [← px, pq] at this
    exact hv this.symm
  have e : resE D (P.set q.toNat ((P.getD q.toNat []).set k v)) L U = 13 := by
    unfold resE
    rw [gro_of gr, kep, main, decide_eq_false (by omega)]; rfl
  exact ⟨e, by unfold resV; rw [e]; rfl⟩
theorem Grp.tail {X D P : List (List Int)} {L U S : List Int} (c : Int) (h : Grp X D P L U S) : Tail X D P c L U S where
  g := h.g
  x8 := h.x8
  x12 := by have := h.out.1; have := h.gr.d1; omega
  s4 := h.s4
  h1 := h.lost
  h2 := h.fine
  h3 := fun q hq => by
    have hqm := hq
    rw [← h.kep] at hqm
    obtain ⟨q0, q1, q2⟩ := keptJ_mem U P.length 0 q hqm
    exact ⟨q0, by omega, keptR_get h.gr.kr q.toNat (by omega) (by rw [Int.zero_add, show ((q.toNat : Nat) : Int) = q by omega]; exact q2)⟩
  l8 := fun q hq => by
    have hqm := hq
    rw [← h.kep] at hqm
    obtain ⟨q0, q1, q2⟩ := keptJ_mem U P.length 0 q hqm
    exact Pl.row_len h.g.2.2.2.2.2 (by omega)
  h4 := fun hl q hq k hk v v0 v1 hv => h.clash hl hq hk v0 v1 hv
theorem tail_of {X : List (List Int)} {c : Int} (x0 x1 x3 x4 : Int) (he : dataE X c = 0) (x8 : X.all len8 = true) : Tail X (markJ x0 [x4, x3, 0, 0, 0, 0, 0, 0] 0 X.length X) (markJ x1 [0, 0, 0, 0, 0, 0, 0, 0] 0 c.toNat (parM X c)) c (lostJ x0 0 X.length) (lostJ x1 0 c.toNat) (thereJ x1 0 c.toNat) := by
  obtain ⟨d0, d1, xo, c0, c1⟩ := dataE_all he
  have hpl : (parM X c).length = c.toNat := rowsF_length X c.toNat 0
  have hl1 := lostJ_len x0 X.length 0
  have hl2 := lostJ_len x1 c.toNat 0
  have dl := mark_len x0 [x4, x3, 0, 0, 0, 0, 0, 0] X.length 0 X
  have pl := mark_len x1 [0, 0, 0, 0, 0, 0, 0, 0] c.toNat 0 (parM X c)
  have p8 := mark_len8 x1 [0, 0, 0, 0, 0, 0, 0, 0] rfl c.toNat 0 (parM X c) (rowsF_len8 X c.toNat 0)
  have dget : ∀ k : Nat, memB (k : Int) (lostJ x0 0 X.length) = false → (markJ x0 [x4, x3, 0, 0, 0, 0, 0, 0] 0 X.length X).getD k [] = X.getD k [] := fun k hk => by
    refine mark_get x0 _ X.length 0 X (by decide) (by omega) k fun q => ?_
    rw [Pl.memB_iff.2 ((lostJ_mem x0 X.length 0 (k : Int)).2 ⟨q.1, q.2.1, q.2.2⟩)] at hk
    cases hk
  have pget : ∀ k : Nat, memB (k : Int) (lostJ x1 0 c.toNat) = false → (markJ x1 [0, 0, 0, 0, 0, 0, 0, 0] 0 c.toNat (parM X c)).getD k [] = (parM X c).getD k [] := fun k hk => by
    refine mark_get x1 _ c.toNat 0 _ (by decide) (by omega) k fun q => ?_
    rw [Pl.memB_iff.2 ((lostJ_mem x1 c.toNat 0 (k : Int)).2 ⟨q.1, q.2.1, q.2.2⟩)] at hk
    cases hk
  have prow : ∀ k : Nat, k < c.toNat → ∀ a, a < 8 → ((parM X c).getD k []).getD a 0 = parR [] (k : Int) a 0 0 X := fun k hk a ha => by
    have e1 : (parM X c).getD k [] = colsF X (0 + (k : Int)) 0 8 := rows_get X c.toNat 0 k hk
    rw [e1, Int.zero_add, cols_get X (k : Int) 8 0 a ha, Nat.zero_add]
  have hkep : keptJ (lostJ x1 0 c.toNat) 0 c.toNat = thereJ x1 0 c.toNat := kept_lost x1 c.toNat
  refine Grp.tail c {
    g := ⟨by omega, by omega, by omega, by omega, mark_len8 x0 _ rfl X.length 0 X x8, p8⟩
    gr := { d0 := by omega, d1 := by omega, p0 := by omega, p1 := by omega,
            lL := by rw [dl]; have := lostJ_lost x0 X.length 0 (-1) (by decide) (by decide); rw [Int.zero_add] at this; exact this,
            lQ := by rw [pl, hpl]; have := lostJ_lost x1 c.toNat 0 (-1) (by decide) (by decide); rw [Int.zero_add] at this; exact this,
            kb := keptB_all fun k hk hm => by
              rw [Int.zero_add] at hm
              rw [dget k hm]
              refine List.all_eq_true.1 xo _ ?_
              rw [List.getD_eq_getElem?_getD, List.getElem?_eq_getElem (by omega)]
              exact List.getElem_mem _,
            kr := keptR_all fun k hk hm => by
              rw [Int.zero_add] at hm
              rw [pget k hm]
              have e1 : (parM X c).getD k [] = colsF X (0 + (k : Int)) 0 8 := rows_get X c.toNat 0 k (by omega)
              have l8 : ((parM X c).getD k []).length = 8 := Pl.row_len (rowsF_len8 X c.toNat 0) (show k < (rowsF X 0 c.toNat).length by have : (rowsF X 0 c.toNat).length = c.toNat := rowsF_length X c.toNat 0; omega)
              unfold resRow
              rw [List.all_eq_true]
              intro z hz
              obtain ⟨a, ha, rfl⟩ := List.getElem_of_mem hz
              have := prow k (by omega) a (by omega)
              rw [Pl.getD_elem ha] at this
              rw [this]
              exact resG_iff.2 (Pl.parR_rng [] (k : Int) a X 0 0 (by omega)) }
    x8 := x8
    xo := xo
    out := ⟨dl, fun k hk => dget k hk⟩
    kep := by rw [pl, hpl]; exact hkep
    par := fun q hq k hk => by
      rw [← hkep] at hq
      obtain ⟨q0, q1, q2⟩ := keptJ_mem _ c.toNat 0 q hq
      have := pget q.toNat (by rw [show ((q.toNat : Nat) : Int) = q by omega]; exact q2)
      rw [this, prow q.toNat (by omega) k hk, show ((q.toNat : Nat) : Int) = q by omega] }
theorem lrTAs_ok {X D P : List (List Int)} {S : List Int} {x0 x1 x2 x3 x4 : Int} {a1 a2 a6 a7 a8 a11 a12 a19 a20 a21 a22 a23 a24 a25 a26 a27 a28 a29 a30 a31 a32 a33 a34 a35 a36 a37 a38 a39 a40 a41 a42 a43 a44 a45 a46 a47 a48 a49 a50 a51 a52 a53 a54 a55 a56 a57 a58 a59 a60 a61 a62 a63 a64 a65 a66 a67 a68 a69 a70 a71 a72 a73 a74 a75 a76 a77 a78 a79 a80 a81 a82 a83 a84 a85 a86 a87 a88 a89 a90 a91 a92 a93 a94 a95 a96 a97 : AV} {K : AV → List Blk → Prop} (c : Int) (T : Tail X D P c [] [] S) (h : K (.one (.bool true)) []) :
    evRest (ElrM lrA 0) Try.f14 14 { t := ([AV.one (SV.data (Row.mat IntKind.i64 8 X)), a1, a2, AV.any, AV.any, AV.one (SV.ptr 0 1 0 0), a6, a7, a8, AV.one (SV.ptr 4 1 0 0), AV.one (SV.own 5 1), a11, a12, AV.any, AV.any, AV.any, AV.any, AV.any, AV.any, a19, a20, a21, a22, a23, a24, a25, a26, a27, a28, a29, a30, a31, a32, a33, a34, a35, a36, a37, a38, a39, a40, a41, a42, a43, a44, a45, a46, a47, a48, a49, a50, a51, a52, a53, a54, a55, a56, a57, a58, a59, a60, a61, a62, a63, a64, a65, a66, a67, a68, a69, a70, a71, a72, a73, a74, a75, a76, a77, a78, a79, a80, a81, a82, a83, a84, a85, a86, a87, a88, a89, a90, a91, a92, a93, a94, a95, a96, a97] ++ List.replicate 89 .any), σ := [.cells [.int .i64 x0, .int .i64 x1, .int .i64 x2, .int .i64 x3, .int .i64 x4], .dead, .row 35 (.mat .i64 8 D), .row 35 (.mat .i64 8 P), .cells [.own 2 8, .own 3 8, .nil, .nil], .row 3 (.ints .i64 S)] } K := by
  rw [exlrTAs]
  refine And.intro T.g (And.intro T.g ?_)
  have hl : ¬ S.length < 0 := by omega
  · skip
    obtain ⟨e1, e2⟩ := T.h2 (by simp)
    rw [e1, e2]
    rw [show ((0 : Int) != 0) = false from rfl, cond_false]
    refine And.intro ⟨by have := T.x12; omega, T.x8, T.x8⟩ ?_
    rw [show (!(X == X)) = false by simp, cond_false]
    by_cases hq : 0 = S.length
    · rw [show ((0 : Int) == (S.length : Int)) = true by simp; omega]; exact h
    · rw [show ((0 : Int) == (S.length : Int)) = false by simp; omega, cond_false]
      refine And.intro (by decide) ?_
      by_cases hm : modB x4 65537 = 0
      · rw [show (modB x4 65537 == 0) = true by rw [hm]; rfl]; exact h
      · rw [show (modB x4 65537 == 0) = false by simpa using hm, cond_false]
        have hs4 := T.s4
        have hs : 0 < S.length := by omega
        obtain ⟨b1, b2⟩ := modB_rng x2 (b := (S.length : Int)) (by omega) (by omega)
        obtain ⟨k1, k2⟩ := modB_rng x3 (b := 8) (by decide) (by decide)
        obtain ⟨m1, m2⟩ := modB_rng x4 (b := 65537) (by decide) (by decide)
        refine And.intro (by omega) (condI (and2 (decide_eq_true b1) (decide_eq_true b2)) (condI (decide_eq_true (by omega)) (And.intro (by decide) ?_)))
        generalize modB x2 (S.length : Int) = z at *
        generalize modB x3 8 = kk at *
        generalize modB x4 65537 = m at *
        have hat : S.getD (z.toNat + 0) 0 ∈ S := getD_mem (by omega)
        generalize S.getD (z.toNat + 0) 0 = q at *
        obtain ⟨a1, a2, a3⟩ := T.h3 q hat
        have ek : 0 + kk.toNat + 0 = kk.toNat := by omega
        have ek2 : 0 + kk.toNat = kk.toNat := by omega
        rw [ek, ek2]
        obtain ⟨v1, v2⟩ := res_get a3 kk.toNat
        have hv4 := fun v => T.h4 (by show 0 < S.length; omega) q hat kk.toNat (by omega) v
        have hl8 := T.l8 q hat
        generalize (P.getD q.toNat []).getD kk.toNat 0 = v at *
        have ew : (IntKind.i64.wrap (v + m)).tmod 65537 = (v + m) % 65537 := by rw [wrap_id (by omega) (by omega), Int.tmod_eq_emod_of_nonneg (by omega)]
        rw [ew]
        obtain ⟨g', e3, e4⟩ := hv4 ((v + m) % 65537) (by omega) (by omega) (by omega)
        have cq : (decide (0 ≤ q) && decide (q < (P.length : Int))) = true := and2 (decide_eq_true a1) (decide_eq_true a2)
        have ck : (decide (0 ≤ kk) && decide (kk < 8)) = true := and2 (decide_eq_true k1) (decide_eq_true k2)
        have cp : (decide (kk.toNat < 8) && decide (q.toNat < P.length)) = true := and2 (decide_eq_true (by omega)) (decide_eq_true (by omega))
        have cv : (!(decide (0 ≤ v) && decide (v ≤ 65536))) = false := by rw [decide_eq_true v1, decide_eq_true (show v ≤ 65536 by omega)]; rfl
        rw [cq, ck, cp, cv]
        simp only [cond_true, cond_false]
        refine And.intro (by decide) (condI (by rw [Bool.true_and]; exact decide_eq_true hl8) (And.intro g' ?_))
        rw [e3, e4]
        exact h
theorem lrTAu_ok {X D P : List (List Int)} {U : List Int} {x0 x1 x2 x3 x4 : Int} {a1 a2 a6 a7 a8 a11 a12 a19 a20 a21 a22 a23 a24 a25 a26 a27 a28 a29 a30 a31 a32 a33 a34 a35 a36 a37 a38 a39 a40 a41 a42 a43 a44 a45 a46 a47 a48 a49 a50 a51 a52 a53 a54 a55 a56 a57 a58 a59 a60 a61 a62 a63 a64 a65 a66 a67 a68 a69 a70 a71 a72 a73 a74 a75 a76 a77 a78 a79 a80 a81 a82 a83 a84 a85 a86 a87 a88 a89 a90 a91 a92 a93 a94 a95 a96 a97 : AV} {K : AV → List Blk → Prop} (c : Int) (T : Tail X D P c [] U []) (h : K (.one (.bool true)) []) :
    evRest (ElrM lrA 0) Try.f14 14 { t := ([AV.one (SV.data (Row.mat IntKind.i64 8 X)), a1, a2, AV.any, AV.any, AV.one (SV.ptr 0 1 0 0), a6, a7, a8, AV.one (SV.ptr 4 1 0 0), AV.one SV.nil, a11, a12, AV.any, AV.any, AV.any, AV.any, AV.any, AV.any, a19, a20, a21, a22, a23, a24, a25, a26, a27, a28, a29, a30, a31, a32, a33, a34, a35, a36, a37, a38, a39, a40, a41, a42, a43, a44, a45, a46, a47, a48, a49, a50, a51, a52, a53, a54, a55, a56, a57, a58, a59, a60, a61, a62, a63, a64, a65, a66, a67, a68, a69, a70, a71, a72, a73, a74, a75, a76, a77, a78, a79, a80, a81, a82, a83, a84, a85, a86, a87, a88, a89, a90, a91, a92, a93, a94, a95, a96, a97] ++ List.replicate 89 .any), σ := [.cells [.int .i64 x0, .int .i64 x1, .int .i64 x2, .int .i64 x3, .int .i64 x4], .dead, .row 35 (.mat .i64 8 D), .row 35 (.mat .i64 8 P), .cells [.own 2 8, .own 3 8, .nil, .own 5 1], .row 3 (.ints .i64 U)] } K := by
  rw [exlrTAu]
  refine And.intro T.g (And.intro T.g ?_)
  obtain ⟨e1, e2⟩ := T.h2 (by decide)
  rw [e1, e2]
  rw [show ((0 : Int) != 0) = false from rfl, cond_false]
  refine And.intro ⟨by have := T.x12; omega, T.x8, T.x8⟩ ?_
  rw [show (!(X == X)) = false by simp, cond_false]
  exact h
theorem lrTAus_ok {X D P : List (List Int)} {U S : List Int} {x0 x1 x2 x3 x4 : Int} {a1 a2 a6 a7 a8 a11 a12 a19 a20 a21 a22 a23 a24 a25 a26 a27 a28 a29 a30 a31 a32 a33 a34 a35 a36 a37 a38 a39 a40 a41 a42 a43 a44 a45 a46 a47 a48 a49 a50 a51 a52 a53 a54 a55 a56 a57 a58 a59 a60 a61 a62 a63 a64 a65 a66 a67 a68 a69 a70 a71 a72 a73 a74 a75 a76 a77 a78 a79 a80 a81 a82 a83 a84 a85 a86 a87 a88 a89 a90 a91 a92 a93 a94 a95 a96 a97 : AV} {K : AV → List Blk → Prop} (c : Int) (T : Tail X D P c [] U S) (h : K (.one (.bool true)) []) :
    evRest (ElrM lrA 0) Try.f14 14 { t := ([AV.one (SV.data (Row.mat IntKind.i64 8 X)), a1, a2, AV.any, AV.any, AV.one (SV.ptr 0 1 0 0), a6, a7, a8, AV.one (SV.ptr 4 1 0 0), AV.one (SV.own 6 1), a11, a12, AV.any, AV.any, AV.any, AV.any, AV.any, AV.any, a19, a20, a21, a22, a23, a24, a25, a26, a27, a28, a29, a30, a31, a32, a33, a34, a35, a36, a37, a38, a39, a40, a41, a42, a43, a44, a45, a46, a47, a48, a49, a50, a51, a52, a53, a54, a55, a56, a57, a58, a59, a60, a61, a62, a63, a64, a65, a66, a67, a68, a69, a70, a71, a72, a73, a74, a75, a76, a77, a78, a79, a80, a81, a82, a83, a84, a85, a86, a87, a88, a89, a90, a91, a92, a93, a94, a95, a96, a97] ++ List.replicate 89 .any), σ := [.cells [.int .i64 x0, .int .i64 x1, .int .i64 x2, .int .i64 x3, .int .i64 x4], .dead, .row 35 (.mat .i64 8 D), .row 35 (.mat .i64 8 P), .cells [.own 2 8, .own 3 8, .nil, .own 5 1], .row 3 (.ints .i64 U), .row 3 (.ints .i64 S)] } K := by
  rw [exlrTAus]
  refine And.intro T.g (And.intro T.g ?_)
  have hl : ¬ S.length < 0 := by omega
  · skip
    obtain ⟨e1, e2⟩ := T.h2 (by simp)
    rw [e1, e2]
    rw [show ((0 : Int) != 0) = false from rfl, cond_false]
    refine And.intro ⟨by have := T.x12; omega, T.x8, T.x8⟩ ?_
    rw [show (!(X == X)) = false by simp, cond_false]
    by_cases hq : 0 = S.length
    · rw [show ((0 : Int) == (S.length : Int)) = true by simp; omega]; exact h
    · rw [show ((0 : Int) == (S.length : Int)) = false by simp; omega, cond_false]
      refine And.intro (by decide) ?_
      by_cases hm : modB x4 65537 = 0
      · rw [show (modB x4 65537 == 0) = true by rw [hm]; rfl]; exact h
      · rw [show (modB x4 65537 == 0) = false by simpa using hm, cond_false]
        have hs4 := T.s4
        have hs : 0 < S.length := by omega
        obtain ⟨b1, b2⟩ := modB_rng x2 (b := (S.length : Int)) (by omega) (by omega)
        obtain ⟨k1, k2⟩ := modB_rng x3 (b := 8) (by decide) (by decide)
        obtain ⟨m1, m2⟩ := modB_rng x4 (b := 65537) (by decide) (by decide)
        refine And.intro (by omega) (condI (and2 (decide_eq_true b1) (decide_eq_true b2)) (condI (decide_eq_true (by omega)) (And.intro (by decide) ?_)))
        generalize modB x2 (S.length : Int) = z at *
        generalize modB x3 8 = kk at *
        generalize modB x4 65537 = m at *
        have hat : S.getD (z.toNat + 0) 0 ∈ S := getD_mem (by omega)
        generalize S.getD (z.toNat + 0) 0 = q at *
        obtain ⟨a1, a2, a3⟩ := T.h3 q hat
        have ek : 0 + kk.toNat + 0 = kk.toNat := by omega
        have ek2 : 0 + kk.toNat = kk.toNat := by omega
        rw [ek, ek2]
        obtain ⟨v1, v2⟩ := res_get a3 kk.toNat
        have hv4 := fun v => T.h4 (by show 0 < S.length; omega) q hat kk.toNat (by omega) v
        have hl8 := T.l8 q hat
        generalize (P.getD q.toNat []).getD kk.toNat 0 = v at *
        have ew : (IntKind.i64.wrap (v + m)).tmod 65537 = (v + m) % 65537 := by rw [wrap_id (by omega) (by omega), Int.tmod_eq_emod_of_nonneg (by omega)]
        rw [ew]
        obtain ⟨g', e3, e4⟩ := hv4 ((v + m) % 65537) (by omega) (by omega) (by omega)
        have cq : (decide (0 ≤ q) && decide (q < (P.length : Int))) = true := and2 (decide_eq_true a1) (decide_eq_true a2)
        have ck : (decide (0 ≤ kk) && decide (kk < 8)) = true := and2 (decide_eq_true k1) (decide_eq_true k2)
        have cp : (decide (kk.toNat < 8) && decide (q.toNat < P.length)) = true := and2 (decide_eq_true (by omega)) (decide_eq_true (by omega))
        have cv : (!(decide (0 ≤ v) && decide (v ≤ 65536))) = false := by rw [decide_eq_true v1, decide_eq_true (show v ≤ 65536 by omega)]; rfl
        rw [cq, ck, cp, cv]
        simp only [cond_true, cond_false]
        refine And.intro (by decide) (condI (by rw [Bool.true_and]; exact decide_eq_true hl8) (And.intro g' ?_))
        rw [e3, e4]
        exact h
theorem lrTBs_ok {X D P : List (List Int)} {L S : List Int} {x0 x1 x2 x3 x4 : Int} {a1 a2 a6 a7 a8 a11 a12 a19 a20 a21 a22 a23 a24 a25 a26 a27 a28 a29 a30 a31 a32 a33 a34 a35 a36 a37 a38 a39 a40 a41 a42 a43 a44 a45 a46 a47 a48 a49 a50 a51 a52 a53 a54 a55 a56 a57 a58 a59 a60 a61 a62 a63 a64 a65 a66 a67 a68 a69 a70 a71 a72 a73 a74 a75 a76 a77 a78 a79 a80 a81 a82 a83 a84 a85 a86 a87 a88 a89 a90 a91 a92 a93 a94 a95 a96 a97 : AV} {K : AV → List Blk → Prop} (c : Int) (T : Tail X D P c L [] S) (h : K (.one (.bool true)) []) :
    evRest (ElrM lrB 0) Try.f14 14 { t := ([AV.one (SV.data (Row.mat IntKind.i64 8 X)), a1, a2, AV.any, AV.any, AV.one (SV.ptr 0 1 0 0), a6, a7, a8, AV.one (SV.ptr 4 1 0 0), AV.one (SV.own 6 1), a11, a12, AV.any, AV.any, AV.any, AV.any, AV.any, AV.any, a19, a20, a21, a22, a23, a24, a25, a26, a27, a28, a29, a30, a31, a32, a33, a34, a35, a36, a37, a38, a39, a40, a41, a42, a43, a44, a45, a46, a47, a48, a49, a50, a51, a52, a53, a54, a55, a56, a57, a58, a59, a60, a61, a62, a63, a64, a65, a66, a67, a68, a69, a70, a71, a72, a73, a74, a75, a76, a77, a78, a79, a80, a81, a82, a83, a84, a85, a86, a87, a88, a89, a90, a91, a92, a93, a94, a95, a96, a97] ++ List.replicate 89 .any), σ := [.cells [.int .i64 x0, .int .i64 x1, .int .i64 x2, .int .i64 x3, .int .i64 x4], .dead, .row 35 (.mat .i64 8 D), .row 35 (.mat .i64 8 P), .cells [.own 2 8, .own 3 8, .own 5 1, .nil], .row 3 (.ints .i64 L), .row 3 (.ints .i64 S)] } K := by
  rw [exlrTBs]
  refine And.intro T.g (And.intro T.g ?_)
  by_cases hl : S.length < L.length
  · rw [decide_eq_true (show (L.length : Int) > (S.length : Int) by omega), cond_true]
    obtain ⟨e1, e2⟩ := T.h1 hl
    rw [e1, e2]; exact h
  · rw [decide_eq_false (show ¬ (L.length : Int) > (S.length : Int) by omega), cond_false]
    obtain ⟨e1, e2⟩ := T.h2 (by omega)
    rw [e1, e2]
    rw [show ((0 : Int) != 0) = false from rfl, cond_false]
    refine And.intro ⟨by have := T.x12; omega, T.x8, T.x8⟩ ?_
    rw [show (!(X == X)) = false by simp, cond_false]
    by_cases hq : L.length = S.length
    · rw [show ((L.length : Int) == (S.length : Int)) = true by simp; omega]; exact h
    · rw [show ((L.length : Int) == (S.length : Int)) = false by simp; omega, cond_false]
      refine And.intro (by decide) ?_
      by_cases hm : modB x4 65537 = 0
      · rw [show (modB x4 65537 == 0) = true by rw [hm]; rfl]; exact h
      · rw [show (modB x4 65537 == 0) = false by simpa using hm, cond_false]
        have hs4 := T.s4
        have hs : 0 < S.length := by omega
        obtain ⟨b1, b2⟩ := modB_rng x2 (b := (S.length : Int)) (by omega) (by omega)
        obtain ⟨k1, k2⟩ := modB_rng x3 (b := 8) (by decide) (by decide)
        obtain ⟨m1, m2⟩ := modB_rng x4 (b := 65537) (by decide) (by decide)
        refine And.intro (by omega) (condI (and2 (decide_eq_true b1) (decide_eq_true b2)) (condI (decide_eq_true (by omega)) (And.intro (by decide) ?_)))
        generalize modB x2 (S.length : Int) = z at *
        generalize modB x3 8 = kk at *
        generalize modB x4 65537 = m at *
        have hat : S.getD (z.toNat + 0) 0 ∈ S := getD_mem (by omega)
        generalize S.getD (z.toNat + 0) 0 = q at *
        obtain ⟨a1, a2, a3⟩ := T.h3 q hat
        have ek : 0 + kk.toNat + 0 = kk.toNat := by omega
        have ek2 : 0 + kk.toNat = kk.toNat := by omega
        rw [ek, ek2]
        obtain ⟨v1, v2⟩ := res_get a3 kk.toNat
        have hv4 := fun v => T.h4 (by omega) q hat kk.toNat (by omega) v
        have hl8 := T.l8 q hat
        generalize (P.getD q.toNat []).getD kk.toNat 0 = v at *
        have ew : (IntKind.i64.wrap (v + m)).tmod 65537 = (v + m) % 65537 := by rw [wrap_id (by omega) (by omega), Int.tmod_eq_emod_of_nonneg (by omega)]
        rw [ew]
        obtain ⟨g', e3, e4⟩ := hv4 ((v + m) % 65537) (by omega) (by omega) (by omega)
        have cq : (decide (0 ≤ q) && decide (q < (P.length : Int))) = true := and2 (decide_eq_true a1) (decide_eq_true a2)
        have ck : (decide (0 ≤ kk) && decide (kk < 8)) = true := and2 (decide_eq_true k1) (decide_eq_true k2)
        have cp : (decide (kk.toNat < 8) && decide (q.toNat < P.length)) = true := and2 (decide_eq_true (by omega)) (decide_eq_true (by omega))
        have cv : (!(decide (0 ≤ v) && decide (v ≤ 65536))) = false := by rw [decide_eq_true v1, decide_eq_true (show v ≤ 65536 by omega)]; rfl
        rw [cq, ck, cp, cv]
        simp only [cond_true, cond_false]
        refine And.intro (by decide) (condI (by rw [Bool.true_and]; exact decide_eq_true hl8) (And.intro g' ?_))
        rw [e3, e4]
        exact h
theorem lrTBu_ok {X D P : List (List Int)} {L U : List Int} {x0 x1 x2 x3 x4 : Int} {a1 a2 a6 a7 a8 a11 a12 a19 a20 a21 a22 a23 a24 a25 a26 a27 a28 a29 a30 a31 a32 a33 a34 a35 a36 a37 a38 a39 a40 a41 a42 a43 a44 a45 a46 a47 a48 a49 a50 a51 a52 a53 a54 a55 a56 a57 a58 a59 a60 a61 a62 a63 a64 a65 a66 a67 a68 a69 a70 a71 a72 a73 a74 a75 a76 a77 a78 a79 a80 a81 a82 a83 a84 a85 a86 a87 a88 a89 a90 a91 a92 a93 a94 a95 a96 a97 : AV} {K : AV → List Blk → Prop} (c : Int) (T : Tail X D P c L U []) (h : K (.one (.bool true)) []) :
    evRest (ElrM lrB 0) Try.f14 14 { t := ([AV.one (SV.data (Row.mat IntKind.i64 8 X)), a1, a2, AV.any, AV.any, AV.one (SV.ptr 0 1 0 0), a6, a7, a8, AV.one (SV.ptr 4 1 0 0), AV.one SV.nil, a11, a12, AV.any, AV.any, AV.any, AV.any, AV.any, AV.any, a19, a20, a21, a22, a23, a24, a25, a26, a27, a28, a29, a30, a31, a32, a33, a34, a35, a36, a37, a38, a39, a40, a41, a42, a43, a44, a45, a46, a47, a48, a49, a50, a51, a52, a53, a54, a55, a56, a57, a58, a59, a60, a61, a62, a63, a64, a65, a66, a67, a68, a69, a70, a71, a72, a73, a74, a75, a76, a77, a78, a79, a80, a81, a82, a83, a84, a85, a86, a87, a88, a89, a90, a91, a92, a93, a94, a95, a96, a97] ++ List.replicate 89 .any), σ := [.cells [.int .i64 x0, .int .i64 x1, .int .i64 x2, .int .i64 x3, .int .i64 x4], .dead, .row 35 (.mat .i64 8 D), .row 35 (.mat .i64 8 P), .cells [.own 2 8, .own 3 8, .own 5 1, .own 6 1], .row 3 (.ints .i64 L), .row 3 (.ints .i64 U)] } K := by
  rw [exlrTBu]
  refine And.intro T.g (And.intro T.g ?_)
  by_cases hl : 0 < L.length
  · rw [decide_eq_true (show (L.length : Int) > 0 by omega), cond_true]
    obtain ⟨e1, e2⟩ := T.h1 hl
    rw [e1, e2]; exact h
  · rw [decide_eq_false (show ¬ (L.length : Int) > 0 by omega), cond_false]
    obtain ⟨e1, e2⟩ := T.h2 (by omega)
    rw [e1, e2]
    rw [show ((0 : Int) != 0) = false from rfl, cond_false]
    refine And.intro ⟨by have := T.x12; omega, T.x8, T.x8⟩ ?_
    rw [show (!(X == X)) = false by simp, cond_false]
    rw [show ((L.length : Int) == 0) = true by rw [show L.length = 0 by omega]; rfl]
    exact h
theorem lrTBus_ok {X D P : List (List Int)} {L U S : List Int} {x0 x1 x2 x3 x4 : Int} {a1 a2 a6 a7 a8 a11 a12 a19 a20 a21 a22 a23 a24 a25 a26 a27 a28 a29 a30 a31 a32 a33 a34 a35 a36 a37 a38 a39 a40 a41 a42 a43 a44 a45 a46 a47 a48 a49 a50 a51 a52 a53 a54 a55 a56 a57 a58 a59 a60 a61 a62 a63 a64 a65 a66 a67 a68 a69 a70 a71 a72 a73 a74 a75 a76 a77 a78 a79 a80 a81 a82 a83 a84 a85 a86 a87 a88 a89 a90 a91 a92 a93 a94 a95 a96 a97 : AV} {K : AV → List Blk → Prop} (c : Int) (T : Tail X D P c L U S) (h : K (.one (.bool true)) []) :
    evRest (ElrM lrB 0) Try.f14 14 { t := ([AV.one (SV.data (Row.mat IntKind.i64 8 X)), a1, a2, AV.any, AV.any, AV.one (SV.ptr 0 1 0 0), a6, a7, a8, AV.one (SV.ptr 4 1 0 0), AV.one (SV.own 7 1), a11, a12, AV.any, AV.any, AV.any, AV.any, AV.any, AV.any, a19, a20, a21, a22, a23, a24, a25, a26, a27, a28, a29, a30, a31, a32, a33, a34, a35, a36, a37, a38, a39, a40, a41, a42, a43, a44, a45, a46, a47, a48, a49, a50, a51, a52, a53, a54, a55, a56, a57, a58, a59, a60, a61, a62, a63, a64, a65, a66, a67, a68, a69, a70, a71, a72, a73, a74, a75, a76, a77, a78, a79, a80, a81, a82, a83, a84, a85, a86, a87, a88, a89, a90, a91, a92, a93, a94, a95, a96, a97] ++ List.replicate 89 .any), σ := [.cells [.int .i64 x0, .int .i64 x1, .int .i64 x2, .int .i64 x3, .int .i64 x4], .dead, .row 35 (.mat .i64 8 D), .row 35 (.mat .i64 8 P), .cells [.own 2 8, .own 3 8, .own 5 1, .own 6 1], .row 3 (.ints .i64 L), .row 3 (.ints .i64 U), .row 3 (.ints .i64 S)] } K := by
  rw [exlrTBus]
  refine And.intro T.g (And.intro T.g ?_)
  by_cases hl : S.length < L.length
  · rw [decide_eq_true (show (L.length : Int) > (S.length : Int) by omega), cond_true]
    obtain ⟨e1, e2⟩ := T.h1 hl
    rw [e1, e2]; exact h
  · rw [decide_eq_false (show ¬ (L.length : Int) > (S.length : Int) by omega), cond_false]
    obtain ⟨e1, e2⟩ := T.h2 (by omega)
    rw [e1, e2]
    rw [show ((0 : Int) != 0) = false from rfl, cond_false]
    refine And.intro ⟨by have := T.x12; omega, T.x8, T.x8⟩ ?_
    rw [show (!(X == X)) = false by simp, cond_false]
    by_cases hq : L.length = S.length
    · rw [show ((L.length : Int) == (S.length : Int)) = true by simp; omega]; exact h
    · rw [show ((L.length : Int) == (S.length : Int)) = false by simp; omega, cond_false]
      refine And.intro (by decide) ?_
      by_cases hm : modB x4 65537 = 0
      · rw [show (modB x4 65537 == 0) = true by rw [hm]; rfl]; exact h
      · rw [show (modB x4 65537 == 0) = false by simpa using hm, cond_false]
        have hs4 := T.s4
        have hs : 0 < S.length := by omega
        obtain ⟨b1, b2⟩ := modB_rng x2 (b := (S.length : Int)) (by omega) (by omega)
        obtain ⟨k1, k2⟩ := modB_rng x3 (b := 8) (by decide) (by decide)
        obtain ⟨m1, m2⟩ := modB_rng x4 (b := 65537) (by decide) (by decide)
        refine And.intro (by omega) (condI (and2 (decide_eq_true b1) (decide_eq_true b2)) (condI (decide_eq_true (by omega)) (And.intro (by decide) ?_)))
        generalize modB x2 (S.length : Int) = z at *
        generalize modB x3 8 = kk at *
        generalize modB x4 65537 = m at *
        have hat : S.getD (z.toNat + 0) 0 ∈ S := getD_mem (by omega)
        generalize S.getD (z.toNat + 0) 0 = q at *
        obtain ⟨a1, a2, a3⟩ := T.h3 q hat
        have ek : 0 + kk.toNat + 0 = kk.toNat := by omega
        have ek2 : 0 + kk.toNat = kk.toNat := by omega
        rw [ek, ek2]
        obtain ⟨v1, v2⟩ := res_get a3 kk.toNat
        have hv4 := fun v => T.h4 (by omega) q hat kk.toNat (by omega) v
        have hl8 := T.l8 q hat
        generalize (P.getD q.toNat []).getD kk.toNat 0 = v at *
        have ew : (IntKind.i64.wrap (v + m)).tmod 65537 = (v + m) % 65537 := by rw [wrap_id (by omega) (by omega), Int.tmod_eq_emod_of_nonneg (by omega)]
        rw [ew]
        obtain ⟨g', e3, e4⟩ := hv4 ((v + m) % 65537) (by omega) (by omega) (by omega)
        have cq : (decide (0 ≤ q) && decide (q < (P.length : Int))) = true := and2 (decide_eq_true a1) (decide_eq_true a2)
        have ck : (decide (0 ≤ kk) && decide (kk < 8)) = true := and2 (decide_eq_true k1) (decide_eq_true k2)
        have cp : (decide (kk.toNat < 8) && decide (q.toNat < P.length)) = true := and2 (decide_eq_true (by omega)) (decide_eq_true (by omega))
        have cv : (!(decide (0 ≤ v) && decide (v ≤ 65536))) = false := by rw [decide_eq_true v1, decide_eq_true (show v ≤ 65536 by omega)]; rfl
        rw [cq, ck, cp, cv]
        simp only [cond_true, cond_false]
        refine And.intro (by decide) (condI (by rw [Bool.true_and]; exact decide_eq_true hl8) (And.intro g' ?_))
        rw [e3, e4]
        exact h
theorem lrS2A_ok {X D P : List (List Int)} {c : Int} {x0 x1 x2 x3 x4 : Int} {a2 a6 a7 a8 a11 a19 a20 a21 a22 a23 a24 a25 a26 a27 a28 a29 a30 a31 a32 a33 a34 a35 a36 a37 a38 a39 a40 a41 a42 a43 a44 a45 a46 a47 a48 a49 a50 a51 a52 a53 a54 a55 a56 a57 a58 a59 a60 a61 a62 a63 a64 a65 a66 a67 a68 a69 a70 a71 : AV} {K : AV → List Blk → Prop} {B : St → Prop} (hT : Tail X D (markJ x1 [0, 0, 0, 0, 0, 0, 0, 0] 0 c.toNat P) c [] (lostJ x1 0 c.toNat) (thereJ x1 0 c.toNat)) (hc : c = P.length) (hp : P.length ≤ 4) (h8 : P.all len8 = true) (hne : lostJ x1 0 c.toNat = [] → thereJ x1 0 c.toNat ≠ []) (hB : B = fun s => evRest (ElrM lrA 0) Try.f14 14 s K) (h : K (.one (.bool true)) []) :
    evStage (ElrM lrA 0) Try.f14 12 2 { t := ([AV.one (SV.data (Row.mat IntKind.i64 8 X)), AV.one (SV.int IntKind.i64 c), a2, AV.any, AV.any, AV.one (SV.ptr 0 1 0 0), a6, a7, a8, AV.one (SV.ptr 4 1 0 0), AV.one SV.nil, a11, AV.any, AV.any, AV.any, AV.any, AV.any, AV.any, AV.any, a19, a20, a21, a22, a23, a24, a25, a26, a27, a28, a29, a30, a31, a32, a33, a34, a35, a36, a37, a38, a39, a40, a41, a42, a43, a44, a45, a46, a47, a48, a49, a50, a51, a52, a53, a54, a55, a56, a57, a58, a59, a60, a61, a62, a63, a64, a65, a66, a67, a68, a69, a70, a71] ++ List.replicate 115 .any), σ := [.cells [.int .i64 x0, .int .i64 x1, .int .i64 x2, .int .i64 x3, .int .i64 x4], .dead, .row 35 (.mat .i64 8 D), .row 35 (.mat .i64 8 P), .cells [.own 2 8, .own 3 8, .nil, .nil]] } K B := by
  rw [exlrS2A]
  have ec : (c - 0).toNat = c.toNat := by omega
  rw [ec]
  refine And.intro ⟨hc, hp, h8, by decide, by omega⟩ ?_
  cases hu : (lostJ x1 0 c.toNat).isEmpty with
  | true =>
    have eu := List.isEmpty_iff.1 hu
    rw [cond_true]
    rw [show (thereJ x1 0 c.toNat).isEmpty = false by rw [Bool.eq_false_iff]; intro q; exact hne eu (List.isEmpty_iff.1 q), cond_false]
    rw [eu] at hT
    subst hB
    show evRest (ElrM lrA 0) Try.f14 14 _ K
    exact lrTAs_ok c hT h
  | false =>
    rw [cond_false]
    cases hs : (thereJ x1 0 c.toNat).isEmpty with
    | true =>
      rw [cond_true]
      rw [List.isEmpty_iff.1 hs] at hT
      subst hB
      show evRest (ElrM lrA 0) Try.f14 14 _ K
      exact lrTAu_ok c hT h
    | false =>
      rw [cond_false]
      subst hB
      show evRest (ElrM lrA 0) Try.f14 14 _ K
      exact lrTAus_ok c hT h
theorem lrS2B_ok {X D P : List (List Int)} {c : Int} {L : List Int} {x0 x1 x2 x3 x4 : Int} {a2 a6 a7 a8 a11 a19 a20 a21 a22 a23 a24 a25 a26 a27 a28 a29 a30 a31 a32 a33 a34 a35 a36 a37 a38 a39 a40 a41 a42 a43 a44 a45 a46 a47 a48 a49 a50 a51 a52 a53 a54 a55 a56 a57 a58 a59 a60 a61 a62 a63 a64 a65 a66 a67 a68 a69 a70 a71 : AV} {K : AV → List Blk → Prop} {B : St → Prop} (hT : Tail X D (markJ x1 [0, 0, 0, 0, 0, 0, 0, 0] 0 c.toNat P) c L (lostJ x1 0 c.toNat) (thereJ x1 0 c.toNat)) (hc : c = P.length) (hp : P.length ≤ 4) (h8 : P.all len8 = true) (hne : lostJ x1 0 c.toNat = [] → thereJ x1 0 c.toNat ≠ []) (hB : B = fun s => evRest (ElrM lrB 0) Try.f14 14 s K) (h : K (.one (.bool true)) []) :
    evStage (ElrM lrB 0) Try.f14 12 2 { t := ([AV.one (SV.data (Row.mat IntKind.i64 8 X)), AV.one (SV.int IntKind.i64 c), a2, AV.any, AV.any, AV.one (SV.ptr 0 1 0 0), a6, a7, a8, AV.one (SV.ptr 4 1 0 0), AV.one SV.nil, a11, AV.any, AV.any, AV.any, AV.any, AV.any, AV.any, AV.any, a19, a20, a21, a22, a23, a24, a25, a26, a27, a28, a29, a30, a31, a32, a33, a34, a35, a36, a37, a38, a39, a40, a41, a42, a43, a44, a45, a46, a47, a48, a49, a50, a51, a52, a53, a54, a55, a56, a57, a58, a59, a60, a61, a62, a63, a64, a65, a66, a67, a68, a69, a70, a71] ++ List.replicate 115 .any), σ := [.cells [.int .i64 x0, .int .i64 x1, .int .i64 x2, .int .i64 x3, .int .i64 x4], .dead, .row 35 (.mat .i64 8 D), .row 35 (.mat .i64 8 P), .cells [.own 2 8, .own 3 8, .own 5 1, .nil], .row 3 (.ints .i64 L)] } K B := by
  rw [exlrS2B]
  have ec : (c - 0).toNat = c.toNat := by omega
  rw [ec]
  refine And.intro ⟨hc, hp, h8, by decide, by omega⟩ ?_
  cases hu : (lostJ x1 0 c.toNat).isEmpty with
  | true =>
    have eu := List.isEmpty_iff.1 hu
    rw [cond_true]
    rw [show (thereJ x1 0 c.toNat).isEmpty = false by rw [Bool.eq_false_iff]; intro q; exact hne eu (List.isEmpty_iff.1 q), cond_false]
    rw [eu] at hT
    subst hB
    show evRest (ElrM lrB 0) Try.f14 14 _ K
    exact lrTBs_ok c hT h
  | false =>
    rw [cond_false]
    cases hs : (thereJ x1 0 c.toNat).isEmpty with
    | true =>
      rw [cond_true]
      rw [List.isEmpty_iff.1 hs] at hT
      subst hB
      show evRest (ElrM lrB 0) Try.f14 14 _ K
      exact lrTBu_ok c hT h
    | false =>
      rw [cond_false]
      subst hB
      show evRest (ElrM lrB 0) Try.f14 14 _ K
      exact lrTBus_ok c hT h
theorem lrS1bA_ok {X P : List (List Int)} {c x0 x1 x2 x3 x4 : Int} {a2 a6 a8 a19 a20 a21 a22 a23 a24 a25 a26 a27 a28 a29 a30 a31 a32 a33 a34 a35 a36 a37 a38 a39 : AV} {K : AV → List Blk → Prop} {B : St → Prop} (hL : (lostJ x0 0 X.length).isEmpty = true) (hT : Tail X (markJ x0 [x4, x3, 0, 0, 0, 0, 0, 0] 0 X.length X) (markJ x1 [0, 0, 0, 0, 0, 0, 0, 0] 0 c.toNat P) c (lostJ x0 0 X.length) (lostJ x1 0 c.toNat) (thereJ x1 0 c.toNat)) (hc : c = P.length) (hp : P.length ≤ 4) (h8 : P.all len8 = true) (hne : lostJ x1 0 c.toNat = [] → thereJ x1 0 c.toNat ≠ []) (hB : B = fun s => evRest (ElrM lrA 0) Try.f14 12 s K) (h : K (.one (.bool true)) []) :
    evStage (ElrM lrA 0) Try.f14 8 4 { t := ([AV.one (SV.data (Row.mat IntKind.i64 8 X)), AV.one (SV.int IntKind.i64 c), a2, AV.any, AV.any, AV.one (SV.ptr 0 1 0 0), a6, AV.one (SV.data (Row.mat IntKind.i64 8 P)), a8, AV.any, AV.any, AV.any, AV.any, AV.any, AV.any, AV.any, AV.any, AV.any, AV.any, a19, a20, a21, a22, a23, a24, a25, a26, a27, a28, a29, a30, a31, a32, a33, a34, a35, a36, a37, a38, a39] ++ List.replicate 147 .any), σ := [.cells [.int .i64 x0, .int .i64 x1, .int .i64 x2, .int .i64 x3, .int .i64 x4], .dead] } K B := by
  rw [exlrS1b]
  have ex : ((X.length : Int) - 0).toNat = X.length := by omega
  have hx12 := hT.x12
  rw [ex]
  refine And.intro (by omega) (And.intro (by omega) (And.intro ⟨hx12, rfl, hT.x8, by decide, by omega⟩ ?_))
  rw [hL, cond_true]
  subst hB
  show evRest (ElrM lrA 0) Try.f14 12 _ K
  rw [evRest_stage (ElrM lrA 0) Try.f14 12 2]
  have e0 := List.isEmpty_iff.1 hL
  have em := mark_none [x4, x3, 0, 0, 0, 0, 0, 0] X.length 0 X e0
  rw [e0, em] at hT
  exact lrS2A_ok hT hc hp h8 hne rfl h
theorem oklrA : SpecOK Try.prog 14 lrSa := by
  refine specOKc (n := 187) (m := 0) (lps := llr lrA) [63, 40] [] alllr Try.func14 (by kernel_rfl) (by kernel_rfl) (theLoops (n := 2) (by kernel_rfl) fun i hi => ?_) fun args σ K h => ?_
  · match i, hi with
    | 0, _ => exact loopHyp_frm (E' := ElrM lrA 4) (key := 11) (m := 4) (by kernel_rfl) rfl rfl loklr_0
    | 1, _ => exact loopHyp_frm (E' := ElrM lrA 4) (key := 17) (m := 4) (by kernel_rfl) rfl rfl loklrA
  unfold lrSa at h
  split at h
  rotate_right
  · exact h.elim
  rename_i X c x0 x1 x2 x3 x4
  obtain ⟨⟨x8, hL⟩, h⟩ := h
  show evFn (ElrM lrA 0) Try.f14 _ [] K
  rw [evFn_rest (by kernel_rfl) (by kernel_rfl), evRest_stage (ElrM lrA 0) Try.f14 0 8, exlrS1]
  refine And.intro x8 ?_
  by_cases he : dataE X c = 0
  · rw [show (dataE X c != 0) = false by rw [he]; rfl]
    simp only [cond_false]
    have hd := dataE_ok (show (dataE X c == 0) = true by rw [he]; rfl)
    have hv : parV X c = parM X c := by unfold parV; rw [he]; rfl
    have hpl : (parM X c).length = c.toNat := rowsF_length X c.toNat 0
    rw [hv, show (((parM X c).length : Int) != c) = false by rw [hpl]; simp; omega, cond_false]
    refine And.intro (by omega) (And.intro ⟨by omega, x8⟩ ?_)
    show evRest (ElrM lrA 0) Try.f14 (0 + 8) _ K
    rw [evRest_stage (ElrM lrA 0) Try.f14 (0 + 8) 4]
    exact lrS1bA_ok hL (tail_of x0 x1 x3 x4 he x8) (by rw [hpl]; omega) (by rw [hpl]; omega) (rowsF_len8 X c.toNat 0) (there_ne x1 (by omega)) rfl h
  · rw [show (dataE X c != 0) = true by simpa using he]
    exact h
theorem lrS1bB_ok {X P : List (List Int)} {c x0 x1 x2 x3 x4 : Int} {a2 a6 a8 a19 a20 a21 a22 a23 a24 a25 a26 a27 a28 a29 a30 a31 a32 a33 a34 a35 a36 a37 a38 a39 : AV} {K : AV → List Blk → Prop} {B : St → Prop} (hL : (lostJ x0 0 X.length).isEmpty = false) (hT : Tail X (markJ x0 [x4, x3, 0, 0, 0, 0, 0, 0] 0 X.length X) (markJ x1 [0, 0, 0, 0, 0, 0, 0, 0] 0 c.toNat P) c (lostJ x0 0 X.length) (lostJ x1 0 c.toNat) (thereJ x1 0 c.toNat)) (hc : c = P.length) (hp : P.length ≤ 4) (h8 : P.all len8 = true) (hne : lostJ x1 0 c.toNat = [] → thereJ x1 0 c.toNat ≠ []) (hB : B = fun s => evRest (ElrM lrB 0) Try.f14 12 s K) (h : K (.one (.bool true)) []) :
    evStage (ElrM lrB 0) Try.f14 8 4 { t := ([AV.one (SV.data (Row.mat IntKind.i64 8 X)), AV.one (SV.int IntKind.i64 c), a2, AV.any, AV.any, AV.one (SV.ptr 0 1 0 0), a6, AV.one (SV.data (Row.mat IntKind.i64 8 P)), a8, AV.any, AV.any, AV.any, AV.any, AV.any, AV.any, AV.any, AV.any, AV.any, AV.any, a19, a20, a21, a22, a23, a24, a25, a26, a27, a28, a29, a30, a31, a32, a33, a34, a35, a36, a37, a38, a39] ++ List.replicate 147 .any), σ := [.cells [.int .i64 x0, .int .i64 x1, .int .i64 x2, .int .i64 x3, .int .i64 x4], .dead] } K B := by
  rw [exlrS1b]
  have ex : ((X.length : Int) - 0).toNat = X.length := by omega
  have hx12 := hT.x12
  rw [ex]
  refine And.intro (by omega) (And.intro (by omega) (And.intro ⟨hx12, rfl, hT.x8, by decide, by omega⟩ ?_))
  rw [hL, cond_false]
  subst hB
  show evRest (ElrM lrB 0) Try.f14 12 _ K
  rw [evRest_stage (ElrM lrB 0) Try.f14 12 2]
  exact lrS2B_ok hT hc hp h8 hne rfl h
theorem oklrB : SpecOK Try.prog 14 lrSb := by
  refine specOKc (n := 187) (m := 0) (lps := llr lrB) [63, 40] [] alllr Try.func14 (by kernel_rfl) (by kernel_rfl) (theLoops (n := 2) (by kernel_rfl) fun i hi => ?_) fun args σ K h => ?_
  · match i, hi with
    | 0, _ => exact loopHyp_frm (E' := ElrM lrB 4) (key := 11) (m := 4) (by kernel_rfl) rfl rfl loklr_0
    | 1, _ => exact loopHyp_frm (E' := ElrM lrB 5) (key := 17) (m := 5) (by kernel_rfl) rfl rfl loklrB
  unfold lrSb at h
  split at h
  rotate_right
  · exact h.elim
  rename_i X c x0 x1 x2 x3 x4
  obtain ⟨⟨x8, hL⟩, h⟩ := h
  show evFn (ElrM lrB 0) Try.f14 _ [] K
  rw [evFn_rest (by kernel_rfl) (by kernel_rfl), evRest_stage (ElrM lrB 0) Try.f14 0 8, exlrS1]
  refine And.intro x8 ?_
  by_cases he : dataE X c = 0
  · rw [show (dataE X c != 0) = false by rw [he]; rfl]
    simp only [cond_false]
    have hd := dataE_ok (show (dataE X c == 0) = true by rw [he]; rfl)
    have hv : parV X c = parM X c := by unfold parV; rw [he]; rfl
    have hpl : (parM X c).length = c.toNat := rowsF_length X c.toNat 0
    rw [hv, show (((parM X c).length : Int) != c) = false by rw [hpl]; simp; omega, cond_false]
    refine And.intro (by omega) (And.intro ⟨by omega, x8⟩ ?_)
    show evRest (ElrM lrB 0) Try.f14 (0 + 8) _ K
    rw [evRest_stage (ElrM lrB 0) Try.f14 (0 + 8) 4]
    exact lrS1bB_ok hL (tail_of x0 x1 x3 x4 he x8) (by rw [hpl]; omega) (by rw [hpl]; omega) (rowsF_len8 X c.toNat 0) (there_ne x1 (by omega)) rfl h
  · rw [show (dataE X c != 0) = true by simpa using he]
    exact h
theorem oklr : SpecOK Try.prog 14 lrS := by
  refine SpecOK.mk2 oklrA oklrB fun args σ K h => ?_
  unfold lrS at h
  split at h
  rotate_right
  · exact h.elim
  rename_i X c x0 x1 x2 x3 x4
  obtain ⟨x8, h⟩ := h
  cases he : (lostJ x0 0 X.length).isEmpty with
  | true => exact .inl ⟨⟨x8, he⟩, h⟩
  | false => exact .inr ⟨⟨x8, he⟩, h⟩
end Go.Ev
