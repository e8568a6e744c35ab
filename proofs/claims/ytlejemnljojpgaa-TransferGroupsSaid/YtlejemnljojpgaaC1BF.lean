/-
  Chapter 1, contracts: restored data, of the reference.
-/
import Derived.Test.YtlejemnljojpgaaC1BC
import Derived.Test.YtlejemnljojpgaaC1BD
import Derived.KernelRfl
import Derived.Test.YtlejemnljojpgaaC1BT
set_option linter.unusedVariables false
set_option linter.unusedSimpArgs false
set_option linter.unusedSectionVars false
namespace Go.Ev
open Go Go.Proofs
set_option maxRecDepth 20000
set_option linter.unusedVariables false
def refR (L : List Int) (j : Int) (a : Nat) : Int → Int → List (List Int) → Int
  | out, _, [] => out
  | out, i, xs :: l => refR L j a (bif memB i L then out else modB (out - facG i j * (xs.getD a 0 + 32768)) 65537) (i + 1) l
structure okRf (n : Nat) (D P : List (List Int)) (L K : List Int) : Prop where
  rs : okRs n D P L K
  pv : ∀ a, pivF n 0 (eqsF D P L K a)
  pr : ∀ j ∈ K, resRow (P.getD j.toNat []) = true
def rfK : LSpec := fun vs σ k => match vs, σ with
  | [.one (.ptr 0 1 0 0), .one .nil, .one (.int .i64 j)], [.cells [.data (.mat .i64 8 D), .data (.mat .i64 8 P), .data (.ints .i64 L), .data (.ints .i64 Q)]] => (okG D P L Q ∧ 0 ≤ j ∧ j ≤ P.length) ∧ bif (keptJ Q j ((P.length : Int) - j).toNat).isEmpty then k (.exit 0) [.one .nil] [.cells [.data (.mat .i64 8 D), .data (.mat .i64 8 P), .data (.ints .i64 L), .data (.ints .i64 Q)]] else k (.exit 0) [.one (.own 1 1)] [.cells [.data (.mat .i64 8 D), .data (.mat .i64 8 P), .data (.ints .i64 L), .data (.ints .i64 Q)], .row 3 (.ints .i64 (keptJ Q j ((P.length : Int) - j).toNat))]
  | [.one (.ptr 0 1 0 0), .one (.own 1 1), .one (.int .i64 j)], [.cells [.data (.mat .i64 8 D), .data (.mat .i64 8 P), .data (.ints .i64 L), .data (.ints .i64 Q)], .row 3 (.ints .i64 S)] => (okG D P L Q ∧ 0 ≤ j ∧ j ≤ P.length ∧ S.length ≤ j) ∧ k (.exit 0) [.one (.own 1 1)] [.cells [.data (.mat .i64 8 D), .data (.mat .i64 8 P), .data (.ints .i64 L), .data (.ints .i64 Q)], .row 3 (.ints .i64 (S ++ keptJ Q j ((P.length : Int) - j).toNat))]
  | _, _ => False
def rfE : LSpec := fun vs σ k => match vs, σ with
  | [.one (.ptr 0 1 0 0), .one (.own 1 1), .one (.int .i64 n), .one (.int .i64 a), .one (.int .i64 r), .one (.own 2 1), .one (.int .i64 i)], [.cells [.data (.mat .i64 8 D), .data (.mat .i64 8 P), .data (.ints .i64 L), .data (.ints .i64 Q)], .row 3 (.ints .i64 T), .row 3 (.ints .i64 R)] => (D.length ≤ 12 ∧ D.all len8 = true ∧ keptB L 0 D = true ∧ L.length ≤ 4 ∧ T.length ≤ 4 ∧ 0 ≤ r ∧ r < T.length ∧ 0 ≤ T.getD r.toNat 0 ∧ T.getD r.toNat 0 ≤ 3 ∧ 0 ≤ a ∧ a ≤ 7 ∧ 0 ≤ n ∧ n ≤ 4 ∧ R.length = n.toNat + 1 ∧ 0 ≤ R.getD n.toNat 0 ∧ R.getD n.toNat 0 < 65537 ∧ 0 ≤ i ∧ i ≤ D.length) ∧
      k (.exit 6) [] [.cells [.data (.mat .i64 8 D), .data (.mat .i64 8 P), .data (.ints .i64 L), .data (.ints .i64 Q)], .row 3 (.ints .i64 T), .row 3 (.ints .i64 (R.set n.toNat (refR L (T.getD r.toNat 0) a.toNat (R.getD n.toNat 0) i (D.drop i.toNat))))]
  | _, _ => False
def rfF : LSpec := fun vs σ k => match vs, σ with
  | [.one (.ptr 0 1 0 0), .one (.own 1 1), .one (.int .i64 n), .one (.int .i64 r), .one (.own 2 1), .one (.int .i64 x)], [.cells [.data (.mat .i64 8 D), .data (.mat .i64 8 P), .data (.ints .i64 L), .data (.ints .i64 Q)], .row 3 (.ints .i64 T), .row 3 (.ints .i64 R)] => (n = L.length ∧ n ≤ 4 ∧ okIx L 12 ∧ T.length ≤ 4 ∧ 0 ≤ r ∧ r < T.length ∧ 0 ≤ T.getD r.toNat 0 ∧ T.getD r.toNat 0 ≤ 3 ∧ R.length = n.toNat + 1 ∧ 0 ≤ x ∧ x ≤ n) ∧
      k (.exit 8) [] [.cells [.data (.mat .i64 8 D), .data (.mat .i64 8 P), .data (.ints .i64 L), .data (.ints .i64 Q)], .row 3 (.ints .i64 T), .row 3 (.ints .i64 (R.take x.toNat ++ (facs (L.drop x.toNat) (T.getD r.toNat 0) ++ R.drop n.toNat)))]
  | _, _ => False
def rfG : LSpec := fun vs σ k => match vs, σ with
  | [.one (.ptr 0 1 0 0), .one (.int .i64 n), .one (.own 1 8), .one (.int .i64 a), .one (.own 2 1), .one (.int .i64 x)], [.cells [.data (.mat .i64 8 D), .data (.mat .i64 8 P), .data (.ints .i64 L), .data (.ints .i64 Q)], .row 35 (.mat .i64 8 O), .row 3 (.ints .i64 V)] => (O.all len8 = true ∧ okIx L O.length ∧ n = V.length ∧ V.length = L.length ∧ V.length ≤ 4 ∧ resRow V = true ∧ 0 ≤ a ∧ a ≤ 7 ∧ 0 ≤ x ∧ x ≤ n) ∧
      k (.exit 10) [] [.cells [.data (.mat .i64 8 D), .data (.mat .i64 8 P), .data (.ints .i64 L), .data (.ints .i64 Q)], .row 35 (.mat .i64 8 (putF O a.toNat (L.drop x.toNat) (V.drop x.toNat))), .row 3 (.ints .i64 V)]
  | _, _ => False
def rfH : LSpec := fun vs σ k => match vs, σ with
  | [.one (.ptr 0 1 0 0), .one (.int .i64 n), .one (.own 1 8), .one (.int .i64 x)], [.cells [.data (.mat .i64 8 D), .data (.mat .i64 8 P), .data (.ints .i64 L), .data (.ints .i64 Q)], .row 35 (.mat .i64 8 O)] => (O.all len8 = true ∧ okIx L O.length ∧ n = L.length ∧ n ≤ 4 ∧ 0 ≤ x) ∧
      bif (L.drop x.toNat).all (rowOk O) then k (.exit 12) [.any, .any] [.cells [.data (.mat .i64 8 D), .data (.mat .i64 8 P), .data (.ints .i64 L), .data (.ints .i64 Q)], .row 35 (.mat .i64 8 O)] else k .ret [.one .nil, .one (.int .i64 13)] [.cells [.data (.mat .i64 8 D), .data (.mat .i64 8 P), .data (.ints .i64 L), .data (.ints .i64 Q)], .row 35 (.mat .i64 8 O)]
  | _, _ => False
def rowEq (M P : List (List Int)) (j : Int) : Bool := M.getD j.toNat [] == P.getD j.toNat []
def rfI : LSpec := fun vs σ k => match vs, σ with
  | [.one (.ptr 0 1 0 0), .one (.own 1 1), .one (.own 2 8), .one (.int .i64 x)], [.cells [.data (.mat .i64 8 D), .data (.mat .i64 8 P), .data (.ints .i64 L), .data (.ints .i64 Q)], .row 3 (.ints .i64 T), .row 35 (.mat .i64 8 M)] => (M.all len8 = true ∧ P.all len8 = true ∧ T.length ≤ 4 ∧ okIx T P.length ∧ okIx T M.length ∧ 0 ≤ x) ∧
      bif (T.drop x.toNat).all (rowEq M P) then k (.exit 14) [.any, .any] [.cells [.data (.mat .i64 8 D), .data (.mat .i64 8 P), .data (.ints .i64 L), .data (.ints .i64 Q)], .row 3 (.ints .i64 T), .row 35 (.mat .i64 8 M)] else k .ret [.one .nil, .one (.int .i64 13)] [.cells [.data (.mat .i64 8 D), .data (.mat .i64 8 P), .data (.ints .i64 L), .data (.ints .i64 Q)], .row 3 (.ints .i64 T), .row 35 (.mat .i64 8 M)]
  | _, _ => False
def rfX (D P : List (List Int)) (L Q : List Int) (K : AV → List Blk → Prop) : Prop :=
  bif decide ((keptJ Q 0 P.length).length < L.length) then K (.tup [.one .nil, .one (.int .i64 28)]) [] else
    bif L.all (rowOk (resF D P L (keptJ Q 0 P.length) 8 0 D)) && (keptJ Q 0 P.length).all (parOk (resF D P L (keptJ Q 0 P.length) 8 0 D) P) then K (.tup [.one (.own 0 8), .one (.int .i64 0)]) [.row 35 (.mat .i64 8 (resF D P L (keptJ Q 0 P.length) 8 0 D))] else K (.tup [.one .nil, .one (.int .i64 13)]) []
def rfC1 : LSpec := fun vs σ k => match vs, σ with
  | [.one (.ptr 0 1 0 0), .one (.own 1 1), .one (.int .i64 n), .one (.int .i64 a), .one .nil, .one (.int .i64 r)], [.cells [.data (.mat .i64 8 D), .data (.mat .i64 8 P), .data (.ints .i64 L), .data (.ints .i64 Q)], .row 3 (.ints .i64 T)] => (n = 1 ∧ okRf 1 D P L T ∧ 0 ≤ a ∧ a ≤ 7 ∧ r = 0) ∧ k (.exit 4) [.one (.own 2 1)] [.cells [.data (.mat .i64 8 D), .data (.mat .i64 8 P), .data (.ints .i64 L), .data (.ints .i64 Q)], .row 3 (.ints .i64 T), .cells [.own 3 1], .row 3 (.ints .i64 (eqR D P L (T.getD 0 0) a.toNat))]
  | [.one (.ptr 0 1 0 0), .one (.own 1 1), .one (.int .i64 n), .one (.int .i64 a), .one (.own 2 1), .one (.int .i64 r)], [.cells [.data (.mat .i64 8 D), .data (.mat .i64 8 P), .data (.ints .i64 L), .data (.ints .i64 Q)], .row 3 (.ints .i64 T), .cells [.own 3 1], .row 3 (.ints .i64 R0)] => (n = 1 ∧ okRf 1 D P L T ∧ 0 ≤ a ∧ a ≤ 7 ∧ r = 1 ∧ R0 = eqR D P L (T.getD 0 0) a.toNat) ∧ k (.exit 4) [.one (.own 2 1)] [.cells [.data (.mat .i64 8 D), .data (.mat .i64 8 P), .data (.ints .i64 L), .data (.ints .i64 Q)], .row 3 (.ints .i64 T), .cells [.own 3 1], .row 3 (.ints .i64 (eqR D P L (T.getD 0 0) a.toNat))]
  | _, _ => False
def rfB1 : LSpec := fun vs σ k => match vs, σ with
  | [.one (.ptr 0 1 0 0), .one (.own 1 1), .one (.int .i64 n), .one (.own 2 8), .one (.int .i64 a)], [.cells [.data (.mat .i64 8 D), .data (.mat .i64 8 P), .data (.ints .i64 L), .data (.ints .i64 Q)], .row 3 (.ints .i64 T), .row 35 (.mat .i64 8 O)] => (n = 1 ∧ okRf 1 D P L T ∧ okOut D O ∧ 0 ≤ a ∧ a ≤ 8) ∧ k (.exit 2) [] [.cells [.data (.mat .i64 8 D), .data (.mat .i64 8 P), .data (.ints .i64 L), .data (.ints .i64 Q)], .row 3 (.ints .i64 T), .row 35 (.mat .i64 8 (resF D P L T (8 - a).toNat a.toNat O))]
  | _, _ => False
def rfS1 : Spec := fun args σ K => match args, σ with
  | [.agg [.data (.mat .i64 8 D), .data (.mat .i64 8 P), .data (.ints .i64 L), .data (.ints .i64 Q)]], [] => (okG D P L Q ∧ L.length = 1 ∧ groE D P L Q = 0) ∧ rfX D P L Q K
  | _, _ => False
def rfC2 : LSpec := fun vs σ k => match vs, σ with
  | [.one (.ptr 0 1 0 0), .one (.own 1 1), .one (.int .i64 n), .one (.int .i64 a), .one .nil, .one (.int .i64 r)], [.cells [.data (.mat .i64 8 D), .data (.mat .i64 8 P), .data (.ints .i64 L), .data (.ints .i64 Q)], .row 3 (.ints .i64 T)] => (n = 2 ∧ okRf 2 D P L T ∧ 0 ≤ a ∧ a ≤ 7 ∧ r = 0) ∧ k (.exit 4) [.one (.own 2 1)] [.cells [.data (.mat .i64 8 D), .data (.mat .i64 8 P), .data (.ints .i64 L), .data (.ints .i64 Q)], .row 3 (.ints .i64 T), .cells [.own 3 1, .own 4 1], .row 3 (.ints .i64 (eqR D P L (T.getD 0 0) a.toNat)), .row 3 (.ints .i64 (eqR D P L (T.getD 1 0) a.toNat))]
  | [.one (.ptr 0 1 0 0), .one (.own 1 1), .one (.int .i64 n), .one (.int .i64 a), .one (.own 2 1), .one (.int .i64 r)], [.cells [.data (.mat .i64 8 D), .data (.mat .i64 8 P), .data (.ints .i64 L), .data (.ints .i64 Q)], .row 3 (.ints .i64 T), .cells [.own 3 1], .row 3 (.ints .i64 R0)] => (n = 2 ∧ okRf 2 D P L T ∧ 0 ≤ a ∧ a ≤ 7 ∧ r = 1 ∧ R0 = eqR D P L (T.getD 0 0) a.toNat) ∧ k (.exit 4) [.one (.own 2 1)] [.cells [.data (.mat .i64 8 D), .data (.mat .i64 8 P), .data (.ints .i64 L), .data (.ints .i64 Q)], .row 3 (.ints .i64 T), .cells [.own 3 1, .own 4 1], .row 3 (.ints .i64 (eqR D P L (T.getD 0 0) a.toNat)), .row 3 (.ints .i64 (eqR D P L (T.getD 1 0) a.toNat))]
  | [.one (.ptr 0 1 0 0), .one (.own 1 1), .one (.int .i64 n), .one (.int .i64 a), .one (.own 2 1), .one (.int .i64 r)], [.cells [.data (.mat .i64 8 D), .data (.mat .i64 8 P), .data (.ints .i64 L), .data (.ints .i64 Q)], .row 3 (.ints .i64 T), .cells [.own 3 1, .own 4 1], .row 3 (.ints .i64 R0), .row 3 (.ints .i64 R1)] => (n = 2 ∧ okRf 2 D P L T ∧ 0 ≤ a ∧ a ≤ 7 ∧ r = 2 ∧ R0 = eqR D P L (T.getD 0 0) a.toNat ∧ R1 = eqR D P L (T.getD 1 0) a.toNat) ∧ k (.exit 4) [.one (.own 2 1)] [.cells [.data (.mat .i64 8 D), .data (.mat .i64 8 P), .data (.ints .i64 L), .data (.ints .i64 Q)], .row 3 (.ints .i64 T), .cells [.own 3 1, .own 4 1], .row 3 (.ints .i64 (eqR D P L (T.getD 0 0) a.toNat)), .row 3 (.ints .i64 (eqR D P L (T.getD 1 0) a.toNat))]
  | _, _ => False
def rfB2 : LSpec := fun vs σ k => match vs, σ with
  | [.one (.ptr 0 1 0 0), .one (.own 1 1), .one (.int .i64 n), .one (.own 2 8), .one (.int .i64 a)], [.cells [.data (.mat .i64 8 D), .data (.mat .i64 8 P), .data (.ints .i64 L), .data (.ints .i64 Q)], .row 3 (.ints .i64 T), .row 35 (.mat .i64 8 O)] => (n = 2 ∧ okRf 2 D P L T ∧ okOut D O ∧ 0 ≤ a ∧ a ≤ 8) ∧ k (.exit 2) [] [.cells [.data (.mat .i64 8 D), .data (.mat .i64 8 P), .data (.ints .i64 L), .data (.ints .i64 Q)], .row 3 (.ints .i64 T), .row 35 (.mat .i64 8 (resF D P L T (8 - a).toNat a.toNat O))]
  | _, _ => False
def rfC3 : LSpec := fun vs σ k => match vs, σ with
  | [.one (.ptr 0 1 0 0), .one (.own 1 1), .one (.int .i64 n), .one (.int .i64 a), .one .nil, .one (.int .i64 r)], [.cells [.data (.mat .i64 8 D), .data (.mat .i64 8 P), .data (.ints .i64 L), .data (.ints .i64 Q)], .row 3 (.ints .i64 T)] => (n = 3 ∧ okRf 3 D P L T ∧ 0 ≤ a ∧ a ≤ 7 ∧ r = 0) ∧ k (.exit 4) [.one (.own 2 1)] [.cells [.data (.mat .i64 8 D), .data (.mat .i64 8 P), .data (.ints .i64 L), .data (.ints .i64 Q)], .row 3 (.ints .i64 T), .cells [.own 3 1, .own 4 1, .own 5 1], .row 3 (.ints .i64 (eqR D P L (T.getD 0 0) a.toNat)), .row 3 (.ints .i64 (eqR D P L (T.getD 1 0) a.toNat)), .row 3 (.ints .i64 (eqR D P L (T.getD 2 0) a.toNat))]
  | [.one (.ptr 0 1 0 0), .one (.own 1 1), .one (.int .i64 n), .one (.int .i64 a), .one (.own 2 1), .one (.int .i64 r)], [.cells [.data (.mat .i64 8 D), .data (.mat .i64 8 P), .data (.ints .i64 L), .data (.ints .i64 Q)], .row 3 (.ints .i64 T), .cells [.own 3 1], .row 3 (.ints .i64 R0)] => (n = 3 ∧ okRf 3 D P L T ∧ 0 ≤ a ∧ a ≤ 7 ∧ r = 1 ∧ R0 = eqR D P L (T.getD 0 0) a.toNat) ∧ k (.exit 4) [.one (.own 2 1)] [.cells [.data (.mat .i64 8 D), .data (.mat .i64 8 P), .data (.ints .i64 L), .data (.ints .i64 Q)], .row 3 (.ints .i64 T), .cells [.own 3 1, .own 4 1, .own 5 1], .row 3 (.ints .i64 (eqR D P L (T.getD 0 0) a.toNat)), .row 3 (.ints .i64 (eqR D P L (T.getD 1 0) a.toNat)), .row 3 (.ints .i64 (eqR D P L (T.getD 2 0) a.toNat))]
  | [.one (.ptr 0 1 0 0), .one (.own 1 1), .one (.int .i64 n), .one (.int .i64 a), .one (.own 2 1), .one (.int .i64 r)], [.cells [.data (.mat .i64 8 D), .data (.mat .i64 8 P), .data (.ints .i64 L), .data (.ints .i64 Q)], .row 3 (.ints .i64 T), .cells [.own 3 1, .own 4 1], .row 3 (.ints .i64 R0), .row 3 (.ints .i64 R1)] => (n = 3 ∧ okRf 3 D P L T ∧ 0 ≤ a ∧ a ≤ 7 ∧ r = 2 ∧ R0 = eqR D P L (T.getD 0 0) a.toNat ∧ R1 = eqR D P L (T.getD 1 0) a.toNat) ∧ k (.exit 4) [.one (.own 2 1)] [.cells [.data (.mat .i64 8 D), .data (.mat .i64 8 P), .data (.ints .i64 L), .data (.ints .i64 Q)], .row 3 (.ints .i64 T), .cells [.own 3 1, .own 4 1, .own 5 1], .row 3 (.ints .i64 (eqR D P L (T.getD 0 0) a.toNat)), .row 3 (.ints .i64 (eqR D P L (T.getD 1 0) a.toNat)), .row 3 (.ints .i64 (eqR D P L (T.getD 2 0) a.toNat))]
  | [.one (.ptr 0 1 0 0), .one (.own 1 1), .one (.int .i64 n), .one (.int .i64 a), .one (.own 2 1), .one (.int .i64 r)], [.cells [.data (.mat .i64 8 D), .data (.mat .i64 8 P), .data (.ints .i64 L), .data (.ints .i64 Q)], .row 3 (.ints .i64 T), .cells [.own 3 1, .own 4 1, .own 5 1], .row 3 (.ints .i64 R0), .row 3 (.ints .i64 R1), .row 3 (.ints .i64 R2)] => (n = 3 ∧ okRf 3 D P L T ∧ 0 ≤ a ∧ a ≤ 7 ∧ r = 3 ∧ R0 = eqR D P L (T.getD 0 0) a.toNat ∧ R1 = eqR D P L (T.getD 1 0) a.toNat ∧ R2 = eqR D P L (T.getD 2 0) a.toNat) ∧ k (.exit 4) [.one (.own 2 1)] [.cells [.data (.mat .i64 8 D), .data (.mat .i64 8 P), .data (.ints .i64 L), .data (.ints .i64 Q)], .row 3 (.ints .i64 T), .cells [.own 3 1, .own 4 1, .own 5 1], .row 3 (.ints .i64 (eqR D P L (T.getD 0 0) a.toNat)), .row 3 (.ints .i64 (eqR D P L (T.getD 1 0) a.toNat)), .row 3 (.ints .i64 (eqR D P L (T.getD 2 0) a.toNat))]
  | _, _ => False
def rfB3 : LSpec := fun vs σ k => match vs, σ with
  | [.one (.ptr 0 1 0 0), .one (.own 1 1), .one (.int .i64 n), .one (.own 2 8), .one (.int .i64 a)], [.cells [.data (.mat .i64 8 D), .data (.mat .i64 8 P), .data (.ints .i64 L), .data (.ints .i64 Q)], .row 3 (.ints .i64 T), .row 35 (.mat .i64 8 O)] => (n = 3 ∧ okRf 3 D P L T ∧ okOut D O ∧ 0 ≤ a ∧ a ≤ 8) ∧ k (.exit 2) [] [.cells [.data (.mat .i64 8 D), .data (.mat .i64 8 P), .data (.ints .i64 L), .data (.ints .i64 Q)], .row 3 (.ints .i64 T), .row 35 (.mat .i64 8 (resF D P L T (8 - a).toNat a.toNat O))]
  | _, _ => False
def rfC4 : LSpec := fun vs σ k => match vs, σ with
  | [.one (.ptr 0 1 0 0), .one (.own 1 1), .one (.int .i64 n), .one (.int .i64 a), .one .nil, .one (.int .i64 r)], [.cells [.data (.mat .i64 8 D), .data (.mat .i64 8 P), .data (.ints .i64 L), .data (.ints .i64 Q)], .row 3 (.ints .i64 T)] => (n = 4 ∧ okRf 4 D P L T ∧ 0 ≤ a ∧ a ≤ 7 ∧ r = 0) ∧ k (.exit 4) [.one (.own 2 1)] [.cells [.data (.mat .i64 8 D), .data (.mat .i64 8 P), .data (.ints .i64 L), .data (.ints .i64 Q)], .row 3 (.ints .i64 T), .cells [.own 3 1, .own 4 1, .own 5 1, .own 6 1], .row 3 (.ints .i64 (eqR D P L (T.getD 0 0) a.toNat)), .row 3 (.ints .i64 (eqR D P L (T.getD 1 0) a.toNat)), .row 3 (.ints .i64 (eqR D P L (T.getD 2 0) a.toNat)), .row 3 (.ints .i64 (eqR D P L (T.getD 3 0) a.toNat))]
  | [.one (.ptr 0 1 0 0), .one (.own 1 1), .one (.int .i64 n), .one (.int .i64 a), .one (.own 2 1), .one (.int .i64 r)], [.cells [.data (.mat .i64 8 D), .data (.mat .i64 8 P), .data (.ints .i64 L), .data (.ints .i64 Q)], .row 3 (.ints .i64 T), .cells [.own 3 1], .row 3 (.ints .i64 R0)] => (n = 4 ∧ okRf 4 D P L T ∧ 0 ≤ a ∧ a ≤ 7 ∧ r = 1 ∧ R0 = eqR D P L (T.getD 0 0) a.toNat) ∧ k (.exit 4) [.one (.own 2 1)] [.cells [.data (.mat .i64 8 D), .data (.mat .i64 8 P), .data (.ints .i64 L), .data (.ints .i64 Q)], .row 3 (.ints .i64 T), .cells [.own 3 1, .own 4 1, .own 5 1, .own 6 1], .row 3 (.ints .i64 (eqR D P L (T.getD 0 0) a.toNat)), .row 3 (.ints .i64 (eqR D P L (T.getD 1 0) a.toNat)), .row 3 (.ints .i64 (eqR D P L (T.getD 2 0) a.toNat)), .row 3 (.ints .i64 (eqR D P L (T.getD 3 0) a.toNat))]
  | [.one (.ptr 0 1 0 0), .one (.own 1 1), .one (.int .i64 n), .one (.int .i64 a), .one (.own 2 1), .one (.int .i64 r)], [.cells [.data (.mat .i64 8 D), .data (.mat .i64 8 P), .data (.ints .i64 L), .data (.ints .i64 Q)], .row 3 (.ints .i64 T), .cells [.own 3 1, .own 4 1], .row 3 (.ints .i64 R0), .row 3 (.ints .i64 R1)] => (n = 4 ∧ okRf 4 D P L T ∧ 0 ≤ a ∧ a ≤ 7 ∧ r = 2 ∧ R0 = eqR D P L (T.getD 0 0) a.toNat ∧ R1 = eqR D P L (T.getD 1 0) a.toNat) ∧ k (.exit 4) [.one (.own 2 1)] [.cells [.data (.mat .i64 8 D), .data (.mat .i64 8 P), .data (.ints .i64 L), .data (.ints .i64 Q)], .row 3 (.ints .i64 T), .cells [.own 3 1, .own 4 1, .own 5 1, .own 6 1], .row 3 (.ints .i64 (eqR D P L (T.getD 0 0) a.toNat)), .row 3 (.ints .i64 (eqR D P L (T.getD 1 0) a.toNat)), .row 3 (.ints .i64 (eqR D P L (T.getD 2 0) a.toNat)), .row 3 (.ints .i64 (eqR D P L (T.getD 3 0) a.toNat))]
  | [.one (.ptr 0 1 0 0), .one (.own 1 1), .one (.int .i64 n), .one (.int .i64 a), .one (.own 2 1), .one (.int .i64 r)], [.cells [.data (.mat .i64 8 D), .data (.mat .i64 8 P), .data (.ints .i64 L), .data (.ints .i64 Q)], .row 3 (.ints .i64 T), .cells [.own 3 1, .own 4 1, .own 5 1], .row 3 (.ints .i64 R0), .row 3 (.ints .i64 R1), .row 3 (.ints .i64 R2)] => (n = 4 ∧ okRf 4 D P L T ∧ 0 ≤ a ∧ a ≤ 7 ∧ r = 3 ∧ R0 = eqR D P L (T.getD 0 0) a.toNat ∧ R1 = eqR D P L (T.getD 1 0) a.toNat ∧ R2 = eqR D P L (T.getD 2 0) a.toNat) ∧ k (.exit 4) [.one (.own 2 1)] [.cells [.data (.mat .i64 8 D), .data (.mat .i64 8 P), .data (.ints .i64 L), .data (.ints .i64 Q)], .row 3 (.ints .i64 T), .cells [.own 3 1, .own 4 1, .own 5 1, .own 6 1], .row 3 (.ints .i64 (eqR D P L (T.getD 0 0) a.toNat)), .row 3 (.ints .i64 (eqR D P L (T.getD 1 0) a.toNat)), .row 3 (.ints .i64 (eqR D P L (T.getD 2 0) a.toNat)), .row 3 (.ints .i64 (eqR D P L (T.getD 3 0) a.toNat))]
  | [.one (.ptr 0 1 0 0), .one (.own 1 1), .one (.int .i64 n), .one (.int .i64 a), .one (.own 2 1), .one (.int .i64 r)], [.cells [.data (.mat .i64 8 D), .data (.mat .i64 8 P), .data (.ints .i64 L), .data (.ints .i64 Q)], .row 3 (.ints .i64 T), .cells [.own 3 1, .own 4 1, .own 5 1, .own 6 1], .row 3 (.ints .i64 R0), .row 3 (.ints .i64 R1), .row 3 (.ints .i64 R2), .row 3 (.ints .i64 R3)] => (n = 4 ∧ okRf 4 D P L T ∧ 0 ≤ a ∧ a ≤ 7 ∧ r = 4 ∧ R0 = eqR D P L (T.getD 0 0) a.toNat ∧ R1 = eqR D P L (T.getD 1 0) a.toNat ∧ R2 = eqR D P L (T.getD 2 0) a.toNat ∧ R3 = eqR D P L (T.getD 3 0) a.toNat) ∧ k (.exit 4) [.one (.own 2 1)] [.cells [.data (.mat .i64 8 D), .data (.mat .i64 8 P), .data (.ints .i64 L), .data (.ints .i64 Q)], .row 3 (.ints .i64 T), .cells [.own 3 1, .own 4 1, .own 5 1, .own 6 1], .row 3 (.ints .i64 (eqR D P L (T.getD 0 0) a.toNat)), .row 3 (.ints .i64 (eqR D P L (T.getD 1 0) a.toNat)), .row 3 (.ints .i64 (eqR D P L (T.getD 2 0) a.toNat)), .row 3 (.ints .i64 (eqR D P L (T.getD 3 0) a.toNat))]
  | _, _ => False
def rfB4 : LSpec := fun vs σ k => match vs, σ with
  | [.one (.ptr 0 1 0 0), .one (.own 1 1), .one (.int .i64 n), .one (.own 2 8), .one (.int .i64 a)], [.cells [.data (.mat .i64 8 D), .data (.mat .i64 8 P), .data (.ints .i64 L), .data (.ints .i64 Q)], .row 3 (.ints .i64 T), .row 35 (.mat .i64 8 O)] => (n = 4 ∧ okRf 4 D P L T ∧ okOut D O ∧ 0 ≤ a ∧ a ≤ 8) ∧ k (.exit 2) [] [.cells [.data (.mat .i64 8 D), .data (.mat .i64 8 P), .data (.ints .i64 L), .data (.ints .i64 Q)], .row 3 (.ints .i64 T), .row 35 (.mat .i64 8 (resF D P L T (8 - a).toNat a.toNat O))]
  | _, _ => False
def rsZ : Spec := fun args σ K => match args, σ with
  | [.one (.data (.recs [.sints .i64] []))], [] => K (.one .nil) []
  | _, _ => False
def rfS0a : Spec := fun args σ K => match args, σ with
  | [.agg [.data (.mat .i64 8 D), .data (.mat .i64 8 P), .data (.ints .i64 []), .data (.ints .i64 Q)]], [] => (okG D P [] Q ∧ groE D P [] Q = 0 ∧ (keptJ Q 0 P.length).isEmpty = false) ∧ rfX D P [] Q K
  | _, _ => False
def rfS0b : Spec := fun args σ K => match args, σ with
  | [.agg [.data (.mat .i64 8 D), .data (.mat .i64 8 P), .data (.ints .i64 []), .data (.ints .i64 Q)]], [] => (okG D P [] Q ∧ groE D P [] Q = 0 ∧ (keptJ Q 0 P.length).isEmpty = true) ∧ rfX D P [] Q K
  | _, _ => False
noncomputable abbrev srf (S0 : Spec) : List (FuncId × Spec) := [(120, hasS), (101, refFactorS), (26, modS), (125, S0), (29, samplesS), (46, refParityS)]
noncomputable abbrev lrf (l1 l2 l5 l7 : LoopBy) : List (Nat × LoopBy) := [(3, .frm 1 [1, 4, 5] [4] rfK), (12, l1), (16, l2), (21, .frm 3 [1, 4, 6, 8, 10, 11, 12] [] rfE), (26, .frm 3 [1, 4, 6, 10, 11, 13] [] rfF), (32, l5), (36, .frm 2 [1, 6, 7, 16] [2, 3] rfH), (42, l7)]
noncomputable abbrev ErfM (S0 : Spec) (l1 l2 l5 l7 : LoopBy) (m : Nat) : Env := envOf Try.prog (srf S0) (lrf l1 l2 l5 l7) 193 m [] [47]
noncomputable abbrev lrfG : LoopBy := .frm 3 [1, 6, 7, 8, 14, 15] [] rfG
noncomputable abbrev lrfI : LoopBy := .frm 3 [1, 4, 17, 18] [2, 3] rfI
noncomputable abbrev lrfB1 : LoopBy := .frm 3 [1, 4, 6, 7, 8] [] rfB1
noncomputable abbrev lrfC1 : LoopBy := .frm 2 [1, 4, 6, 8, 9, 10] [9] rfC1
noncomputable abbrev Erf1 (m : Nat) : Env := ErfM rsS1 lrfB1 lrfC1 lrfG lrfI m
noncomputable abbrev lrfB2 : LoopBy := .frm 3 [1, 4, 6, 7, 8] [] rfB2
noncomputable abbrev lrfC2 : LoopBy := .frm 2 [1, 4, 6, 8, 9, 10] [9] rfC2
noncomputable abbrev Erf2 (m : Nat) : Env := ErfM rsS2 lrfB2 lrfC2 lrfG lrfI m
noncomputable abbrev lrfB3 : LoopBy := .frm 3 [1, 4, 6, 7, 8] [] rfB3
noncomputable abbrev lrfC3 : LoopBy := .frm 2 [1, 4, 6, 8, 9, 10] [9] rfC3
noncomputable abbrev Erf3 (m : Nat) : Env := ErfM rsS3 lrfB3 lrfC3 lrfG lrfI m
noncomputable abbrev lrfB4 : LoopBy := .frm 3 [1, 4, 6, 7, 8] [] rfB4
noncomputable abbrev lrfC4 : LoopBy := .frm 2 [1, 4, 6, 8, 9, 10] [9] rfC4
noncomputable abbrev Erf4 (m : Nat) : Env := ErfM rsS4 lrfB4 lrfC4 lrfG lrfI m
noncomputable abbrev Ersz : Env := envOf Try.prog [(43, rin2S), (26, modS)] [(3, .unroll 1), (6, .unroll 1), (11, .unroll 1), (15, .unroll 1), (19, .unroll 1), (24, .unroll 1)] 136 0
end Go.Ev

namespace Go.Ev
open Go Go.Proofs
set_option maxRecDepth 100000
theorem exrfl0a (S0 : Spec) (l1 l2 l5 l7 : LoopBy) (j : Int) (D P : List (List Int)) (L Q : List Int) (K : Ex → List AV → List Blk → Prop) : evBody (ErfM S0 l1 l2 l5 l7 1) (lb Try.f67 0) [1, 4, 5] [4] [.one (.ptr 0 1 0 0), .one .nil, .one (.int .i64 j)] [.cells [.data (.mat .i64 8 D), .data (.mat .i64 8 P), .data (.ints .i64 L), .data (.ints .i64 Q)]] K = ( bif decide (j < (↑P.length : Int)) then Q.length ≤ 1000000 ∧ bif !memB j Q then K .normal [.one (.ptr 0 1 0 0), .one (.own 1 1), .one (.int .i64 (IntKind.i64.wrap (j + 1)))] [Blk.cells [SV.data (Row.mat .i64 8 D), SV.data (Row.mat .i64 8 P), SV.data (Row.ints .i64 L), SV.data (Row.ints .i64 Q)], Blk.row 3 (Row.ints .i64 [j])] else K .normal [.one (.ptr 0 1 0 0), .one .nil, .one (.int .i64 (IntKind.i64.wrap (j + 1)))] [Blk.cells [SV.data (Row.mat .i64 8 D), SV.data (Row.mat .i64 8 P), SV.data (Row.ints .i64 L), SV.data (Row.ints .i64 Q)]] else K (.exit 0) [.one .nil] [Blk.cells [SV.data (Row.mat .i64 8 D), SV.data (Row.mat .i64 8 P), SV.data (Row.ints .i64 L), SV.data (Row.ints .i64 Q)]]) := by kernel_rfl
theorem exrfl0b (S0 : Spec) (l1 l2 l5 l7 : LoopBy) (j : Int) (D P : List (List Int)) (L Q S : List Int) (K : Ex → List AV → List Blk → Prop) : evBody (ErfM S0 l1 l2 l5 l7 1) (lb Try.f67 0) [1, 4, 5] [4] [.one (.ptr 0 1 0 0), .one (.own 1 1), .one (.int .i64 j)] [.cells [.data (.mat .i64 8 D), .data (.mat .i64 8 P), .data (.ints .i64 L), .data (.ints .i64 Q)], .row 3 (.ints .i64 S)] K = ( bif decide (j < (↑P.length : Int)) then Q.length ≤ 1000000 ∧ bif !memB j Q then bif decide ((S ++ [j]).length * 8 ≤ 140737488355328 ∧ (S ++ [j]).length ≤ 140737488355328) then K .normal [.one (.ptr 0 1 0 0), .one (.own 1 1), .one (.int .i64 (IntKind.i64.wrap (j + 1)))] [Blk.cells [SV.data (Row.mat .i64 8 D), SV.data (Row.mat .i64 8 P), SV.data (Row.ints .i64 L), SV.data (Row.ints .i64 Q)], Blk.row 3 (Row.ints .i64 (S ++ [j]))] else False else K .normal [.one (.ptr 0 1 0 0), .one (.own 1 1), .one (.int .i64 (IntKind.i64.wrap (j + 1)))] [Blk.cells [SV.data (Row.mat .i64 8 D), SV.data (Row.mat .i64 8 P), SV.data (Row.ints .i64 L), SV.data (Row.ints .i64 Q)], Blk.row 3 (Row.ints .i64 S)] else K (.exit 0) [.one (.own 1 1)] [Blk.cells [SV.data (Row.mat .i64 8 D), SV.data (Row.mat .i64 8 P), SV.data (Row.ints .i64 L), SV.data (Row.ints .i64 Q)], Blk.row 3 (Row.ints .i64 S)]) := by kernel_rfl
theorem exrf1l1a (n a : Int) (D P : List (List Int)) (L Q T : List Int) (O : List (List Int)) (K : Ex → List AV → List Blk → Prop) : evBody (Erf1 3) (lb Try.f67 1) [1, 4, 6, 7, 8] [] [.one (.ptr 0 1 0 0), .one (.own 1 1), .one (.int .i64 n), .one (.own 2 8), .one (.int .i64 a)] [.cells [.data (.mat .i64 8 D), .data (.mat .i64 8 P), .data (.ints .i64 L), .data (.ints .i64 Q)], .row 3 (.ints .i64 T), .row 35 (.mat .i64 8 O)] K = ( bif decide (a < 8) then (n = 1 ∧ okRf 1 D P L T ∧ 0 ≤ a ∧ a ≤ 7 ∧ (0 :Int) = (0 :Int)) ∧ (okSol [eqR D P L (T.getD 0 0) a.toNat] ∧ ([eqR D P L (T.getD 0 0) a.toNat].getD 0 []).getD 0 (0 :Int) ≠ (0 :Int) ∧ True) ∧ ∀ (X0 : List Int), (O.all len8 = true ∧ okIx L O.length ∧ n = (↑(solV [eqR D P L (T.getD 0 0) a.toNat]).length : Int) ∧ (solV [eqR D P L (T.getD 0 0) a.toNat]).length = L.length ∧ (solV [eqR D P L (T.getD 0 0) a.toNat]).length ≤ 4 ∧ resRow (solV [eqR D P L (T.getD 0 0) a.toNat]) = true ∧ 0 ≤ a ∧ a ≤ 7 ∧ (0 :Int) ≤ (0 :Int) ∧ 0 ≤ n) ∧ K .normal [.one (.ptr 0 1 0 0), .one (.own 1 1), .one (.int .i64 n), .one (.own 2 8), .one (.int .i64 (IntKind.i64.wrap (a + 1)))] [Blk.cells [SV.data (Row.mat .i64 8 D), SV.data (Row.mat .i64 8 P), SV.data (Row.ints .i64 L), SV.data (Row.ints .i64 Q)], Blk.row 3 (Row.ints .i64 T), Blk.row 35 (Row.mat .i64 8 (putF O a.toNat L (solV [eqR D P L (T.getD 0 0) a.toNat])))] else K (.exit 2) [] [Blk.cells [SV.data (Row.mat .i64 8 D), SV.data (Row.mat .i64 8 P), SV.data (Row.ints .i64 L), SV.data (Row.ints .i64 Q)], Blk.row 3 (Row.ints .i64 T), Blk.row 35 (Row.mat .i64 8 O)]) := by kernel_rfl
theorem exrf1l2b (n a r : Int) (D P : List (List Int)) (L Q T R0 : List Int) (K : Ex → List AV → List Blk → Prop) : evBody (Erf1 2) (lb Try.f67 2) [1, 4, 6, 8, 9, 10] [9] [.one (.ptr 0 1 0 0), .one (.own 1 1), .one (.int .i64 n), .one (.int .i64 a), .one (.own 2 1), .one (.int .i64 r)] [.cells [.data (.mat .i64 8 D), .data (.mat .i64 8 P), .data (.ints .i64 L), .data (.ints .i64 Q)], .row 3 (.ints .i64 T), .cells [.own 3 1], .row 3 (.ints .i64 R0)] K = ( bif decide (r < n) then bif decide (0 ≤ IntKind.i64.wrap (n + 1)) && (decide (IntKind.i64.wrap (n + 1) ≤ IntKind.i64.wrap (n + 1)) && decide (IntKind.i64.wrap (n + 1) * (8 :Int) ≤ (140737488355328 :Int) ∧ IntKind.i64.wrap (n + 1) ≤ 140737488355328)) then bif decide (0 ≤ r) && decide (r < (↑T.length : Int)) then bif decide (r.toNat + 0 < T.length) then bif decide (0 ≤ T.getD (r.toNat + 0) 0) && decide (T.getD (r.toNat + 0) 0 < (↑P.length : Int)) then bif decide (0 ≤ a) && decide (a < 8) then bif decide (0 + a.toNat + 0 < 8) && decide ((T.getD (r.toNat + 0) 0).toNat < P.length) then bif decide (0 ≤ n) && decide (n < (↑(List.replicate (IntKind.i64.wrap (n + 1)).toNat (0 :Int)).length : Int)) then bif decide (n.toNat + 0 < (List.replicate (IntKind.i64.wrap (n + 1)).toNat (0 :Int)).length) then (D.length ≤ 12 ∧ D.all len8 = true ∧ keptB L 0 D = true ∧ L.length ≤ 4 ∧ T.length ≤ 4 ∧ 0 ≤ r ∧ r < (↑T.length : Int) ∧ 0 ≤ T.getD r.toNat (0 :Int) ∧ T.getD r.toNat (0 :Int) ≤ (3 :Int) ∧ 0 ≤ a ∧ a ≤ 7 ∧ 0 ≤ n ∧ n ≤ 4 ∧ ((List.replicate (IntKind.i64.wrap (n + 1)).toNat (0 :Int)).set (n.toNat + 0) ((P.getD (T.getD (r.toNat + 0) 0).toNat []).getD (0 + a.toNat + 0) 0)).length = n.toNat + 1 ∧ 0 ≤ ((List.replicate (IntKind.i64.wrap (n + 1)).toNat (0 :Int)).set (n.toNat + 0) ((P.getD (T.getD (r.toNat + 0) 0).toNat []).getD (0 + a.toNat + 0) 0)).getD n.toNat (0 :Int) ∧ ((List.replicate (IntKind.i64.wrap (n + 1)).toNat (0 :Int)).set (n.toNat + 0) ((P.getD (T.getD (r.toNat + 0) 0).toNat []).getD (0 + a.toNat + 0) 0)).getD n.toNat (0 :Int) < (65537 :Int) ∧ (0 :Int) ≤ (0 :Int) ∧ 0 ≤ (↑D.length : Int)) ∧ (n = (↑L.length : Int) ∧ n ≤ 4 ∧ okIx L 12 ∧ T.length ≤ 4 ∧ 0 ≤ r ∧ r < (↑T.length : Int) ∧ 0 ≤ T.getD r.toNat (0 :Int) ∧ T.getD r.toNat (0 :Int) ≤ (3 :Int) ∧ (((List.replicate (IntKind.i64.wrap (n + 1)).toNat (0 :Int)).set (n.toNat + 0) ((P.getD (T.getD (r.toNat + 0) 0).toNat []).getD (0 + a.toNat + 0) 0)).set n.toNat (refR L (T.getD r.toNat (0 :Int)) a.toNat (((List.replicate (IntKind.i64.wrap (n + 1)).toNat (0 :Int)).set (n.toNat + 0) ((P.getD (T.getD (r.toNat + 0) 0).toNat []).getD (0 + a.toNat + 0) 0)).getD n.toNat (0 :Int)) 0 D)).length = n.toNat + 1 ∧ (0 :Int) ≤ (0 :Int) ∧ 0 ≤ n) ∧ K .normal [.one (.ptr 0 1 0 0), .one (.own 1 1), .one (.int .i64 n), .one (.int .i64 a), .one (.own 2 1), .one (.int .i64 (IntKind.i64.wrap (r + 1)))] [Blk.cells [SV.data (Row.mat .i64 8 D), SV.data (Row.mat .i64 8 P), SV.data (Row.ints .i64 L), SV.data (Row.ints .i64 Q)], Blk.row 3 (Row.ints .i64 T), Blk.cells [SV.own 3 1, SV.own 4 1], Blk.row 3 (Row.ints .i64 R0), Blk.row 3 (Row.ints .i64 (facs L (T.getD r.toNat (0 :Int)) ++ List.drop n.toNat (((List.replicate (IntKind.i64.wrap (n + 1)).toNat (0 :Int)).set (n.toNat + 0) ((P.getD (T.getD (r.toNat + 0) 0).toNat []).getD (0 + a.toNat + 0) 0)).set n.toNat (refR L (T.getD r.toNat (0 :Int)) a.toNat (((List.replicate (IntKind.i64.wrap (n + 1)).toNat (0 :Int)).set (n.toNat + 0) ((P.getD (T.getD (r.toNat + 0) 0).toNat []).getD (0 + a.toNat + 0) 0)).getD n.toNat (0 :Int)) 0 D))))] else False else False else False else False else False else False else False else False else K (.exit 4) [.one (.own 2 1)] [Blk.cells [SV.data (Row.mat .i64 8 D), SV.data (Row.mat .i64 8 P), SV.data (Row.ints .i64 L), SV.data (Row.ints .i64 Q)], Blk.row 3 (Row.ints .i64 T), Blk.cells [SV.own 3 1], Blk.row 3 (Row.ints .i64 R0)]) := by kernel_rfl
theorem exrfl3a (S0 : Spec) (l1 l2 l5 l7 : LoopBy) (n a r i : Int) (D P : List (List Int)) (L Q T R : List Int) (K : Ex → List AV → List Blk → Prop) : evBody (ErfM S0 l1 l2 l5 l7 3) (lb Try.f67 3) [1, 4, 6, 8, 10, 11, 12] [] [.one (.ptr 0 1 0 0), .one (.own 1 1), .one (.int .i64 n), .one (.int .i64 a), .one (.int .i64 r), .one (.own 2 1), .one (.int .i64 i)] [.cells [.data (.mat .i64 8 D), .data (.mat .i64 8 P), .data (.ints .i64 L), .data (.ints .i64 Q)], .row 3 (.ints .i64 T), .row 3 (.ints .i64 R)] K = ( bif decide (i < (↑D.length : Int)) then L.length ≤ 1000000 ∧ bif !memB i L then bif decide (0 ≤ n) && decide (n < (↑R.length : Int)) then bif decide (n.toNat + 0 < R.length) then bif decide (0 ≤ r) && decide (r < (↑T.length : Int)) then bif decide (r.toNat + 0 < T.length) then bif decide (0 ≤ i) && decide (i < (↑D.length : Int)) then bif decide (0 ≤ a) && decide (a < 8) then bif decide (0 + a.toNat + 0 < 8) && decide (i.toNat < D.length) then (0 ≤ i ∧ i ≤ 1000 ∧ 0 ≤ T.getD (r.toNat + 0) 0 ∧ T.getD (r.toNat + 0) (0 :Int) ≤ (3 :Int)) ∧ (65537 :Int) ≠ (0 :Int) ∧ bif decide (0 ≤ n) && decide (n < (↑R.length : Int)) then bif decide (n.toNat + 0 < R.length) then K .normal [.one (.ptr 0 1 0 0), .one (.own 1 1), .one (.int .i64 n), .one (.int .i64 a), .one (.int .i64 r), .one (.own 2 1), .one (.int .i64 (IntKind.i64.wrap (i + 1)))] [Blk.cells [SV.data (Row.mat .i64 8 D), SV.data (Row.mat .i64 8 P), SV.data (Row.ints .i64 L), SV.data (Row.ints .i64 Q)], Blk.row 3 (Row.ints .i64 T), Blk.row 3 (Row.ints .i64 (R.set (n.toNat + 0) (modB (IntKind.i64.wrap (R.getD (n.toNat + 0) 0 - IntKind.i64.wrap (facG i (T.getD (r.toNat + 0) 0) * IntKind.i64.wrap ((D.getD i.toNat []).getD (0 + a.toNat + 0) (0 :Int) + (32768 :Int))))) 65537)))] else False else False else False else False else False else False else False else False else False else K .normal [.one (.ptr 0 1 0 0), .one (.own 1 1), .one (.int .i64 n), .one (.int .i64 a), .one (.int .i64 r), .one (.own 2 1), .one (.int .i64 (IntKind.i64.wrap (i + 1)))] [Blk.cells [SV.data (Row.mat .i64 8 D), SV.data (Row.mat .i64 8 P), SV.data (Row.ints .i64 L), SV.data (Row.ints .i64 Q)], Blk.row 3 (Row.ints .i64 T), Blk.row 3 (Row.ints .i64 R)] else K (.exit 6) [] [Blk.cells [SV.data (Row.mat .i64 8 D), SV.data (Row.mat .i64 8 P), SV.data (Row.ints .i64 L), SV.data (Row.ints .i64 Q)], Blk.row 3 (Row.ints .i64 T), Blk.row 3 (Row.ints .i64 R)]) := by kernel_rfl
theorem exrfl4a (S0 : Spec) (l1 l2 l5 l7 : LoopBy) (n r x : Int) (D P : List (List Int)) (L Q T R : List Int) (K : Ex → List AV → List Blk → Prop) : evBody (ErfM S0 l1 l2 l5 l7 3) (lb Try.f67 4) [1, 4, 6, 10, 11, 13] [] [.one (.ptr 0 1 0 0), .one (.own 1 1), .one (.int .i64 n), .one (.int .i64 r), .one (.own 2 1), .one (.int .i64 x)] [.cells [.data (.mat .i64 8 D), .data (.mat .i64 8 P), .data (.ints .i64 L), .data (.ints .i64 Q)], .row 3 (.ints .i64 T), .row 3 (.ints .i64 R)] K = ( bif decide (x < n) then bif decide (0 ≤ x) && decide (x < (↑L.length : Int)) then bif decide (x.toNat + 0 < L.length) then bif decide (0 ≤ r) && decide (r < (↑T.length : Int)) then bif decide (r.toNat + 0 < T.length) then (0 ≤ L.getD (x.toNat + 0) 0 ∧ L.getD (x.toNat + 0) (0 :Int) ≤ (1000 :Int) ∧ 0 ≤ T.getD (r.toNat + 0) 0 ∧ T.getD (r.toNat + 0) (0 :Int) ≤ (3 :Int)) ∧ bif decide (0 ≤ x) && decide (x < (↑R.length : Int)) then bif decide (x.toNat + 0 < R.length) then K .normal [.one (.ptr 0 1 0 0), .one (.own 1 1), .one (.int .i64 n), .one (.int .i64 r), .one (.own 2 1), .one (.int .i64 (IntKind.i64.wrap (x + 1)))] [Blk.cells [SV.data (Row.mat .i64 8 D), SV.data (Row.mat .i64 8 P), SV.data (Row.ints .i64 L), SV.data (Row.ints .i64 Q)], Blk.row 3 (Row.ints .i64 T), Blk.row 3 (Row.ints .i64 (R.set (x.toNat + 0) (facG (L.getD (x.toNat + 0) 0) (T.getD (r.toNat + 0) 0))))] else False else False else False else False else False else False else K (.exit 8) [] [Blk.cells [SV.data (Row.mat .i64 8 D), SV.data (Row.mat .i64 8 P), SV.data (Row.ints .i64 L), SV.data (Row.ints .i64 Q)], Blk.row 3 (Row.ints .i64 T), Blk.row 3 (Row.ints .i64 R)]) := by kernel_rfl
theorem exrfl5a (S0 : Spec) (l1 l2 l5 l7 : LoopBy) (n a x : Int) (D P : List (List Int)) (L Q : List Int) (O : List (List Int)) (V : List Int) (K : Ex → List AV → List Blk → Prop) : evBody (ErfM S0 l1 l2 l5 l7 3) (lb Try.f67 5) [1, 6, 7, 8, 14, 15] [] [.one (.ptr 0 1 0 0), .one (.int .i64 n), .one (.own 1 8), .one (.int .i64 a), .one (.own 2 1), .one (.int .i64 x)] [.cells [.data (.mat .i64 8 D), .data (.mat .i64 8 P), .data (.ints .i64 L), .data (.ints .i64 Q)], .row 35 (.mat .i64 8 O), .row 3 (.ints .i64 V)] K = ( bif decide (x < n) then bif decide (0 ≤ x) && decide (x < (↑L.length : Int)) then bif decide (x.toNat + 0 < L.length) then bif decide (0 ≤ x) && decide (x < (↑V.length : Int)) then bif decide (x.toNat + 0 < V.length) then bif decide (0 ≤ L.getD (x.toNat + 0) 0) && decide (L.getD (x.toNat + 0) 0 < (↑O.length : Int)) then bif decide (0 ≤ a) && decide (a < 8) then bif decide (0 + a.toNat < 8) && decide ((L.getD (x.toNat + 0) 0).toNat < O.length) && decide ((O.getD (L.getD (x.toNat + 0) 0).toNat []).length = 8) then K .normal [.one (.ptr 0 1 0 0), .one (.int .i64 n), .one (.own 1 8), .one (.int .i64 a), .one (.own 2 1), .one (.int .i64 (IntKind.i64.wrap (x + 1)))] [Blk.cells [SV.data (Row.mat .i64 8 D), SV.data (Row.mat .i64 8 P), SV.data (Row.ints .i64 L), SV.data (Row.ints .i64 Q)], Blk.row 35 (Row.mat .i64 8 (O.set (L.getD (x.toNat + 0) 0).toNat ((O.getD (L.getD (x.toNat + 0) 0).toNat []).set (0 + a.toNat) (IntKind.i64.wrap (V.getD (x.toNat + 0) (0 :Int) - (32768 :Int)))))), Blk.row 3 (Row.ints .i64 V)] else False else False else False else False else False else False else False else K (.exit 10) [] [Blk.cells [SV.data (Row.mat .i64 8 D), SV.data (Row.mat .i64 8 P), SV.data (Row.ints .i64 L), SV.data (Row.ints .i64 Q)], Blk.row 35 (Row.mat .i64 8 O), Blk.row 3 (Row.ints .i64 V)]) := by kernel_rfl
theorem exrfl6a (S0 : Spec) (l1 l2 l5 l7 : LoopBy) (n x : Int) (D P : List (List Int)) (L Q : List Int) (O : List (List Int)) (K : Ex → List AV → List Blk → Prop) : evBody (ErfM S0 l1 l2 l5 l7 2) (lb Try.f67 6) [1, 6, 7, 16] [2, 3] [.one (.ptr 0 1 0 0), .one (.int .i64 n), .one (.own 1 8), .one (.int .i64 x)] [.cells [.data (.mat .i64 8 D), .data (.mat .i64 8 P), .data (.ints .i64 L), .data (.ints .i64 Q)], .row 35 (.mat .i64 8 O)] K = ( bif decide (x < n) then bif decide (0 ≤ x) && decide (x < (↑L.length : Int)) then bif decide (x.toNat + 0 < L.length) then bif decide (0 ≤ L.getD (x.toNat + 0) 0) && decide (L.getD (x.toNat + 0) 0 < (↑O.length : Int)) then bif decide (7 < 8) && decide ((L.getD (x.toNat + 0) 0).toNat < O.length) then bif (bif [(O.getD (L.getD (x.toNat + 0) 0).toNat []).getD 0 0, (O.getD (L.getD (x.toNat + 0) 0).toNat []).getD 1 0, (O.getD (L.getD (x.toNat + 0) 0).toNat []).getD 2 0, (O.getD (L.getD (x.toNat + 0) 0).toNat []).getD 3 0, (O.getD (L.getD (x.toNat + 0) 0).toNat []).getD 4 0, (O.getD (L.getD (x.toNat + 0) 0).toNat []).getD 5 0, (O.getD (L.getD (x.toNat + 0) 0).toNat []).getD 6 0, (O.getD (L.getD (x.toNat + 0) 0).toNat []).getD 7 0].all sampleG then (0 :Int) else (2 :Int)) != 0 then K .ret [.one .nil, .one (.int .i64 13)] [Blk.cells [SV.data (Row.mat .i64 8 D), SV.data (Row.mat .i64 8 P), SV.data (Row.ints .i64 L), SV.data (Row.ints .i64 Q)], Blk.row 35 (Row.mat .i64 8 O)] else K .normal [.one (.ptr 0 1 0 0), .one (.int .i64 n), .one (.own 1 8), .one (.int .i64 (IntKind.i64.wrap (x + 1)))] [Blk.cells [SV.data (Row.mat .i64 8 D), SV.data (Row.mat .i64 8 P), SV.data (Row.ints .i64 L), SV.data (Row.ints .i64 Q)], Blk.row 35 (Row.mat .i64 8 O)] else False else False else False else False else K (.exit 12) [AV.any, AV.any] [Blk.cells [SV.data (Row.mat .i64 8 D), SV.data (Row.mat .i64 8 P), SV.data (Row.ints .i64 L), SV.data (Row.ints .i64 Q)], Blk.row 35 (Row.mat .i64 8 O)]) := by kernel_rfl
theorem exrfl7a (S0 : Spec) (l1 l2 l5 l7 : LoopBy) (x : Int) (D P : List (List Int)) (L Q T : List Int) (M : List (List Int)) (K : Ex → List AV → List Blk → Prop) : evBody (ErfM S0 l1 l2 l5 l7 3) (lb Try.f67 7) [1, 4, 17, 18] [2, 3] [.one (.ptr 0 1 0 0), .one (.own 1 1), .one (.own 2 8), .one (.int .i64 x)] [.cells [.data (.mat .i64 8 D), .data (.mat .i64 8 P), .data (.ints .i64 L), .data (.ints .i64 Q)], .row 3 (.ints .i64 T), .row 35 (.mat .i64 8 M)] K = ( bif decide (x < (↑T.length : Int)) then bif decide (0 ≤ x) && decide (x < (↑T.length : Int)) then bif decide (x.toNat + 0 < T.length) then bif decide (0 ≤ T.getD (x.toNat + 0) 0) && decide (T.getD (x.toNat + 0) 0 < (↑M.length : Int)) then bif decide (7 < 8) && decide ((T.getD (x.toNat + 0) 0).toNat < M.length) then bif decide (0 ≤ x) && decide (x < (↑T.length : Int)) then bif decide (x.toNat + 0 < T.length) then bif decide (0 ≤ T.getD (x.toNat + 0) 0) && decide (T.getD (x.toNat + 0) 0 < (↑P.length : Int)) then bif decide (7 < 8) && decide ((T.getD (x.toNat + 0) 0).toNat < P.length) then bif !((M.getD (T.getD (x.toNat + 0) 0).toNat []).getD 0 0 == (P.getD (T.getD (x.toNat + 0) 0).toNat []).getD 0 0 && ((M.getD (T.getD (x.toNat + 0) 0).toNat []).getD 1 0 == (P.getD (T.getD (x.toNat + 0) 0).toNat []).getD 1 0 && ((M.getD (T.getD (x.toNat + 0) 0).toNat []).getD 2 0 == (P.getD (T.getD (x.toNat + 0) 0).toNat []).getD 2 0 && ((M.getD (T.getD (x.toNat + 0) 0).toNat []).getD 3 0 == (P.getD (T.getD (x.toNat + 0) 0).toNat []).getD 3 0 && ((M.getD (T.getD (x.toNat + 0) 0).toNat []).getD 4 0 == (P.getD (T.getD (x.toNat + 0) 0).toNat []).getD 4 0 && ((M.getD (T.getD (x.toNat + 0) 0).toNat []).getD 5 0 == (P.getD (T.getD (x.toNat + 0) 0).toNat []).getD 5 0 && ((M.getD (T.getD (x.toNat + 0) 0).toNat []).getD 6 0 == (P.getD (T.getD (x.toNat + 0) 0).toNat []).getD 6 0 && (M.getD (T.getD (x.toNat + 0) 0).toNat []).getD 7 0 == (P.getD (T.getD (x.toNat + 0) 0).toNat []).getD 7 0))))))) then K .ret [.one .nil, .one (.int .i64 13)] [Blk.cells [SV.data (Row.mat .i64 8 D), SV.data (Row.mat .i64 8 P), SV.data (Row.ints .i64 L), SV.data (Row.ints .i64 Q)], Blk.row 3 (Row.ints .i64 T), Blk.row 35 (Row.mat .i64 8 M)] else K .normal [.one (.ptr 0 1 0 0), .one (.own 1 1), .one (.own 2 8), .one (.int .i64 (IntKind.i64.wrap (x + 1)))] [Blk.cells [SV.data (Row.mat .i64 8 D), SV.data (Row.mat .i64 8 P), SV.data (Row.ints .i64 L), SV.data (Row.ints .i64 Q)], Blk.row 3 (Row.ints .i64 T), Blk.row 35 (Row.mat .i64 8 M)] else False else False else False else False else False else False else False else False else K (.exit 14) [AV.any, AV.any] [Blk.cells [SV.data (Row.mat .i64 8 D), SV.data (Row.mat .i64 8 P), SV.data (Row.ints .i64 L), SV.data (Row.ints .i64 Q)], Blk.row 3 (Row.ints .i64 T), Blk.row 35 (Row.mat .i64 8 M)]) := by kernel_rfl
theorem exrf2l1a (n a : Int) (D P : List (List Int)) (L Q T : List Int) (O : List (List Int)) (K : Ex → List AV → List Blk → Prop) : evBody (Erf2 3) (lb Try.f67 1) [1, 4, 6, 7, 8] [] [.one (.ptr 0 1 0 0), .one (.own 1 1), .one (.int .i64 n), .one (.own 2 8), .one (.int .i64 a)] [.cells [.data (.mat .i64 8 D), .data (.mat .i64 8 P), .data (.ints .i64 L), .data (.ints .i64 Q)], .row 3 (.ints .i64 T), .row 35 (.mat .i64 8 O)] K = ( bif decide (a < 8) then (n = 2 ∧ okRf 2 D P L T ∧ 0 ≤ a ∧ a ≤ 7 ∧ (0 :Int) = (0 :Int)) ∧ (okSol [eqR D P L (T.getD 0 0) a.toNat, eqR D P L (T.getD 1 0) a.toNat] ∧ ([eqR D P L (T.getD 0 0) a.toNat, eqR D P L (T.getD 1 0) a.toNat].getD 0 []).getD 0 (0 :Int) ≠ (0 :Int) ∧ ((stp 0 [eqR D P L (T.getD 0 0) a.toNat, eqR D P L (T.getD 1 0) a.toNat]).getD 1 []).getD 1 (0 :Int) ≠ (0 :Int) ∧ True) ∧ ∀ (X0 X1 : List Int), (O.all len8 = true ∧ okIx L O.length ∧ n = (↑(solV [eqR D P L (T.getD 0 0) a.toNat, eqR D P L (T.getD 1 0) a.toNat]).length : Int) ∧ (solV [eqR D P L (T.getD 0 0) a.toNat, eqR D P L (T.getD 1 0) a.toNat]).length = L.length ∧ (solV [eqR D P L (T.getD 0 0) a.toNat, eqR D P L (T.getD 1 0) a.toNat]).length ≤ 4 ∧ resRow (solV [eqR D P L (T.getD 0 0) a.toNat, eqR D P L (T.getD 1 0) a.toNat]) = true ∧ 0 ≤ a ∧ a ≤ 7 ∧ (0 :Int) ≤ (0 :Int) ∧ 0 ≤ n) ∧ K .normal [.one (.ptr 0 1 0 0), .one (.own 1 1), .one (.int .i64 n), .one (.own 2 8), .one (.int .i64 (IntKind.i64.wrap (a + 1)))] [Blk.cells [SV.data (Row.mat .i64 8 D), SV.data (Row.mat .i64 8 P), SV.data (Row.ints .i64 L), SV.data (Row.ints .i64 Q)], Blk.row 3 (Row.ints .i64 T), Blk.row 35 (Row.mat .i64 8 (putF O a.toNat L (solV [eqR D P L (T.getD 0 0) a.toNat, eqR D P L (T.getD 1 0) a.toNat])))] else K (.exit 2) [] [Blk.cells [SV.data (Row.mat .i64 8 D), SV.data (Row.mat .i64 8 P), SV.data (Row.ints .i64 L), SV.data (Row.ints .i64 Q)], Blk.row 3 (Row.ints .i64 T), Blk.row 35 (Row.mat .i64 8 O)]) := by kernel_rfl
theorem exrf2l2c (n a r : Int) (D P : List (List Int)) (L Q T R0 R1 : List Int) (K : Ex → List AV → List Blk → Prop) : evBody (Erf2 2) (lb Try.f67 2) [1, 4, 6, 8, 9, 10] [9] [.one (.ptr 0 1 0 0), .one (.own 1 1), .one (.int .i64 n), .one (.int .i64 a), .one (.own 2 1), .one (.int .i64 r)] [.cells [.data (.mat .i64 8 D), .data (.mat .i64 8 P), .data (.ints .i64 L), .data (.ints .i64 Q)], .row 3 (.ints .i64 T), .cells [.own 3 1, .own 4 1], .row 3 (.ints .i64 R0), .row 3 (.ints .i64 R1)] K = ( bif decide (r < n) then bif decide (0 ≤ IntKind.i64.wrap (n + 1)) && (decide (IntKind.i64.wrap (n + 1) ≤ IntKind.i64.wrap (n + 1)) && decide (IntKind.i64.wrap (n + 1) * (8 :Int) ≤ (140737488355328 :Int) ∧ IntKind.i64.wrap (n + 1) ≤ 140737488355328)) then bif decide (0 ≤ r) && decide (r < (↑T.length : Int)) then bif decide (r.toNat + 0 < T.length) then bif decide (0 ≤ T.getD (r.toNat + 0) 0) && decide (T.getD (r.toNat + 0) 0 < (↑P.length : Int)) then bif decide (0 ≤ a) && decide (a < 8) then bif decide (0 + a.toNat + 0 < 8) && decide ((T.getD (r.toNat + 0) 0).toNat < P.length) then bif decide (0 ≤ n) && decide (n < (↑(List.replicate (IntKind.i64.wrap (n + 1)).toNat (0 :Int)).length : Int)) then bif decide (n.toNat + 0 < (List.replicate (IntKind.i64.wrap (n + 1)).toNat (0 :Int)).length) then (D.length ≤ 12 ∧ D.all len8 = true ∧ keptB L 0 D = true ∧ L.length ≤ 4 ∧ T.length ≤ 4 ∧ 0 ≤ r ∧ r < (↑T.length : Int) ∧ 0 ≤ T.getD r.toNat (0 :Int) ∧ T.getD r.toNat (0 :Int) ≤ (3 :Int) ∧ 0 ≤ a ∧ a ≤ 7 ∧ 0 ≤ n ∧ n ≤ 4 ∧ ((List.replicate (IntKind.i64.wrap (n + 1)).toNat (0 :Int)).set (n.toNat + 0) ((P.getD (T.getD (r.toNat + 0) 0).toNat []).getD (0 + a.toNat + 0) 0)).length = n.toNat + 1 ∧ 0 ≤ ((List.replicate (IntKind.i64.wrap (n + 1)).toNat (0 :Int)).set (n.toNat + 0) ((P.getD (T.getD (r.toNat + 0) 0).toNat []).getD (0 + a.toNat + 0) 0)).getD n.toNat (0 :Int) ∧ ((List.replicate (IntKind.i64.wrap (n + 1)).toNat (0 :Int)).set (n.toNat + 0) ((P.getD (T.getD (r.toNat + 0) 0).toNat []).getD (0 + a.toNat + 0) 0)).getD n.toNat (0 :Int) < (65537 :Int) ∧ (0 :Int) ≤ (0 :Int) ∧ 0 ≤ (↑D.length : Int)) ∧ (n = (↑L.length : Int) ∧ n ≤ 4 ∧ okIx L 12 ∧ T.length ≤ 4 ∧ 0 ≤ r ∧ r < (↑T.length : Int) ∧ 0 ≤ T.getD r.toNat (0 :Int) ∧ T.getD r.toNat (0 :Int) ≤ (3 :Int) ∧ (((List.replicate (IntKind.i64.wrap (n + 1)).toNat (0 :Int)).set (n.toNat + 0) ((P.getD (T.getD (r.toNat + 0) 0).toNat []).getD (0 + a.toNat + 0) 0)).set n.toNat (refR L (T.getD r.toNat (0 :Int)) a.toNat (((List.replicate (IntKind.i64.wrap (n + 1)).toNat (0 :Int)).set (n.toNat + 0) ((P.getD (T.getD (r.toNat + 0) 0).toNat []).getD (0 + a.toNat + 0) 0)).getD n.toNat (0 :Int)) 0 D)).length = n.toNat + 1 ∧ (0 :Int) ≤ (0 :Int) ∧ 0 ≤ n) ∧ K .normal [.one (.ptr 0 1 0 0), .one (.own 1 1), .one (.int .i64 n), .one (.int .i64 a), .one (.own 2 1), .one (.int .i64 (IntKind.i64.wrap (r + 1)))] [Blk.cells [SV.data (Row.mat .i64 8 D), SV.data (Row.mat .i64 8 P), SV.data (Row.ints .i64 L), SV.data (Row.ints .i64 Q)], Blk.row 3 (Row.ints .i64 T), Blk.cells [SV.own 3 1, SV.own 4 1, SV.own 5 1], Blk.row 3 (Row.ints .i64 R0), Blk.row 3 (Row.ints .i64 R1), Blk.row 3 (Row.ints .i64 (facs L (T.getD r.toNat (0 :Int)) ++ List.drop n.toNat (((List.replicate (IntKind.i64.wrap (n + 1)).toNat (0 :Int)).set (n.toNat + 0) ((P.getD (T.getD (r.toNat + 0) 0).toNat []).getD (0 + a.toNat + 0) 0)).set n.toNat (refR L (T.getD r.toNat (0 :Int)) a.toNat (((List.replicate (IntKind.i64.wrap (n + 1)).toNat (0 :Int)).set (n.toNat + 0) ((P.getD (T.getD (r.toNat + 0) 0).toNat []).getD (0 + a.toNat + 0) 0)).getD n.toNat (0 :Int)) 0 D))))] else False else False else False else False else False else False else False else False else K (.exit 4) [.one (.own 2 1)] [Blk.cells [SV.data (Row.mat .i64 8 D), SV.data (Row.mat .i64 8 P), SV.data (Row.ints .i64 L), SV.data (Row.ints .i64 Q)], Blk.row 3 (Row.ints .i64 T), Blk.cells [SV.own 3 1, SV.own 4 1], Blk.row 3 (Row.ints .i64 R0), Blk.row 3 (Row.ints .i64 R1)]) := by kernel_rfl
theorem exrf3l1a (n a : Int) (D P : List (List Int)) (L Q T : List Int) (O : List (List Int)) (K : Ex → List AV → List Blk → Prop) : evBody (Erf3 3) (lb Try.f67 1) [1, 4, 6, 7, 8] [] [.one (.ptr 0 1 0 0), .one (.own 1 1), .one (.int .i64 n), .one (.own 2 8), .one (.int .i64 a)] [.cells [.data (.mat .i64 8 D), .data (.mat .i64 8 P), .data (.ints .i64 L), .data (.ints .i64 Q)], .row 3 (.ints .i64 T), .row 35 (.mat .i64 8 O)] K = ( bif decide (a < 8) then (n = 3 ∧ okRf 3 D P L T ∧ 0 ≤ a ∧ a ≤ 7 ∧ (0 :Int) = (0 :Int)) ∧ (okSol [eqR D P L (T.getD 0 0) a.toNat, eqR D P L (T.getD 1 0) a.toNat, eqR D P L (T.getD 2 0) a.toNat] ∧ ([eqR D P L (T.getD 0 0) a.toNat, eqR D P L (T.getD 1 0) a.toNat, eqR D P L (T.getD 2 0) a.toNat].getD 0 []).getD 0 (0 :Int) ≠ (0 :Int) ∧ ((stp 0 [eqR D P L (T.getD 0 0) a.toNat, eqR D P L (T.getD 1 0) a.toNat, eqR D P L (T.getD 2 0) a.toNat]).getD 1 []).getD 1 (0 :Int) ≠ (0 :Int) ∧ ((stp 1 (stp 0 [eqR D P L (T.getD 0 0) a.toNat, eqR D P L (T.getD 1 0) a.toNat, eqR D P L (T.getD 2 0) a.toNat])).getD 2 []).getD 2 (0 :Int) ≠ (0 :Int) ∧ True) ∧ ∀ (X0 X1 X2 : List Int), (O.all len8 = true ∧ okIx L O.length ∧ n = (↑(solV [eqR D P L (T.getD 0 0) a.toNat, eqR D P L (T.getD 1 0) a.toNat, eqR D P L (T.getD 2 0) a.toNat]).length : Int) ∧ (solV [eqR D P L (T.getD 0 0) a.toNat, eqR D P L (T.getD 1 0) a.toNat, eqR D P L (T.getD 2 0) a.toNat]).length = L.length ∧ (solV [eqR D P L (T.getD 0 0) a.toNat, eqR D P L (T.getD 1 0) a.toNat, eqR D P L (T.getD 2 0) a.toNat]).length ≤ 4 ∧ resRow (solV [eqR D P L (T.getD 0 0) a.toNat, eqR D P L (T.getD 1 0) a.toNat, eqR D P L (T.getD 2 0) a.toNat]) = true ∧ 0 ≤ a ∧ a ≤ 7 ∧ (0 :Int) ≤ (0 :Int) ∧ 0 ≤ n) ∧ K .normal [.one (.ptr 0 1 0 0), .one (.own 1 1), .one (.int .i64 n), .one (.own 2 8), .one (.int .i64 (IntKind.i64.wrap (a + 1)))] [Blk.cells [SV.data (Row.mat .i64 8 D), SV.data (Row.mat .i64 8 P), SV.data (Row.ints .i64 L), SV.data (Row.ints .i64 Q)], Blk.row 3 (Row.ints .i64 T), Blk.row 35 (Row.mat .i64 8 (putF O a.toNat L (solV [eqR D P L (T.getD 0 0) a.toNat, eqR D P L (T.getD 1 0) a.toNat, eqR D P L (T.getD 2 0) a.toNat])))] else K (.exit 2) [] [Blk.cells [SV.data (Row.mat .i64 8 D), SV.data (Row.mat .i64 8 P), SV.data (Row.ints .i64 L), SV.data (Row.ints .i64 Q)], Blk.row 3 (Row.ints .i64 T), Blk.row 35 (Row.mat .i64 8 O)]) := by kernel_rfl
theorem exrf3l2d (n a r : Int) (D P : List (List Int)) (L Q T R0 R1 R2 : List Int) (K : Ex → List AV → List Blk → Prop) : evBody (Erf3 2) (lb Try.f67 2) [1, 4, 6, 8, 9, 10] [9] [.one (.ptr 0 1 0 0), .one (.own 1 1), .one (.int .i64 n), .one (.int .i64 a), .one (.own 2 1), .one (.int .i64 r)] [.cells [.data (.mat .i64 8 D), .data (.mat .i64 8 P), .data (.ints .i64 L), .data (.ints .i64 Q)], .row 3 (.ints .i64 T), .cells [.own 3 1, .own 4 1, .own 5 1], .row 3 (.ints .i64 R0), .row 3 (.ints .i64 R1), .row 3 (.ints .i64 R2)] K = ( bif decide (r < n) then bif decide (0 ≤ IntKind.i64.wrap (n + 1)) && (decide (IntKind.i64.wrap (n + 1) ≤ IntKind.i64.wrap (n + 1)) && decide (IntKind.i64.wrap (n + 1) * (8 :Int) ≤ (140737488355328 :Int) ∧ IntKind.i64.wrap (n + 1) ≤ 140737488355328)) then bif decide (0 ≤ r) && decide (r < (↑T.length : Int)) then bif decide (r.toNat + 0 < T.length) then bif decide (0 ≤ T.getD (r.toNat + 0) 0) && decide (T.getD (r.toNat + 0) 0 < (↑P.length : Int)) then bif decide (0 ≤ a) && decide (a < 8) then bif decide (0 + a.toNat + 0 < 8) && decide ((T.getD (r.toNat + 0) 0).toNat < P.length) then bif decide (0 ≤ n) && decide (n < (↑(List.replicate (IntKind.i64.wrap (n + 1)).toNat (0 :Int)).length : Int)) then bif decide (n.toNat + 0 < (List.replicate (IntKind.i64.wrap (n + 1)).toNat (0 :Int)).length) then (D.length ≤ 12 ∧ D.all len8 = true ∧ keptB L 0 D = true ∧ L.length ≤ 4 ∧ T.length ≤ 4 ∧ 0 ≤ r ∧ r < (↑T.length : Int) ∧ 0 ≤ T.getD r.toNat (0 :Int) ∧ T.getD r.toNat (0 :Int) ≤ (3 :Int) ∧ 0 ≤ a ∧ a ≤ 7 ∧ 0 ≤ n ∧ n ≤ 4 ∧ ((List.replicate (IntKind.i64.wrap (n + 1)).toNat (0 :Int)).set (n.toNat + 0) ((P.getD (T.getD (r.toNat + 0) 0).toNat []).getD (0 + a.toNat + 0) 0)).length = n.toNat + 1 ∧ 0 ≤ ((List.replicate (IntKind.i64.wrap (n + 1)).toNat (0 :Int)).set (n.toNat + 0) ((P.getD (T.getD (r.toNat + 0) 0).toNat []).getD (0 + a.toNat + 0) 0)).getD n.toNat (0 :Int) ∧ ((List.replicate (IntKind.i64.wrap (n + 1)).toNat (0 :Int)).set (n.toNat + 0) ((P.getD (T.getD (r.toNat + 0) 0).toNat []).getD (0 + a.toNat + 0) 0)).getD n.toNat (0 :Int) < (65537 :Int) ∧ (0 :Int) ≤ (0 :Int) ∧ 0 ≤ (↑D.length : Int)) ∧ (n = (↑L.length : Int) ∧ n ≤ 4 ∧ okIx L 12 ∧ T.length ≤ 4 ∧ 0 ≤ r ∧ r < (↑T.length : Int) ∧ 0 ≤ T.getD r.toNat (0 :Int) ∧ T.getD r.toNat (0 :Int) ≤ (3 :Int) ∧ (((List.replicate (IntKind.i64.wrap (n + 1)).toNat (0 :Int)).set (n.toNat + 0) ((P.getD (T.getD (r.toNat + 0) 0).toNat []).getD (0 + a.toNat + 0) 0)).set n.toNat (refR L (T.getD r.toNat (0 :Int)) a.toNat (((List.replicate (IntKind.i64.wrap (n + 1)).toNat (0 :Int)).set (n.toNat + 0) ((P.getD (T.getD (r.toNat + 0) 0).toNat []).getD (0 + a.toNat + 0) 0)).getD n.toNat (0 :Int)) 0 D)).length = n.toNat + 1 ∧ (0 :Int) ≤ (0 :Int) ∧ 0 ≤ n) ∧ K .normal [.one (.ptr 0 1 0 0), .one (.own 1 1), .one (.int .i64 n), .one (.int .i64 a), .one (.own 2 1), .one (.int .i64 (IntKind.i64.wrap (r + 1)))] [Blk.cells [SV.data (Row.mat .i64 8 D), SV.data (Row.mat .i64 8 P), SV.data (Row.ints .i64 L), SV.data (Row.ints .i64 Q)], Blk.row 3 (Row.ints .i64 T), Blk.cells [SV.own 3 1, SV.own 4 1, SV.own 5 1, SV.own 6 1], Blk.row 3 (Row.ints .i64 R0), Blk.row 3 (Row.ints .i64 R1), Blk.row 3 (Row.ints .i64 R2), Blk.row 3 (Row.ints .i64 (facs L (T.getD r.toNat (0 :Int)) ++ List.drop n.toNat (((List.replicate (IntKind.i64.wrap (n + 1)).toNat (0 :Int)).set (n.toNat + 0) ((P.getD (T.getD (r.toNat + 0) 0).toNat []).getD (0 + a.toNat + 0) 0)).set n.toNat (refR L (T.getD r.toNat (0 :Int)) a.toNat (((List.replicate (IntKind.i64.wrap (n + 1)).toNat (0 :Int)).set (n.toNat + 0) ((P.getD (T.getD (r.toNat + 0) 0).toNat []).getD (0 + a.toNat + 0) 0)).getD n.toNat (0 :Int)) 0 D))))] else False else False else False else False else False else False else False else False else K (.exit 4) [.one (.own 2 1)] [Blk.cells [SV.data (Row.mat .i64 8 D), SV.data (Row.mat .i64 8 P), SV.data (Row.ints .i64 L), SV.data (Row.ints .i64 Q)], Blk.row 3 (Row.ints .i64 T), Blk.cells [SV.own 3 1, SV.own 4 1, SV.own 5 1], Blk.row 3 (Row.ints .i64 R0), Blk.row 3 (Row.ints .i64 R1), Blk.row 3 (Row.ints .i64 R2)]) := by kernel_rfl
theorem exrf4l1a (n a : Int) (D P : List (List Int)) (L Q T : List Int) (O : List (List Int)) (K : Ex → List AV → List Blk → Prop) : evBody (Erf4 3) (lb Try.f67 1) [1, 4, 6, 7, 8] [] [.one (.ptr 0 1 0 0), .one (.own 1 1), .one (.int .i64 n), .one (.own 2 8), .one (.int .i64 a)] [.cells [.data (.mat .i64 8 D), .data (.mat .i64 8 P), .data (.ints .i64 L), .data (.ints .i64 Q)], .row 3 (.ints .i64 T), .row 35 (.mat .i64 8 O)] K = ( bif decide (a < 8) then (n = 4 ∧ okRf 4 D P L T ∧ 0 ≤ a ∧ a ≤ 7 ∧ (0 :Int) = (0 :Int)) ∧ (okSol [eqR D P L (T.getD 0 0) a.toNat, eqR D P L (T.getD 1 0) a.toNat, eqR D P L (T.getD 2 0) a.toNat, eqR D P L (T.getD 3 0) a.toNat] ∧ ([eqR D P L (T.getD 0 0) a.toNat, eqR D P L (T.getD 1 0) a.toNat, eqR D P L (T.getD 2 0) a.toNat, eqR D P L (T.getD 3 0) a.toNat].getD 0 []).getD 0 (0 :Int) ≠ (0 :Int) ∧ ((stp 0 [eqR D P L (T.getD 0 0) a.toNat, eqR D P L (T.getD 1 0) a.toNat, eqR D P L (T.getD 2 0) a.toNat, eqR D P L (T.getD 3 0) a.toNat]).getD 1 []).getD 1 (0 :Int) ≠ (0 :Int) ∧ ((stp 1 (stp 0 [eqR D P L (T.getD 0 0) a.toNat, eqR D P L (T.getD 1 0) a.toNat, eqR D P L (T.getD 2 0) a.toNat, eqR D P L (T.getD 3 0) a.toNat])).getD 2 []).getD 2 (0 :Int) ≠ (0 :Int) ∧ ((stp 2 (stp 1 (stp 0 [eqR D P L (T.getD 0 0) a.toNat, eqR D P L (T.getD 1 0) a.toNat, eqR D P L (T.getD 2 0) a.toNat, eqR D P L (T.getD 3 0) a.toNat]))).getD 3 []).getD 3 (0 :Int) ≠ (0 :Int) ∧ True) ∧ ∀ (X0 X1 X2 X3 : List Int), (O.all len8 = true ∧ okIx L O.length ∧ n = (↑(solV [eqR D P L (T.getD 0 0) a.toNat, eqR D P L (T.getD 1 0) a.toNat, eqR D P L (T.getD 2 0) a.toNat, eqR D P L (T.getD 3 0) a.toNat]).length : Int) ∧ (solV [eqR D P L (T.getD 0 0) a.toNat, eqR D P L (T.getD 1 0) a.toNat, eqR D P L (T.getD 2 0) a.toNat, eqR D P L (T.getD 3 0) a.toNat]).length = L.length ∧ (solV [eqR D P L (T.getD 0 0) a.toNat, eqR D P L (T.getD 1 0) a.toNat, eqR D P L (T.getD 2 0) a.toNat, eqR D P L (T.getD 3 0) a.toNat]).length ≤ 4 ∧ resRow (solV [eqR D P L (T.getD 0 0) a.toNat, eqR D P L (T.getD 1 0) a.toNat, eqR D P L (T.getD 2 0) a.toNat, eqR D P L (T.getD 3 0) a.toNat]) = true ∧ 0 ≤ a ∧ a ≤ 7 ∧ (0 :Int) ≤ (0 :Int) ∧ 0 ≤ n) ∧ K .normal [.one (.ptr 0 1 0 0), .one (.own 1 1), .one (.int .i64 n), .one (.own 2 8), .one (.int .i64 (IntKind.i64.wrap (a + 1)))] [Blk.cells [SV.data (Row.mat .i64 8 D), SV.data (Row.mat .i64 8 P), SV.data (Row.ints .i64 L), SV.data (Row.ints .i64 Q)], Blk.row 3 (Row.ints .i64 T), Blk.row 35 (Row.mat .i64 8 (putF O a.toNat L (solV [eqR D P L (T.getD 0 0) a.toNat, eqR D P L (T.getD 1 0) a.toNat, eqR D P L (T.getD 2 0) a.toNat, eqR D P L (T.getD 3 0) a.toNat])))] else K (.exit 2) [] [Blk.cells [SV.data (Row.mat .i64 8 D), SV.data (Row.mat .i64 8 P), SV.data (Row.ints .i64 L), SV.data (Row.ints .i64 Q)], Blk.row 3 (Row.ints .i64 T), Blk.row 35 (Row.mat .i64 8 O)]) := by kernel_rfl
theorem exrfl2a (S0 : Spec) (l1 l2 l5 l7 : LoopBy) (n a r : Int) (D P : List (List Int)) (L Q T : List Int) (K : Ex → List AV → List Blk → Prop) : evBody (ErfM S0 l1 l2 l5 l7 2) (lb Try.f67 2) [1, 4, 6, 8, 9, 10] [9] [.one (.ptr 0 1 0 0), .one (.own 1 1), .one (.int .i64 n), .one (.int .i64 a), .one .nil, .one (.int .i64 r)] [.cells [.data (.mat .i64 8 D), .data (.mat .i64 8 P), .data (.ints .i64 L), .data (.ints .i64 Q)], .row 3 (.ints .i64 T)] K = ( bif decide (r < n) then bif decide (0 ≤ IntKind.i64.wrap (n + 1)) && (decide (IntKind.i64.wrap (n + 1) ≤ IntKind.i64.wrap (n + 1)) && decide (IntKind.i64.wrap (n + 1) * (↑8 : Int) ≤ 140737488355328 ∧ IntKind.i64.wrap (n + 1) ≤ 140737488355328)) then bif decide (0 ≤ r) && decide (r < (↑T.length : Int)) then bif decide (r.toNat + 0 < T.length) then bif decide (0 ≤ T.getD (r.toNat + 0) 0) && decide (T.getD (r.toNat + 0) 0 < (↑P.length : Int)) then bif decide (0 ≤ a) && decide (a < 8) then bif decide (0 + a.toNat + 0 < 8) && decide ((T.getD (r.toNat + 0) 0).toNat < P.length) then bif decide (0 ≤ n) && decide (n < (↑(List.replicate (IntKind.i64.wrap (n + 1)).toNat (0 :Int)).length : Int)) then bif decide (n.toNat + 0 < (List.replicate (IntKind.i64.wrap (n + 1)).toNat (0 :Int)).length) then (D.length ≤ 12 ∧ D.all len8 = true ∧ keptB L 0 D = true ∧ L.length ≤ 4 ∧ T.length ≤ 4 ∧ 0 ≤ r ∧ r < (↑T.length : Int) ∧ 0 ≤ T.getD r.toNat (0 :Int) ∧ T.getD r.toNat (0 :Int) ≤ (3 :Int) ∧ 0 ≤ a ∧ a ≤ 7 ∧ 0 ≤ n ∧ n ≤ 4 ∧ ((List.replicate (IntKind.i64.wrap (n + 1)).toNat (0 :Int)).set (n.toNat + 0) ((P.getD (T.getD (r.toNat + 0) 0).toNat []).getD (0 + a.toNat + 0) 0)).length = n.toNat + 1 ∧ 0 ≤ ((List.replicate (IntKind.i64.wrap (n + 1)).toNat (0 :Int)).set (n.toNat + 0) ((P.getD (T.getD (r.toNat + 0) 0).toNat []).getD (0 + a.toNat + 0) 0)).getD n.toNat (0 :Int) ∧ ((List.replicate (IntKind.i64.wrap (n + 1)).toNat (0 :Int)).set (n.toNat + 0) ((P.getD (T.getD (r.toNat + 0) 0).toNat []).getD (0 + a.toNat + 0) 0)).getD n.toNat (0 :Int) < (65537 :Int) ∧ (0 :Int) ≤ (0 :Int) ∧ 0 ≤ (↑D.length : Int)) ∧ (n = (↑L.length : Int) ∧ n ≤ 4 ∧ okIx L 12 ∧ T.length ≤ 4 ∧ 0 ≤ r ∧ r < (↑T.length : Int) ∧ 0 ≤ T.getD r.toNat (0 :Int) ∧ T.getD r.toNat (0 :Int) ≤ (3 :Int) ∧ (((List.replicate (IntKind.i64.wrap (n + 1)).toNat (0 :Int)).set (n.toNat + 0) ((P.getD (T.getD (r.toNat + 0) 0).toNat []).getD (0 + a.toNat + 0) 0)).set n.toNat (refR L (T.getD r.toNat (0 :Int)) a.toNat (((List.replicate (IntKind.i64.wrap (n + 1)).toNat (0 :Int)).set (n.toNat + 0) ((P.getD (T.getD (r.toNat + 0) 0).toNat []).getD (0 + a.toNat + 0) 0)).getD n.toNat (0 :Int)) 0 D)).length = n.toNat + 1 ∧ (0 :Int) ≤ (0 :Int) ∧ 0 ≤ n) ∧ K .normal [.one (.ptr 0 1 0 0), .one (.own 1 1), .one (.int .i64 n), .one (.int .i64 a), .one (.own 2 1), .one (.int .i64 (IntKind.i64.wrap (r + 1)))] [Blk.cells [SV.data (Row.mat .i64 8 D), SV.data (Row.mat .i64 8 P), SV.data (Row.ints .i64 L), SV.data (Row.ints .i64 Q)], Blk.row 3 (Row.ints .i64 T), Blk.cells [SV.own 3 1], Blk.row 3 (Row.ints .i64 (facs L (T.getD r.toNat (0 :Int)) ++ List.drop n.toNat (((List.replicate (IntKind.i64.wrap (n + 1)).toNat (0 :Int)).set (n.toNat + 0) ((P.getD (T.getD (r.toNat + 0) 0).toNat []).getD (0 + a.toNat + 0) 0)).set n.toNat (refR L (T.getD r.toNat (0 :Int)) a.toNat (((List.replicate (IntKind.i64.wrap (n + 1)).toNat (0 :Int)).set (n.toNat + 0) ((P.getD (T.getD (r.toNat + 0) 0).toNat []).getD (0 + a.toNat + 0) 0)).getD n.toNat (0 :Int)) 0 D))))] else False else False else False else False else False else False else False else False else K (.exit 4) [.one .nil] [Blk.cells [SV.data (Row.mat .i64 8 D), SV.data (Row.mat .i64 8 P), SV.data (Row.ints .i64 L), SV.data (Row.ints .i64 Q)], Blk.row 3 (Row.ints .i64 T)]) := by kernel_rfl
theorem exrfl2b (S0 : Spec) (l1 l2 l5 l7 : LoopBy) (n a r : Int) (D P : List (List Int)) (L Q T R0 : List Int) (K : Ex → List AV → List Blk → Prop) : evBody (ErfM S0 l1 l2 l5 l7 2) (lb Try.f67 2) [1, 4, 6, 8, 9, 10] [9] [.one (.ptr 0 1 0 0), .one (.own 1 1), .one (.int .i64 n), .one (.int .i64 a), .one (.own 2 1), .one (.int .i64 r)] [.cells [.data (.mat .i64 8 D), .data (.mat .i64 8 P), .data (.ints .i64 L), .data (.ints .i64 Q)], .row 3 (.ints .i64 T), .cells [.own 3 1], .row 3 (.ints .i64 R0)] K = ( bif decide (r < n) then bif decide (0 ≤ IntKind.i64.wrap (n + 1)) && (decide (IntKind.i64.wrap (n + 1) ≤ IntKind.i64.wrap (n + 1)) && decide (IntKind.i64.wrap (n + 1) * (↑8 : Int) ≤ 140737488355328 ∧ IntKind.i64.wrap (n + 1) ≤ 140737488355328)) then bif decide (0 ≤ r) && decide (r < (↑T.length : Int)) then bif decide (r.toNat + 0 < T.length) then bif decide (0 ≤ T.getD (r.toNat + 0) 0) && decide (T.getD (r.toNat + 0) 0 < (↑P.length : Int)) then bif decide (0 ≤ a) && decide (a < 8) then bif decide (0 + a.toNat + 0 < 8) && decide ((T.getD (r.toNat + 0) 0).toNat < P.length) then bif decide (0 ≤ n) && decide (n < (↑(List.replicate (IntKind.i64.wrap (n + 1)).toNat (0 :Int)).length : Int)) then bif decide (n.toNat + 0 < (List.replicate (IntKind.i64.wrap (n + 1)).toNat (0 :Int)).length) then (D.length ≤ 12 ∧ D.all len8 = true ∧ keptB L 0 D = true ∧ L.length ≤ 4 ∧ T.length ≤ 4 ∧ 0 ≤ r ∧ r < (↑T.length : Int) ∧ 0 ≤ T.getD r.toNat (0 :Int) ∧ T.getD r.toNat (0 :Int) ≤ (3 :Int) ∧ 0 ≤ a ∧ a ≤ 7 ∧ 0 ≤ n ∧ n ≤ 4 ∧ ((List.replicate (IntKind.i64.wrap (n + 1)).toNat (0 :Int)).set (n.toNat + 0) ((P.getD (T.getD (r.toNat + 0) 0).toNat []).getD (0 + a.toNat + 0) 0)).length = n.toNat + 1 ∧ 0 ≤ ((List.replicate (IntKind.i64.wrap (n + 1)).toNat (0 :Int)).set (n.toNat + 0) ((P.getD (T.getD (r.toNat + 0) 0).toNat []).getD (0 + a.toNat + 0) 0)).getD n.toNat (0 :Int) ∧ ((List.replicate (IntKind.i64.wrap (n + 1)).toNat (0 :Int)).set (n.toNat + 0) ((P.getD (T.getD (r.toNat + 0) 0).toNat []).getD (0 + a.toNat + 0) 0)).getD n.toNat (0 :Int) < (65537 :Int) ∧ (0 :Int) ≤ (0 :Int) ∧ 0 ≤ (↑D.length : Int)) ∧ (n = (↑L.length : Int) ∧ n ≤ 4 ∧ okIx L 12 ∧ T.length ≤ 4 ∧ 0 ≤ r ∧ r < (↑T.length : Int) ∧ 0 ≤ T.getD r.toNat (0 :Int) ∧ T.getD r.toNat (0 :Int) ≤ (3 :Int) ∧ (((List.replicate (IntKind.i64.wrap (n + 1)).toNat (0 :Int)).set (n.toNat + 0) ((P.getD (T.getD (r.toNat + 0) 0).toNat []).getD (0 + a.toNat + 0) 0)).set n.toNat (refR L (T.getD r.toNat (0 :Int)) a.toNat (((List.replicate (IntKind.i64.wrap (n + 1)).toNat (0 :Int)).set (n.toNat + 0) ((P.getD (T.getD (r.toNat + 0) 0).toNat []).getD (0 + a.toNat + 0) 0)).getD n.toNat (0 :Int)) 0 D)).length = n.toNat + 1 ∧ (0 :Int) ≤ (0 :Int) ∧ 0 ≤ n) ∧ K .normal [.one (.ptr 0 1 0 0), .one (.own 1 1), .one (.int .i64 n), .one (.int .i64 a), .one (.own 2 1), .one (.int .i64 (IntKind.i64.wrap (r + 1)))] [Blk.cells [SV.data (Row.mat .i64 8 D), SV.data (Row.mat .i64 8 P), SV.data (Row.ints .i64 L), SV.data (Row.ints .i64 Q)], Blk.row 3 (Row.ints .i64 T), Blk.cells [SV.own 3 1, SV.own 4 1], Blk.row 3 (Row.ints .i64 R0), Blk.row 3 (Row.ints .i64 (facs L (T.getD r.toNat (0 :Int)) ++ List.drop n.toNat (((List.replicate (IntKind.i64.wrap (n + 1)).toNat (0 :Int)).set (n.toNat + 0) ((P.getD (T.getD (r.toNat + 0) 0).toNat []).getD (0 + a.toNat + 0) 0)).set n.toNat (refR L (T.getD r.toNat (0 :Int)) a.toNat (((List.replicate (IntKind.i64.wrap (n + 1)).toNat (0 :Int)).set (n.toNat + 0) ((P.getD (T.getD (r.toNat + 0) 0).toNat []).getD (0 + a.toNat + 0) 0)).getD n.toNat (0 :Int)) 0 D))))] else False else False else False else False else False else False else False else False else K (.exit 4) [.one (.own 2 1)] [Blk.cells [SV.data (Row.mat .i64 8 D), SV.data (Row.mat .i64 8 P), SV.data (Row.ints .i64 L), SV.data (Row.ints .i64 Q)], Blk.row 3 (Row.ints .i64 T), Blk.cells [SV.own 3 1], Blk.row 3 (Row.ints .i64 R0)]) := by kernel_rfl
theorem exrfl2c (S0 : Spec) (l1 l2 l5 l7 : LoopBy) (n a r : Int) (D P : List (List Int)) (L Q T R0 R1 : List Int) (K : Ex → List AV → List Blk → Prop) : evBody (ErfM S0 l1 l2 l5 l7 2) (lb Try.f67 2) [1, 4, 6, 8, 9, 10] [9] [.one (.ptr 0 1 0 0), .one (.own 1 1), .one (.int .i64 n), .one (.int .i64 a), .one (.own 2 1), .one (.int .i64 r)] [.cells [.data (.mat .i64 8 D), .data (.mat .i64 8 P), .data (.ints .i64 L), .data (.ints .i64 Q)], .row 3 (.ints .i64 T), .cells [.own 3 1, .own 4 1], .row 3 (.ints .i64 R0), .row 3 (.ints .i64 R1)] K = ( bif decide (r < n) then bif decide (0 ≤ IntKind.i64.wrap (n + 1)) && (decide (IntKind.i64.wrap (n + 1) ≤ IntKind.i64.wrap (n + 1)) && decide (IntKind.i64.wrap (n + 1) * (↑8 : Int) ≤ 140737488355328 ∧ IntKind.i64.wrap (n + 1) ≤ 140737488355328)) then bif decide (0 ≤ r) && decide (r < (↑T.length : Int)) then bif decide (r.toNat + 0 < T.length) then bif decide (0 ≤ T.getD (r.toNat + 0) 0) && decide (T.getD (r.toNat + 0) 0 < (↑P.length : Int)) then bif decide (0 ≤ a) && decide (a < 8) then bif decide (0 + a.toNat + 0 < 8) && decide ((T.getD (r.toNat + 0) 0).toNat < P.length) then bif decide (0 ≤ n) && decide (n < (↑(List.replicate (IntKind.i64.wrap (n + 1)).toNat (0 :Int)).length : Int)) then bif decide (n.toNat + 0 < (List.replicate (IntKind.i64.wrap (n + 1)).toNat (0 :Int)).length) then (D.length ≤ 12 ∧ D.all len8 = true ∧ keptB L 0 D = true ∧ L.length ≤ 4 ∧ T.length ≤ 4 ∧ 0 ≤ r ∧ r < (↑T.length : Int) ∧ 0 ≤ T.getD r.toNat (0 :Int) ∧ T.getD r.toNat (0 :Int) ≤ (3 :Int) ∧ 0 ≤ a ∧ a ≤ 7 ∧ 0 ≤ n ∧ n ≤ 4 ∧ ((List.replicate (IntKind.i64.wrap (n + 1)).toNat (0 :Int)).set (n.toNat + 0) ((P.getD (T.getD (r.toNat + 0) 0).toNat []).getD (0 + a.toNat + 0) 0)).length = n.toNat + 1 ∧ 0 ≤ ((List.replicate (IntKind.i64.wrap (n + 1)).toNat (0 :Int)).set (n.toNat + 0) ((P.getD (T.getD (r.toNat + 0) 0).toNat []).getD (0 + a.toNat + 0) 0)).getD n.toNat (0 :Int) ∧ ((List.replicate (IntKind.i64.wrap (n + 1)).toNat (0 :Int)).set (n.toNat + 0) ((P.getD (T.getD (r.toNat + 0) 0).toNat []).getD (0 + a.toNat + 0) 0)).getD n.toNat (0 :Int) < (65537 :Int) ∧ (0 :Int) ≤ (0 :Int) ∧ 0 ≤ (↑D.length : Int)) ∧ (n = (↑L.length : Int) ∧ n ≤ 4 ∧ okIx L 12 ∧ T.length ≤ 4 ∧ 0 ≤ r ∧ r < (↑T.length : Int) ∧ 0 ≤ T.getD r.toNat (0 :Int) ∧ T.getD r.toNat (0 :Int) ≤ (3 :Int) ∧ (((List.replicate (IntKind.i64.wrap (n + 1)).toNat (0 :Int)).set (n.toNat + 0) ((P.getD (T.getD (r.toNat + 0) 0).toNat []).getD (0 + a.toNat + 0) 0)).set n.toNat (refR L (T.getD r.toNat (0 :Int)) a.toNat (((List.replicate (IntKind.i64.wrap (n + 1)).toNat (0 :Int)).set (n.toNat + 0) ((P.getD (T.getD (r.toNat + 0) 0).toNat []).getD (0 + a.toNat + 0) 0)).getD n.toNat (0 :Int)) 0 D)).length = n.toNat + 1 ∧ (0 :Int) ≤ (0 :Int) ∧ 0 ≤ n) ∧ K .normal [.one (.ptr 0 1 0 0), .one (.own 1 1), .one (.int .i64 n), .one (.int .i64 a), .one (.own 2 1), .one (.int .i64 (IntKind.i64.wrap (r + 1)))] [Blk.cells [SV.data (Row.mat .i64 8 D), SV.data (Row.mat .i64 8 P), SV.data (Row.ints .i64 L), SV.data (Row.ints .i64 Q)], Blk.row 3 (Row.ints .i64 T), Blk.cells [SV.own 3 1, SV.own 4 1, SV.own 5 1], Blk.row 3 (Row.ints .i64 R0), Blk.row 3 (Row.ints .i64 R1), Blk.row 3 (Row.ints .i64 (facs L (T.getD r.toNat (0 :Int)) ++ List.drop n.toNat (((List.replicate (IntKind.i64.wrap (n + 1)).toNat (0 :Int)).set (n.toNat + 0) ((P.getD (T.getD (r.toNat + 0) 0).toNat []).getD (0 + a.toNat + 0) 0)).set n.toNat (refR L (T.getD r.toNat (0 :Int)) a.toNat (((List.replicate (IntKind.i64.wrap (n + 1)).toNat (0 :Int)).set (n.toNat + 0) ((P.getD (T.getD (r.toNat + 0) 0).toNat []).getD (0 + a.toNat + 0) 0)).getD n.toNat (0 :Int)) 0 D))))] else False else False else False else False else False else False else False else False else K (.exit 4) [.one (.own 2 1)] [Blk.cells [SV.data (Row.mat .i64 8 D), SV.data (Row.mat .i64 8 P), SV.data (Row.ints .i64 L), SV.data (Row.ints .i64 Q)], Blk.row 3 (Row.ints .i64 T), Blk.cells [SV.own 3 1, SV.own 4 1], Blk.row 3 (Row.ints .i64 R0), Blk.row 3 (Row.ints .i64 R1)]) := by kernel_rfl
theorem exrfl2d (S0 : Spec) (l1 l2 l5 l7 : LoopBy) (n a r : Int) (D P : List (List Int)) (L Q T R0 R1 R2 : List Int) (K : Ex → List AV → List Blk → Prop) : evBody (ErfM S0 l1 l2 l5 l7 2) (lb Try.f67 2) [1, 4, 6, 8, 9, 10] [9] [.one (.ptr 0 1 0 0), .one (.own 1 1), .one (.int .i64 n), .one (.int .i64 a), .one (.own 2 1), .one (.int .i64 r)] [.cells [.data (.mat .i64 8 D), .data (.mat .i64 8 P), .data (.ints .i64 L), .data (.ints .i64 Q)], .row 3 (.ints .i64 T), .cells [.own 3 1, .own 4 1, .own 5 1], .row 3 (.ints .i64 R0), .row 3 (.ints .i64 R1), .row 3 (.ints .i64 R2)] K = ( bif decide (r < n) then bif decide (0 ≤ IntKind.i64.wrap (n + 1)) && (decide (IntKind.i64.wrap (n + 1) ≤ IntKind.i64.wrap (n + 1)) && decide (IntKind.i64.wrap (n + 1) * (↑8 : Int) ≤ 140737488355328 ∧ IntKind.i64.wrap (n + 1) ≤ 140737488355328)) then bif decide (0 ≤ r) && decide (r < (↑T.length : Int)) then bif decide (r.toNat + 0 < T.length) then bif decide (0 ≤ T.getD (r.toNat + 0) 0) && decide (T.getD (r.toNat + 0) 0 < (↑P.length : Int)) then bif decide (0 ≤ a) && decide (a < 8) then bif decide (0 + a.toNat + 0 < 8) && decide ((T.getD (r.toNat + 0) 0).toNat < P.length) then bif decide (0 ≤ n) && decide (n < (↑(List.replicate (IntKind.i64.wrap (n + 1)).toNat (0 :Int)).length : Int)) then bif decide (n.toNat + 0 < (List.replicate (IntKind.i64.wrap (n + 1)).toNat (0 :Int)).length) then (D.length ≤ 12 ∧ D.all len8 = true ∧ keptB L 0 D = true ∧ L.length ≤ 4 ∧ T.length ≤ 4 ∧ 0 ≤ r ∧ r < (↑T.length : Int) ∧ 0 ≤ T.getD r.toNat (0 :Int) ∧ T.getD r.toNat (0 :Int) ≤ (3 :Int) ∧ 0 ≤ a ∧ a ≤ 7 ∧ 0 ≤ n ∧ n ≤ 4 ∧ ((List.replicate (IntKind.i64.wrap (n + 1)).toNat (0 :Int)).set (n.toNat + 0) ((P.getD (T.getD (r.toNat + 0) 0).toNat []).getD (0 + a.toNat + 0) 0)).length = n.toNat + 1 ∧ 0 ≤ ((List.replicate (IntKind.i64.wrap (n + 1)).toNat (0 :Int)).set (n.toNat + 0) ((P.getD (T.getD (r.toNat + 0) 0).toNat []).getD (0 + a.toNat + 0) 0)).getD n.toNat (0 :Int) ∧ ((List.replicate (IntKind.i64.wrap (n + 1)).toNat (0 :Int)).set (n.toNat + 0) ((P.getD (T.getD (r.toNat + 0) 0).toNat []).getD (0 + a.toNat + 0) 0)).getD n.toNat (0 :Int) < (65537 :Int) ∧ (0 :Int) ≤ (0 :Int) ∧ 0 ≤ (↑D.length : Int)) ∧ (n = (↑L.length : Int) ∧ n ≤ 4 ∧ okIx L 12 ∧ T.length ≤ 4 ∧ 0 ≤ r ∧ r < (↑T.length : Int) ∧ 0 ≤ T.getD r.toNat (0 :Int) ∧ T.getD r.toNat (0 :Int) ≤ (3 :Int) ∧ (((List.replicate (IntKind.i64.wrap (n + 1)).toNat (0 :Int)).set (n.toNat + 0) ((P.getD (T.getD (r.toNat + 0) 0).toNat []).getD (0 + a.toNat + 0) 0)).set n.toNat (refR L (T.getD r.toNat (0 :Int)) a.toNat (((List.replicate (IntKind.i64.wrap (n + 1)).toNat (0 :Int)).set (n.toNat + 0) ((P.getD (T.getD (r.toNat + 0) 0).toNat []).getD (0 + a.toNat + 0) 0)).getD n.toNat (0 :Int)) 0 D)).length = n.toNat + 1 ∧ (0 :Int) ≤ (0 :Int) ∧ 0 ≤ n) ∧ K .normal [.one (.ptr 0 1 0 0), .one (.own 1 1), .one (.int .i64 n), .one (.int .i64 a), .one (.own 2 1), .one (.int .i64 (IntKind.i64.wrap (r + 1)))] [Blk.cells [SV.data (Row.mat .i64 8 D), SV.data (Row.mat .i64 8 P), SV.data (Row.ints .i64 L), SV.data (Row.ints .i64 Q)], Blk.row 3 (Row.ints .i64 T), Blk.cells [SV.own 3 1, SV.own 4 1, SV.own 5 1, SV.own 6 1], Blk.row 3 (Row.ints .i64 R0), Blk.row 3 (Row.ints .i64 R1), Blk.row 3 (Row.ints .i64 R2), Blk.row 3 (Row.ints .i64 (facs L (T.getD r.toNat (0 :Int)) ++ List.drop n.toNat (((List.replicate (IntKind.i64.wrap (n + 1)).toNat (0 :Int)).set (n.toNat + 0) ((P.getD (T.getD (r.toNat + 0) 0).toNat []).getD (0 + a.toNat + 0) 0)).set n.toNat (refR L (T.getD r.toNat (0 :Int)) a.toNat (((List.replicate (IntKind.i64.wrap (n + 1)).toNat (0 :Int)).set (n.toNat + 0) ((P.getD (T.getD (r.toNat + 0) 0).toNat []).getD (0 + a.toNat + 0) 0)).getD n.toNat (0 :Int)) 0 D))))] else False else False else False else False else False else False else False else False else K (.exit 4) [.one (.own 2 1)] [Blk.cells [SV.data (Row.mat .i64 8 D), SV.data (Row.mat .i64 8 P), SV.data (Row.ints .i64 L), SV.data (Row.ints .i64 Q)], Blk.row 3 (Row.ints .i64 T), Blk.cells [SV.own 3 1, SV.own 4 1, SV.own 5 1], Blk.row 3 (Row.ints .i64 R0), Blk.row 3 (Row.ints .i64 R1), Blk.row 3 (Row.ints .i64 R2)]) := by kernel_rfl
theorem exrf4l2e (n a r : Int) (D P : List (List Int)) (L Q T R0 R1 R2 R3 : List Int) (K : Ex → List AV → List Blk → Prop) : evBody (Erf4 2) (lb Try.f67 2) [1, 4, 6, 8, 9, 10] [9] [.one (.ptr 0 1 0 0), .one (.own 1 1), .one (.int .i64 n), .one (.int .i64 a), .one (.own 2 1), .one (.int .i64 r)] [.cells [.data (.mat .i64 8 D), .data (.mat .i64 8 P), .data (.ints .i64 L), .data (.ints .i64 Q)], .row 3 (.ints .i64 T), .cells [.own 3 1, .own 4 1, .own 5 1, .own 6 1], .row 3 (.ints .i64 R0), .row 3 (.ints .i64 R1), .row 3 (.ints .i64 R2), .row 3 (.ints .i64 R3)] K = ( bif decide (r < n) then bif decide (0 ≤ IntKind.i64.wrap (n + 1)) && (decide (IntKind.i64.wrap (n + 1) ≤ IntKind.i64.wrap (n + 1)) && decide (IntKind.i64.wrap (n + 1) * (8 :Int) ≤ (140737488355328 :Int) ∧ IntKind.i64.wrap (n + 1) ≤ 140737488355328)) then bif decide (0 ≤ r) && decide (r < (↑T.length : Int)) then bif decide (r.toNat + 0 < T.length) then bif decide (0 ≤ T.getD (r.toNat + 0) 0) && decide (T.getD (r.toNat + 0) 0 < (↑P.length : Int)) then bif decide (0 ≤ a) && decide (a < 8) then bif decide (0 + a.toNat + 0 < 8) && decide ((T.getD (r.toNat + 0) 0).toNat < P.length) then bif decide (0 ≤ n) && decide (n < (↑(List.replicate (IntKind.i64.wrap (n + 1)).toNat (0 :Int)).length : Int)) then bif decide (n.toNat + 0 < (List.replicate (IntKind.i64.wrap (n + 1)).toNat (0 :Int)).length) then (D.length ≤ 12 ∧ D.all len8 = true ∧ keptB L 0 D = true ∧ L.length ≤ 4 ∧ T.length ≤ 4 ∧ 0 ≤ r ∧ r < (↑T.length : Int) ∧ 0 ≤ T.getD r.toNat (0 :Int) ∧ T.getD r.toNat (0 :Int) ≤ (3 :Int) ∧ 0 ≤ a ∧ a ≤ 7 ∧ 0 ≤ n ∧ n ≤ 4 ∧ ((List.replicate (IntKind.i64.wrap (n + 1)).toNat (0 :Int)).set (n.toNat + 0) ((P.getD (T.getD (r.toNat + 0) 0).toNat []).getD (0 + a.toNat + 0) 0)).length = n.toNat + 1 ∧ 0 ≤ ((List.replicate (IntKind.i64.wrap (n + 1)).toNat (0 :Int)).set (n.toNat + 0) ((P.getD (T.getD (r.toNat + 0) 0).toNat []).getD (0 + a.toNat + 0) 0)).getD n.toNat (0 :Int) ∧ ((List.replicate (IntKind.i64.wrap (n + 1)).toNat (0 :Int)).set (n.toNat + 0) ((P.getD (T.getD (r.toNat + 0) 0).toNat []).getD (0 + a.toNat + 0) 0)).getD n.toNat (0 :Int) < (65537 :Int) ∧ (0 :Int) ≤ (0 :Int) ∧ 0 ≤ (↑D.length : Int)) ∧ (n = (↑L.length : Int) ∧ n ≤ 4 ∧ okIx L 12 ∧ T.length ≤ 4 ∧ 0 ≤ r ∧ r < (↑T.length : Int) ∧ 0 ≤ T.getD r.toNat (0 :Int) ∧ T.getD r.toNat (0 :Int) ≤ (3 :Int) ∧ (((List.replicate (IntKind.i64.wrap (n + 1)).toNat (0 :Int)).set (n.toNat + 0) ((P.getD (T.getD (r.toNat + 0) 0).toNat []).getD (0 + a.toNat + 0) 0)).set n.toNat (refR L (T.getD r.toNat (0 :Int)) a.toNat (((List.replicate (IntKind.i64.wrap (n + 1)).toNat (0 :Int)).set (n.toNat + 0) ((P.getD (T.getD (r.toNat + 0) 0).toNat []).getD (0 + a.toNat + 0) 0)).getD n.toNat (0 :Int)) 0 D)).length = n.toNat + 1 ∧ (0 :Int) ≤ (0 :Int) ∧ 0 ≤ n) ∧ K .normal [.one (.ptr 0 1 0 0), .one (.own 1 1), .one (.int .i64 n), .one (.int .i64 a), .one (.own 2 1), .one (.int .i64 (IntKind.i64.wrap (r + 1)))] [Blk.cells [SV.data (Row.mat .i64 8 D), SV.data (Row.mat .i64 8 P), SV.data (Row.ints .i64 L), SV.data (Row.ints .i64 Q)], Blk.row 3 (Row.ints .i64 T), Blk.cells [SV.own 3 1, SV.own 4 1, SV.own 5 1, SV.own 6 1, SV.own 7 1], Blk.row 3 (Row.ints .i64 R0), Blk.row 3 (Row.ints .i64 R1), Blk.row 3 (Row.ints .i64 R2), Blk.row 3 (Row.ints .i64 R3), Blk.row 3 (Row.ints .i64 (facs L (T.getD r.toNat (0 :Int)) ++ List.drop n.toNat (((List.replicate (IntKind.i64.wrap (n + 1)).toNat (0 :Int)).set (n.toNat + 0) ((P.getD (T.getD (r.toNat + 0) 0).toNat []).getD (0 + a.toNat + 0) 0)).set n.toNat (refR L (T.getD r.toNat (0 :Int)) a.toNat (((List.replicate (IntKind.i64.wrap (n + 1)).toNat (0 :Int)).set (n.toNat + 0) ((P.getD (T.getD (r.toNat + 0) 0).toNat []).getD (0 + a.toNat + 0) 0)).getD n.toNat (0 :Int)) 0 D))))] else False else False else False else False else False else False else False else False else K (.exit 4) [.one (.own 2 1)] [Blk.cells [SV.data (Row.mat .i64 8 D), SV.data (Row.mat .i64 8 P), SV.data (Row.ints .i64 L), SV.data (Row.ints .i64 Q)], Blk.row 3 (Row.ints .i64 T), Blk.cells [SV.own 3 1, SV.own 4 1, SV.own 5 1, SV.own 6 1], Blk.row 3 (Row.ints .i64 R0), Blk.row 3 (Row.ints .i64 R1), Blk.row 3 (Row.ints .i64 R2), Blk.row 3 (Row.ints .i64 R3)]) := by kernel_rfl
theorem exrsz (K : AV → List Blk → Prop) : evFn Ersz Try.f125 [.one (.data (.recs [.sints .i64] []))] [] K = ( K (.one .nil) []) := by kernel_rfl
end Go.Ev

namespace Go.Ev
open Go Go.Proofs
attribute [local irreducible] evFn evBody evRound
set_option maxRecDepth 20000
set_option linter.unusedVariables false
set_option linter.unusedSimpArgs false
theorem allrf {S0 : Spec} (hS : SpecOK Try.prog 125 S0) : AllOK Try.prog (srf S0) := .cons okhas (.cons ok101 (.cons ok26 (.cons hS (.cons ok29 (.cons ok46 .nil)))))
theorem modB_65537 (n : Int) : modB n 65537 = n % 65537 := by
  unfold modB
  have e : n.tmod 65537 = if 0 ≤ n then n % 65537 else -((-n) % 65537) := by
    split
    · exact Int.tmod_eq_emod_of_nonneg (by assumption)
    · rw [← Int.tmod_eq_emod_of_nonneg (by omega), Int.neg_tmod, Int.neg_neg]
  by_cases hn : n.tmod 65537 < 0
  · rw [decide_eq_true hn, cond_true]
    have hw : wi (n.tmod 65537 + 65537) = n.tmod 65537 + 65537 := wrap_id (by split at e <;> omega) (by split at e <;> omega)
    rw [hw]
    split at e <;> omega
  · rw [decide_eq_false hn, cond_false]
    split at e <;> omega
theorem refR_step {L : List Int} {j : Int} {a : Nat} {out i : Int} {D : List (List Int)} (h0 : 0 ≤ i) (h : i < D.length) : refR L j a out i (D.drop i.toNat) = refR L j a (bif memB i L then out else modB (out - facG i j * ((D.getD i.toNat []).getD a 0 + 32768)) 65537) (i + 1) (D.drop (i + 1).toNat) := by
  rw [drop_step [] (by omega), show (i + 1).toNat = i.toNat + 1 by omega]; rfl
theorem kept_row {L : List Int} : ∀ {l : List (List Int)} {i : Int}, keptB L i l = true → ∀ k : Nat, k < l.length → memB (i + k) L = false → okRow (l.getD k []) = true
  | [], _, _, k, hk, _ => by simp at hk
  | xs :: l, i, h, 0, _, hm => by
    unfold keptB at h
    rw [Bool.and_eq_true, Bool.or_eq_true] at h
    rw [show i + ((0 : Nat) : Int) = i by omega] at hm
    rcases h.1 with q | q
    · rw [hm] at q; cases q
    · exact q
  | xs :: l, i, h, k + 1, hk, hm => by
    unfold keptB at h
    rw [Bool.and_eq_true] at h
    exact kept_row (i := i + 1) h.2 k (by simpa using hk) (by rw [show i + 1 + (k : Int) = i + ((k + 1 : Nat) : Int) by omega]; exact hm)
theorem fac_take {R : List Int} {x n : Int} {f : Int} {r : List Int} (h0 : 0 ≤ x) (h : x < R.length) : (R.set x.toNat f).take (x + 1).toNat ++ r = R.take x.toNat ++ (f :: r) := by
  rw [show (x + 1).toNat = x.toNat + 1 by omega, take_set_succ (by omega), List.append_assoc]; rfl
theorem getD_set_same {R : List Int} {i : Nat} {v : Int} (h : i < R.length) : (R.set i v).getD i 0 = v := by
  rw [List.getD_eq_getElem?_getD, List.getElem?_set_self h]; rfl
theorem lokrf_0 {S0 : Spec} {l1 l2 l5 l7 : LoopBy} (hS : SpecOK Try.prog 125 S0) : LoopOK (ErfM S0 l1 l2 l5 l7 1) (lb Try.f67 0) [1, 4, 5] [4] rfK := by
  refine loopOK (allrf hS) (noInner (by kernel_rfl)) (fun vs σ => match vs, σ with
    | [_, _, .one (.int .i64 j)], (.cells (_ :: .data (.mat .i64 8 P) :: _)) :: _ => ((P.length : Int) - j).toNat
    | _, _ => 0) fun vs σ k h => ?_
  unfold rfK at h
  split at h
  rotate_right
  · exact h.elim
  · rename_i j D P L Q
    rw [exrfl0a _ _ _ _ _ j D P L Q _]
    obtain ⟨⟨hg, h2, h3⟩, h⟩ := h
    by_cases hj : j < (P.length : Int)
    · have hp := hg.2.1
      have hw : IntKind.i64.wrap (j + 1) = j + 1 := wrap_id (by omega) (by omega)
      have hq := hg.2.2.2.1
      rw [decide_eq_true hj, cond_true, hw]
      refine And.intro (by omega) ?_
      rw [keptJ_step hj] at h
      cases hm : memB j Q with
      | true =>
        rw [hm] at h
        exact ⟨⟨⟨hg, by omega, by omega⟩, h⟩, by show ((P.length : Int) - (j + 1)).toNat < ((P.length : Int) - j).toNat; omega⟩
      | false =>
        rw [hm, cond_false, List.isEmpty_cons, cond_false] at h
        exact ⟨⟨⟨hg, by omega, by omega, by simp; omega⟩, h⟩, by show ((P.length : Int) - (j + 1)).toNat < ((P.length : Int) - j).toNat; omega⟩
    · rw [decide_eq_false hj]
      rw [show ((P.length : Int) - j).toNat = 0 by omega] at h
      exact h
  · rename_i j D P L Q S
    rw [exrfl0b _ _ _ _ _ j D P L Q S _]
    obtain ⟨⟨hg, h2, h3, h4⟩, h⟩ := h
    by_cases hj : j < (P.length : Int)
    · have hp := hg.2.1
      have hw : IntKind.i64.wrap (j + 1) = j + 1 := wrap_id (by omega) (by omega)
      have hq := hg.2.2.2.1
      rw [decide_eq_true hj, cond_true, hw]
      refine And.intro (by omega) ?_
      rw [keptJ_step hj] at h
      cases hm : memB j Q with
      | true =>
        rw [hm] at h
        exact ⟨⟨⟨hg, by omega, by omega, by omega⟩, h⟩, by show ((P.length : Int) - (j + 1)).toNat < ((P.length : Int) - j).toNat; omega⟩
      | false =>
        rw [hm] at h
        have hl : (S ++ [j]).length = S.length + 1 := by simp
        rw [Bool.not_false, cond_true, hl, decide_eq_true (by omega), cond_true]
        exact ⟨⟨⟨hg, by omega, by omega, by rw [hl]; omega⟩, by rw [List.append_assoc]; exact h⟩, by show ((P.length : Int) - (j + 1)).toNat < ((P.length : Int) - j).toNat; omega⟩
    · rw [decide_eq_false hj]
      rw [show ((P.length : Int) - j).toNat = 0 by omega] at h
      unfold keptJ at h
      rw [List.append_nil] at h
      exact h
theorem lokrf_3 {S0 : Spec} {l1 l2 l5 l7 : LoopBy} (hS : SpecOK Try.prog 125 S0) : LoopOK (ErfM S0 l1 l2 l5 l7 3) (lb Try.f67 3) [1, 4, 6, 8, 10, 11, 12] [] rfE := by
  refine loopOK (allrf hS) (noInner (by kernel_rfl)) (fun vs σ => match vs, σ with
    | [_, _, _, _, _, _, .one (.int .i64 i)], (.cells (.data (.mat .i64 8 D) :: _)) :: _ => ((D.length : Int) - i).toNat
    | _, _ => 0) fun vs σ k h => ?_
  unfold rfE at h
  split at h
  rotate_right
  · exact h.elim
  · rename_i n a r i D P L Q T R
    rw [exrfl3a _ _ _ _ _ n a r i D P L Q T R _]
    obtain ⟨⟨d1, d8, kb, l4, t4, r0, r1, tj0, tj1, a0, a1, n0, n1, hR, v0, v1, i0, i1⟩, h⟩ := h
    by_cases hi : i < (D.length : Int)
    · have hw : IntKind.i64.wrap (i + 1) = i + 1 := wrap_id (by omega) (by omega)
      have e1 : n.toNat + 0 = n.toNat := rfl
      have e2 : r.toNat + 0 = r.toNat := rfl
      have e3 : 0 + a.toNat + 0 = a.toNat := by omega
      rw [decide_eq_true hi, cond_true, hw, e1, e2, e3]
      refine And.intro (by omega) ?_
      rw [refR_step i0 hi] at h
      cases hm : memB i L with
      | true =>
        rw [hm, cond_true] at h
        rw [Bool.not_true, cond_false]
        exact ⟨⟨⟨d1, d8, kb, l4, t4, r0, r1, tj0, tj1, a0, a1, n0, n1, hR, v0, v1, by omega, by omega⟩, h⟩, by show ((D.length : Int) - (i + 1)).toNat < ((D.length : Int) - i).toNat; omega⟩
      | false =>
        rw [hm, cond_false] at h
        rw [Bool.not_false, cond_true]
        have hrow := kept_row kb i.toNat (by omega) (by rw [Int.zero_add, show ((i.toNat : Nat) : Int) = i by omega]; exact hm)
        obtain ⟨x1, x2⟩ := okRow_get hrow a.toNat
        obtain ⟨f1, f2⟩ := facG_range i (T.getD r.toNat 0)
        generalize (D.getD i.toNat []).getD a.toNat 0 = x at *
        have m1 : 0 ≤ facG i (T.getD r.toNat 0) * (x + 32768) := Int.mul_nonneg f1 (by omega)
        have m2 : facG i (T.getD r.toNat 0) * (x + 32768) ≤ 65536 * 65535 := Int.mul_le_mul (by omega) (by omega) (by omega) (by decide)
        have w1 : IntKind.i64.wrap (x + 32768) = x + 32768 := wrap_id (by omega) (by omega)
        rw [w1]
        have w2 : IntKind.i64.wrap (facG i (T.getD r.toNat 0) * (x + 32768)) = facG i (T.getD r.toNat 0) * (x + 32768) := wrap_id (by omega) (by omega)
        rw [w2]
        generalize facG i (T.getD r.toNat 0) * (x + 32768) = y at *
        have w3 : IntKind.i64.wrap (R.getD n.toNat 0 - y) = R.getD n.toNat 0 - y := wrap_id (by omega) (by omega)
        rw [w3]
        have c1 : (decide (0 ≤ n) && decide (n < (R.length : Int))) = true := and2 (decide_eq_true n0) (decide_eq_true (by omega))
        have c2 : decide (n.toNat < R.length) = true := decide_eq_true (by omega)
        have c3 : (decide (0 ≤ r) && decide (r < (T.length : Int))) = true := and2 (decide_eq_true r0) (decide_eq_true r1)
        have c4 : decide (r.toNat < T.length) = true := decide_eq_true (by omega)
        have c6 : (decide (0 ≤ a) && decide (a < 8)) = true := and2 (decide_eq_true a0) (decide_eq_true (by omega))
        have c7 : (decide (a.toNat < 8) && decide (i.toNat < D.length)) = true := and2 (decide_eq_true (by omega)) (decide_eq_true (by omega))
        rw [c1, c2, c3, c4, c6, c7, decide_eq_true i0]
        simp only [Bool.true_and, cond_true]
        refine And.intro ⟨i0, by omega, tj0, tj1⟩ (And.intro (by decide) ?_)
        have hz := modB_65537 (R.getD n.toNat 0 - y)
        generalize modB (R.getD n.toNat 0 - y) 65537 = z at *
        have hg : (R.set n.toNat z).getD n.toNat 0 = z := getD_set_same (by omega)
        refine ⟨⟨⟨d1, d8, kb, l4, t4, r0, r1, tj0, tj1, a0, a1, n0, n1, by rw [List.length_set]; exact hR, by rw [hg]; omega, by rw [hg]; omega, by omega, by omega⟩, ?_⟩, by show ((D.length : Int) - (i + 1)).toNat < ((D.length : Int) - i).toNat; omega⟩
        rw [hg, List.set_set]
        exact h
    · rw [decide_eq_false hi]
      rw [List.drop_eq_nil_of_le (by omega)] at h
      have : R.set n.toNat (R.getD n.toNat 0) = R := by
        rw [List.getD_eq_getElem?_getD, List.getElem?_eq_getElem (by omega)]; simp
      unfold refR at h
      rw [this] at h
      exact h
theorem lokrf_4 {S0 : Spec} {l1 l2 l5 l7 : LoopBy} (hS : SpecOK Try.prog 125 S0) : LoopOK (ErfM S0 l1 l2 l5 l7 3) (lb Try.f67 4) [1, 4, 6, 10, 11, 13] [] rfF := by
  refine loopOK (allrf hS) (noInner (by kernel_rfl)) (fun vs σ => match vs, σ with
    | [_, _, .one (.int .i64 n), _, _, .one (.int .i64 x)], _ => (n - x).toNat
    | _, _ => 0) fun vs σ k h => ?_
  unfold rfF at h
  split at h
  rotate_right
  · exact h.elim
  · rename_i n r x D P L Q T R
    rw [exrfl4a _ _ _ _ _ n r x D P L Q T R _]
    obtain ⟨⟨hn, n4, hix, t4, r0, r1, tj0, tj1, hR, x0, x1⟩, h⟩ := h
    by_cases hx : x < n
    · have hw : IntKind.i64.wrap (x + 1) = x + 1 := wrap_id (by omega) (by omega)
      have e1 : x.toNat + 0 = x.toNat := rfl
      have e2 : r.toNat + 0 = r.toNat := rfl
      obtain ⟨y1, y2⟩ := ix_get hix (show x.toNat < L.length by omega)
      rw [decide_eq_true hx, cond_true, hw, e1, e2]
      refine condI (and2 (decide_eq_true x0) (decide_eq_true (by omega))) (condI (decide_eq_true (by omega)) (condI (and2 (decide_eq_true r0) (decide_eq_true r1)) (condI (decide_eq_true (by omega)) (And.intro ⟨y1, by omega, tj0, tj1⟩ (condI (and2 (decide_eq_true x0) (decide_eq_true (by omega))) (condI (decide_eq_true (by omega)) ?_))))))
      refine ⟨⟨⟨hn, n4, hix, t4, r0, r1, tj0, tj1, by rw [List.length_set]; exact hR, by omega, by omega⟩, ?_⟩, by show (n - (x + 1)).toNat < (n - x).toNat; omega⟩
      rw [facs_step _ x0 (by omega)] at h
      rw [fac_take (n := n) x0 (by omega), List.drop_set_of_lt (by omega)]
      exact h
    · rw [decide_eq_false hx]
      have ex : x = n := by omega
      rw [List.drop_eq_nil_of_le (by omega)] at h
      subst ex
      unfold facs at h
      rw [List.map_nil, List.nil_append, List.take_append_drop] at h
      exact h
theorem lokrf_5 {S0 : Spec} {l1 l2 l5 l7 : LoopBy} (hS : SpecOK Try.prog 125 S0) : LoopOK (ErfM S0 l1 l2 l5 l7 3) (lb Try.f67 5) [1, 6, 7, 8, 14, 15] [] rfG := by
  refine loopOK (allrf hS) (noInner (by kernel_rfl)) (fun vs σ => match vs, σ with
    | [_, .one (.int .i64 n), _, _, _, .one (.int .i64 x)], _ => (n - x).toNat
    | _, _ => 0) fun vs σ k h => ?_
  unfold rfG at h
  split at h
  rotate_right
  · exact h.elim
  · rename_i n a x D P L Q O V
    rw [exrfl5a _ _ _ _ _ n a x D P L Q O V _]
    obtain ⟨⟨h8, hix, rfl, hvl, hv4, hvr, a0, a1, x0, x1⟩, h⟩ := h
    by_cases hx : x < (V.length : Int)
    · have hw : IntKind.i64.wrap (x + 1) = x + 1 := wrap_id (by omega) (by omega)
      obtain ⟨y1, y2⟩ := ix_get hix (show x.toNat < L.length by omega)
      obtain ⟨v1, v2⟩ := res_get hvr x.toNat
      have hw2 : IntKind.i64.wrap (V.getD x.toNat 0 - 32768) = V.getD x.toNat 0 - 32768 := wrap_id (by omega) (by omega)
      have e1 : x.toNat + 0 = x.toNat := rfl
      have e2 : 0 + a.toNat = a.toNat := by omega
      have hxl : (L.getD x.toNat 0).toNat < O.length := by omega
      obtain ⟨xs, _, hx8, _, he⟩ := row_some hxl h8
      rw [decide_eq_true hx, cond_true, hw, e1, e2, hw2]
      refine condI (and2 (decide_eq_true x0) (decide_eq_true (by omega))) (condI (decide_eq_true (by omega)) (condI (and2 (decide_eq_true x0) rfl) (condI (decide_eq_true (by omega)) (condI (and2 (decide_eq_true y1) (decide_eq_true y2)) (condI (and2 (decide_eq_true a0) (decide_eq_true (by omega))) (condI (and2 (and2 (decide_eq_true (by omega)) (decide_eq_true hxl)) (decide_eq_true (by rw [he]; exact hx8))) ?_))))))
      refine ⟨⟨⟨set8_ok h8 hxl, by rw [List.length_set]; exact hix, rfl, hvl, hv4, hvr, a0, a1, by omega, by omega⟩, ?_⟩, by show ((V.length : Int) - (x + 1)).toNat < ((V.length : Int) - x).toNat; omega⟩
      rw [put_step a.toNat x0 (by omega) hx] at h
      exact h
    · rw [decide_eq_false hx]
      have hd : ∀ l : List Int, l.length = V.length → l.drop x.toNat = [] := fun l hl => List.drop_eq_nil_of_le (by omega)
      rw [hd L hvl.symm, hd V rfl] at h
      exact h
theorem lokrf_6 {S0 : Spec} {l1 l2 l5 l7 : LoopBy} (hS : SpecOK Try.prog 125 S0) : LoopOK (ErfM S0 l1 l2 l5 l7 2) (lb Try.f67 6) [1, 6, 7, 16] [2, 3] rfH := by
  refine loopOK (allrf hS) (noInner (by kernel_rfl)) (fun vs σ => match vs, σ with
    | [_, .one (.int .i64 n), _, .one (.int .i64 x)], _ => (n - x).toNat
    | _, _ => 0) fun vs σ k h => ?_
  unfold rfH at h
  split at h
  rotate_right
  · exact h.elim
  · rename_i n x D P L Q O
    rw [exrfl6a _ _ _ _ _ n x D P L Q O _]
    obtain ⟨⟨h8, hix, rfl, hl4, x0⟩, h⟩ := h
    by_cases hx : x < (L.length : Int)
    · have hw : IntKind.i64.wrap (x + 1) = x + 1 := wrap_id (by omega) (by omega)
      obtain ⟨y1, y2⟩ := ix_get hix (show x.toNat < L.length by omega)
      have e1 : x.toNat + 0 = x.toNat := rfl
      have hxl : (L.getD x.toNat 0).toNat < O.length := by omega
      rw [decide_eq_true hx, cond_true, hw, e1, eta_r8 h8 hxl]
      refine condI (and2 (decide_eq_true x0) rfl) (condI (decide_eq_true (by omega)) (condI (and2 (decide_eq_true y1) (decide_eq_true y2)) (condI (and2 (by decide) (decide_eq_true hxl)) ?_)))
      rw [drop_step 0 (by omega : x.toNat < L.length), List.all_cons, show x.toNat + 1 = (x + 1).toNat by omega] at h
      unfold rowOk okRow at h
      cases hb : (O.getD (L.getD x.toNat 0).toNat []).all sampleG with
      | true => rw [hb] at h; exact ⟨⟨⟨h8, hix, rfl, hl4, by omega⟩, h⟩, by show ((L.length : Int) - (x + 1)).toNat < ((L.length : Int) - x).toNat; omega⟩
      | false => rw [hb] at h; exact h
    · rw [decide_eq_false hx]
      rw [List.drop_eq_nil_of_le (by omega)] at h
      exact h
theorem lokrf_7 {S0 : Spec} {l1 l2 l5 l7 : LoopBy} (hS : SpecOK Try.prog 125 S0) : LoopOK (ErfM S0 l1 l2 l5 l7 3) (lb Try.f67 7) [1, 4, 17, 18] [2, 3] rfI := by
  refine loopOK (allrf hS) (noInner (by kernel_rfl)) (fun vs σ => match vs, σ with
    | [_, _, _, .one (.int .i64 x)], _ :: (.row _ (.ints .i64 T)) :: _ => ((T.length : Int) - x).toNat
    | _, _ => 0) fun vs σ k h => ?_
  unfold rfI at h
  split at h
  rotate_right
  · exact h.elim
  · rename_i x D P L Q T M
    rw [exrfl7a _ _ _ _ _ x D P L Q T M _]
    obtain ⟨⟨m8, p8, t4, hix, hiy, x0⟩, h⟩ := h
    by_cases hx : x < (T.length : Int)
    · have hw : IntKind.i64.wrap (x + 1) = x + 1 := wrap_id (by omega) (by omega)
      obtain ⟨y1, y2⟩ := ix_get hix (show x.toNat < T.length by omega)
      obtain ⟨_, z2⟩ := ix_get hiy (show x.toNat < T.length by omega)
      have e1 : x.toNat + 0 = x.toNat := rfl
      have hpl : (T.getD x.toNat 0).toNat < P.length := by omega
      have hml : (T.getD x.toNat 0).toNat < M.length := by omega
      obtain ⟨xs, _, lx, _, hex⟩ := row_some hpl p8
      obtain ⟨ys, _, ly, _, hey⟩ := row_some hml m8
      rw [decide_eq_true hx, cond_true, hw, e1, eq8 (by rw [hey]; exact ly) (by rw [hex]; exact lx)]
      refine condI (and2 (decide_eq_true x0) rfl) (condI (decide_eq_true (by omega)) (condI (and2 (decide_eq_true y1) (decide_eq_true z2)) (condI (and2 (by decide) (decide_eq_true hml)) (condI (and2 (decide_eq_true x0) rfl) (condI (decide_eq_true (by omega)) (condI (and2 (decide_eq_true y1) (decide_eq_true y2)) (condI (and2 (by decide) (decide_eq_true hpl)) ?_)))))))
      rw [drop_step 0 (by omega : x.toNat < T.length), List.all_cons, show x.toNat + 1 = (x + 1).toNat by omega] at h
      unfold rowEq at h
      cases hb : M.getD (T.getD x.toNat 0).toNat [] == P.getD (T.getD x.toNat 0).toNat [] with
      | true => rw [hb] at h; exact ⟨⟨⟨m8, p8, t4, hix, hiy, by omega⟩, h⟩, by show ((T.length : Int) - (x + 1)).toNat < ((T.length : Int) - x).toNat; omega⟩
      | false => rw [hb] at h; exact h
    · rw [decide_eq_false hx]
      rw [List.drop_eq_nil_of_le (by omega)] at h
      exact h
theorem refR_sum (L : List Int) (j : Int) (a : Nat) : ∀ (l : List (List Int)) (out i : Int), refR L j a out i l % 65537 = (out - Pl.sumP L j a i l) % 65537
  | [], out, i => by unfold refR Pl.sumP; rw [Int.sub_zero]
  | xs :: l, out, i => by
    unfold refR Pl.sumP
    rw [refR_sum L j a l]
    cases memB i L with
    | true => simp
    | false =>
      rw [cond_false, cond_false, modB_65537]
      generalize facG i j * (xs.getD a 0 + 32768) = y
      generalize Pl.sumP L j a (i + 1) l = t
      omega
theorem refR_rng (L : List Int) (j : Int) (a : Nat) : ∀ (l : List (List Int)) (out i : Int), (0 ≤ out ∧ out < 65537) → 0 ≤ refR L j a out i l ∧ refR L j a out i l < 65537
  | [], out, i, h => h
  | xs :: l, out, i, h => by
    unfold refR
    refine refR_rng L j a l _ _ ?_
    cases memB i L with
    | true => exact h
    | false => rw [cond_false, modB_65537]; omega
theorem ref_rhs {D P : List (List Int)} {L : List Int} {j : Int} {a : Nat} (h : resRow (P.getD j.toNat []) = true) : refR L j a ((P.getD j.toNat []).getD a 0) 0 D = rhsF D P L j a := by
  have hv := res_get h a
  have h1 := refR_sum L j a D ((P.getD j.toNat []).getD a 0) 0
  have h2 := refR_rng L j a D ((P.getD j.toNat []).getD a 0) 0 hv
  have h3 := Pl.parR_sum L j a D 0 0
  have h4 := modG_range (modG ((P.getD j.toNat []).getD a 0) - parR L j a 0 0 D)
  unfold rhsF
  rw [modG_emod, modG_emod] at *
  omega
theorem lokrf1_2 : LoopOK (Erf1 2) (lb Try.f67 2) [1, 4, 6, 8, 9, 10] [9] rfC1 := by
  refine loopOK (allrf okrs1) (fun b' hb => by
    have hl : loopsOf (lb Try.f67 2) = [lb Try.f67 3, lb Try.f67 4] := by kernel_rfl
    rw [hl] at hb
    simp only [List.mem_cons, List.not_mem_nil, or_false] at hb
    rcases hb with rfl | rfl
    · exact loopHyp_frm (E' := Erf1 3) (key := 21) (m := 3) (by kernel_rfl) rfl rfl (lokrf_3 okrs1)
    · exact loopHyp_frm (E' := Erf1 3) (key := 26) (m := 3) (by kernel_rfl) rfl rfl (lokrf_4 okrs1)) (fun vs σ => match vs, σ with
    | [_, _, .one (.int .i64 n), _, _, .one (.int .i64 r)], _ => (n - r).toNat
    | _, _ => 0) fun vs σ k h => ?_
  unfold rfC1 at h
  split at h
  rotate_right
  · exact h.elim
  · rename_i n a r D P L Q T
    rw [exrfl2a _ _ _ _ _ n a r D P L Q T _]
    obtain ⟨⟨rfl, hr, ha0, ha1, rfl⟩, h⟩ := h
    have rs := hr.rs
    have hln := rs.ln
    have hkn := rs.kn
    have hk1 := rs.k1
    have hd1 := rs.d1
    have hp1 := rs.p1
    have hT : 0 < T.length := by omega
    obtain ⟨t1, t2⟩ := ix_get rs.ki hT
    have hres := hr.pr _ (getD_mem (d := 0) hT)
    obtain ⟨v1, v2⟩ := res_get hres a.toNat
    have hrow : facs L (T.getD 0 0) ++ [refR L (T.getD 0 0) a.toNat ((P.getD (T.getD 0 0).toNat []).getD a.toNat 0) 0 D] = eqR D P L (T.getD 0 0) a.toNat := by rw [ref_rhs hres]; rfl
    have ea : 0 + a.toNat + 0 = a.toNat := by omega
    have er : (0 : Int).toNat + 0 = 0 := rfl
    have hn1 : IntKind.i64.wrap ((1 : Int) + 1) = 2 := by decide
    have hw : IntKind.i64.wrap ((0 : Int) + 1) = 1 := by decide
    rw [hn1, hw, ea, er]
    refine condI (by decide) (condI (by decide) (condI (and2 (by decide) (decide_eq_true (by omega))) (condI (decide_eq_true hT) (condI (and2 (decide_eq_true t1) (decide_eq_true t2)) (condI (and2 (decide_eq_true ha0) (decide_eq_true (by omega))) (condI (and2 (decide_eq_true (by omega)) (decide_eq_true (by omega))) (condI (by decide) (condI (by decide) (And.intro ⟨hd1, rs.d8, rs.kb, by omega, hk1, by decide, by omega, t1, by show T.getD 0 0 ≤ 3; omega, ha0, ha1, by decide, by decide, rfl, v1, v2, by decide, by omega⟩ (And.intro ⟨by omega, by decide, ix12 rs.li hd1, hk1, by decide, by omega, t1, by show T.getD 0 0 ≤ 3; omega, rfl, by decide, by decide⟩ ?_))))))))))
    exact ⟨⟨⟨rfl, hr, ha0, ha1, rfl, hrow⟩, h⟩, by show ((1 : Int) - 1).toNat < ((1 : Int) - 0).toNat; decide⟩
  · rename_i n a r D P L Q T R0
    rw [exrf1l2b n a r D P L Q T R0 _]
    obtain ⟨⟨rfl, hr, ha0, ha1, rfl, rfl⟩, h⟩ := h
    exact h
theorem lokrf1_1 : LoopOK (Erf1 3) (lb Try.f67 1) [1, 4, 6, 7, 8] [] rfB1 := by
  refine loopOK (allrf okrs1) (fun b' hb => by
    have hl : loopsOf (lb Try.f67 1) = [lb Try.f67 2, lb Try.f67 3, lb Try.f67 4, lb Try.f67 5] := by kernel_rfl
    rw [hl] at hb
    simp only [List.mem_cons, List.not_mem_nil, or_false] at hb
    rcases hb with rfl | rfl | rfl | rfl
    · exact loopHyp_frm (E' := Erf1 2) (key := 16) (m := 2) (by kernel_rfl) rfl rfl lokrf1_2
    · exact loopHyp_frm (E' := Erf1 3) (key := 21) (m := 3) (by kernel_rfl) rfl rfl (lokrf_3 okrs1)
    · exact loopHyp_frm (E' := Erf1 3) (key := 26) (m := 3) (by kernel_rfl) rfl rfl (lokrf_4 okrs1)
    · exact loopHyp_frm (E' := Erf1 3) (key := 32) (m := 3) (by kernel_rfl) rfl rfl (lokrf_5 okrs1)) (fun vs σ => match vs, σ with
    | [_, _, _, _, .one (.int .i64 a)], _ => (8 - a).toNat
    | _, _ => 0) fun vs σ k h => ?_
  unfold rfB1 at h
  split at h
  rotate_right
  · exact h.elim
  · rename_i n a D P L Q T O
    rw [exrf1l1a n a D P L Q T O _]
    obtain ⟨⟨rfl, hr, ho, ha0, ha1⟩, h⟩ := h
    by_cases ha : a < 8
    · have hw : IntKind.i64.wrap (a + 1) = a + 1 := wrap_id (by omega) (by omega)
      have rs := hr.rs
      have hln := rs.ln
      have hkn := rs.kn
      have hok := eqs_okSol rs a.toNat
      have hv := solV_len hok
      have hv2 := solV_res hok
      have hpv := hr.pv a.toNat
      rw [resF_step ha0 ha] at h
      have el : eqsF D P L T a.toNat = [eqR D P L (T.getD 0 0) a.toNat] := eqs_list rs a.toNat
      rw [el] at hok hv hv2 h hpv
      rw [decide_eq_true ha, cond_true, hw]
      have hv3 : (solV [eqR D P L (T.getD 0 0) a.toNat]).length = 1 := hv
      refine And.intro ⟨rfl, hr, ha0, by omega, rfl⟩ (And.intro ⟨hok, hpv⟩ fun X0 => And.intro ⟨ho.2, by rw [ho.1]; exact rs.li, by omega, by omega, by omega, hv2, ha0, by omega, by omega, by omega⟩ ?_)
      exact ⟨⟨⟨rfl, hr, put_out (O := O) L _ a.toNat O ho rs.li, by omega, by omega⟩, h⟩, by show (8 - (a + 1)).toNat < (8 - a).toNat; omega⟩
    · rw [decide_eq_false ha]
      rw [show (8 - a).toNat = 0 by omega] at h
      exact h
theorem lokrf2_2 : LoopOK (Erf2 2) (lb Try.f67 2) [1, 4, 6, 8, 9, 10] [9] rfC2 := by
  refine loopOK (allrf okrs2) (fun b' hb => by
    have hl : loopsOf (lb Try.f67 2) = [lb Try.f67 3, lb Try.f67 4] := by kernel_rfl
    rw [hl] at hb
    simp only [List.mem_cons, List.not_mem_nil, or_false] at hb
    rcases hb with rfl | rfl
    · exact loopHyp_frm (E' := Erf2 3) (key := 21) (m := 3) (by kernel_rfl) rfl rfl (lokrf_3 okrs2)
    · exact loopHyp_frm (E' := Erf2 3) (key := 26) (m := 3) (by kernel_rfl) rfl rfl (lokrf_4 okrs2)) (fun vs σ => match vs, σ with
    | [_, _, .one (.int .i64 n), _, _, .one (.int .i64 r)], _ => (n - r).toNat
    | _, _ => 0) fun vs σ k h => ?_
  unfold rfC2 at h
  split at h
  rotate_right
  · exact h.elim
  · rename_i n a r D P L Q T
    rw [exrfl2a _ _ _ _ _ n a r D P L Q T _]
    obtain ⟨⟨rfl, hr, ha0, ha1, rfl⟩, h⟩ := h
    have rs := hr.rs
    have hln := rs.ln
    have hkn := rs.kn
    have hk1 := rs.k1
    have hd1 := rs.d1
    have hp1 := rs.p1
    have hT : 0 < T.length := by omega
    obtain ⟨t1, t2⟩ := ix_get rs.ki hT
    have hres := hr.pr _ (getD_mem (d := 0) hT)
    obtain ⟨v1, v2⟩ := res_get hres a.toNat
    have hrow : facs L (T.getD 0 0) ++ [refR L (T.getD 0 0) a.toNat ((P.getD (T.getD 0 0).toNat []).getD a.toNat 0) 0 D] = eqR D P L (T.getD 0 0) a.toNat := by rw [ref_rhs hres]; rfl
    have ea : 0 + a.toNat + 0 = a.toNat := by omega
    have er : (0 : Int).toNat + 0 = 0 := rfl
    have hn1 : IntKind.i64.wrap ((2 : Int) + 1) = 3 := by decide
    have hw : IntKind.i64.wrap ((0 : Int) + 1) = 1 := by decide
    rw [hn1, hw, ea, er]
    refine condI (by decide) (condI (by decide) (condI (and2 (by decide) (decide_eq_true (by omega))) (condI (decide_eq_true hT) (condI (and2 (decide_eq_true t1) (decide_eq_true t2)) (condI (and2 (decide_eq_true ha0) (decide_eq_true (by omega))) (condI (and2 (decide_eq_true (by omega)) (decide_eq_true (by omega))) (condI (by decide) (condI (by decide) (And.intro ⟨hd1, rs.d8, rs.kb, by omega, hk1, by decide, by omega, t1, by show T.getD 0 0 ≤ 3; omega, ha0, ha1, by decide, by decide, rfl, v1, v2, by decide, by omega⟩ (And.intro ⟨by omega, by decide, ix12 rs.li hd1, hk1, by decide, by omega, t1, by show T.getD 0 0 ≤ 3; omega, rfl, by decide, by decide⟩ ?_))))))))))
    exact ⟨⟨⟨rfl, hr, ha0, ha1, rfl, hrow⟩, h⟩, by show ((2 : Int) - 1).toNat < ((2 : Int) - 0).toNat; decide⟩
  · rename_i n a r D P L Q T R0
    rw [exrfl2b _ _ _ _ _ n a r D P L Q T R0 _]
    obtain ⟨⟨rfl, hr, ha0, ha1, rfl, rfl⟩, h⟩ := h
    have rs := hr.rs
    have hln := rs.ln
    have hkn := rs.kn
    have hk1 := rs.k1
    have hd1 := rs.d1
    have hp1 := rs.p1
    have hT : 1 < T.length := by omega
    obtain ⟨t1, t2⟩ := ix_get rs.ki hT
    have hres := hr.pr _ (getD_mem (d := 0) hT)
    obtain ⟨v1, v2⟩ := res_get hres a.toNat
    have hrow : facs L (T.getD 1 0) ++ [refR L (T.getD 1 0) a.toNat ((P.getD (T.getD 1 0).toNat []).getD a.toNat 0) 0 D] = eqR D P L (T.getD 1 0) a.toNat := by rw [ref_rhs hres]; rfl
    have ea : 0 + a.toNat + 0 = a.toNat := by omega
    have er : (1 : Int).toNat + 0 = 1 := rfl
    have hn1 : IntKind.i64.wrap ((2 : Int) + 1) = 3 := by decide
    have hw : IntKind.i64.wrap ((1 : Int) + 1) = 2 := by decide
    rw [hn1, hw, ea, er]
    refine condI (by decide) (condI (by decide) (condI (and2 (by decide) (decide_eq_true (by omega))) (condI (decide_eq_true hT) (condI (and2 (decide_eq_true t1) (decide_eq_true t2)) (condI (and2 (decide_eq_true ha0) (decide_eq_true (by omega))) (condI (and2 (decide_eq_true (by omega)) (decide_eq_true (by omega))) (condI (by decide) (condI (by decide) (And.intro ⟨hd1, rs.d8, rs.kb, by omega, hk1, by decide, by omega, t1, by show T.getD 1 0 ≤ 3; omega, ha0, ha1, by decide, by decide, rfl, v1, v2, by decide, by omega⟩ (And.intro ⟨by omega, by decide, ix12 rs.li hd1, hk1, by decide, by omega, t1, by show T.getD 1 0 ≤ 3; omega, rfl, by decide, by decide⟩ ?_))))))))))
    exact ⟨⟨⟨rfl, hr, ha0, ha1, rfl, rfl, hrow⟩, h⟩, by show ((2 : Int) - 2).toNat < ((2 : Int) - 1).toNat; decide⟩
  · rename_i n a r D P L Q T R0 R1
    rw [exrf2l2c n a r D P L Q T R0 R1 _]
    obtain ⟨⟨rfl, hr, ha0, ha1, rfl, rfl, rfl⟩, h⟩ := h
    exact h
theorem lokrf2_1 : LoopOK (Erf2 3) (lb Try.f67 1) [1, 4, 6, 7, 8] [] rfB2 := by
  refine loopOK (allrf okrs2) (fun b' hb => by
    have hl : loopsOf (lb Try.f67 1) = [lb Try.f67 2, lb Try.f67 3, lb Try.f67 4, lb Try.f67 5] := by kernel_rfl
    rw [hl] at hb
    simp only [List.mem_cons, List.not_mem_nil, or_false] at hb
    rcases hb with rfl | rfl | rfl | rfl
    · exact loopHyp_frm (E' := Erf2 2) (key := 16) (m := 2) (by kernel_rfl) rfl rfl lokrf2_2
    · exact loopHyp_frm (E' := Erf2 3) (key := 21) (m := 3) (by kernel_rfl) rfl rfl (lokrf_3 okrs2)
    · exact loopHyp_frm (E' := Erf2 3) (key := 26) (m := 3) (by kernel_rfl) rfl rfl (lokrf_4 okrs2)
    · exact loopHyp_frm (E' := Erf2 3) (key := 32) (m := 3) (by kernel_rfl) rfl rfl (lokrf_5 okrs2)) (fun vs σ => match vs, σ with
    | [_, _, _, _, .one (.int .i64 a)], _ => (8 - a).toNat
    | _, _ => 0) fun vs σ k h => ?_
  unfold rfB2 at h
  split at h
  rotate_right
  · exact h.elim
  · rename_i n a D P L Q T O
    rw [exrf2l1a n a D P L Q T O _]
    obtain ⟨⟨rfl, hr, ho, ha0, ha1⟩, h⟩ := h
    by_cases ha : a < 8
    · have hw : IntKind.i64.wrap (a + 1) = a + 1 := wrap_id (by omega) (by omega)
      have rs := hr.rs
      have hln := rs.ln
      have hkn := rs.kn
      have hok := eqs_okSol rs a.toNat
      have hv := solV_len hok
      have hv2 := solV_res hok
      have hpv := hr.pv a.toNat
      rw [resF_step ha0 ha] at h
      have el : eqsF D P L T a.toNat = [eqR D P L (T.getD 0 0) a.toNat, eqR D P L (T.getD 1 0) a.toNat] := eqs_list rs a.toNat
      rw [el] at hok hv hv2 h hpv
      rw [decide_eq_true ha, cond_true, hw]
      have hv3 : (solV [eqR D P L (T.getD 0 0) a.toNat, eqR D P L (T.getD 1 0) a.toNat]).length = 2 := hv
      refine And.intro ⟨rfl, hr, ha0, by omega, rfl⟩ (And.intro ⟨hok, hpv⟩ fun X0 X1 => And.intro ⟨ho.2, by rw [ho.1]; exact rs.li, by omega, by omega, by omega, hv2, ha0, by omega, by omega, by omega⟩ ?_)
      exact ⟨⟨⟨rfl, hr, put_out (O := O) L _ a.toNat O ho rs.li, by omega, by omega⟩, h⟩, by show (8 - (a + 1)).toNat < (8 - a).toNat; omega⟩
    · rw [decide_eq_false ha]
      rw [show (8 - a).toNat = 0 by omega] at h
      exact h
theorem lokrf3_2 : LoopOK (Erf3 2) (lb Try.f67 2) [1, 4, 6, 8, 9, 10] [9] rfC3 := by
  refine loopOK (allrf okrs3) (fun b' hb => by
    have hl : loopsOf (lb Try.f67 2) = [lb Try.f67 3, lb Try.f67 4] := by kernel_rfl
    rw [hl] at hb
    simp only [List.mem_cons, List.not_mem_nil, or_false] at hb
    rcases hb with rfl | rfl
    · exact loopHyp_frm (E' := Erf3 3) (key := 21) (m := 3) (by kernel_rfl) rfl rfl (lokrf_3 okrs3)
    · exact loopHyp_frm (E' := Erf3 3) (key := 26) (m := 3) (by kernel_rfl) rfl rfl (lokrf_4 okrs3)) (fun vs σ => match vs, σ with
    | [_, _, .one (.int .i64 n), _, _, .one (.int .i64 r)], _ => (n - r).toNat
    | _, _ => 0) fun vs σ k h => ?_
  unfold rfC3 at h
  split at h
  rotate_right
  · exact h.elim
  · rename_i n a r D P L Q T
    rw [exrfl2a _ _ _ _ _ n a r D P L Q T _]
    obtain ⟨⟨rfl, hr, ha0, ha1, rfl⟩, h⟩ := h
    have rs := hr.rs
    have hln := rs.ln
    have hkn := rs.kn
    have hk1 := rs.k1
    have hd1 := rs.d1
    have hp1 := rs.p1
    have hT : 0 < T.length := by omega
    obtain ⟨t1, t2⟩ := ix_get rs.ki hT
    have hres := hr.pr _ (getD_mem (d := 0) hT)
    obtain ⟨v1, v2⟩ := res_get hres a.toNat
    have hrow : facs L (T.getD 0 0) ++ [refR L (T.getD 0 0) a.toNat ((P.getD (T.getD 0 0).toNat []).getD a.toNat 0) 0 D] = eqR D P L (T.getD 0 0) a.toNat := by rw [ref_rhs hres]; rfl
    have ea : 0 + a.toNat + 0 = a.toNat := by omega
    have er : (0 : Int).toNat + 0 = 0 := rfl
    have hn1 : IntKind.i64.wrap ((3 : Int) + 1) = 4 := by decide
    have hw : IntKind.i64.wrap ((0 : Int) + 1) = 1 := by decide
    rw [hn1, hw, ea, er]
    refine condI (by decide) (condI (by decide) (condI (and2 (by decide) (decide_eq_true (by omega))) (condI (decide_eq_true hT) (condI (and2 (decide_eq_true t1) (decide_eq_true t2)) (condI (and2 (decide_eq_true ha0) (decide_eq_true (by omega))) (condI (and2 (decide_eq_true (by omega)) (decide_eq_true (by omega))) (condI (by decide) (condI (by decide) (And.intro ⟨hd1, rs.d8, rs.kb, by omega, hk1, by decide, by omega, t1, by show T.getD 0 0 ≤ 3; omega, ha0, ha1, by decide, by decide, rfl, v1, v2, by decide, by omega⟩ (And.intro ⟨by omega, by decide, ix12 rs.li hd1, hk1, by decide, by omega, t1, by show T.getD 0 0 ≤ 3; omega, rfl, by decide, by decide⟩ ?_))))))))))
    exact ⟨⟨⟨rfl, hr, ha0, ha1, rfl, hrow⟩, h⟩, by show ((3 : Int) - 1).toNat < ((3 : Int) - 0).toNat; decide⟩
  · rename_i n a r D P L Q T R0
    rw [exrfl2b _ _ _ _ _ n a r D P L Q T R0 _]
    obtain ⟨⟨rfl, hr, ha0, ha1, rfl, rfl⟩, h⟩ := h
    have rs := hr.rs
    have hln := rs.ln
    have hkn := rs.kn
    have hk1 := rs.k1
    have hd1 := rs.d1
    have hp1 := rs.p1
    have hT : 1 < T.length := by omega
    obtain ⟨t1, t2⟩ := ix_get rs.ki hT
    have hres := hr.pr _ (getD_mem (d := 0) hT)
    obtain ⟨v1, v2⟩ := res_get hres a.toNat
    have hrow : facs L (T.getD 1 0) ++ [refR L (T.getD 1 0) a.toNat ((P.getD (T.getD 1 0).toNat []).getD a.toNat 0) 0 D] = eqR D P L (T.getD 1 0) a.toNat := by rw [ref_rhs hres]; rfl
    have ea : 0 + a.toNat + 0 = a.toNat := by omega
    have er : (1 : Int).toNat + 0 = 1 := rfl
    have hn1 : IntKind.i64.wrap ((3 : Int) + 1) = 4 := by decide
    have hw : IntKind.i64.wrap ((1 : Int) + 1) = 2 := by decide
    rw [hn1, hw, ea, er]
    refine condI (by decide) (condI (by decide) (condI (and2 (by decide) (decide_eq_true (by omega))) (condI (decide_eq_true hT) (condI (and2 (decide_eq_true t1) (decide_eq_true t2)) (condI (and2 (decide_eq_true ha0) (decide_eq_true (by omega))) (condI (and2 (decide_eq_true (by omega)) (decide_eq_true (by omega))) (condI (by decide) (condI (by decide) (And.intro ⟨hd1, rs.d8, rs.kb, by omega, hk1, by decide, by omega, t1, by show T.getD 1 0 ≤ 3; omega, ha0, ha1, by decide, by decide, rfl, v1, v2, by decide, by omega⟩ (And.intro ⟨by omega, by decide, ix12 rs.li hd1, hk1, by decide, by omega, t1, by show T.getD 1 0 ≤ 3; omega, rfl, by decide, by decide⟩ ?_))))))))))
    exact ⟨⟨⟨rfl, hr, ha0, ha1, rfl, rfl, hrow⟩, h⟩, by show ((3 : Int) - 2).toNat < ((3 : Int) - 1).toNat; decide⟩
  · rename_i n a r D P L Q T R0 R1
    rw [exrfl2c _ _ _ _ _ n a r D P L Q T R0 R1 _]
    obtain ⟨⟨rfl, hr, ha0, ha1, rfl, rfl, rfl⟩, h⟩ := h
    have rs := hr.rs
    have hln := rs.ln
    have hkn := rs.kn
    have hk1 := rs.k1
    have hd1 := rs.d1
    have hp1 := rs.p1
    have hT : 2 < T.length := by omega
    obtain ⟨t1, t2⟩ := ix_get rs.ki hT
    have hres := hr.pr _ (getD_mem (d := 0) hT)
    obtain ⟨v1, v2⟩ := res_get hres a.toNat
    have hrow : facs L (T.getD 2 0) ++ [refR L (T.getD 2 0) a.toNat ((P.getD (T.getD 2 0).toNat []).getD a.toNat 0) 0 D] = eqR D P L (T.getD 2 0) a.toNat := by rw [ref_rhs hres]; rfl
    have ea : 0 + a.toNat + 0 = a.toNat := by omega
    have er : (2 : Int).toNat + 0 = 2 := rfl
    have hn1 : IntKind.i64.wrap ((3 : Int) + 1) = 4 := by decide
    have hw : IntKind.i64.wrap ((2 : Int) + 1) = 3 := by decide
    rw [hn1, hw, ea, er]
    refine condI (by decide) (condI (by decide) (condI (and2 (by decide) (decide_eq_true (by omega))) (condI (decide_eq_true hT) (condI (and2 (decide_eq_true t1) (decide_eq_true t2)) (condI (and2 (decide_eq_true ha0) (decide_eq_true (by omega))) (condI (and2 (decide_eq_true (by omega)) (decide_eq_true (by omega))) (condI (by decide) (condI (by decide) (And.intro ⟨hd1, rs.d8, rs.kb, by omega, hk1, by decide, by omega, t1, by show T.getD 2 0 ≤ 3; omega, ha0, ha1, by decide, by decide, rfl, v1, v2, by decide, by omega⟩ (And.intro ⟨by omega, by decide, ix12 rs.li hd1, hk1, by decide, by omega, t1, by show T.getD 2 0 ≤ 3; omega, rfl, by decide, by decide⟩ ?_))))))))))
    exact ⟨⟨⟨rfl, hr, ha0, ha1, rfl, rfl, rfl, hrow⟩, h⟩, by show ((3 : Int) - 3).toNat < ((3 : Int) - 2).toNat; decide⟩
  · rename_i n a r D P L Q T R0 R1 R2
    rw [exrf3l2d n a r D P L Q T R0 R1 R2 _]
    obtain ⟨⟨rfl, hr, ha0, ha1, rfl, rfl, rfl, rfl⟩, h⟩ := h
    exact h
theorem lokrf3_1 : LoopOK (Erf3 3) (lb Try.f67 1) [1, 4, 6, 7, 8] [] rfB3 := by
  refine loopOK (allrf okrs3) (fun b' hb => by
    have hl : loopsOf (lb Try.f67 1) = [lb Try.f67 2, lb Try.f67 3, lb Try.f67 4, lb Try.f67 5] := by kernel_rfl
    rw [hl] at hb
    simp only [List.mem_cons, List.not_mem_nil, or_false] at hb
    rcases hb with rfl | rfl | rfl | rfl
    · exact loopHyp_frm (E' := Erf3 2) (key := 16) (m := 2) (by kernel_rfl) rfl rfl lokrf3_2
    · exact loopHyp_frm (E' := Erf3 3) (key := 21) (m := 3) (by kernel_rfl) rfl rfl (lokrf_3 okrs3)
    · exact loopHyp_frm (E' := Erf3 3) (key := 26) (m := 3) (by kernel_rfl) rfl rfl (lokrf_4 okrs3)
    · exact loopHyp_frm (E' := Erf3 3) (key := 32) (m := 3) (by kernel_rfl) rfl rfl (lokrf_5 okrs3)) (fun vs σ => match vs, σ with
    | [_, _, _, _, .one (.int .i64 a)], _ => (8 - a).toNat
    | _, _ => 0) fun vs σ k h => ?_
  unfold rfB3 at h
  split at h
  rotate_right
  · exact h.elim
  · rename_i n a D P L Q T O
    rw [exrf3l1a n a D P L Q T O _]
    obtain ⟨⟨rfl, hr, ho, ha0, ha1⟩, h⟩ := h
    by_cases ha : a < 8
    · have hw : IntKind.i64.wrap (a + 1) = a + 1 := wrap_id (by omega) (by omega)
      have rs := hr.rs
      have hln := rs.ln
      have hkn := rs.kn
      have hok := eqs_okSol rs a.toNat
      have hv := solV_len hok
      have hv2 := solV_res hok
      have hpv := hr.pv a.toNat
      rw [resF_step ha0 ha] at h
      have el : eqsF D P L T a.toNat = [eqR D P L (T.getD 0 0) a.toNat, eqR D P L (T.getD 1 0) a.toNat, eqR D P L (T.getD 2 0) a.toNat] := eqs_list rs a.toNat
      rw [el] at hok hv hv2 h hpv
      rw [decide_eq_true ha, cond_true, hw]
      have hv3 : (solV [eqR D P L (T.getD 0 0) a.toNat, eqR D P L (T.getD 1 0) a.toNat, eqR D P L (T.getD 2 0) a.toNat]).length = 3 := hv
      refine And.intro ⟨rfl, hr, ha0, by omega, rfl⟩ (And.intro ⟨hok, hpv⟩ fun X0 X1 X2 => And.intro ⟨ho.2, by rw [ho.1]; exact rs.li, by omega, by omega, by omega, hv2, ha0, by omega, by omega, by omega⟩ ?_)
      exact ⟨⟨⟨rfl, hr, put_out (O := O) L _ a.toNat O ho rs.li, by omega, by omega⟩, h⟩, by show (8 - (a + 1)).toNat < (8 - a).toNat; omega⟩
    · rw [decide_eq_false ha]
      rw [show (8 - a).toNat = 0 by omega] at h
      exact h
theorem lokrf4_2 : LoopOK (Erf4 2) (lb Try.f67 2) [1, 4, 6, 8, 9, 10] [9] rfC4 := by
  refine loopOK (allrf okrs4) (fun b' hb => by
    have hl : loopsOf (lb Try.f67 2) = [lb Try.f67 3, lb Try.f67 4] := by kernel_rfl
    rw [hl] at hb
    simp only [List.mem_cons, List.not_mem_nil, or_false] at hb
    rcases hb with rfl | rfl
    · exact loopHyp_frm (E' := Erf4 3) (key := 21) (m := 3) (by kernel_rfl) rfl rfl (lokrf_3 okrs4)
    · exact loopHyp_frm (E' := Erf4 3) (key := 26) (m := 3) (by kernel_rfl) rfl rfl (lokrf_4 okrs4)) (fun vs σ => match vs, σ with
    | [_, _, .one (.int .i64 n), _, _, .one (.int .i64 r)], _ => (n - r).toNat
    | _, _ => 0) fun vs σ k h => ?_
  unfold rfC4 at h
  split at h
  rotate_right
  · exact h.elim
  · rename_i n a r D P L Q T
    rw [exrfl2a _ _ _ _ _ n a r D P L Q T _]
    obtain ⟨⟨rfl, hr, ha0, ha1, rfl⟩, h⟩ := h
    have rs := hr.rs
    have hln := rs.ln
    have hkn := rs.kn
    have hk1 := rs.k1
    have hd1 := rs.d1
    have hp1 := rs.p1
    have hT : 0 < T.length := by omega
    obtain ⟨t1, t2⟩ := ix_get rs.ki hT
    have hres := hr.pr _ (getD_mem (d := 0) hT)
    obtain ⟨v1, v2⟩ := res_get hres a.toNat
    have hrow : facs L (T.getD 0 0) ++ [refR L (T.getD 0 0) a.toNat ((P.getD (T.getD 0 0).toNat []).getD a.toNat 0) 0 D] = eqR D P L (T.getD 0 0) a.toNat := by rw [ref_rhs hres]; rfl
    have ea : 0 + a.toNat + 0 = a.toNat := by omega
    have er : (0 : Int).toNat + 0 = 0 := rfl
    have hn1 : IntKind.i64.wrap ((4 : Int) + 1) = 5 := by decide
    have hw : IntKind.i64.wrap ((0 : Int) + 1) = 1 := by decide
    rw [hn1, hw, ea, er]
    refine condI (by decide) (condI (by decide) (condI (and2 (by decide) (decide_eq_true (by omega))) (condI (decide_eq_true hT) (condI (and2 (decide_eq_true t1) (decide_eq_true t2)) (condI (and2 (decide_eq_true ha0) (decide_eq_true (by omega))) (condI (and2 (decide_eq_true (by omega)) (decide_eq_true (by omega))) (condI (by decide) (condI (by decide) (And.intro ⟨hd1, rs.d8, rs.kb, by omega, hk1, by decide, by omega, t1, by show T.getD 0 0 ≤ 3; omega, ha0, ha1, by decide, by decide, rfl, v1, v2, by decide, by omega⟩ (And.intro ⟨by omega, by decide, ix12 rs.li hd1, hk1, by decide, by omega, t1, by show T.getD 0 0 ≤ 3; omega, rfl, by decide, by decide⟩ ?_))))))))))
    exact ⟨⟨⟨rfl, hr, ha0, ha1, rfl, hrow⟩, h⟩, by show ((4 : Int) - 1).toNat < ((4 : Int) - 0).toNat; decide⟩
  · rename_i n a r D P L Q T R0
    rw [exrfl2b _ _ _ _ _ n a r D P L Q T R0 _]
    obtain ⟨⟨rfl, hr, ha0, ha1, rfl, rfl⟩, h⟩ := h
    have rs := hr.rs
    have hln := rs.ln
    have hkn := rs.kn
    have hk1 := rs.k1
    have hd1 := rs.d1
    have hp1 := rs.p1
    have hT : 1 < T.length := by omega
    obtain ⟨t1, t2⟩ := ix_get rs.ki hT
    have hres := hr.pr _ (getD_mem (d := 0) hT)
    obtain ⟨v1, v2⟩ := res_get hres a.toNat
    have hrow : facs L (T.getD 1 0) ++ [refR L (T.getD 1 0) a.toNat ((P.getD (T.getD 1 0).toNat []).getD a.toNat 0) 0 D] = eqR D P L (T.getD 1 0) a.toNat := by rw [ref_rhs hres]; rfl
    have ea : 0 + a.toNat + 0 = a.toNat := by omega
    have er : (1 : Int).toNat + 0 = 1 := rfl
    have hn1 : IntKind.i64.wrap ((4 : Int) + 1) = 5 := by decide
    have hw : IntKind.i64.wrap ((1 : Int) + 1) = 2 := by decide
    rw [hn1, hw, ea, er]
    refine condI (by decide) (condI (by decide) (condI (and2 (by decide) (decide_eq_true (by omega))) (condI (decide_eq_true hT) (condI (and2 (decide_eq_true t1) (decide_eq_true t2)) (condI (and2 (decide_eq_true ha0) (decide_eq_true (by omega))) (condI (and2 (decide_eq_true (by omega)) (decide_eq_true (by omega))) (condI (by decide) (condI (by decide) (And.intro ⟨hd1, rs.d8, rs.kb, by omega, hk1, by decide, by omega, t1, by show T.getD 1 0 ≤ 3; omega, ha0, ha1, by decide, by decide, rfl, v1, v2, by decide, by omega⟩ (And.intro ⟨by omega, by decide, ix12 rs.li hd1, hk1, by decide, by omega, t1, by show T.getD 1 0 ≤ 3; omega, rfl, by decide, by decide⟩ ?_))))))))))
    exact ⟨⟨⟨rfl, hr, ha0, ha1, rfl, rfl, hrow⟩, h⟩, by show ((4 : Int) - 2).toNat < ((4 : Int) - 1).toNat; decide⟩
  · rename_i n a r D P L Q T R0 R1
    rw [exrfl2c _ _ _ _ _ n a r D P L Q T R0 R1 _]
    obtain ⟨⟨rfl, hr, ha0, ha1, rfl, rfl, rfl⟩, h⟩ := h
    have rs := hr.rs
    have hln := rs.ln
    have hkn := rs.kn
    have hk1 := rs.k1
    have hd1 := rs.d1
    have hp1 := rs.p1
    have hT : 2 < T.length := by omega
    obtain ⟨t1, t2⟩ := ix_get rs.ki hT
    have hres := hr.pr _ (getD_mem (d := 0) hT)
    obtain ⟨v1, v2⟩ := res_get hres a.toNat
    have hrow : facs L (T.getD 2 0) ++ [refR L (T.getD 2 0) a.toNat ((P.getD (T.getD 2 0).toNat []).getD a.toNat 0) 0 D] = eqR D P L (T.getD 2 0) a.toNat := by rw [ref_rhs hres]; rfl
    have ea : 0 + a.toNat + 0 = a.toNat := by omega
    have er : (2 : Int).toNat + 0 = 2 := rfl
    have hn1 : IntKind.i64.wrap ((4 : Int) + 1) = 5 := by decide
    have hw : IntKind.i64.wrap ((2 : Int) + 1) = 3 := by decide
    rw [hn1, hw, ea, er]
    refine condI (by decide) (condI (by decide) (condI (and2 (by decide) (decide_eq_true (by omega))) (condI (decide_eq_true hT) (condI (and2 (decide_eq_true t1) (decide_eq_true t2)) (condI (and2 (decide_eq_true ha0) (decide_eq_true (by omega))) (condI (and2 (decide_eq_true (by omega)) (decide_eq_true (by omega))) (condI (by decide) (condI (by decide) (And.intro ⟨hd1, rs.d8, rs.kb, by omega, hk1, by decide, by omega, t1, by show T.getD 2 0 ≤ 3; omega, ha0, ha1, by decide, by decide, rfl, v1, v2, by decide, by omega⟩ (And.intro ⟨by omega, by decide, ix12 rs.li hd1, hk1, by decide, by omega, t1, by show T.getD 2 0 ≤ 3; omega, rfl, by decide, by decide⟩ ?_))))))))))
    exact ⟨⟨⟨rfl, hr, ha0, ha1, rfl, rfl, rfl, hrow⟩, h⟩, by show ((4 : Int) - 3).toNat < ((4 : Int) - 2).toNat; decide⟩
  · rename_i n a r D P L Q T R0 R1 R2
    rw [exrfl2d _ _ _ _ _ n a r D P L Q T R0 R1 R2 _]
    obtain ⟨⟨rfl, hr, ha0, ha1, rfl, rfl, rfl, rfl⟩, h⟩ := h
    have rs := hr.rs
    have hln := rs.ln
    have hkn := rs.kn
    have hk1 := rs.k1
    have hd1 := rs.d1
    have hp1 := rs.p1
    have hT : 3 < T.length := by omega
    obtain ⟨t1, t2⟩ := ix_get rs.ki hT
    have hres := hr.pr _ (getD_mem (d := 0) hT)
    obtain ⟨v1, v2⟩ := res_get hres a.toNat
    have hrow : facs L (T.getD 3 0) ++ [refR L (T.getD 3 0) a.toNat ((P.getD (T.getD 3 0).toNat []).getD a.toNat 0) 0 D] = eqR D P L (T.getD 3 0) a.toNat := by rw [ref_rhs hres]; rfl
    have ea : 0 + a.toNat + 0 = a.toNat := by omega
    have er : (3 : Int).toNat + 0 = 3 := rfl
    have hn1 : IntKind.i64.wrap ((4 : Int) + 1) = 5 := by decide
    have hw : IntKind.i64.wrap ((3 : Int) + 1) = 4 := by decide
    rw [hn1, hw, ea, er]
    refine condI (by decide) (condI (by decide) (condI (and2 (by decide) (decide_eq_true (by omega))) (condI (decide_eq_true hT) (condI (and2 (decide_eq_true t1) (decide_eq_true t2)) (condI (and2 (decide_eq_true ha0) (decide_eq_true (by omega))) (condI (and2 (decide_eq_true (by omega)) (decide_eq_true (by omega))) (condI (by decide) (condI (by decide) (And.intro ⟨hd1, rs.d8, rs.kb, by omega, hk1, by decide, by omega, t1, by show T.getD 3 0 ≤ 3; omega, ha0, ha1, by decide, by decide, rfl, v1, v2, by decide, by omega⟩ (And.intro ⟨by omega, by decide, ix12 rs.li hd1, hk1, by decide, by omega, t1, by show T.getD 3 0 ≤ 3; omega, rfl, by decide, by decide⟩ ?_))))))))))
    exact ⟨⟨⟨rfl, hr, ha0, ha1, rfl, rfl, rfl, rfl, hrow⟩, h⟩, by show ((4 : Int) - 4).toNat < ((4 : Int) - 3).toNat; decide⟩
  · rename_i n a r D P L Q T R0 R1 R2 R3
    rw [exrf4l2e n a r D P L Q T R0 R1 R2 R3 _]
    obtain ⟨⟨rfl, hr, ha0, ha1, rfl, rfl, rfl, rfl, rfl⟩, h⟩ := h
    exact h
theorem lokrf4_1 : LoopOK (Erf4 3) (lb Try.f67 1) [1, 4, 6, 7, 8] [] rfB4 := by
  refine loopOK (allrf okrs4) (fun b' hb => by
    have hl : loopsOf (lb Try.f67 1) = [lb Try.f67 2, lb Try.f67 3, lb Try.f67 4, lb Try.f67 5] := by kernel_rfl
    rw [hl] at hb
    simp only [List.mem_cons, List.not_mem_nil, or_false] at hb
    rcases hb with rfl | rfl | rfl | rfl
    · exact loopHyp_frm (E' := Erf4 2) (key := 16) (m := 2) (by kernel_rfl) rfl rfl lokrf4_2
    · exact loopHyp_frm (E' := Erf4 3) (key := 21) (m := 3) (by kernel_rfl) rfl rfl (lokrf_3 okrs4)
    · exact loopHyp_frm (E' := Erf4 3) (key := 26) (m := 3) (by kernel_rfl) rfl rfl (lokrf_4 okrs4)
    · exact loopHyp_frm (E' := Erf4 3) (key := 32) (m := 3) (by kernel_rfl) rfl rfl (lokrf_5 okrs4)) (fun vs σ => match vs, σ with
    | [_, _, _, _, .one (.int .i64 a)], _ => (8 - a).toNat
    | _, _ => 0) fun vs σ k h => ?_
  unfold rfB4 at h
  split at h
  rotate_right
  · exact h.elim
  · rename_i n a D P L Q T O
    rw [exrf4l1a n a D P L Q T O _]
    obtain ⟨⟨rfl, hr, ho, ha0, ha1⟩, h⟩ := h
    by_cases ha : a < 8
    · have hw : IntKind.i64.wrap (a + 1) = a + 1 := wrap_id (by omega) (by omega)
      have rs := hr.rs
      have hln := rs.ln
      have hkn := rs.kn
      have hok := eqs_okSol rs a.toNat
      have hv := solV_len hok
      have hv2 := solV_res hok
      have hpv := hr.pv a.toNat
      rw [resF_step ha0 ha] at h
      have el : eqsF D P L T a.toNat = [eqR D P L (T.getD 0 0) a.toNat, eqR D P L (T.getD 1 0) a.toNat, eqR D P L (T.getD 2 0) a.toNat, eqR D P L (T.getD 3 0) a.toNat] := eqs_list rs a.toNat
      rw [el] at hok hv hv2 h hpv
      rw [decide_eq_true ha, cond_true, hw]
      have hv3 : (solV [eqR D P L (T.getD 0 0) a.toNat, eqR D P L (T.getD 1 0) a.toNat, eqR D P L (T.getD 2 0) a.toNat, eqR D P L (T.getD 3 0) a.toNat]).length = 4 := hv
      refine And.intro ⟨rfl, hr, ha0, by omega, rfl⟩ (And.intro ⟨hok, hpv⟩ fun X0 X1 X2 X3 => And.intro ⟨ho.2, by rw [ho.1]; exact rs.li, by omega, by omega, by omega, hv2, ha0, by omega, by omega, by omega⟩ ?_)
      exact ⟨⟨⟨rfl, hr, put_out (O := O) L _ a.toNat O ho rs.li, by omega, by omega⟩, h⟩, by show (8 - (a + 1)).toNat < (8 - a).toNat; omega⟩
    · rw [decide_eq_false ha]
      rw [show (8 - a).toNat = 0 by omega] at h
      exact h
end Go.Ev
