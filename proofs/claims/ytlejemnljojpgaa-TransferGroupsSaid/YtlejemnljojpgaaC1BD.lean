/-
  Chapter 1, contracts: restored data, of the program.
-/
import Derived.Test.YtlejemnljojpgaaC1BB
import Derived.KernelRfl
set_option linter.unusedVariables false
set_option linter.unusedSimpArgs false
set_option linter.unusedSectionVars false
namespace Go.Ev
open Go Go.Proofs
set_option maxRecDepth 20000
set_option linter.unusedVariables false
def keptJ (Q : List Int) : Int → Nat → List Int
  | _, 0 => []
  | j, c + 1 => bif memB j Q then keptJ Q (j + 1) c else j :: keptJ Q (j + 1) c
def okIx (L : List Int) (n : Nat) : Prop := ∀ x ∈ L, 0 ≤ x ∧ x < n
def facs (L : List Int) (j : Int) : List Int := L.map fun i => facG i j
def rhsF (D P : List (List Int)) (L : List Int) (j : Int) (a : Nat) : Int := modG (modG ((P.getD j.toNat []).getD a 0) - parR L j a 0 0 D)
def eqR (D P : List (List Int)) (L : List Int) (j : Int) (a : Nat) : List Int := facs L j ++ [rhsF D P L j a]
def eqsF (D P : List (List Int)) (L K : List Int) (a : Nat) : List (List Int) := (K.take L.length).map fun j => eqR D P L j a
def putF : List (List Int) → Nat → List Int → List Int → List (List Int)
  | O, a, i :: L, v :: V => putF (O.set i.toNat ((O.getD i.toNat []).set a (v - 32768))) a L V
  | O, _, _, _ => O
def resF (D P : List (List Int)) (L K : List Int) : Nat → Nat → List (List Int) → List (List Int)
  | 0, _, O => O
  | f + 1, a, O => resF D P L K f (a + 1) (putF O a L (solV (eqsF D P L K a)))
def rowOk (O : List (List Int)) (i : Int) : Bool := okRow (O.getD i.toNat [])
def parAt (O P : List (List Int)) (j : Int) (s : Nat) : Bool := parR [] j s 0 0 O == (P.getD j.toNat []).getD s 0
def parFr (O P : List (List Int)) (j : Int) : Nat → Nat → Bool
  | 0, _ => true
  | f + 1, s => parAt O P j s && parFr O P j f (s + 1)
def parOk (O P : List (List Int)) (j : Int) : Bool := parFr O P j 8 0
structure okRs (n : Nat) (D P : List (List Int)) (L K : List Int) : Prop where
  d0 : 1 ≤ D.length
  d1 : D.length ≤ 12
  d8 : D.all len8 = true
  p1 : P.length ≤ 4
  p8 : P.all len8 = true
  ln : L.length = n
  kn : n ≤ K.length
  k1 : K.length ≤ 4
  li : okIx L D.length
  ki : okIx K P.length
  kb : keptB L 0 D = true
def okOut (D O : List (List Int)) : Prop := O.length = D.length ∧ O.all len8 = true
def kpL : LSpec := fun vs σ k => match vs, σ with
  | [.one (.ptr 0 1 0 0), .one .nil, .one (.int .i64 n), .one (.int .i64 j)], [.cells [.data (.mat .i64 8 D), .data (.mat .i64 8 P), .data (.ints .i64 L), .data (.ints .i64 Q)]] => (okG D P L Q ∧ n = P.length ∧ 0 ≤ j ∧ j ≤ n) ∧ bif (keptJ Q j (n - j).toNat).isEmpty then k (.exit 0) [.one .nil] [.cells [.data (.mat .i64 8 D), .data (.mat .i64 8 P), .data (.ints .i64 L), .data (.ints .i64 Q)]] else k (.exit 0) [.one (.own 1 1)] [.cells [.data (.mat .i64 8 D), .data (.mat .i64 8 P), .data (.ints .i64 L), .data (.ints .i64 Q)], .row 3 (.ints .i64 (keptJ Q j (n - j).toNat))]
  | [.one (.ptr 0 1 0 0), .one (.own 1 1), .one (.int .i64 n), .one (.int .i64 j)], [.cells [.data (.mat .i64 8 D), .data (.mat .i64 8 P), .data (.ints .i64 L), .data (.ints .i64 Q)], .row 3 (.ints .i64 S)] => (okG D P L Q ∧ n = P.length ∧ 0 ≤ j ∧ j ≤ n ∧ S.length ≤ j) ∧ k (.exit 0) [.one (.own 1 1)] [.cells [.data (.mat .i64 8 D), .data (.mat .i64 8 P), .data (.ints .i64 L), .data (.ints .i64 Q)], .row 3 (.ints .i64 (S ++ keptJ Q j (n - j).toNat))]
  | _, _ => False
def rdD : LSpec := fun vs σ k => match vs, σ with
  | [.one (.int .i64 j), .one .nil, .one (.data (.ints .i64 L)), .one (.int .i64 n), .one (.int .i64 i)], [] => (1 ≤ L.length ∧ L.length ≤ 4 ∧ n = L.length ∧ i = 0 ∧ 0 ≤ j ∧ j ≤ 3 ∧ okIx L 12) ∧ k (.exit 6) [.one (.own 0 1)] [.row 133 (.ints .i64 (facs L j))]
  | [.one (.int .i64 j), .one (.own 0 1), .one (.data (.ints .i64 L)), .one (.int .i64 n), .one (.int .i64 i)], [.row 133 (.ints .i64 R)] => (L.length ≤ 4 ∧ n = L.length ∧ 0 ≤ i ∧ 0 ≤ j ∧ j ≤ 3 ∧ R.length ≤ i ∧ i ≤ n ∧ okIx L 12) ∧ k (.exit 6) [.one (.own 0 1)] [.row 133 (.ints .i64 (R ++ facs (L.drop i.toNat) j))]
  | _, _ => False
def rdE : LSpec := fun vs σ k => match vs, σ with
  | [.one (.ptr 0 1 0 0), .one (.own 1 8), .one (.int .i64 a), .one (.own 2 1), .one (.int .i64 n), .one (.int .i64 i)], [.cells [.data (.mat .i64 8 D), .data (.mat .i64 8 P), .data (.ints .i64 L), .data (.ints .i64 Q)], .row 35 (.mat .i64 8 O), .row 133 (.ints .i64 V)] => (O.all len8 = true ∧ okIx L O.length ∧ n = V.length ∧ V.length = L.length ∧ V.length ≤ 4 ∧ resRow V = true ∧ 0 ≤ a ∧ a ≤ 7 ∧ 0 ≤ i ∧ i ≤ n) ∧
      k (.exit 8) [] [.cells [.data (.mat .i64 8 D), .data (.mat .i64 8 P), .data (.ints .i64 L), .data (.ints .i64 Q)], .row 35 (.mat .i64 8 (putF O a.toNat (L.drop i.toNat) (V.drop i.toNat))), .row 133 (.ints .i64 V)]
  | _, _ => False
def rdF : LSpec := fun vs σ k => match vs, σ with
  | [.one (.own 0 8), .one (.data (.ints .i64 L)), .one (.int .i64 n), .one (.int .i64 i)], [.row 35 (.mat .i64 8 O)] => (O.all len8 = true ∧ okIx L O.length ∧ n = L.length ∧ L.length ≤ 4 ∧ 0 ≤ i) ∧
      bif (L.drop i.toNat).all (rowOk O) then k (.exit 10) [.any, .any] [.row 35 (.mat .i64 8 O)] else k .ret [.one .nil, .one (.int .i64 13)] [.row 35 (.mat .i64 8 O)]
  | _, _ => False
def rdG : LSpec := fun vs σ k => match vs, σ with
  | [.one (.ptr 0 1 0 0), .one (.own 1 8), .one (.own 2 1), .one (.int .i64 n), .one (.int .i64 i)], [.cells [.data (.mat .i64 8 D), .data (.mat .i64 8 P), .data (.ints .i64 L), .data (.ints .i64 Q)], .row 35 (.mat .i64 8 O), .row 3 (.ints .i64 T)] => (O.length ≤ 12 ∧ O.all len8 = true ∧ O.all okRow = true ∧ P.all len8 = true ∧ P.length ≤ 4 ∧ okIx T P.length ∧ n = T.length ∧ T.length ≤ 4 ∧ 0 ≤ i) ∧
      bif (T.drop i.toNat).all (parOk O P) then k (.exit 12) [.any, .any] [.cells [.data (.mat .i64 8 D), .data (.mat .i64 8 P), .data (.ints .i64 L), .data (.ints .i64 Q)], .row 35 (.mat .i64 8 O), .row 3 (.ints .i64 T)] else k .ret [.one .nil, .one (.int .i64 13)] [.cells [.data (.mat .i64 8 D), .data (.mat .i64 8 P), .data (.ints .i64 L), .data (.ints .i64 Q)], .row 35 (.mat .i64 8 O), .row 3 (.ints .i64 T)]
  | _, _ => False
def parX (O : List (List Int)) (j : Int) (ps : List Int) : Nat → Nat → Bool
  | 0, _ => true
  | f + 1, s => parR [] j s 0 0 O == ps.getD s 0 && parX O j ps f (s + 1)
def rdH : LSpec := fun vs σ k => match vs, σ with
  | [.one (.own 0 8), .one (.int .i64 j), .agg [.int .i64 x0, .int .i64 x1, .int .i64 x2, .int .i64 x3, .int .i64 x4, .int .i64 x5, .int .i64 x6, .int .i64 x7], .one (.int .i64 s)], [.row 35 (.mat .i64 8 O)] => (O.length ≤ 12 ∧ O.all len8 = true ∧ O.all okRow = true ∧ 0 ≤ j ∧ j ≤ 3 ∧ 0 ≤ s ∧ s ≤ 8) ∧
      bif parX O j [x0, x1, x2, x3, x4, x5, x6, x7] (8 - s).toNat s.toNat then k (.exit 14) [.any, .any] [.row 35 (.mat .i64 8 O)] else k .ret [.one .nil, .one (.int .i64 13)] [.row 35 (.mat .i64 8 O)]
  | _, _ => False
def rdK (D P : List (List Int)) (L Q : List Int) (K : AV → List Blk → Prop) : Prop :=
  bif groE D P L Q == 0 then (bif decide ((keptJ Q 0 P.length).length < L.length) then K (.tup [.one .nil, .one (.int .i64 28)]) [] else
    bif L.all (rowOk (resF D P L (keptJ Q 0 P.length) 8 0 D)) && (keptJ Q 0 P.length).all (parOk (resF D P L (keptJ Q 0 P.length) 8 0 D) P) then K (.tup [.one (.own 0 8), .one (.int .i64 0)]) [.row 35 (.mat .i64 8 (resF D P L (keptJ Q 0 P.length) 8 0 D))] else K (.tup [.one .nil, .one (.int .i64 13)]) [])
  else K (.tup [.one .nil, .one (.int .i64 (groE D P L Q))]) []
def rdC1 : LSpec := fun vs σ k => match vs, σ with
  | [.one (.ptr 0 1 0 0), .one (.int .i64 a), .one .nil, .one (.sub 1 1 0 n0), .one (.int .i64 n), .one (.int .i64 r)], [.cells [.data (.mat .i64 8 D), .data (.mat .i64 8 P), .data (.ints .i64 L), .data (.ints .i64 Q)], .row 3 (.ints .i64 T)] => (n0 = 1 ∧ okRs 1 D P L T ∧ 0 ≤ a ∧ a ≤ 7 ∧ n = 1 ∧ r = 0) ∧ k (.exit 4) [.one (.own 2 1)] [.cells [.data (.mat .i64 8 D), .data (.mat .i64 8 P), .data (.ints .i64 L), .data (.ints .i64 Q)], .row 3 (.ints .i64 T), .cells [.own 3 1], .row 133 (.ints .i64 (eqR D P L (T.getD 0 0) a.toNat))]
  | [.one (.ptr 0 1 0 0), .one (.int .i64 a), .one (.own 2 1), .one (.sub 1 1 0 n0), .one (.int .i64 n), .one (.int .i64 r)], [.cells [.data (.mat .i64 8 D), .data (.mat .i64 8 P), .data (.ints .i64 L), .data (.ints .i64 Q)], .row 3 (.ints .i64 T), .cells [.own 3 1], .row 133 (.ints .i64 R0)] => (n0 = 1 ∧ okRs 1 D P L T ∧ 0 ≤ a ∧ a ≤ 7 ∧ n = 1 ∧ r = 1 ∧ R0 = eqR D P L (T.getD 0 0) a.toNat) ∧ k (.exit 4) [.one (.own 2 1)] [.cells [.data (.mat .i64 8 D), .data (.mat .i64 8 P), .data (.ints .i64 L), .data (.ints .i64 Q)], .row 3 (.ints .i64 T), .cells [.own 3 1], .row 133 (.ints .i64 (eqR D P L (T.getD 0 0) a.toNat))]
  | _, _ => False
def rdB1 : LSpec := fun vs σ k => match vs, σ with
  | [.one (.ptr 0 1 0 0), .one (.own 1 1), .one (.own 2 8), .one (.int .i64 a)], [.cells [.data (.mat .i64 8 D), .data (.mat .i64 8 P), .data (.ints .i64 L), .data (.ints .i64 Q)], .row 3 (.ints .i64 T), .row 35 (.mat .i64 8 O)] => (okRs 1 D P L T ∧ okOut D O ∧ 0 ≤ a ∧ a ≤ 8) ∧ k (.exit 2) [] [.cells [.data (.mat .i64 8 D), .data (.mat .i64 8 P), .data (.ints .i64 L), .data (.ints .i64 Q)], .row 3 (.ints .i64 T), .row 35 (.mat .i64 8 (resF D P L T (8 - a).toNat a.toNat O))]
  | _, _ => False
def rdS1 : Spec := fun args σ K => match args, σ with
  | [.agg [.data (.mat .i64 8 D), .data (.mat .i64 8 P), .data (.ints .i64 L), .data (.ints .i64 Q)]], [] => (okG D P L Q ∧ L.length = 1) ∧ rdK D P L Q K
  | _, _ => False
def rdC2 : LSpec := fun vs σ k => match vs, σ with
  | [.one (.ptr 0 1 0 0), .one (.int .i64 a), .one .nil, .one (.sub 1 1 0 n0), .one (.int .i64 n), .one (.int .i64 r)], [.cells [.data (.mat .i64 8 D), .data (.mat .i64 8 P), .data (.ints .i64 L), .data (.ints .i64 Q)], .row 3 (.ints .i64 T)] => (n0 = 2 ∧ okRs 2 D P L T ∧ 0 ≤ a ∧ a ≤ 7 ∧ n = 2 ∧ r = 0) ∧ k (.exit 4) [.one (.own 2 1)] [.cells [.data (.mat .i64 8 D), .data (.mat .i64 8 P), .data (.ints .i64 L), .data (.ints .i64 Q)], .row 3 (.ints .i64 T), .cells [.own 3 1, .own 4 1], .row 133 (.ints .i64 (eqR D P L (T.getD 0 0) a.toNat)), .row 133 (.ints .i64 (eqR D P L (T.getD 1 0) a.toNat))]
  | [.one (.ptr 0 1 0 0), .one (.int .i64 a), .one (.own 2 1), .one (.sub 1 1 0 n0), .one (.int .i64 n), .one (.int .i64 r)], [.cells [.data (.mat .i64 8 D), .data (.mat .i64 8 P), .data (.ints .i64 L), .data (.ints .i64 Q)], .row 3 (.ints .i64 T), .cells [.own 3 1], .row 133 (.ints .i64 R0)] => (n0 = 2 ∧ okRs 2 D P L T ∧ 0 ≤ a ∧ a ≤ 7 ∧ n = 2 ∧ r = 1 ∧ R0 = eqR D P L (T.getD 0 0) a.toNat) ∧ k (.exit 4) [.one (.own 2 1)] [.cells [.data (.mat .i64 8 D), .data (.mat .i64 8 P), .data (.ints .i64 L), .data (.ints .i64 Q)], .row 3 (.ints .i64 T), .cells [.own 3 1, .own 4 1], .row 133 (.ints .i64 (eqR D P L (T.getD 0 0) a.toNat)), .row 133 (.ints .i64 (eqR D P L (T.getD 1 0) a.toNat))]
  | [.one (.ptr 0 1 0 0), .one (.int .i64 a), .one (.own 2 1), .one (.sub 1 1 0 n0), .one (.int .i64 n), .one (.int .i64 r)], [.cells [.data (.mat .i64 8 D), .data (.mat .i64 8 P), .data (.ints .i64 L), .data (.ints .i64 Q)], .row 3 (.ints .i64 T), .cells [.own 3 1, .own 4 1], .row 133 (.ints .i64 R0), .row 133 (.ints .i64 R1)] => (n0 = 2 ∧ okRs 2 D P L T ∧ 0 ≤ a ∧ a ≤ 7 ∧ n = 2 ∧ r = 2 ∧ R0 = eqR D P L (T.getD 0 0) a.toNat ∧ R1 = eqR D P L (T.getD 1 0) a.toNat) ∧ k (.exit 4) [.one (.own 2 1)] [.cells [.data (.mat .i64 8 D), .data (.mat .i64 8 P), .data (.ints .i64 L), .data (.ints .i64 Q)], .row 3 (.ints .i64 T), .cells [.own 3 1, .own 4 1], .row 133 (.ints .i64 (eqR D P L (T.getD 0 0) a.toNat)), .row 133 (.ints .i64 (eqR D P L (T.getD 1 0) a.toNat))]
  | _, _ => False
def rdB2 : LSpec := fun vs σ k => match vs, σ with
  | [.one (.ptr 0 1 0 0), .one (.own 1 1), .one (.own 2 8), .one (.int .i64 a)], [.cells [.data (.mat .i64 8 D), .data (.mat .i64 8 P), .data (.ints .i64 L), .data (.ints .i64 Q)], .row 3 (.ints .i64 T), .row 35 (.mat .i64 8 O)] => (okRs 2 D P L T ∧ okOut D O ∧ 0 ≤ a ∧ a ≤ 8) ∧ k (.exit 2) [] [.cells [.data (.mat .i64 8 D), .data (.mat .i64 8 P), .data (.ints .i64 L), .data (.ints .i64 Q)], .row 3 (.ints .i64 T), .row 35 (.mat .i64 8 (resF D P L T (8 - a).toNat a.toNat O))]
  | _, _ => False
def rdS2 : Spec := fun args σ K => match args, σ with
  | [.agg [.data (.mat .i64 8 D), .data (.mat .i64 8 P), .data (.ints .i64 L), .data (.ints .i64 Q)]], [] => (okG D P L Q ∧ L.length = 2) ∧ rdK D P L Q K
  | _, _ => False
def rdC3 : LSpec := fun vs σ k => match vs, σ with
  | [.one (.ptr 0 1 0 0), .one (.int .i64 a), .one .nil, .one (.sub 1 1 0 n0), .one (.int .i64 n), .one (.int .i64 r)], [.cells [.data (.mat .i64 8 D), .data (.mat .i64 8 P), .data (.ints .i64 L), .data (.ints .i64 Q)], .row 3 (.ints .i64 T)] => (n0 = 3 ∧ okRs 3 D P L T ∧ 0 ≤ a ∧ a ≤ 7 ∧ n = 3 ∧ r = 0) ∧ k (.exit 4) [.one (.own 2 1)] [.cells [.data (.mat .i64 8 D), .data (.mat .i64 8 P), .data (.ints .i64 L), .data (.ints .i64 Q)], .row 3 (.ints .i64 T), .cells [.own 3 1, .own 4 1, .own 5 1], .row 133 (.ints .i64 (eqR D P L (T.getD 0 0) a.toNat)), .row 133 (.ints .i64 (eqR D P L (T.getD 1 0) a.toNat)), .row 133 (.ints .i64 (eqR D P L (T.getD 2 0) a.toNat))]
  | [.one (.ptr 0 1 0 0), .one (.int .i64 a), .one (.own 2 1), .one (.sub 1 1 0 n0), .one (.int .i64 n), .one (.int .i64 r)], [.cells [.data (.mat .i64 8 D), .data (.mat .i64 8 P), .data (.ints .i64 L), .data (.ints .i64 Q)], .row 3 (.ints .i64 T), .cells [.own 3 1], .row 133 (.ints .i64 R0)] => (n0 = 3 ∧ okRs 3 D P L T ∧ 0 ≤ a ∧ a ≤ 7 ∧ n = 3 ∧ r = 1 ∧ R0 = eqR D P L (T.getD 0 0) a.toNat) ∧ k (.exit 4) [.one (.own 2 1)] [.cells [.data (.mat .i64 8 D), .data (.mat .i64 8 P), .data (.ints .i64 L), .data (.ints .i64 Q)], .row 3 (.ints .i64 T), .cells [.own 3 1, .own 4 1, .own 5 1], .row 133 (.ints .i64 (eqR D P L (T.getD 0 0) a.toNat)), .row 133 (.ints .i64 (eqR D P L (T.getD 1 0) a.toNat)), .row 133 (.ints .i64 (eqR D P L (T.getD 2 0) a.toNat))]
  | [.one (.ptr 0 1 0 0), .one (.int .i64 a), .one (.own 2 1), .one (.sub 1 1 0 n0), .one (.int .i64 n), .one (.int .i64 r)], [.cells [.data (.mat .i64 8 D), .data (.mat .i64 8 P), .data (.ints .i64 L), .data (.ints .i64 Q)], .row 3 (.ints .i64 T), .cells [.own 3 1, .own 4 1], .row 133 (.ints .i64 R0), .row 133 (.ints .i64 R1)] => (n0 = 3 ∧ okRs 3 D P L T ∧ 0 ≤ a ∧ a ≤ 7 ∧ n = 3 ∧ r = 2 ∧ R0 = eqR D P L (T.getD 0 0) a.toNat ∧ R1 = eqR D P L (T.getD 1 0) a.toNat) ∧ k (.exit 4) [.one (.own 2 1)] [.cells [.data (.mat .i64 8 D), .data (.mat .i64 8 P), .data (.ints .i64 L), .data (.ints .i64 Q)], .row 3 (.ints .i64 T), .cells [.own 3 1, .own 4 1, .own 5 1], .row 133 (.ints .i64 (eqR D P L (T.getD 0 0) a.toNat)), .row 133 (.ints .i64 (eqR D P L (T.getD 1 0) a.toNat)), .row 133 (.ints .i64 (eqR D P L (T.getD 2 0) a.toNat))]
  | [.one (.ptr 0 1 0 0), .one (.int .i64 a), .one (.own 2 1), .one (.sub 1 1 0 n0), .one (.int .i64 n), .one (.int .i64 r)], [.cells [.data (.mat .i64 8 D), .data (.mat .i64 8 P), .data (.ints .i64 L), .data (.ints .i64 Q)], .row 3 (.ints .i64 T), .cells [.own 3 1, .own 4 1, .own 5 1], .row 133 (.ints .i64 R0), .row 133 (.ints .i64 R1), .row 133 (.ints .i64 R2)] => (n0 = 3 ∧ okRs 3 D P L T ∧ 0 ≤ a ∧ a ≤ 7 ∧ n = 3 ∧ r = 3 ∧ R0 = eqR D P L (T.getD 0 0) a.toNat ∧ R1 = eqR D P L (T.getD 1 0) a.toNat ∧ R2 = eqR D P L (T.getD 2 0) a.toNat) ∧ k (.exit 4) [.one (.own 2 1)] [.cells [.data (.mat .i64 8 D), .data (.mat .i64 8 P), .data (.ints .i64 L), .data (.ints .i64 Q)], .row 3 (.ints .i64 T), .cells [.own 3 1, .own 4 1, .own 5 1], .row 133 (.ints .i64 (eqR D P L (T.getD 0 0) a.toNat)), .row 133 (.ints .i64 (eqR D P L (T.getD 1 0) a.toNat)), .row 133 (.ints .i64 (eqR D P L (T.getD 2 0) a.toNat))]
  | _, _ => False
def rdB3 : LSpec := fun vs σ k => match vs, σ with
  | [.one (.ptr 0 1 0 0), .one (.own 1 1), .one (.own 2 8), .one (.int .i64 a)], [.cells [.data (.mat .i64 8 D), .data (.mat .i64 8 P), .data (.ints .i64 L), .data (.ints .i64 Q)], .row 3 (.ints .i64 T), .row 35 (.mat .i64 8 O)] => (okRs 3 D P L T ∧ okOut D O ∧ 0 ≤ a ∧ a ≤ 8) ∧ k (.exit 2) [] [.cells [.data (.mat .i64 8 D), .data (.mat .i64 8 P), .data (.ints .i64 L), .data (.ints .i64 Q)], .row 3 (.ints .i64 T), .row 35 (.mat .i64 8 (resF D P L T (8 - a).toNat a.toNat O))]
  | _, _ => False
def rdS3 : Spec := fun args σ K => match args, σ with
  | [.agg [.data (.mat .i64 8 D), .data (.mat .i64 8 P), .data (.ints .i64 L), .data (.ints .i64 Q)]], [] => (okG D P L Q ∧ L.length = 3) ∧ rdK D P L Q K
  | _, _ => False
def rdC4 : LSpec := fun vs σ k => match vs, σ with
  | [.one (.ptr 0 1 0 0), .one (.int .i64 a), .one .nil, .one (.sub 1 1 0 n0), .one (.int .i64 n), .one (.int .i64 r)], [.cells [.data (.mat .i64 8 D), .data (.mat .i64 8 P), .data (.ints .i64 L), .data (.ints .i64 Q)], .row 3 (.ints .i64 T)] => (n0 = 4 ∧ okRs 4 D P L T ∧ 0 ≤ a ∧ a ≤ 7 ∧ n = 4 ∧ r = 0) ∧ k (.exit 4) [.one (.own 2 1)] [.cells [.data (.mat .i64 8 D), .data (.mat .i64 8 P), .data (.ints .i64 L), .data (.ints .i64 Q)], .row 3 (.ints .i64 T), .cells [.own 3 1, .own 4 1, .own 5 1, .own 6 1], .row 133 (.ints .i64 (eqR D P L (T.getD 0 0) a.toNat)), .row 133 (.ints .i64 (eqR D P L (T.getD 1 0) a.toNat)), .row 133 (.ints .i64 (eqR D P L (T.getD 2 0) a.toNat)), .row 133 (.ints .i64 (eqR D P L (T.getD 3 0) a.toNat))]
  | [.one (.ptr 0 1 0 0), .one (.int .i64 a), .one (.own 2 1), .one (.sub 1 1 0 n0), .one (.int .i64 n), .one (.int .i64 r)], [.cells [.data (.mat .i64 8 D), .data (.mat .i64 8 P), .data (.ints .i64 L), .data (.ints .i64 Q)], .row 3 (.ints .i64 T), .cells [.own 3 1], .row 133 (.ints .i64 R0)] => (n0 = 4 ∧ okRs 4 D P L T ∧ 0 ≤ a ∧ a ≤ 7 ∧ n = 4 ∧ r = 1 ∧ R0 = eqR D P L (T.getD 0 0) a.toNat) ∧ k (.exit 4) [.one (.own 2 1)] [.cells [.data (.mat .i64 8 D), .data (.mat .i64 8 P), .data (.ints .i64 L), .data (.ints .i64 Q)], .row 3 (.ints .i64 T), .cells [.own 3 1, .own 4 1, .own 5 1, .own 6 1], .row 133 (.ints .i64 (eqR D P L (T.getD 0 0) a.toNat)), .row 133 (.ints .i64 (eqR D P L (T.getD 1 0) a.toNat)), .row 133 (.ints .i64 (eqR D P L (T.getD 2 0) a.toNat)), .row 133 (.ints .i64 (eqR D P L (T.getD 3 0) a.toNat))]
  | [.one (.ptr 0 1 0 0), .one (.int .i64 a), .one (.own 2 1), .one (.sub 1 1 0 n0), .one (.int .i64 n), .one (.int .i64 r)], [.cells [.data (.mat .i64 8 D), .data (.mat .i64 8 P), .data (.ints .i64 L), .data (.ints .i64 Q)], .row 3 (.ints .i64 T), .cells [.own 3 1, .own 4 1], .row 133 (.ints .i64 R0), .row 133 (.ints .i64 R1)] => (n0 = 4 ∧ okRs 4 D P L T ∧ 0 ≤ a ∧ a ≤ 7 ∧ n = 4 ∧ r = 2 ∧ R0 = eqR D P L (T.getD 0 0) a.toNat ∧ R1 = eqR D P L (T.getD 1 0) a.toNat) ∧ k (.exit 4) [.one (.own 2 1)] [.cells [.data (.mat .i64 8 D), .data (.mat .i64 8 P), .data (.ints .i64 L), .data (.ints .i64 Q)], .row 3 (.ints .i64 T), .cells [.own 3 1, .own 4 1, .own 5 1, .own 6 1], .row 133 (.ints .i64 (eqR D P L (T.getD 0 0) a.toNat)), .row 133 (.ints .i64 (eqR D P L (T.getD 1 0) a.toNat)), .row 133 (.ints .i64 (eqR D P L (T.getD 2 0) a.toNat)), .row 133 (.ints .i64 (eqR D P L (T.getD 3 0) a.toNat))]
  | [.one (.ptr 0 1 0 0), .one (.int .i64 a), .one (.own 2 1), .one (.sub 1 1 0 n0), .one (.int .i64 n), .one (.int .i64 r)], [.cells [.data (.mat .i64 8 D), .data (.mat .i64 8 P), .data (.ints .i64 L), .data (.ints .i64 Q)], .row 3 (.ints .i64 T), .cells [.own 3 1, .own 4 1, .own 5 1], .row 133 (.ints .i64 R0), .row 133 (.ints .i64 R1), .row 133 (.ints .i64 R2)] => (n0 = 4 ∧ okRs 4 D P L T ∧ 0 ≤ a ∧ a ≤ 7 ∧ n = 4 ∧ r = 3 ∧ R0 = eqR D P L (T.getD 0 0) a.toNat ∧ R1 = eqR D P L (T.getD 1 0) a.toNat ∧ R2 = eqR D P L (T.getD 2 0) a.toNat) ∧ k (.exit 4) [.one (.own 2 1)] [.cells [.data (.mat .i64 8 D), .data (.mat .i64 8 P), .data (.ints .i64 L), .data (.ints .i64 Q)], .row 3 (.ints .i64 T), .cells [.own 3 1, .own 4 1, .own 5 1, .own 6 1], .row 133 (.ints .i64 (eqR D P L (T.getD 0 0) a.toNat)), .row 133 (.ints .i64 (eqR D P L (T.getD 1 0) a.toNat)), .row 133 (.ints .i64 (eqR D P L (T.getD 2 0) a.toNat)), .row 133 (.ints .i64 (eqR D P L (T.getD 3 0) a.toNat))]
  | [.one (.ptr 0 1 0 0), .one (.int .i64 a), .one (.own 2 1), .one (.sub 1 1 0 n0), .one (.int .i64 n), .one (.int .i64 r)], [.cells [.data (.mat .i64 8 D), .data (.mat .i64 8 P), .data (.ints .i64 L), .data (.ints .i64 Q)], .row 3 (.ints .i64 T), .cells [.own 3 1, .own 4 1, .own 5 1, .own 6 1], .row 133 (.ints .i64 R0), .row 133 (.ints .i64 R1), .row 133 (.ints .i64 R2), .row 133 (.ints .i64 R3)] => (n0 = 4 ∧ okRs 4 D P L T ∧ 0 ≤ a ∧ a ≤ 7 ∧ n = 4 ∧ r = 4 ∧ R0 = eqR D P L (T.getD 0 0) a.toNat ∧ R1 = eqR D P L (T.getD 1 0) a.toNat ∧ R2 = eqR D P L (T.getD 2 0) a.toNat ∧ R3 = eqR D P L (T.getD 3 0) a.toNat) ∧ k (.exit 4) [.one (.own 2 1)] [.cells [.data (.mat .i64 8 D), .data (.mat .i64 8 P), .data (.ints .i64 L), .data (.ints .i64 Q)], .row 3 (.ints .i64 T), .cells [.own 3 1, .own 4 1, .own 5 1, .own 6 1], .row 133 (.ints .i64 (eqR D P L (T.getD 0 0) a.toNat)), .row 133 (.ints .i64 (eqR D P L (T.getD 1 0) a.toNat)), .row 133 (.ints .i64 (eqR D P L (T.getD 2 0) a.toNat)), .row 133 (.ints .i64 (eqR D P L (T.getD 3 0) a.toNat))]
  | _, _ => False
def rdB4 : LSpec := fun vs σ k => match vs, σ with
  | [.one (.ptr 0 1 0 0), .one (.own 1 1), .one (.own 2 8), .one (.int .i64 a)], [.cells [.data (.mat .i64 8 D), .data (.mat .i64 8 P), .data (.ints .i64 L), .data (.ints .i64 Q)], .row 3 (.ints .i64 T), .row 35 (.mat .i64 8 O)] => (okRs 4 D P L T ∧ okOut D O ∧ 0 ≤ a ∧ a ≤ 8) ∧ k (.exit 2) [] [.cells [.data (.mat .i64 8 D), .data (.mat .i64 8 P), .data (.ints .i64 L), .data (.ints .i64 Q)], .row 3 (.ints .i64 T), .row 35 (.mat .i64 8 (resF D P L T (8 - a).toNat a.toNat O))]
  | _, _ => False
def rdS4 : Spec := fun args σ K => match args, σ with
  | [.agg [.data (.mat .i64 8 D), .data (.mat .i64 8 P), .data (.ints .i64 L), .data (.ints .i64 Q)]], [] => (okG D P L Q ∧ 4 ≤ L.length) ∧ rdK D P L Q K
  | _, _ => False
noncomputable abbrev srd (S : Spec) : List (FuncId × Spec) := [(66, groS), (113, containsS), (114, cloS), (115, factorS), (116, moduloS), (100, parityS), (117, minusS), (118, S), (82, samplesS)]
noncomputable abbrev lrd (l1 l2 l4 l6 : LoopBy) : List (Nat × LoopBy) := [(6, .frm 1 [1, 5, 31, 32] [5] kpL), (15, l1), (19, l2), (23, .frm 0 [11, 12, 68, 69, 70] [12] rdD), (31, l4), (37, .frm 1 [7, 127, 128, 129] [2, 3] rdF), (43, l6), (46, .frm 1 [7, 21, 150, 151] [2, 3] rdH)]
noncomputable abbrev ErdM (S0 : Spec) (l1 l2 l4 l6 : LoopBy) (m : Nat) : Env := envOf Try.prog (srd S0) (lrd l1 l2 l4 l6) 164 m [] [154]
noncomputable abbrev lrdE : LoopBy := .frm 3 [1, 7, 8, 106, 107, 108] [] rdE
noncomputable abbrev lrdG : LoopBy := .frm 3 [1, 7, 140, 141, 142] [2, 3] rdG
noncomputable abbrev lrdB1 : LoopBy := .frm 3 [1, 5, 7, 54] [] rdB1
noncomputable abbrev lrdC1 : LoopBy := .frm 2 [1, 8, 9, 61, 62, 63] [9] rdC1
noncomputable abbrev Erd1 (m : Nat) : Env := ErdM slS1 lrdB1 lrdC1 lrdE lrdG m
noncomputable abbrev lrdB2 : LoopBy := .frm 3 [1, 5, 7, 54] [] rdB2
noncomputable abbrev lrdC2 : LoopBy := .frm 2 [1, 8, 9, 61, 62, 63] [9] rdC2
noncomputable abbrev Erd2 (m : Nat) : Env := ErdM slS2 lrdB2 lrdC2 lrdE lrdG m
noncomputable abbrev lrdB3 : LoopBy := .frm 3 [1, 5, 7, 54] [] rdB3
noncomputable abbrev lrdC3 : LoopBy := .frm 2 [1, 8, 9, 61, 62, 63] [9] rdC3
noncomputable abbrev Erd3 (m : Nat) : Env := ErdM slS3 lrdB3 lrdC3 lrdE lrdG m
noncomputable abbrev lrdB4 : LoopBy := .frm 3 [1, 5, 7, 54] [] rdB4
noncomputable abbrev lrdC4 : LoopBy := .frm 2 [1, 8, 9, 61, 62, 63] [9] rdC4
noncomputable abbrev Erd4 (m : Nat) : Env := ErdM slS4 lrdB4 lrdC4 lrdE lrdG m
end Go.Ev

namespace Go.Ev
open Go Go.Proofs
set_option maxRecDepth 100000
theorem exrdl0a (S0 : Spec) (l1 l2 l4 l6 : LoopBy) (n j : Int) (D P : List (List Int)) (L Q : List Int) (K : Ex → List AV → List Blk → Prop) : evBody (ErdM S0 l1 l2 l4 l6 1) (lb Try.f63 0) [1, 5, 31, 32] [5] [.one (.ptr 0 1 0 0), .one .nil, .one (.int .i64 n), .one (.int .i64 j)] [.cells [.data (.mat .i64 8 D), .data (.mat .i64 8 P), .data (.ints .i64 L), .data (.ints .i64 Q)]] K = ( bif decide (j < n) then Q.length ≤ 1000000000 ∧ bif !memB j Q then K .normal [.one (.ptr 0 1 0 0), .one (.own 1 1), .one (.int .i64 n), .one (.int .i64 (IntKind.i64.wrap (j + 1)))] [Blk.cells [SV.data (Row.mat .i64 8 D), SV.data (Row.mat .i64 8 P), SV.data (Row.ints .i64 L), SV.data (Row.ints .i64 Q)], Blk.row 3 (Row.ints .i64 [j])] else K .normal [.one (.ptr 0 1 0 0), .one .nil, .one (.int .i64 n), .one (.int .i64 (IntKind.i64.wrap (j + 1)))] [Blk.cells [SV.data (Row.mat .i64 8 D), SV.data (Row.mat .i64 8 P), SV.data (Row.ints .i64 L), SV.data (Row.ints .i64 Q)]] else K (.exit 0) [.one .nil] [Blk.cells [SV.data (Row.mat .i64 8 D), SV.data (Row.mat .i64 8 P), SV.data (Row.ints .i64 L), SV.data (Row.ints .i64 Q)]]) := by kernel_rfl
theorem exrdl0b (S0 : Spec) (l1 l2 l4 l6 : LoopBy) (n j : Int) (D P : List (List Int)) (L Q S : List Int) (K : Ex → List AV → List Blk → Prop) : evBody (ErdM S0 l1 l2 l4 l6 1) (lb Try.f63 0) [1, 5, 31, 32] [5] [.one (.ptr 0 1 0 0), .one (.own 1 1), .one (.int .i64 n), .one (.int .i64 j)] [.cells [.data (.mat .i64 8 D), .data (.mat .i64 8 P), .data (.ints .i64 L), .data (.ints .i64 Q)], .row 3 (.ints .i64 S)] K = ( bif decide (j < n) then Q.length ≤ 1000000000 ∧ bif !memB j Q then bif decide ((S ++ [j]).length * 8 ≤ 140737488355328 ∧ (S ++ [j]).length ≤ 140737488355328) then K .normal [.one (.ptr 0 1 0 0), .one (.own 1 1), .one (.int .i64 n), .one (.int .i64 (IntKind.i64.wrap (j + 1)))] [Blk.cells [SV.data (Row.mat .i64 8 D), SV.data (Row.mat .i64 8 P), SV.data (Row.ints .i64 L), SV.data (Row.ints .i64 Q)], Blk.row 3 (Row.ints .i64 (S ++ [j]))] else False else K .normal [.one (.ptr 0 1 0 0), .one (.own 1 1), .one (.int .i64 n), .one (.int .i64 (IntKind.i64.wrap (j + 1)))] [Blk.cells [SV.data (Row.mat .i64 8 D), SV.data (Row.mat .i64 8 P), SV.data (Row.ints .i64 L), SV.data (Row.ints .i64 Q)], Blk.row 3 (Row.ints .i64 S)] else K (.exit 0) [.one (.own 1 1)] [Blk.cells [SV.data (Row.mat .i64 8 D), SV.data (Row.mat .i64 8 P), SV.data (Row.ints .i64 L), SV.data (Row.ints .i64 Q)], Blk.row 3 (Row.ints .i64 S)]) := by kernel_rfl
theorem exrd1l1a (a : Int) (D P : List (List Int)) (L Q T : List Int) (O : List (List Int)) (K : Ex → List AV → List Blk → Prop) : evBody (Erd1 3) (lb Try.f63 1) [1, 5, 7, 54] [] [.one (.ptr 0 1 0 0), .one (.own 1 1), .one (.own 2 8), .one (.int .i64 a)] [.cells [.data (.mat .i64 8 D), .data (.mat .i64 8 P), .data (.ints .i64 L), .data (.ints .i64 Q)], .row 3 (.ints .i64 T), .row 35 (.mat .i64 8 O)] K = ( bif decide (a < 8) then bif decide (0 ≤ (↑L.length : Int)) && (decide ((↑L.length : Int).toNat ≤ T.length) && decide (0 ≤ (↑L.length : Int).toNat)) then ((↑L.length : Int).toNat - 0 = 1 ∧ okRs 1 D P L T ∧ 0 ≤ a ∧ a ≤ 7 ∧ (↑((↑L.length : Int).toNat - 0) : Int) = 1 ∧ (0 :Int) = (0 :Int)) ∧ okSol [eqR D P L (T.getD 0 0) a.toNat] ∧ ∀ (X0 : List Int), (O.all len8 = true ∧ okIx L O.length ∧ (↑(solV [eqR D P L (T.getD 0 0) a.toNat]).length : Int) = (↑(solV [eqR D P L (T.getD 0 0) a.toNat]).length : Int) ∧ (solV [eqR D P L (T.getD 0 0) a.toNat]).length = L.length ∧ (solV [eqR D P L (T.getD 0 0) a.toNat]).length ≤ 4 ∧ resRow (solV [eqR D P L (T.getD 0 0) a.toNat]) = true ∧ 0 ≤ a ∧ a ≤ 7 ∧ (0 :Int) ≤ (0 :Int) ∧ 0 ≤ (↑(solV [eqR D P L (T.getD 0 0) a.toNat]).length : Int)) ∧ K .normal [.one (.ptr 0 1 0 0), .one (.own 1 1), .one (.own 2 8), .one (.int .i64 (IntKind.i64.wrap (a + 1)))] [Blk.cells [SV.data (Row.mat .i64 8 D), SV.data (Row.mat .i64 8 P), SV.data (Row.ints .i64 L), SV.data (Row.ints .i64 Q)], Blk.row 3 (Row.ints .i64 T), Blk.row 35 (Row.mat .i64 8 (putF O a.toNat L (solV [eqR D P L (T.getD 0 0) a.toNat])))] else False else K (.exit 2) [] [Blk.cells [SV.data (Row.mat .i64 8 D), SV.data (Row.mat .i64 8 P), SV.data (Row.ints .i64 L), SV.data (Row.ints .i64 Q)], Blk.row 3 (Row.ints .i64 T), Blk.row 35 (Row.mat .i64 8 O)]) := by kernel_rfl
theorem exrd1l2b (a : Int) (n0 : Nat) (n r : Int) (D P : List (List Int)) (L Q T R0 : List Int) (K : Ex → List AV → List Blk → Prop) : evBody (Erd1 2) (lb Try.f63 2) [1, 8, 9, 61, 62, 63] [9] [.one (.ptr 0 1 0 0), .one (.int .i64 a), .one (.own 2 1), .one (.sub 1 1 0 n0), .one (.int .i64 n), .one (.int .i64 r)] [.cells [.data (.mat .i64 8 D), .data (.mat .i64 8 P), .data (.ints .i64 L), .data (.ints .i64 Q)], .row 3 (.ints .i64 T), .cells [.own 3 1], .row 133 (.ints .i64 R0)] K = ( bif decide (r < n) then bif decide (0 ≤ r) && decide (r < (↑n0 : Int)) then bif decide (0 + r.toNat + 0 < T.length) then (1 ≤ L.length ∧ L.length ≤ 4 ∧ (↑L.length : Int) = (↑L.length : Int) ∧ (0 :Int) = (0 :Int) ∧ 0 ≤ T.getD (0 + r.toNat + 0) 0 ∧ T.getD (0 + r.toNat + 0) (0 :Int) ≤ (3 :Int) ∧ okIx L 12) ∧ bif decide (0 ≤ T.getD (0 + r.toNat + 0) 0) && decide (T.getD (0 + r.toNat + 0) 0 < (↑P.length : Int)) then bif decide (0 ≤ a) && decide (a < 8) then bif decide (0 + a.toNat + 0 < 8) && decide ((T.getD (0 + r.toNat + 0) 0).toNat < P.length) then (L.length ≤ 1000 ∧ D.length ≤ 1000 ∧ 0 ≤ T.getD (0 + r.toNat + 0) 0 ∧ T.getD (0 + r.toNat + 0) (0 :Int) ≤ (1000 :Int) ∧ 0 ≤ a ∧ a ≤ 7 ∧ D.all len8 = true ∧ keptB L 0 D = true) ∧ (0 ≤ modG ((P.getD (T.getD (0 + r.toNat + 0) 0).toNat []).getD (0 + a.toNat + 0) 0) ∧ modG ((P.getD (T.getD (0 + r.toNat + 0) 0).toNat []).getD (0 + a.toNat + 0) 0) < 65537 ∧ 0 ≤ parR L (T.getD (0 + r.toNat + 0) 0) a.toNat (0 :Int) 0 D ∧ parR L (T.getD (0 + r.toNat + 0) 0) a.toNat (0 :Int) 0 D < 65537) ∧ bif decide ((facs L (T.getD (0 + r.toNat + 0) 0) ++ [modG (modG ((P.getD (T.getD (0 + r.toNat + 0) 0).toNat []).getD (0 + a.toNat + 0) 0) - parR L (T.getD (0 + r.toNat + 0) 0) a.toNat (0 :Int) 0 D)]).length * 8 ≤ 140737488355328 ∧ (facs L (T.getD (0 + r.toNat + 0) 0) ++ [modG (modG ((P.getD (T.getD (0 + r.toNat + 0) 0).toNat []).getD (0 + a.toNat + 0) 0) - parR L (T.getD (0 + r.toNat + 0) 0) a.toNat (0 :Int) 0 D)]).length ≤ 140737488355328) then K .normal [.one (.ptr 0 1 0 0), .one (.int .i64 a), .one (.own 2 1), .one (.sub 1 1 0 n0), .one (.int .i64 n), .one (.int .i64 (IntKind.i64.wrap (r + 1)))] [Blk.cells [SV.data (Row.mat .i64 8 D), SV.data (Row.mat .i64 8 P), SV.data (Row.ints .i64 L), SV.data (Row.ints .i64 Q)], Blk.row 3 (Row.ints .i64 T), Blk.cells [SV.own 3 1, SV.own 4 1], Blk.row 133 (Row.ints .i64 R0), Blk.row 133 (Row.ints .i64 (facs L (T.getD (0 + r.toNat + 0) 0) ++ [modG (modG ((P.getD (T.getD (0 + r.toNat + 0) 0).toNat []).getD (0 + a.toNat + 0) 0) - parR L (T.getD (0 + r.toNat + 0) 0) a.toNat (0 :Int) 0 D)]))] else False else False else False else False else False else False else K (.exit 4) [.one (.own 2 1)] [Blk.cells [SV.data (Row.mat .i64 8 D), SV.data (Row.mat .i64 8 P), SV.data (Row.ints .i64 L), SV.data (Row.ints .i64 Q)], Blk.row 3 (Row.ints .i64 T), Blk.cells [SV.own 3 1], Blk.row 133 (Row.ints .i64 R0)]) := by kernel_rfl
theorem exrdl3a (S0 : Spec) (l1 l2 l4 l6 : LoopBy) (j : Int) (L : List Int) (n i : Int) (K : Ex → List AV → List Blk → Prop) : evBody (ErdM S0 l1 l2 l4 l6 0) (lb Try.f63 3) [11, 12, 68, 69, 70] [12] [.one (.int .i64 j), .one .nil, .one (.data (.ints .i64 L)), .one (.int .i64 n), .one (.int .i64 i)] [] K = ( bif decide (i < n) then bif decide (0 ≤ i) && decide (i < (↑L.length : Int)) then bif decide (i.toNat + 0 < L.length) then (0 ≤ L.getD (i.toNat + 0) 0 ∧ L.getD (i.toNat + 0) (0 :Int) ≤ (1000 :Int) ∧ 0 ≤ j ∧ j ≤ 1000) ∧ K .normal [.one (.int .i64 j), .one (.own 0 1), .one (.data (Row.ints .i64 L)), .one (.int .i64 n), .one (.int .i64 (IntKind.i64.wrap (i + 1)))] [Blk.row 133 (Row.ints .i64 [facG (L.getD (i.toNat + 0) 0) j])] else False else False else K (.exit 6) [.one .nil] []) := by kernel_rfl
theorem exrdl3b (S0 : Spec) (l1 l2 l4 l6 : LoopBy) (j : Int) (L : List Int) (n i : Int) (R : List Int) (K : Ex → List AV → List Blk → Prop) : evBody (ErdM S0 l1 l2 l4 l6 0) (lb Try.f63 3) [11, 12, 68, 69, 70] [12] [.one (.int .i64 j), .one (.own 0 1), .one (.data (.ints .i64 L)), .one (.int .i64 n), .one (.int .i64 i)] [.row 133 (.ints .i64 R)] K = ( bif decide (i < n) then bif decide (0 ≤ i) && decide (i < (↑L.length : Int)) then bif decide (i.toNat + 0 < L.length) then (0 ≤ L.getD (i.toNat + 0) 0 ∧ L.getD (i.toNat + 0) (0 :Int) ≤ (1000 :Int) ∧ 0 ≤ j ∧ j ≤ 1000) ∧ bif decide ((R ++ [facG (L.getD (i.toNat + 0) 0) j]).length * 8 ≤ 140737488355328 ∧ (R ++ [facG (L.getD (i.toNat + 0) 0) j]).length ≤ 140737488355328) then K .normal [.one (.int .i64 j), .one (.own 0 1), .one (.data (Row.ints .i64 L)), .one (.int .i64 n), .one (.int .i64 (IntKind.i64.wrap (i + 1)))] [Blk.row 133 (Row.ints .i64 (R ++ [facG (L.getD (i.toNat + 0) 0) j]))] else False else False else False else K (.exit 6) [.one (.own 0 1)] [Blk.row 133 (Row.ints .i64 R)]) := by kernel_rfl
theorem exrdl4a (S0 : Spec) (l1 l2 l4 l6 : LoopBy) (a n i : Int) (D P : List (List Int)) (L Q : List Int) (O : List (List Int)) (V : List Int) (K : Ex → List AV → List Blk → Prop) : evBody (ErdM S0 l1 l2 l4 l6 3) (lb Try.f63 4) [1, 7, 8, 106, 107, 108] [] [.one (.ptr 0 1 0 0), .one (.own 1 8), .one (.int .i64 a), .one (.own 2 1), .one (.int .i64 n), .one (.int .i64 i)] [.cells [.data (.mat .i64 8 D), .data (.mat .i64 8 P), .data (.ints .i64 L), .data (.ints .i64 Q)], .row 35 (.mat .i64 8 O), .row 133 (.ints .i64 V)] K = ( bif decide (i < n) then bif decide (0 ≤ i) && decide (i < (↑V.length : Int)) then bif decide (i.toNat + 0 < V.length) then bif decide (0 ≤ i) && decide (i < (↑L.length : Int)) then bif decide (i.toNat + 0 < L.length) then bif decide (0 ≤ L.getD (i.toNat + 0) 0) && decide (L.getD (i.toNat + 0) 0 < (↑O.length : Int)) then bif decide (0 ≤ a) && decide (a < 8) then bif decide (0 + a.toNat < 8) && decide ((L.getD (i.toNat + 0) 0).toNat < O.length) && decide ((O.getD (L.getD (i.toNat + 0) 0).toNat []).length = 8) then K .normal [.one (.ptr 0 1 0 0), .one (.own 1 8), .one (.int .i64 a), .one (.own 2 1), .one (.int .i64 n), .one (.int .i64 (IntKind.i64.wrap (i + 1)))] [Blk.cells [SV.data (Row.mat .i64 8 D), SV.data (Row.mat .i64 8 P), SV.data (Row.ints .i64 L), SV.data (Row.ints .i64 Q)], Blk.row 35 (Row.mat .i64 8 (O.set (L.getD (i.toNat + 0) 0).toNat ((O.getD (L.getD (i.toNat + 0) 0).toNat []).set (0 + a.toNat) (IntKind.i64.wrap (V.getD (i.toNat + 0) (0 :Int) - (32768 :Int)))))), Blk.row 133 (Row.ints .i64 V)] else False else False else False else False else False else False else False else K (.exit 8) [] [Blk.cells [SV.data (Row.mat .i64 8 D), SV.data (Row.mat .i64 8 P), SV.data (Row.ints .i64 L), SV.data (Row.ints .i64 Q)], Blk.row 35 (Row.mat .i64 8 O), Blk.row 133 (Row.ints .i64 V)]) := by kernel_rfl
theorem exrdl5a (S0 : Spec) (l1 l2 l4 l6 : LoopBy) (L : List Int) (n i : Int) (O : List (List Int)) (K : Ex → List AV → List Blk → Prop) : evBody (ErdM S0 l1 l2 l4 l6 1) (lb Try.f63 5) [7, 127, 128, 129] [2, 3] [.one (.own 0 8), .one (.data (.ints .i64 L)), .one (.int .i64 n), .one (.int .i64 i)] [.row 35 (.mat .i64 8 O)] K = ( bif decide (i < n) then bif decide (0 ≤ i) && decide (i < (↑L.length : Int)) then bif decide (i.toNat + 0 < L.length) then bif decide (0 ≤ L.getD (i.toNat + 0) 0) && decide (L.getD (i.toNat + 0) 0 < (↑O.length : Int)) then bif decide (7 < 8) && decide ((L.getD (i.toNat + 0) 0).toNat < O.length) then bif (bif [(O.getD (L.getD (i.toNat + 0) 0).toNat []).getD 0 0, (O.getD (L.getD (i.toNat + 0) 0).toNat []).getD 1 0, (O.getD (L.getD (i.toNat + 0) 0).toNat []).getD 2 0, (O.getD (L.getD (i.toNat + 0) 0).toNat []).getD 3 0, (O.getD (L.getD (i.toNat + 0) 0).toNat []).getD 4 0, (O.getD (L.getD (i.toNat + 0) 0).toNat []).getD 5 0, (O.getD (L.getD (i.toNat + 0) 0).toNat []).getD 6 0, (O.getD (L.getD (i.toNat + 0) 0).toNat []).getD 7 0].all sampleG then (0 :Int) else (2 :Int)) != 0 then K .ret [.one .nil, .one (.int .i64 13)] [Blk.row 35 (Row.mat .i64 8 O)] else K .normal [.one (.own 0 8), .one (.data (Row.ints .i64 L)), .one (.int .i64 n), .one (.int .i64 (IntKind.i64.wrap (i + 1)))] [Blk.row 35 (Row.mat .i64 8 O)] else False else False else False else False else K (.exit 10) [AV.any, AV.any] [Blk.row 35 (Row.mat .i64 8 O)]) := by kernel_rfl
theorem exrdl6a (S0 : Spec) (l1 l2 l4 l6 : LoopBy) (n i : Int) (D P : List (List Int)) (L Q : List Int) (O : List (List Int)) (T : List Int) (K : Ex → List AV → List Blk → Prop) : evBody (ErdM S0 l1 l2 l4 l6 3) (lb Try.f63 6) [1, 7, 140, 141, 142] [2, 3] [.one (.ptr 0 1 0 0), .one (.own 1 8), .one (.own 2 1), .one (.int .i64 n), .one (.int .i64 i)] [.cells [.data (.mat .i64 8 D), .data (.mat .i64 8 P), .data (.ints .i64 L), .data (.ints .i64 Q)], .row 35 (.mat .i64 8 O), .row 3 (.ints .i64 T)] K = ( bif decide (i < n) then bif decide (0 ≤ i) && decide (i < (↑T.length : Int)) then bif decide (i.toNat + 0 < T.length) then bif decide (0 ≤ T.getD (i.toNat + 0) 0) && decide (T.getD (i.toNat + 0) 0 < (↑P.length : Int)) then bif decide (7 < 8) && decide ((T.getD (i.toNat + 0) 0).toNat < P.length) then (O.length ≤ 12 ∧ O.all len8 = true ∧ O.all okRow = true ∧ 0 ≤ T.getD (i.toNat + 0) 0 ∧ T.getD (i.toNat + 0) (0 :Int) ≤ (3 :Int) ∧ (0 :Int) ≤ (0 :Int) ∧ (0 :Int) ≤ (8 :Int)) ∧ bif parX O (T.getD (i.toNat + 0) 0) [(P.getD (T.getD (i.toNat + 0) 0).toNat []).getD 0 0, (P.getD (T.getD (i.toNat + 0) 0).toNat []).getD 1 0, (P.getD (T.getD (i.toNat + 0) 0).toNat []).getD 2 0, (P.getD (T.getD (i.toNat + 0) 0).toNat []).getD 3 0, (P.getD (T.getD (i.toNat + 0) 0).toNat []).getD 4 0, (P.getD (T.getD (i.toNat + 0) 0).toNat []).getD 5 0, (P.getD (T.getD (i.toNat + 0) 0).toNat []).getD 6 0, (P.getD (T.getD (i.toNat + 0) 0).toNat []).getD 7 0] 8 0 then K .normal [.one (.ptr 0 1 0 0), .one (.own 1 8), .one (.own 2 1), .one (.int .i64 n), .one (.int .i64 (IntKind.i64.wrap (i + 1)))] [Blk.cells [SV.data (Row.mat .i64 8 D), SV.data (Row.mat .i64 8 P), SV.data (Row.ints .i64 L), SV.data (Row.ints .i64 Q)], Blk.row 35 (Row.mat .i64 8 O), Blk.row 3 (Row.ints .i64 T)] else K .ret [.one .nil, .one (.int .i64 13)] [Blk.cells [SV.data (Row.mat .i64 8 D), SV.data (Row.mat .i64 8 P), SV.data (Row.ints .i64 L), SV.data (Row.ints .i64 Q)], Blk.row 35 (Row.mat .i64 8 O), Blk.row 3 (Row.ints .i64 T)] else False else False else False else False else K (.exit 12) [AV.any, AV.any] [Blk.cells [SV.data (Row.mat .i64 8 D), SV.data (Row.mat .i64 8 P), SV.data (Row.ints .i64 L), SV.data (Row.ints .i64 Q)], Blk.row 35 (Row.mat .i64 8 O), Blk.row 3 (Row.ints .i64 T)]) := by kernel_rfl
theorem exrdl7a (S0 : Spec) (l1 l2 l4 l6 : LoopBy) (j x0 x1 x2 x3 x4 x5 x6 x7 s : Int) (O : List (List Int)) (K : Ex → List AV → List Blk → Prop) : evBody (ErdM S0 l1 l2 l4 l6 1) (lb Try.f63 7) [7, 21, 150, 151] [2, 3] [.one (.own 0 8), .one (.int .i64 j), .agg [.int .i64 x0, .int .i64 x1, .int .i64 x2, .int .i64 x3, .int .i64 x4, .int .i64 x5, .int .i64 x6, .int .i64 x7], .one (.int .i64 s)] [.row 35 (.mat .i64 8 O)] K = ( bif decide (s < 8) then bif decide (0 ≤ s) && decide (s < 8) then (0 ≤ 1000 ∧ O.length ≤ 1000 ∧ 0 ≤ j ∧ j ≤ 1000 ∧ 0 ≤ s ∧ s ≤ 7 ∧ O.all len8 = true ∧ keptB [] 0 O = true) ∧ bif parR [] j s.toNat (0 :Int) 0 O != [x0, x1, x2, x3, x4, x5, x6, x7].getD s.toNat (0 :Int) then K .ret [.one .nil, .one (.int .i64 13)] [Blk.row 35 (Row.mat .i64 8 O)] else K .normal [.one (.own 0 8), .one (.int .i64 j), AV.agg [SV.int .i64 x0, SV.int .i64 x1, SV.int .i64 x2, SV.int .i64 x3, SV.int .i64 x4, SV.int .i64 x5, SV.int .i64 x6, SV.int .i64 x7], .one (.int .i64 (IntKind.i64.wrap (s + 1)))] [Blk.row 35 (Row.mat .i64 8 O)] else False else K (.exit 14) [AV.any, AV.any] [Blk.row 35 (Row.mat .i64 8 O)]) := by kernel_rfl
theorem exrd2l1a (a : Int) (D P : List (List Int)) (L Q T : List Int) (O : List (List Int)) (K : Ex → List AV → List Blk → Prop) : evBody (Erd2 3) (lb Try.f63 1) [1, 5, 7, 54] [] [.one (.ptr 0 1 0 0), .one (.own 1 1), .one (.own 2 8), .one (.int .i64 a)] [.cells [.data (.mat .i64 8 D), .data (.mat .i64 8 P), .data (.ints .i64 L), .data (.ints .i64 Q)], .row 3 (.ints .i64 T), .row 35 (.mat .i64 8 O)] K = ( bif decide (a < 8) then bif decide (0 ≤ (↑L.length : Int)) && (decide ((↑L.length : Int).toNat ≤ T.length) && decide (0 ≤ (↑L.length : Int).toNat)) then ((↑L.length : Int).toNat - 0 = 2 ∧ okRs 2 D P L T ∧ 0 ≤ a ∧ a ≤ 7 ∧ (↑((↑L.length : Int).toNat - 0) : Int) = 2 ∧ (0 :Int) = (0 :Int)) ∧ okSol [eqR D P L (T.getD 0 0) a.toNat, eqR D P L (T.getD 1 0) a.toNat] ∧ ∀ (X0 X1 : List Int), (O.all len8 = true ∧ okIx L O.length ∧ (↑(solV [eqR D P L (T.getD 0 0) a.toNat, eqR D P L (T.getD 1 0) a.toNat]).length : Int) = (↑(solV [eqR D P L (T.getD 0 0) a.toNat, eqR D P L (T.getD 1 0) a.toNat]).length : Int) ∧ (solV [eqR D P L (T.getD 0 0) a.toNat, eqR D P L (T.getD 1 0) a.toNat]).length = L.length ∧ (solV [eqR D P L (T.getD 0 0) a.toNat, eqR D P L (T.getD 1 0) a.toNat]).length ≤ 4 ∧ resRow (solV [eqR D P L (T.getD 0 0) a.toNat, eqR D P L (T.getD 1 0) a.toNat]) = true ∧ 0 ≤ a ∧ a ≤ 7 ∧ (0 :Int) ≤ (0 :Int) ∧ 0 ≤ (↑(solV [eqR D P L (T.getD 0 0) a.toNat, eqR D P L (T.getD 1 0) a.toNat]).length : Int)) ∧ K .normal [.one (.ptr 0 1 0 0), .one (.own 1 1), .one (.own 2 8), .one (.int .i64 (IntKind.i64.wrap (a + 1)))] [Blk.cells [SV.data (Row.mat .i64 8 D), SV.data (Row.mat .i64 8 P), SV.data (Row.ints .i64 L), SV.data (Row.ints .i64 Q)], Blk.row 3 (Row.ints .i64 T), Blk.row 35 (Row.mat .i64 8 (putF O a.toNat L (solV [eqR D P L (T.getD 0 0) a.toNat, eqR D P L (T.getD 1 0) a.toNat])))] else False else K (.exit 2) [] [Blk.cells [SV.data (Row.mat .i64 8 D), SV.data (Row.mat .i64 8 P), SV.data (Row.ints .i64 L), SV.data (Row.ints .i64 Q)], Blk.row 3 (Row.ints .i64 T), Blk.row 35 (Row.mat .i64 8 O)]) := by kernel_rfl
theorem exrd2l2c (a : Int) (n0 : Nat) (n r : Int) (D P : List (List Int)) (L Q T R0 R1 : List Int) (K : Ex → List AV → List Blk → Prop) : evBody (Erd2 2) (lb Try.f63 2) [1, 8, 9, 61, 62, 63] [9] [.one (.ptr 0 1 0 0), .one (.int .i64 a), .one (.own 2 1), .one (.sub 1 1 0 n0), .one (.int .i64 n), .one (.int .i64 r)] [.cells [.data (.mat .i64 8 D), .data (.mat .i64 8 P), .data (.ints .i64 L), .data (.ints .i64 Q)], .row 3 (.ints .i64 T), .cells [.own 3 1, .own 4 1], .row 133 (.ints .i64 R0), .row 133 (.ints .i64 R1)] K = ( bif decide (r < n) then bif decide (0 ≤ r) && decide (r < (↑n0 : Int)) then bif decide (0 + r.toNat + 0 < T.length) then (1 ≤ L.length ∧ L.length ≤ 4 ∧ (↑L.length : Int) = (↑L.length : Int) ∧ (0 :Int) = (0 :Int) ∧ 0 ≤ T.getD (0 + r.toNat + 0) 0 ∧ T.getD (0 + r.toNat + 0) (0 :Int) ≤ (3 :Int) ∧ okIx L 12) ∧ bif decide (0 ≤ T.getD (0 + r.toNat + 0) 0) && decide (T.getD (0 + r.toNat + 0) 0 < (↑P.length : Int)) then bif decide (0 ≤ a) && decide (a < 8) then bif decide (0 + a.toNat + 0 < 8) && decide ((T.getD (0 + r.toNat + 0) 0).toNat < P.length) then (L.length ≤ 1000 ∧ D.length ≤ 1000 ∧ 0 ≤ T.getD (0 + r.toNat + 0) 0 ∧ T.getD (0 + r.toNat + 0) (0 :Int) ≤ (1000 :Int) ∧ 0 ≤ a ∧ a ≤ 7 ∧ D.all len8 = true ∧ keptB L 0 D = true) ∧ (0 ≤ modG ((P.getD (T.getD (0 + r.toNat + 0) 0).toNat []).getD (0 + a.toNat + 0) 0) ∧ modG ((P.getD (T.getD (0 + r.toNat + 0) 0).toNat []).getD (0 + a.toNat + 0) 0) < 65537 ∧ 0 ≤ parR L (T.getD (0 + r.toNat + 0) 0) a.toNat (0 :Int) 0 D ∧ parR L (T.getD (0 + r.toNat + 0) 0) a.toNat (0 :Int) 0 D < 65537) ∧ bif decide ((facs L (T.getD (0 + r.toNat + 0) 0) ++ [modG (modG ((P.getD (T.getD (0 + r.toNat + 0) 0).toNat []).getD (0 + a.toNat + 0) 0) - parR L (T.getD (0 + r.toNat + 0) 0) a.toNat (0 :Int) 0 D)]).length * 8 ≤ 140737488355328 ∧ (facs L (T.getD (0 + r.toNat + 0) 0) ++ [modG (modG ((P.getD (T.getD (0 + r.toNat + 0) 0).toNat []).getD (0 + a.toNat + 0) 0) - parR L (T.getD (0 + r.toNat + 0) 0) a.toNat (0 :Int) 0 D)]).length ≤ 140737488355328) then K .normal [.one (.ptr 0 1 0 0), .one (.int .i64 a), .one (.own 2 1), .one (.sub 1 1 0 n0), .one (.int .i64 n), .one (.int .i64 (IntKind.i64.wrap (r + 1)))] [Blk.cells [SV.data (Row.mat .i64 8 D), SV.data (Row.mat .i64 8 P), SV.data (Row.ints .i64 L), SV.data (Row.ints .i64 Q)], Blk.row 3 (Row.ints .i64 T), Blk.cells [SV.own 3 1, SV.own 4 1, SV.own 5 1], Blk.row 133 (Row.ints .i64 R0), Blk.row 133 (Row.ints .i64 R1), Blk.row 133 (Row.ints .i64 (facs L (T.getD (0 + r.toNat + 0) 0) ++ [modG (modG ((P.getD (T.getD (0 + r.toNat + 0) 0).toNat []).getD (0 + a.toNat + 0) 0) - parR L (T.getD (0 + r.toNat + 0) 0) a.toNat (0 :Int) 0 D)]))] else False else False else False else False else False else False else K (.exit 4) [.one (.own 2 1)] [Blk.cells [SV.data (Row.mat .i64 8 D), SV.data (Row.mat .i64 8 P), SV.data (Row.ints .i64 L), SV.data (Row.ints .i64 Q)], Blk.row 3 (Row.ints .i64 T), Blk.cells [SV.own 3 1, SV.own 4 1], Blk.row 133 (Row.ints .i64 R0), Blk.row 133 (Row.ints .i64 R1)]) := by kernel_rfl
theorem exrd3l1a (a : Int) (D P : List (List Int)) (L Q T : List Int) (O : List (List Int)) (K : Ex → List AV → List Blk → Prop) : evBody (Erd3 3) (lb Try.f63 1) [1, 5, 7, 54] [] [.one (.ptr 0 1 0 0), .one (.own 1 1), .one (.own 2 8), .one (.int .i64 a)] [.cells [.data (.mat .i64 8 D), .data (.mat .i64 8 P), .data (.ints .i64 L), .data (.ints .i64 Q)], .row 3 (.ints .i64 T), .row 35 (.mat .i64 8 O)] K = ( bif decide (a < 8) then bif decide (0 ≤ (↑L.length : Int)) && (decide ((↑L.length : Int).toNat ≤ T.length) && decide (0 ≤ (↑L.length : Int).toNat)) then ((↑L.length : Int).toNat - 0 = 3 ∧ okRs 3 D P L T ∧ 0 ≤ a ∧ a ≤ 7 ∧ (↑((↑L.length : Int).toNat - 0) : Int) = 3 ∧ (0 :Int) = (0 :Int)) ∧ okSol [eqR D P L (T.getD 0 0) a.toNat, eqR D P L (T.getD 1 0) a.toNat, eqR D P L (T.getD 2 0) a.toNat] ∧ ∀ (X0 X1 X2 : List Int), (O.all len8 = true ∧ okIx L O.length ∧ (↑(solV [eqR D P L (T.getD 0 0) a.toNat, eqR D P L (T.getD 1 0) a.toNat, eqR D P L (T.getD 2 0) a.toNat]).length : Int) = (↑(solV [eqR D P L (T.getD 0 0) a.toNat, eqR D P L (T.getD 1 0) a.toNat, eqR D P L (T.getD 2 0) a.toNat]).length : Int) ∧ (solV [eqR D P L (T.getD 0 0) a.toNat, eqR D P L (T.getD 1 0) a.toNat, eqR D P L (T.getD 2 0) a.toNat]).length = L.length ∧ (solV [eqR D P L (T.getD 0 0) a.toNat, eqR D P L (T.getD 1 0) a.toNat, eqR D P L (T.getD 2 0) a.toNat]).length ≤ 4 ∧ resRow (solV [eqR D P L (T.getD 0 0) a.toNat, eqR D P L (T.getD 1 0) a.toNat, eqR D P L (T.getD 2 0) a.toNat]) = true ∧ 0 ≤ a ∧ a ≤ 7 ∧ (0 :Int) ≤ (0 :Int) ∧ 0 ≤ (↑(solV [eqR D P L (T.getD 0 0) a.toNat, eqR D P L (T.getD 1 0) a.toNat, eqR D P L (T.getD 2 0) a.toNat]).length : Int)) ∧ K .normal [.one (.ptr 0 1 0 0), .one (.own 1 1), .one (.own 2 8), .one (.int .i64 (IntKind.i64.wrap (a + 1)))] [Blk.cells [SV.data (Row.mat .i64 8 D), SV.data (Row.mat .i64 8 P), SV.data (Row.ints .i64 L), SV.data (Row.ints .i64 Q)], Blk.row 3 (Row.ints .i64 T), Blk.row 35 (Row.mat .i64 8 (putF O a.toNat L (solV [eqR D P L (T.getD 0 0) a.toNat, eqR D P L (T.getD 1 0) a.toNat, eqR D P L (T.getD 2 0) a.toNat])))] else False else K (.exit 2) [] [Blk.cells [SV.data (Row.mat .i64 8 D), SV.data (Row.mat .i64 8 P), SV.data (Row.ints .i64 L), SV.data (Row.ints .i64 Q)], Blk.row 3 (Row.ints .i64 T), Blk.row 35 (Row.mat .i64 8 O)]) := by kernel_rfl
theorem exrd3l2d (a : Int) (n0 : Nat) (n r : Int) (D P : List (List Int)) (L Q T R0 R1 R2 : List Int) (K : Ex → List AV → List Blk → Prop) : evBody (Erd3 2) (lb Try.f63 2) [1, 8, 9, 61, 62, 63] [9] [.one (.ptr 0 1 0 0), .one (.int .i64 a), .one (.own 2 1), .one (.sub 1 1 0 n0), .one (.int .i64 n), .one (.int .i64 r)] [.cells [.data (.mat .i64 8 D), .data (.mat .i64 8 P), .data (.ints .i64 L), .data (.ints .i64 Q)], .row 3 (.ints .i64 T), .cells [.own 3 1, .own 4 1, .own 5 1], .row 133 (.ints .i64 R0), .row 133 (.ints .i64 R1), .row 133 (.ints .i64 R2)] K = ( bif decide (r < n) then bif decide (0 ≤ r) && decide (r < (↑n0 : Int)) then bif decide (0 + r.toNat + 0 < T.length) then (1 ≤ L.length ∧ L.length ≤ 4 ∧ (↑L.length : Int) = (↑L.length : Int) ∧ (0 :Int) = (0 :Int) ∧ 0 ≤ T.getD (0 + r.toNat + 0) 0 ∧ T.getD (0 + r.toNat + 0) (0 :Int) ≤ (3 :Int) ∧ okIx L 12) ∧ bif decide (0 ≤ T.getD (0 + r.toNat + 0) 0) && decide (T.getD (0 + r.toNat + 0) 0 < (↑P.length : Int)) then bif decide (0 ≤ a) && decide (a < 8) then bif decide (0 + a.toNat + 0 < 8) && decide ((T.getD (0 + r.toNat + 0) 0).toNat < P.length) then (L.length ≤ 1000 ∧ D.length ≤ 1000 ∧ 0 ≤ T.getD (0 + r.toNat + 0) 0 ∧ T.getD (0 + r.toNat + 0) (0 :Int) ≤ (1000 :Int) ∧ 0 ≤ a ∧ a ≤ 7 ∧ D.all len8 = true ∧ keptB L 0 D = true) ∧ (0 ≤ modG ((P.getD (T.getD (0 + r.toNat + 0) 0).toNat []).getD (0 + a.toNat + 0) 0) ∧ modG ((P.getD (T.getD (0 + r.toNat + 0) 0).toNat []).getD (0 + a.toNat + 0) 0) < 65537 ∧ 0 ≤ parR L (T.getD (0 + r.toNat + 0) 0) a.toNat (0 :Int) 0 D ∧ parR L (T.getD (0 + r.toNat + 0) 0) a.toNat (0 :Int) 0 D < 65537) ∧ bif decide ((facs L (T.getD (0 + r.toNat + 0) 0) ++ [modG (modG ((P.getD (T.getD (0 + r.toNat + 0) 0).toNat []).getD (0 + a.toNat + 0) 0) - parR L (T.getD (0 + r.toNat + 0) 0) a.toNat (0 :Int) 0 D)]).length * 8 ≤ 140737488355328 ∧ (facs L (T.getD (0 + r.toNat + 0) 0) ++ [modG (modG ((P.getD (T.getD (0 + r.toNat + 0) 0).toNat []).getD (0 + a.toNat + 0) 0) - parR L (T.getD (0 + r.toNat + 0) 0) a.toNat (0 :Int) 0 D)]).length ≤ 140737488355328) then K .normal [.one (.ptr 0 1 0 0), .one (.int .i64 a), .one (.own 2 1), .one (.sub 1 1 0 n0), .one (.int .i64 n), .one (.int .i64 (IntKind.i64.wrap (r + 1)))] [Blk.cells [SV.data (Row.mat .i64 8 D), SV.data (Row.mat .i64 8 P), SV.data (Row.ints .i64 L), SV.data (Row.ints .i64 Q)], Blk.row 3 (Row.ints .i64 T), Blk.cells [SV.own 3 1, SV.own 4 1, SV.own 5 1, SV.own 6 1], Blk.row 133 (Row.ints .i64 R0), Blk.row 133 (Row.ints .i64 R1), Blk.row 133 (Row.ints .i64 R2), Blk.row 133 (Row.ints .i64 (facs L (T.getD (0 + r.toNat + 0) 0) ++ [modG (modG ((P.getD (T.getD (0 + r.toNat + 0) 0).toNat []).getD (0 + a.toNat + 0) 0) - parR L (T.getD (0 + r.toNat + 0) 0) a.toNat (0 :Int) 0 D)]))] else False else False else False else False else False else False else K (.exit 4) [.one (.own 2 1)] [Blk.cells [SV.data (Row.mat .i64 8 D), SV.data (Row.mat .i64 8 P), SV.data (Row.ints .i64 L), SV.data (Row.ints .i64 Q)], Blk.row 3 (Row.ints .i64 T), Blk.cells [SV.own 3 1, SV.own 4 1, SV.own 5 1], Blk.row 133 (Row.ints .i64 R0), Blk.row 133 (Row.ints .i64 R1), Blk.row 133 (Row.ints .i64 R2)]) := by kernel_rfl
theorem exrd4l1a (a : Int) (D P : List (List Int)) (L Q T : List Int) (O : List (List Int)) (K : Ex → List AV → List Blk → Prop) : evBody (Erd4 3) (lb Try.f63 1) [1, 5, 7, 54] [] [.one (.ptr 0 1 0 0), .one (.own 1 1), .one (.own 2 8), .one (.int .i64 a)] [.cells [.data (.mat .i64 8 D), .data (.mat .i64 8 P), .data (.ints .i64 L), .data (.ints .i64 Q)], .row 3 (.ints .i64 T), .row 35 (.mat .i64 8 O)] K = ( bif decide (a < 8) then bif decide (0 ≤ (↑L.length : Int)) && (decide ((↑L.length : Int).toNat ≤ T.length) && decide (0 ≤ (↑L.length : Int).toNat)) then ((↑L.length : Int).toNat - 0 = 4 ∧ okRs 4 D P L T ∧ 0 ≤ a ∧ a ≤ 7 ∧ (↑((↑L.length : Int).toNat - 0) : Int) = 4 ∧ (0 :Int) = (0 :Int)) ∧ okSol [eqR D P L (T.getD 0 0) a.toNat, eqR D P L (T.getD 1 0) a.toNat, eqR D P L (T.getD 2 0) a.toNat, eqR D P L (T.getD 3 0) a.toNat] ∧ ∀ (X0 X1 X2 X3 : List Int), (O.all len8 = true ∧ okIx L O.length ∧ (↑(solV [eqR D P L (T.getD 0 0) a.toNat, eqR D P L (T.getD 1 0) a.toNat, eqR D P L (T.getD 2 0) a.toNat, eqR D P L (T.getD 3 0) a.toNat]).length : Int) = (↑(solV [eqR D P L (T.getD 0 0) a.toNat, eqR D P L (T.getD 1 0) a.toNat, eqR D P L (T.getD 2 0) a.toNat, eqR D P L (T.getD 3 0) a.toNat]).length : Int) ∧ (solV [eqR D P L (T.getD 0 0) a.toNat, eqR D P L (T.getD 1 0) a.toNat, eqR D P L (T.getD 2 0) a.toNat, eqR D P L (T.getD 3 0) a.toNat]).length = L.length ∧ (solV [eqR D P L (T.getD 0 0) a.toNat, eqR D P L (T.getD 1 0) a.toNat, eqR D P L (T.getD 2 0) a.toNat, eqR D P L (T.getD 3 0) a.toNat]).length ≤ 4 ∧ resRow (solV [eqR D P L (T.getD 0 0) a.toNat, eqR D P L (T.getD 1 0) a.toNat, eqR D P L (T.getD 2 0) a.toNat, eqR D P L (T.getD 3 0) a.toNat]) = true ∧ 0 ≤ a ∧ a ≤ 7 ∧ (0 :Int) ≤ (0 :Int) ∧ 0 ≤ (↑(solV [eqR D P L (T.getD 0 0) a.toNat, eqR D P L (T.getD 1 0) a.toNat, eqR D P L (T.getD 2 0) a.toNat, eqR D P L (T.getD 3 0) a.toNat]).length : Int)) ∧ K .normal [.one (.ptr 0 1 0 0), .one (.own 1 1), .one (.own 2 8), .one (.int .i64 (IntKind.i64.wrap (a + 1)))] [Blk.cells [SV.data (Row.mat .i64 8 D), SV.data (Row.mat .i64 8 P), SV.data (Row.ints .i64 L), SV.data (Row.ints .i64 Q)], Blk.row 3 (Row.ints .i64 T), Blk.row 35 (Row.mat .i64 8 (putF O a.toNat L (solV [eqR D P L (T.getD 0 0) a.toNat, eqR D P L (T.getD 1 0) a.toNat, eqR D P L (T.getD 2 0) a.toNat, eqR D P L (T.getD 3 0) a.toNat])))] else False else K (.exit 2) [] [Blk.cells [SV.data (Row.mat .i64 8 D), SV.data (Row.mat .i64 8 P), SV.data (Row.ints .i64 L), SV.data (Row.ints .i64 Q)], Blk.row 3 (Row.ints .i64 T), Blk.row 35 (Row.mat .i64 8 O)]) := by kernel_rfl
theorem exrdl2a (S0 : Spec) (l1 l2 l4 l6 : LoopBy) (a : Int) (n0 : Nat) (n r : Int) (D P : List (List Int)) (L Q T : List Int) (K : Ex → List AV → List Blk → Prop) : evBody (ErdM S0 l1 l2 l4 l6 2) (lb Try.f63 2) [1, 8, 9, 61, 62, 63] [9] [.one (.ptr 0 1 0 0), .one (.int .i64 a), .one .nil, .one (.sub 1 1 0 n0), .one (.int .i64 n), .one (.int .i64 r)] [.cells [.data (.mat .i64 8 D), .data (.mat .i64 8 P), .data (.ints .i64 L), .data (.ints .i64 Q)], .row 3 (.ints .i64 T)] K = ( bif decide (r < n) then bif decide (0 ≤ r) && decide (r < (↑n0 : Int)) then bif decide (0 + r.toNat + 0 < T.length) then (1 ≤ L.length ∧ L.length ≤ 4 ∧ (↑L.length : Int) = (↑L.length : Int) ∧ (0 :Int) = (0 :Int) ∧ 0 ≤ T.getD (0 + r.toNat + 0) 0 ∧ T.getD (0 + r.toNat + 0) (0 :Int) ≤ (3 :Int) ∧ okIx L 12) ∧ bif decide (0 ≤ T.getD (0 + r.toNat + 0) 0) && decide (T.getD (0 + r.toNat + 0) 0 < (↑P.length : Int)) then bif decide (0 ≤ a) && decide (a < 8) then bif decide (0 + a.toNat + 0 < 8) && decide ((T.getD (0 + r.toNat + 0) 0).toNat < P.length) then (L.length ≤ 1000 ∧ D.length ≤ 1000 ∧ 0 ≤ T.getD (0 + r.toNat + 0) 0 ∧ T.getD (0 + r.toNat + 0) (0 :Int) ≤ (1000 :Int) ∧ 0 ≤ a ∧ a ≤ 7 ∧ D.all len8 = true ∧ keptB L 0 D = true) ∧ (0 ≤ modG ((P.getD (T.getD (0 + r.toNat + 0) 0).toNat []).getD (0 + a.toNat + 0) 0) ∧ modG ((P.getD (T.getD (0 + r.toNat + 0) 0).toNat []).getD (0 + a.toNat + 0) 0) < 65537 ∧ 0 ≤ parR L (T.getD (0 + r.toNat + 0) 0) a.toNat (0 :Int) 0 D ∧ parR L (T.getD (0 + r.toNat + 0) 0) a.toNat (0 :Int) 0 D < 65537) ∧ bif decide ((facs L (T.getD (0 + r.toNat + 0) 0) ++ [modG (modG ((P.getD (T.getD (0 + r.toNat + 0) 0).toNat []).getD (0 + a.toNat + 0) 0) - parR L (T.getD (0 + r.toNat + 0) 0) a.toNat (0 :Int) 0 D)]).length * 8 ≤ 140737488355328 ∧ (facs L (T.getD (0 + r.toNat + 0) 0) ++ [modG (modG ((P.getD (T.getD (0 + r.toNat + 0) 0).toNat []).getD (0 + a.toNat + 0) 0) - parR L (T.getD (0 + r.toNat + 0) 0) a.toNat (0 :Int) 0 D)]).length ≤ 140737488355328) then K .normal [.one (.ptr 0 1 0 0), .one (.int .i64 a), .one (.own 2 1), .one (.sub 1 1 0 n0), .one (.int .i64 n), .one (.int .i64 (IntKind.i64.wrap (r + 1)))] [Blk.cells [SV.data (Row.mat .i64 8 D), SV.data (Row.mat .i64 8 P), SV.data (Row.ints .i64 L), SV.data (Row.ints .i64 Q)], Blk.row 3 (Row.ints .i64 T), Blk.cells [SV.own 3 1], Blk.row 133 (Row.ints .i64 (facs L (T.getD (0 + r.toNat + 0) 0) ++ [modG (modG ((P.getD (T.getD (0 + r.toNat + 0) 0).toNat []).getD (0 + a.toNat + 0) 0) - parR L (T.getD (0 + r.toNat + 0) 0) a.toNat (0 :Int) 0 D)]))] else False else False else False else False else False else False else K (.exit 4) [.one .nil] [Blk.cells [SV.data (Row.mat .i64 8 D), SV.data (Row.mat .i64 8 P), SV.data (Row.ints .i64 L), SV.data (Row.ints .i64 Q)], Blk.row 3 (Row.ints .i64 T)]) := by kernel_rfl
theorem exrdl2b (S0 : Spec) (l1 l2 l4 l6 : LoopBy) (a : Int) (n0 : Nat) (n r : Int) (D P : List (List Int)) (L Q T R0 : List Int) (K : Ex → List AV → List Blk → Prop) : evBody (ErdM S0 l1 l2 l4 l6 2) (lb Try.f63 2) [1, 8, 9, 61, 62, 63] [9] [.one (.ptr 0 1 0 0), .one (.int .i64 a), .one (.own 2 1), .one (.sub 1 1 0 n0), .one (.int .i64 n), .one (.int .i64 r)] [.cells [.data (.mat .i64 8 D), .data (.mat .i64 8 P), .data (.ints .i64 L), .data (.ints .i64 Q)], .row 3 (.ints .i64 T), .cells [.own 3 1], .row 133 (.ints .i64 R0)] K = ( bif decide (r < n) then bif decide (0 ≤ r) && decide (r < (↑n0 : Int)) then bif decide (0 + r.toNat + 0 < T.length) then (1 ≤ L.length ∧ L.length ≤ 4 ∧ (↑L.length : Int) = (↑L.length : Int) ∧ (0 :Int) = (0 :Int) ∧ 0 ≤ T.getD (0 + r.toNat + 0) 0 ∧ T.getD (0 + r.toNat + 0) (0 :Int) ≤ (3 :Int) ∧ okIx L 12) ∧ bif decide (0 ≤ T.getD (0 + r.toNat + 0) 0) && decide (T.getD (0 + r.toNat + 0) 0 < (↑P.length : Int)) then bif decide (0 ≤ a) && decide (a < 8) then bif decide (0 + a.toNat + 0 < 8) && decide ((T.getD (0 + r.toNat + 0) 0).toNat < P.length) then (L.length ≤ 1000 ∧ D.length ≤ 1000 ∧ 0 ≤ T.getD (0 + r.toNat + 0) 0 ∧ T.getD (0 + r.toNat + 0) (0 :Int) ≤ (1000 :Int) ∧ 0 ≤ a ∧ a ≤ 7 ∧ D.all len8 = true ∧ keptB L 0 D = true) ∧ (0 ≤ modG ((P.getD (T.getD (0 + r.toNat + 0) 0).toNat []).getD (0 + a.toNat + 0) 0) ∧ modG ((P.getD (T.getD (0 + r.toNat + 0) 0).toNat []).getD (0 + a.toNat + 0) 0) < 65537 ∧ 0 ≤ parR L (T.getD (0 + r.toNat + 0) 0) a.toNat (0 :Int) 0 D ∧ parR L (T.getD (0 + r.toNat + 0) 0) a.toNat (0 :Int) 0 D < 65537) ∧ bif decide ((facs L (T.getD (0 + r.toNat + 0) 0) ++ [modG (modG ((P.getD (T.getD (0 + r.toNat + 0) 0).toNat []).getD (0 + a.toNat + 0) 0) - parR L (T.getD (0 + r.toNat + 0) 0) a.toNat (0 :Int) 0 D)]).length * 8 ≤ 140737488355328 ∧ (facs L (T.getD (0 + r.toNat + 0) 0) ++ [modG (modG ((P.getD (T.getD (0 + r.toNat + 0) 0).toNat []).getD (0 + a.toNat + 0) 0) - parR L (T.getD (0 + r.toNat + 0) 0) a.toNat (0 :Int) 0 D)]).length ≤ 140737488355328) then K .normal [.one (.ptr 0 1 0 0), .one (.int .i64 a), .one (.own 2 1), .one (.sub 1 1 0 n0), .one (.int .i64 n), .one (.int .i64 (IntKind.i64.wrap (r + 1)))] [Blk.cells [SV.data (Row.mat .i64 8 D), SV.data (Row.mat .i64 8 P), SV.data (Row.ints .i64 L), SV.data (Row.ints .i64 Q)], Blk.row 3 (Row.ints .i64 T), Blk.cells [SV.own 3 1, SV.own 4 1], Blk.row 133 (Row.ints .i64 R0), Blk.row 133 (Row.ints .i64 (facs L (T.getD (0 + r.toNat + 0) 0) ++ [modG (modG ((P.getD (T.getD (0 + r.toNat + 0) 0).toNat []).getD (0 + a.toNat + 0) 0) - parR L (T.getD (0 + r.toNat + 0) 0) a.toNat (0 :Int) 0 D)]))] else False else False else False else False else False else False else K (.exit 4) [.one (.own 2 1)] [Blk.cells [SV.data (Row.mat .i64 8 D), SV.data (Row.mat .i64 8 P), SV.data (Row.ints .i64 L), SV.data (Row.ints .i64 Q)], Blk.row 3 (Row.ints .i64 T), Blk.cells [SV.own 3 1], Blk.row 133 (Row.ints .i64 R0)]) := by kernel_rfl
theorem exrdl2c (S0 : Spec) (l1 l2 l4 l6 : LoopBy) (a : Int) (n0 : Nat) (n r : Int) (D P : List (List Int)) (L Q T R0 R1 : List Int) (K : Ex → List AV → List Blk → Prop) : evBody (ErdM S0 l1 l2 l4 l6 2) (lb Try.f63 2) [1, 8, 9, 61, 62, 63] [9] [.one (.ptr 0 1 0 0), .one (.int .i64 a), .one (.own 2 1), .one (.sub 1 1 0 n0), .one (.int .i64 n), .one (.int .i64 r)] [.cells [.data (.mat .i64 8 D), .data (.mat .i64 8 P), .data (.ints .i64 L), .data (.ints .i64 Q)], .row 3 (.ints .i64 T), .cells [.own 3 1, .own 4 1], .row 133 (.ints .i64 R0), .row 133 (.ints .i64 R1)] K = ( bif decide (r < n) then bif decide (0 ≤ r) && decide (r < (↑n0 : Int)) then bif decide (0 + r.toNat + 0 < T.length) then (1 ≤ L.length ∧ L.length ≤ 4 ∧ (↑L.length : Int) = (↑L.length : Int) ∧ (0 :Int) = (0 :Int) ∧ 0 ≤ T.getD (0 + r.toNat + 0) 0 ∧ T.getD (0 + r.toNat + 0) (0 :Int) ≤ (3 :Int) ∧ okIx L 12) ∧ bif decide (0 ≤ T.getD (0 + r.toNat + 0) 0) && decide (T.getD (0 + r.toNat + 0) 0 < (↑P.length : Int)) then bif decide (0 ≤ a) && decide (a < 8) then bif decide (0 + a.toNat + 0 < 8) && decide ((T.getD (0 + r.toNat + 0) 0).toNat < P.length) then (L.length ≤ 1000 ∧ D.length ≤ 1000 ∧ 0 ≤ T.getD (0 + r.toNat + 0) 0 ∧ T.getD (0 + r.toNat + 0) (0 :Int) ≤ (1000 :Int) ∧ 0 ≤ a ∧ a ≤ 7 ∧ D.all len8 = true ∧ keptB L 0 D = true) ∧ (0 ≤ modG ((P.getD (T.getD (0 + r.toNat + 0) 0).toNat []).getD (0 + a.toNat + 0) 0) ∧ modG ((P.getD (T.getD (0 + r.toNat + 0) 0).toNat []).getD (0 + a.toNat + 0) 0) < 65537 ∧ 0 ≤ parR L (T.getD (0 + r.toNat + 0) 0) a.toNat (0 :Int) 0 D ∧ parR L (T.getD (0 + r.toNat + 0) 0) a.toNat (0 :Int) 0 D < 65537) ∧ bif decide ((facs L (T.getD (0 + r.toNat + 0) 0) ++ [modG (modG ((P.getD (T.getD (0 + r.toNat + 0) 0).toNat []).getD (0 + a.toNat + 0) 0) - parR L (T.getD (0 + r.toNat + 0) 0) a.toNat (0 :Int) 0 D)]).length * 8 ≤ 140737488355328 ∧ (facs L (T.getD (0 + r.toNat + 0) 0) ++ [modG (modG ((P.getD (T.getD (0 + r.toNat + 0) 0).toNat []).getD (0 + a.toNat + 0) 0) - parR L (T.getD (0 + r.toNat + 0) 0) a.toNat (0 :Int) 0 D)]).length ≤ 140737488355328) then K .normal [.one (.ptr 0 1 0 0), .one (.int .i64 a), .one (.own 2 1), .one (.sub 1 1 0 n0), .one (.int .i64 n), .one (.int .i64 (IntKind.i64.wrap (r + 1)))] [Blk.cells [SV.data (Row.mat .i64 8 D), SV.data (Row.mat .i64 8 P), SV.data (Row.ints .i64 L), SV.data (Row.ints .i64 Q)], Blk.row 3 (Row.ints .i64 T), Blk.cells [SV.own 3 1, SV.own 4 1, SV.own 5 1], Blk.row 133 (Row.ints .i64 R0), Blk.row 133 (Row.ints .i64 R1), Blk.row 133 (Row.ints .i64 (facs L (T.getD (0 + r.toNat + 0) 0) ++ [modG (modG ((P.getD (T.getD (0 + r.toNat + 0) 0).toNat []).getD (0 + a.toNat + 0) 0) - parR L (T.getD (0 + r.toNat + 0) 0) a.toNat (0 :Int) 0 D)]))] else False else False else False else False else False else False else K (.exit 4) [.one (.own 2 1)] [Blk.cells [SV.data (Row.mat .i64 8 D), SV.data (Row.mat .i64 8 P), SV.data (Row.ints .i64 L), SV.data (Row.ints .i64 Q)], Blk.row 3 (Row.ints .i64 T), Blk.cells [SV.own 3 1, SV.own 4 1], Blk.row 133 (Row.ints .i64 R0), Blk.row 133 (Row.ints .i64 R1)]) := by kernel_rfl
theorem exrdl2d (S0 : Spec) (l1 l2 l4 l6 : LoopBy) (a : Int) (n0 : Nat) (n r : Int) (D P : List (List Int)) (L Q T R0 R1 R2 : List Int) (K : Ex → List AV → List Blk → Prop) : evBody (ErdM S0 l1 l2 l4 l6 2) (lb Try.f63 2) [1, 8, 9, 61, 62, 63] [9] [.one (.ptr 0 1 0 0), .one (.int .i64 a), .one (.own 2 1), .one (.sub 1 1 0 n0), .one (.int .i64 n), .one (.int .i64 r)] [.cells [.data (.mat .i64 8 D), .data (.mat .i64 8 P), .data (.ints .i64 L), .data (.ints .i64 Q)], .row 3 (.ints .i64 T), .cells [.own 3 1, .own 4 1, .own 5 1], .row 133 (.ints .i64 R0), .row 133 (.ints .i64 R1), .row 133 (.ints .i64 R2)] K = ( bif decide (r < n) then bif decide (0 ≤ r) && decide (r < (↑n0 : Int)) then bif decide (0 + r.toNat + 0 < T.length) then (1 ≤ L.length ∧ L.length ≤ 4 ∧ (↑L.length : Int) = (↑L.length : Int) ∧ (0 :Int) = (0 :Int) ∧ 0 ≤ T.getD (0 + r.toNat + 0) 0 ∧ T.getD (0 + r.toNat + 0) (0 :Int) ≤ (3 :Int) ∧ okIx L 12) ∧ bif decide (0 ≤ T.getD (0 + r.toNat + 0) 0) && decide (T.getD (0 + r.toNat + 0) 0 < (↑P.length : Int)) then bif decide (0 ≤ a) && decide (a < 8) then bif decide (0 + a.toNat + 0 < 8) && decide ((T.getD (0 + r.toNat + 0) 0).toNat < P.length) then (L.length ≤ 1000 ∧ D.length ≤ 1000 ∧ 0 ≤ T.getD (0 + r.toNat + 0) 0 ∧ T.getD (0 + r.toNat + 0) (0 :Int) ≤ (1000 :Int) ∧ 0 ≤ a ∧ a ≤ 7 ∧ D.all len8 = true ∧ keptB L 0 D = true) ∧ (0 ≤ modG ((P.getD (T.getD (0 + r.toNat + 0) 0).toNat []).getD (0 + a.toNat + 0) 0) ∧ modG ((P.getD (T.getD (0 + r.toNat + 0) 0).toNat []).getD (0 + a.toNat + 0) 0) < 65537 ∧ 0 ≤ parR L (T.getD (0 + r.toNat + 0) 0) a.toNat (0 :Int) 0 D ∧ parR L (T.getD (0 + r.toNat + 0) 0) a.toNat (0 :Int) 0 D < 65537) ∧ bif decide ((facs L (T.getD (0 + r.toNat + 0) 0) ++ [modG (modG ((P.getD (T.getD (0 + r.toNat + 0) 0).toNat []).getD (0 + a.toNat + 0) 0) - parR L (T.getD (0 + r.toNat + 0) 0) a.toNat (0 :Int) 0 D)]).length * 8 ≤ 140737488355328 ∧ (facs L (T.getD (0 + r.toNat + 0) 0) ++ [modG (modG ((P.getD (T.getD (0 + r.toNat + 0) 0).toNat []).getD (0 + a.toNat + 0) 0) - parR L (T.getD (0 + r.toNat + 0) 0) a.toNat (0 :Int) 0 D)]).length ≤ 140737488355328) then K .normal [.one (.ptr 0 1 0 0), .one (.int .i64 a), .one (.own 2 1), .one (.sub 1 1 0 n0), .one (.int .i64 n), .one (.int .i64 (IntKind.i64.wrap (r + 1)))] [Blk.cells [SV.data (Row.mat .i64 8 D), SV.data (Row.mat .i64 8 P), SV.data (Row.ints .i64 L), SV.data (Row.ints .i64 Q)], Blk.row 3 (Row.ints .i64 T), Blk.cells [SV.own 3 1, SV.own 4 1, SV.own 5 1, SV.own 6 1], Blk.row 133 (Row.ints .i64 R0), Blk.row 133 (Row.ints .i64 R1), Blk.row 133 (Row.ints .i64 R2), Blk.row 133 (Row.ints .i64 (facs L (T.getD (0 + r.toNat + 0) 0) ++ [modG (modG ((P.getD (T.getD (0 + r.toNat + 0) 0).toNat []).getD (0 + a.toNat + 0) 0) - parR L (T.getD (0 + r.toNat + 0) 0) a.toNat (0 :Int) 0 D)]))] else False else False else False else False else False else False else K (.exit 4) [.one (.own 2 1)] [Blk.cells [SV.data (Row.mat .i64 8 D), SV.data (Row.mat .i64 8 P), SV.data (Row.ints .i64 L), SV.data (Row.ints .i64 Q)], Blk.row 3 (Row.ints .i64 T), Blk.cells [SV.own 3 1, SV.own 4 1, SV.own 5 1], Blk.row 133 (Row.ints .i64 R0), Blk.row 133 (Row.ints .i64 R1), Blk.row 133 (Row.ints .i64 R2)]) := by kernel_rfl
theorem exrd4l2e (a : Int) (n0 : Nat) (n r : Int) (D P : List (List Int)) (L Q T R0 R1 R2 R3 : List Int) (K : Ex → List AV → List Blk → Prop) : evBody (Erd4 2) (lb Try.f63 2) [1, 8, 9, 61, 62, 63] [9] [.one (.ptr 0 1 0 0), .one (.int .i64 a), .one (.own 2 1), .one (.sub 1 1 0 n0), .one (.int .i64 n), .one (.int .i64 r)] [.cells [.data (.mat .i64 8 D), .data (.mat .i64 8 P), .data (.ints .i64 L), .data (.ints .i64 Q)], .row 3 (.ints .i64 T), .cells [.own 3 1, .own 4 1, .own 5 1, .own 6 1], .row 133 (.ints .i64 R0), .row 133 (.ints .i64 R1), .row 133 (.ints .i64 R2), .row 133 (.ints .i64 R3)] K = ( bif decide (r < n) then bif decide (0 ≤ r) && decide (r < (↑n0 : Int)) then bif decide (0 + r.toNat + 0 < T.length) then (1 ≤ L.length ∧ L.length ≤ 4 ∧ (↑L.length : Int) = (↑L.length : Int) ∧ (0 :Int) = (0 :Int) ∧ 0 ≤ T.getD (0 + r.toNat + 0) 0 ∧ T.getD (0 + r.toNat + 0) (0 :Int) ≤ (3 :Int) ∧ okIx L 12) ∧ bif decide (0 ≤ T.getD (0 + r.toNat + 0) 0) && decide (T.getD (0 + r.toNat + 0) 0 < (↑P.length : Int)) then bif decide (0 ≤ a) && decide (a < 8) then bif decide (0 + a.toNat + 0 < 8) && decide ((T.getD (0 + r.toNat + 0) 0).toNat < P.length) then (L.length ≤ 1000 ∧ D.length ≤ 1000 ∧ 0 ≤ T.getD (0 + r.toNat + 0) 0 ∧ T.getD (0 + r.toNat + 0) (0 :Int) ≤ (1000 :Int) ∧ 0 ≤ a ∧ a ≤ 7 ∧ D.all len8 = true ∧ keptB L 0 D = true) ∧ (0 ≤ modG ((P.getD (T.getD (0 + r.toNat + 0) 0).toNat []).getD (0 + a.toNat + 0) 0) ∧ modG ((P.getD (T.getD (0 + r.toNat + 0) 0).toNat []).getD (0 + a.toNat + 0) 0) < 65537 ∧ 0 ≤ parR L (T.getD (0 + r.toNat + 0) 0) a.toNat (0 :Int) 0 D ∧ parR L (T.getD (0 + r.toNat + 0) 0) a.toNat (0 :Int) 0 D < 65537) ∧ bif decide ((facs L (T.getD (0 + r.toNat + 0) 0) ++ [modG (modG ((P.getD (T.getD (0 + r.toNat + 0) 0).toNat []).getD (0 + a.toNat + 0) 0) - parR L (T.getD (0 + r.toNat + 0) 0) a.toNat (0 :Int) 0 D)]).length * 8 ≤ 140737488355328 ∧ (facs L (T.getD (0 + r.toNat + 0) 0) ++ [modG (modG ((P.getD (T.getD (0 + r.toNat + 0) 0).toNat []).getD (0 + a.toNat + 0) 0) - parR L (T.getD (0 + r.toNat + 0) 0) a.toNat (0 :Int) 0 D)]).length ≤ 140737488355328) then K .normal [.one (.ptr 0 1 0 0), .one (.int .i64 a), .one (.own 2 1), .one (.sub 1 1 0 n0), .one (.int .i64 n), .one (.int .i64 (IntKind.i64.wrap (r + 1)))] [Blk.cells [SV.data (Row.mat .i64 8 D), SV.data (Row.mat .i64 8 P), SV.data (Row.ints .i64 L), SV.data (Row.ints .i64 Q)], Blk.row 3 (Row.ints .i64 T), Blk.cells [SV.own 3 1, SV.own 4 1, SV.own 5 1, SV.own 6 1, SV.own 7 1], Blk.row 133 (Row.ints .i64 R0), Blk.row 133 (Row.ints .i64 R1), Blk.row 133 (Row.ints .i64 R2), Blk.row 133 (Row.ints .i64 R3), Blk.row 133 (Row.ints .i64 (facs L (T.getD (0 + r.toNat + 0) 0) ++ [modG (modG ((P.getD (T.getD (0 + r.toNat + 0) 0).toNat []).getD (0 + a.toNat + 0) 0) - parR L (T.getD (0 + r.toNat + 0) 0) a.toNat (0 :Int) 0 D)]))] else False else False else False else False else False else False else K (.exit 4) [.one (.own 2 1)] [Blk.cells [SV.data (Row.mat .i64 8 D), SV.data (Row.mat .i64 8 P), SV.data (Row.ints .i64 L), SV.data (Row.ints .i64 Q)], Blk.row 3 (Row.ints .i64 T), Blk.cells [SV.own 3 1, SV.own 4 1, SV.own 5 1, SV.own 6 1], Blk.row 133 (Row.ints .i64 R0), Blk.row 133 (Row.ints .i64 R1), Blk.row 133 (Row.ints .i64 R2), Blk.row 133 (Row.ints .i64 R3)]) := by kernel_rfl
end Go.Ev

namespace Go.Ev
open Go Go.Proofs
attribute [local irreducible] evFn evBody evRound
set_option maxRecDepth 20000
set_option linter.unusedVariables false
set_option linter.unusedSimpArgs false
theorem keptJ_step {Q : List Int} {j n : Int} (h : j < n) : keptJ Q j (n - j).toNat = bif memB j Q then keptJ Q (j + 1) (n - (j + 1)).toNat else j :: keptJ Q (j + 1) (n - (j + 1)).toNat := by
  rw [show (n - j).toNat = (n - (j + 1)).toNat + 1 by omega]; rfl
theorem ix_get {L : List Int} {n i : Nat} (h : okIx L n) (hi : i < L.length) : 0 ≤ L.getD i 0 ∧ L.getD i 0 < n := h _ (getD_mem hi)
theorem facs_step {L : List Int} {i : Int} (j : Int) (h0 : 0 ≤ i) (h : i < L.length) : facs (L.drop i.toNat) j = facG (L.getD i.toNat 0) j :: facs (L.drop (i + 1).toNat) j := by
  rw [drop_step 0 (by omega), show (i + 1).toNat = i.toNat + 1 by omega]; rfl
theorem set8_ok {O : List (List Int)} {x a : Nat} {v : Int} (h : O.all len8 = true) (hx : x < O.length) : (O.set x ((O.getD x []).set a v)).all len8 = true := by
  obtain ⟨xs, _, h8, _, he⟩ := row_some hx h
  refine all_set h ?_
  rw [he]; unfold len8; rw [List.length_set, h8]; rfl
theorem put_step {O : List (List Int)} {L V : List Int} {i : Int} (a : Nat) (h0 : 0 ≤ i) (hL : i < L.length) (hV : i < V.length) : putF O a (L.drop i.toNat) (V.drop i.toNat) = putF (O.set (L.getD i.toNat 0).toNat ((O.getD (L.getD i.toNat 0).toNat []).set a (V.getD i.toNat 0 - 32768))) a (L.drop (i + 1).toNat) (V.drop (i + 1).toNat) := by
  rw [drop_step (l := L) 0 (by omega), drop_step (l := V) 0 (by omega), show (i + 1).toNat = i.toNat + 1 by omega]; rfl
theorem parX_step {O : List (List Int)} {j : Int} {ps : List Int} {s : Int} (h0 : 0 ≤ s) (h : s < 8) : parX O j ps (8 - s).toNat s.toNat = (parR [] j s.toNat 0 0 O == ps.getD s.toNat 0 && parX O j ps (8 - (s + 1)).toNat (s + 1).toNat) := by
  rw [show (8 - s).toNat = (8 - (s + 1)).toNat + 1 by omega, show (s + 1).toNat = s.toNat + 1 by omega]; rfl
theorem parX_fr (O P : List (List Int)) (j : Int) : ∀ f s, parX O j (P.getD j.toNat []) f s = parFr O P j f s
  | 0, _ => rfl
  | f + 1, s => by unfold parX parFr parAt; rw [parX_fr O P j f (s + 1)]
theorem parR_rngL (ws : List Int) (j : Int) (a : Nat) : ∀ (l : List (List Int)) (out i : Int), (0 ≤ out ∧ out < 65537) → 0 ≤ parR ws j a out i l ∧ parR ws j a out i l < 65537
  | [], out, i, h => h
  | xs :: l, out, i, h => by
    unfold parR
    refine parR_rngL ws j a l _ _ ?_
    cases memB i ws with
    | true => exact h
    | false => exact modG_range _
theorem facs_len (L : List Int) (j : Int) : (facs L j).length = L.length := List.length_map _
theorem eqR_len (L : List Int) (j z : Int) : (facs L j ++ [z]).length = L.length + 1 := by rw [List.length_append, facs_len]; rfl
theorem eqR_res (D P : List (List Int)) (L : List Int) (j : Int) (a : Nat) : resRow (eqR D P L j a) = true := by
  unfold resRow eqR
  rw [List.all_append, Bool.and_eq_true]
  refine ⟨List.all_eq_true.2 fun z hz => ?_, ?_⟩
  · obtain ⟨i, _, rfl⟩ := List.mem_map.1 hz
    exact resG_iff.2 (facG_range i j)
  · rw [List.all_cons, resG_iff.2 (show 0 ≤ rhsF D P L j a ∧ rhsF D P L j a < 65537 from modG_range _)]; rfl
theorem eqs_okSol {n : Nat} {D P : List (List Int)} {L T : List Int} (h : okRs n D P L T) (a : Nat) : okSol (eqsF D P L T a) := by
  have hl : (eqsF D P L T a).length = n := by
    unfold eqsF
    rw [List.length_map, List.length_take, h.ln]
    have := h.kn
    omega
  intro R hR
  rw [hl]
  obtain ⟨j, _, rfl⟩ := List.mem_map.1 hR
  exact ⟨by unfold eqR; rw [eqR_len, h.ln], eqR_res D P L j a⟩
theorem solV_len {rows : List (List Int)} (h : okSol rows) : (solV rows).length = rows.length := by
  unfold solV
  rw [List.length_map, (solF_ok rows.length 0 rows h (by omega)).2]
theorem solV_res {rows : List (List Int)} (h : okSol rows) : resRow (solV rows) = true := by
  unfold solV resRow
  rw [List.all_eq_true]
  intro z hz
  obtain ⟨R, hR, rfl⟩ := List.mem_map.1 hz
  have := (solF_ok rows.length 0 rows h (by omega)).1 R hR
  exact resG_iff.2 (res_get this.2 _)
theorem put_out {D O : List (List Int)} : ∀ (L V : List Int) (a : Nat) (O : List (List Int)), okOut D O → okIx L D.length → okOut D (putF O a L V)
  | [], _, _, _, h, _ => by simpa [putF] using h
  | _ :: _, [], _, _, h, _ => by simpa [putF] using h
  | i :: L, v :: V, a, O, h, hi => by
    unfold putF
    have h0 := hi i (List.mem_cons_self ..)
    have hl := h.1
    exact put_out (O := O) L V a _ ⟨by rw [List.length_set]; exact hl, set8_ok h.2 (by omega)⟩ (fun x hx => hi x (List.mem_cons_of_mem _ hx))
theorem resF_step {D P O : List (List Int)} {L T : List Int} {a : Int} (h0 : 0 ≤ a) (h : a < 8) : resF D P L T (8 - a).toNat a.toNat O = resF D P L T (8 - (a + 1)).toNat (a + 1).toNat (putF O a.toNat L (solV (eqsF D P L T a.toNat))) := by
  rw [show (8 - a).toNat = (8 - (a + 1)).toNat + 1 by omega, show (a + 1).toNat = a.toNat + 1 by omega]; rfl
theorem ix12 {L : List Int} {n : Nat} (h : okIx L n) (hn : n ≤ 12) : okIx L 12 := fun x hx => by have := h x hx; omega
theorem and2 {a b : Bool} (h1 : a = true) (h2 : b = true) : (a && b) = true := by rw [h1, h2]; rfl
theorem take_get : ∀ (n : Nat) (T : List Int), n ≤ T.length → T.take n = (List.range n).map fun i => T.getD i 0
  | 0, T, _ => by simp
  | n + 1, [], h => by simp at h
  | n + 1, t :: T, h => by
    rw [List.take_succ_cons, take_get n T (by simpa using h), List.range_succ_eq_map, List.map_cons, List.map_map]
    rfl
theorem eqs_list {n : Nat} {D P : List (List Int)} {L T : List Int} (h : okRs n D P L T) (a : Nat) : eqsF D P L T a = (List.range n).map fun i => eqR D P L (T.getD i 0) a := by
  unfold eqsF
  rw [h.ln, take_get n T h.kn, List.map_map]
  rfl
theorem lokrd_0 {S0 : Spec} {l1 l2 l4 l6 : LoopBy} (hS : SpecOK Try.prog 118 S0) : LoopOK (ErdM S0 l1 l2 l4 l6 1) (lb Try.f63 0) [1, 5, 31, 32] [5] kpL := by
  refine loopOK (.cons okgro (.cons ok113 (.cons okclo (.cons ok115 (.cons ok116 (.cons ok100 (.cons okmin (.cons hS (.cons ok82 .nil))))))))) (noInner (by kernel_rfl)) (fun vs σ => match vs, σ with
    | [.one (.ptr 0 1 0 0), .one .nil, .one (.int .i64 n), .one (.int .i64 j)], [.cells [.data (.mat .i64 8 _), .data (.mat .i64 8 _), .data (.ints .i64 _), .data (.ints .i64 _)]] => (n - j).toNat
    | [.one (.ptr 0 1 0 0), .one (.own 1 1), .one (.int .i64 n), .one (.int .i64 j)], [.cells [.data (.mat .i64 8 _), .data (.mat .i64 8 _), .data (.ints .i64 _), .data (.ints .i64 _)], .row 3 (.ints .i64 _)] => (n - j).toNat
    | _, _ => 0) fun vs σ k h => ?_
  unfold kpL at h
  split at h
  rotate_right
  · exact h.elim
  · rename_i n j D P L Q
    rw [exrdl0a _ _ _ _ _ n j D P L Q _]
    obtain ⟨⟨hg, rfl, h2, h3⟩, h⟩ := h
    by_cases hj : j < (P.length : Int)
    · have hp := hg.2.1
      have hw : IntKind.i64.wrap (j + 1) = j + 1 := wrap_id (by omega) (by omega)
      have hq := hg.2.2.2.1
      rw [decide_eq_true hj, cond_true, hw]
      refine And.intro (by omega) ?_
      rw [keptJ_step hj] at h
      cases hm : memB j Q with
      | true =>
        rw [hm] at h
        exact ⟨⟨⟨hg, rfl, by omega, by omega⟩, h⟩, by show ((P.length : Int) - (j + 1)).toNat < ((P.length : Int) - j).toNat; omega⟩
      | false =>
        rw [hm, cond_false, List.isEmpty_cons, cond_false] at h
        exact ⟨⟨⟨hg, rfl, by omega, by omega, by simp; omega⟩, h⟩, by show ((P.length : Int) - (j + 1)).toNat < ((P.length : Int) - j).toNat; omega⟩
    · rw [decide_eq_false hj]
      rw [show ((P.length : Int) - j).toNat = 0 by omega] at h
      exact h
  · rename_i n j D P L Q S
    rw [exrdl0b _ _ _ _ _ n j D P L Q S _]
    obtain ⟨⟨hg, rfl, h2, h3, h4⟩, h⟩ := h
    by_cases hj : j < (P.length : Int)
    · have hp := hg.2.1
      have hw : IntKind.i64.wrap (j + 1) = j + 1 := wrap_id (by omega) (by omega)
      have hq := hg.2.2.2.1
      rw [decide_eq_true hj, cond_true, hw]
      refine And.intro (by omega) ?_
      rw [keptJ_step hj] at h
      cases hm : memB j Q with
      | true =>
        rw [hm] at h
        exact ⟨⟨⟨hg, rfl, by omega, by omega, by omega⟩, h⟩, by show ((P.length : Int) - (j + 1)).toNat < ((P.length : Int) - j).toNat; omega⟩
      | false =>
        rw [hm] at h
        have hl : (S ++ [j]).length = S.length + 1 := by simp
        rw [Bool.not_false, cond_true, hl, decide_eq_true (by omega), cond_true]
        exact ⟨⟨⟨hg, rfl, by omega, by omega, by rw [hl]; omega⟩, by rw [List.append_assoc]; exact h⟩, by show ((P.length : Int) - (j + 1)).toNat < ((P.length : Int) - j).toNat; omega⟩
    · rw [decide_eq_false hj]
      rw [show ((P.length : Int) - j).toNat = 0 by omega] at h
      unfold keptJ at h
      rw [List.append_nil] at h
      exact h
theorem lokrd_3 {S0 : Spec} {l1 l2 l4 l6 : LoopBy} (hS : SpecOK Try.prog 118 S0) : LoopOK (ErdM S0 l1 l2 l4 l6 0) (lb Try.f63 3) [11, 12, 68, 69, 70] [12] rdD := by
  refine loopOK (.cons okgro (.cons ok113 (.cons okclo (.cons ok115 (.cons ok116 (.cons ok100 (.cons okmin (.cons hS (.cons ok82 .nil))))))))) (noInner (by kernel_rfl)) (fun vs σ => match vs, σ with
    | [.one (.int .i64 _), .one .nil, .one (.data (.ints .i64 _)), .one (.int .i64 n), .one (.int .i64 i)], [] => (n - i).toNat
    | [.one (.int .i64 _), .one (.own 0 1), .one (.data (.ints .i64 _)), .one (.int .i64 n), .one (.int .i64 i)], [.row 133 (.ints .i64 _)] => (n - i).toNat
    | _, _ => 0) fun vs σ k h => ?_
  unfold rdD at h
  split at h
  rotate_right
  · exact h.elim
  · rename_i j L n i
    rw [exrdl3a _ _ _ _ _ j L n i _]
    obtain ⟨⟨h1, h2, rfl, hi0, h5, h6, h7⟩, h⟩ := h
    have hw : IntKind.i64.wrap (i + 1) = i + 1 := wrap_id (by omega) (by omega)
    have e0 : L.getD (i.toNat + 0) 0 = L.getD i.toNat 0 := rfl
    have d1 : decide (i < (L.length : Int)) = true := decide_eq_true (by omega)
    have d2 : decide (0 ≤ i) = true := decide_eq_true (by omega)
    have d3 : decide (i.toNat + 0 < L.length) = true := decide_eq_true (by omega)
    obtain ⟨x1, x2⟩ := ix_get h7 (show i.toNat < L.length by omega)
    rw [e0, hw]
    simp only [d1, d2, d3, Bool.and_self, cond_true]
    have st := facs_step (L := L) j (show 0 ≤ i by omega) (by omega)
    have e : L.drop i.toNat = L := by rw [hi0]; rfl
    rw [e] at st
    refine And.intro ⟨x1, by omega, by omega, by omega⟩ ⟨⟨⟨h2, rfl, by omega, h5, h6, by simp; omega, by omega, h7⟩, ?_⟩, by show ((L.length : Int) - (i + 1)).toNat < ((L.length : Int) - i).toNat; omega⟩
    rw [st] at h
    exact h
  · rename_i j L n i R
    rw [exrdl3b _ _ _ _ _ j L n i R _]
    obtain ⟨⟨h2, rfl, hi0, h5, h6, hR, h3, h7⟩, h⟩ := h
    by_cases hi : i < (L.length : Int)
    · have hw : IntKind.i64.wrap (i + 1) = i + 1 := wrap_id (by omega) (by omega)
      have e0 : L.getD (i.toNat + 0) 0 = L.getD i.toNat 0 := rfl
      have d1 : decide (i < (L.length : Int)) = true := decide_eq_true hi
      have d2 : decide (0 ≤ i) = true := decide_eq_true hi0
      have d3 : decide (i.toNat + 0 < L.length) = true := decide_eq_true (by omega)
      obtain ⟨x1, x2⟩ := ix_get h7 (show i.toNat < L.length by omega)
      have hl : (R ++ [facG (L.getD i.toNat 0) j]).length = R.length + 1 := by simp
      rw [e0, hw, hl, decide_eq_true (show (R.length + 1) * 8 ≤ 140737488355328 ∧ R.length + 1 ≤ 140737488355328 by omega)]
      simp only [d1, d2, d3, Bool.and_self, cond_true]
      refine And.intro ⟨x1, by omega, by omega, by omega⟩ ⟨⟨⟨h2, rfl, by omega, h5, h6, by rw [hl]; omega, by omega, h7⟩, ?_⟩, by show ((L.length : Int) - (i + 1)).toNat < ((L.length : Int) - i).toNat; omega⟩
      rw [facs_step j hi0 hi] at h
      rw [List.append_assoc]
      exact h
    · rw [decide_eq_false hi]
      rw [List.drop_eq_nil_of_le (by omega)] at h
      unfold facs at h
      rw [List.map_nil, List.append_nil] at h
      exact h
theorem lokrd_4 {S0 : Spec} {l1 l2 l4 l6 : LoopBy} (hS : SpecOK Try.prog 118 S0) : LoopOK (ErdM S0 l1 l2 l4 l6 3) (lb Try.f63 4) [1, 7, 8, 106, 107, 108] [] rdE := by
  refine loopOK (.cons okgro (.cons ok113 (.cons okclo (.cons ok115 (.cons ok116 (.cons ok100 (.cons okmin (.cons hS (.cons ok82 .nil))))))))) (noInner (by kernel_rfl)) (fun vs σ => match vs, σ with
    | [.one (.ptr 0 1 0 0), .one (.own 1 8), .one (.int .i64 _), .one (.own 2 1), .one (.int .i64 n), .one (.int .i64 i)], [.cells [.data (.mat .i64 8 _), .data (.mat .i64 8 _), .data (.ints .i64 _), .data (.ints .i64 _)], .row 35 (.mat .i64 8 _), .row 133 (.ints .i64 _)] => (n - i).toNat
    | _, _ => 0) fun vs σ k h => ?_
  unfold rdE at h
  split at h
  rotate_right
  · exact h.elim
  · rename_i a n i D P L Q O V
    rw [exrdl4a _ _ _ _ _ a n i D P L Q O V _]
    obtain ⟨⟨h8, hix, rfl, hvl, hv4, hvr, ha0, ha1, hi0, hi1⟩, h⟩ := h
    by_cases hi : i < (V.length : Int)
    · have hw : IntKind.i64.wrap (i + 1) = i + 1 := wrap_id (by omega) (by omega)
      obtain ⟨x1, x2⟩ := ix_get hix (show i.toNat < L.length by omega)
      obtain ⟨v1, v2⟩ := res_get hvr i.toNat
      have hw2 : IntKind.i64.wrap (V.getD i.toNat 0 - 32768) = V.getD i.toNat 0 - 32768 := wrap_id (by omega) (by omega)
      have e0 : L.getD (i.toNat + 0) 0 = L.getD i.toNat 0 := rfl
      have e1 : V.getD (i.toNat + 0) 0 = V.getD i.toNat 0 := rfl
      have e2 : 0 + a.toNat = a.toNat := by omega
      have hxl : (L.getD i.toNat 0).toNat < O.length := by omega
      obtain ⟨xs, _, hx8, _, he⟩ := row_some hxl h8
      have d1 : decide (i < (V.length : Int)) = true := decide_eq_true hi
      have d2 : decide (0 ≤ i) = true := decide_eq_true hi0
      have d3 : decide (i.toNat + 0 < V.length) = true := decide_eq_true (by omega)
      have d4 : decide (i < (L.length : Int)) = true := decide_eq_true (by omega)
      have d5 : decide (i.toNat + 0 < L.length) = true := decide_eq_true (by omega)
      have d6 : decide (0 ≤ L.getD i.toNat 0) = true := decide_eq_true x1
      have d7 : decide (L.getD i.toNat 0 < (O.length : Int)) = true := decide_eq_true x2
      have d8 : decide (0 ≤ a) = true := decide_eq_true ha0
      have d9 : decide (a < 8) = true := decide_eq_true (by omega)
      have d10 : decide (0 + a.toNat < 8) = true := decide_eq_true (by omega)
      have d11 : decide ((L.getD i.toNat 0).toNat < O.length) = true := decide_eq_true hxl
      have d12 : decide ((O.getD (L.getD i.toNat 0).toNat []).length = 8) = true := decide_eq_true (by rw [he]; exact hx8)
      rw [e0, e1, hw, hw2]
      simp only [d1, d2, d3, d4, d5, d6, d7, d8, d9, d10, d11, d12, Bool.and_self, cond_true]
      rw [e2]
      refine ⟨⟨⟨set8_ok h8 hxl, by rw [List.length_set]; exact hix, rfl, hvl, hv4, hvr, ha0, ha1, by omega, by omega⟩, ?_⟩, by show ((V.length : Int) - (i + 1)).toNat < ((V.length : Int) - i).toNat; omega⟩
      rw [put_step a.toNat hi0 (by omega) hi] at h
      exact h
    · rw [decide_eq_false hi]
      have hd : ∀ l : List Int, l.length = V.length → l.drop i.toNat = [] := fun l hl => List.drop_eq_nil_of_le (by omega)
      rw [hd L hvl.symm, hd V rfl] at h
      exact h
theorem lokrd_5 {S0 : Spec} {l1 l2 l4 l6 : LoopBy} (hS : SpecOK Try.prog 118 S0) : LoopOK (ErdM S0 l1 l2 l4 l6 1) (lb Try.f63 5) [7, 127, 128, 129] [2, 3] rdF := by
  refine loopOK (.cons okgro (.cons ok113 (.cons okclo (.cons ok115 (.cons ok116 (.cons ok100 (.cons okmin (.cons hS (.cons ok82 .nil))))))))) (noInner (by kernel_rfl)) (fun vs σ => match vs, σ with
    | [.one (.own 0 8), .one (.data (.ints .i64 _)), .one (.int .i64 n), .one (.int .i64 i)], [.row 35 (.mat .i64 8 _)] => (n - i).toNat
    | _, _ => 0) fun vs σ k h => ?_
  unfold rdF at h
  split at h
  rotate_right
  · exact h.elim
  · rename_i L n i O
    rw [exrdl5a _ _ _ _ _ L n i O _]
    obtain ⟨⟨h8, hix, rfl, hl4, hi0⟩, h⟩ := h
    by_cases hi : i < (L.length : Int)
    · have hw : IntKind.i64.wrap (i + 1) = i + 1 := wrap_id (by omega) (by omega)
      obtain ⟨x1, x2⟩ := ix_get hix (show i.toNat < L.length by omega)
      have e0 : L.getD (i.toNat + 0) 0 = L.getD i.toNat 0 := rfl
      have hxl : (L.getD i.toNat 0).toNat < O.length := by omega
      have d1 : decide (i < (L.length : Int)) = true := decide_eq_true hi
      have d2 : decide (0 ≤ i) = true := decide_eq_true hi0
      have d5 : decide (i.toNat + 0 < L.length) = true := decide_eq_true (by omega)
      have d6 : decide (0 ≤ L.getD i.toNat 0) = true := decide_eq_true x1
      have d7 : decide (L.getD i.toNat 0 < (O.length : Int)) = true := decide_eq_true x2
      have d11 : decide ((L.getD i.toNat 0).toNat < O.length) = true := decide_eq_true hxl
      rw [e0, hw, eta_r8 h8 hxl]
      simp only [d1, d2, d5, d6, d7, d11, show decide (7 < 8) = true by decide, Bool.and_self, cond_true]
      rw [drop_step 0 (by omega : i.toNat < L.length), List.all_cons, show i.toNat + 1 = (i + 1).toNat by omega] at h
      unfold rowOk okRow at h
      cases hb : (O.getD (L.getD i.toNat 0).toNat []).all sampleG with
      | true => rw [hb] at h; exact ⟨⟨⟨h8, hix, rfl, hl4, by omega⟩, h⟩, by show ((L.length : Int) - (i + 1)).toNat < ((L.length : Int) - i).toNat; omega⟩
      | false => rw [hb] at h; exact h
    · rw [decide_eq_false hi]
      rw [List.drop_eq_nil_of_le (by omega)] at h
      exact h
theorem lokrd_7 {S0 : Spec} {l1 l2 l4 l6 : LoopBy} (hS : SpecOK Try.prog 118 S0) : LoopOK (ErdM S0 l1 l2 l4 l6 1) (lb Try.f63 7) [7, 21, 150, 151] [2, 3] rdH := by
  refine loopOK (.cons okgro (.cons ok113 (.cons okclo (.cons ok115 (.cons ok116 (.cons ok100 (.cons okmin (.cons hS (.cons ok82 .nil))))))))) (noInner (by kernel_rfl)) (fun vs σ => match vs, σ with
    | [.one (.own 0 8), .one (.int .i64 _), .agg [.int .i64 _, .int .i64 _, .int .i64 _, .int .i64 _, .int .i64 _, .int .i64 _, .int .i64 _, .int .i64 _], .one (.int .i64 s)], [.row 35 (.mat .i64 8 _)] => (8 - s).toNat
    | _, _ => 0) fun vs σ k h => ?_
  unfold rdH at h
  split at h
  rotate_right
  · exact h.elim
  · rename_i j x0 x1 x2 x3 x4 x5 x6 x7 s O
    rw [exrdl7a _ _ _ _ _ j x0 x1 x2 x3 x4 x5 x6 x7 s O _]
    obtain ⟨⟨ho, h8, hok, hj0, hj1, hs0, hs1⟩, h⟩ := h
    by_cases hs : s < 8
    · have hw : IntKind.i64.wrap (s + 1) = s + 1 := wrap_id (by omega) (by omega)
      have d1 : decide (s < 8) = true := decide_eq_true hs
      have d2 : decide (0 ≤ s) = true := decide_eq_true hs0
      rw [hw]
      simp only [d1, d2, Bool.and_self, cond_true]
      refine And.intro ⟨by omega, by omega, by omega, by omega, hs0, by omega, h8, kept_all hok 0⟩ ?_
      rw [parX_step hs0 hs] at h
      cases hb : parR [] j s.toNat 0 0 O == [x0, x1, x2, x3, x4, x5, x6, x7].getD s.toNat 0 with
      | true =>
        rw [hb, Bool.true_and] at h
        rw [bne, hb]
        exact ⟨⟨⟨ho, h8, hok, hj0, hj1, by omega, by omega⟩, h⟩, by show (8 - (s + 1)).toNat < (8 - s).toNat; omega⟩
      | false =>
        rw [hb] at h
        rw [bne, hb]
        exact h
    · rw [decide_eq_false hs]
      rw [show (8 - s).toNat = 0 by omega] at h
      exact h
theorem lokrd_6 {S0 : Spec} {l1 l2 l4 l6 : LoopBy} (hS : SpecOK Try.prog 118 S0) : LoopOK (ErdM S0 l1 l2 l4 l6 3) (lb Try.f63 6) [1, 7, 140, 141, 142] [2, 3] rdG := by
  refine loopOK (.cons okgro (.cons ok113 (.cons okclo (.cons ok115 (.cons ok116 (.cons ok100 (.cons okmin (.cons hS (.cons ok82 .nil))))))))) (fun b' hb => by
    have hl : loopsOf (lb Try.f63 6) = [lb Try.f63 7] := by kernel_rfl
    rw [hl] at hb
    simp only [List.mem_cons, List.not_mem_nil, or_false] at hb
    subst hb
    exact loopHyp_frm (E' := ErdM S0 l1 l2 l4 l6 1) (key := 46) (m := 1) (by kernel_rfl) rfl rfl (lokrd_7 hS)) (fun vs σ => match vs, σ with
    | [.one (.ptr 0 1 0 0), .one (.own 1 8), .one (.own 2 1), .one (.int .i64 n), .one (.int .i64 i)], [.cells [.data (.mat .i64 8 _), .data (.mat .i64 8 _), .data (.ints .i64 _), .data (.ints .i64 _)], .row 35 (.mat .i64 8 _), .row 3 (.ints .i64 _)] => (n - i).toNat
    | _, _ => 0) fun vs σ k h => ?_
  unfold rdG at h
  split at h
  rotate_right
  · exact h.elim
  · rename_i n i D P L Q O T
    rw [exrdl6a _ _ _ _ _ n i D P L Q O T _]
    obtain ⟨⟨ho, h8, hok, p8, p4, hix, rfl, ht4, hi0⟩, h⟩ := h
    by_cases hi : i < (T.length : Int)
    · have hw : IntKind.i64.wrap (i + 1) = i + 1 := wrap_id (by omega) (by omega)
      obtain ⟨x1, x2⟩ := ix_get hix (show i.toNat < T.length by omega)
      have e0 : T.getD (i.toNat + 0) 0 = T.getD i.toNat 0 := rfl
      have hxl : (T.getD i.toNat 0).toNat < P.length := by omega
      have d1 : decide (i < (T.length : Int)) = true := decide_eq_true hi
      have d2 : decide (0 ≤ i) = true := decide_eq_true hi0
      have d5 : decide (i.toNat + 0 < T.length) = true := decide_eq_true (by omega)
      have d6 : decide (0 ≤ T.getD i.toNat 0) = true := decide_eq_true x1
      have d7 : decide (T.getD i.toNat 0 < (P.length : Int)) = true := decide_eq_true x2
      have d11 : decide ((T.getD i.toNat 0).toNat < P.length) = true := decide_eq_true hxl
      rw [e0, hw, eta_r8 p8 hxl]
      simp only [d1, d2, d5, d6, d7, d11, show decide (7 < 8) = true by decide, Bool.and_self, cond_true]
      refine And.intro ⟨ho, h8, hok, x1, by omega, by decide, by decide⟩ ?_
      rw [drop_step 0 (by omega : i.toNat < T.length), List.all_cons, show i.toNat + 1 = (i + 1).toNat by omega] at h
      have e3 : parX O (T.getD i.toNat 0) (P.getD (T.getD i.toNat 0).toNat []) 8 0 = parOk O P (T.getD i.toNat 0) := parX_fr O P _ 8 0
      rw [e3]
      cases hb : parOk O P (T.getD i.toNat 0) with
      | true => rw [hb] at h; exact ⟨⟨⟨ho, h8, hok, p8, p4, hix, rfl, ht4, by omega⟩, h⟩, by show ((T.length : Int) - (i + 1)).toNat < ((T.length : Int) - i).toNat; omega⟩
      | false => rw [hb] at h; exact h
    · rw [decide_eq_false hi]
      rw [List.drop_eq_nil_of_le (by omega)] at h
      exact h
theorem lokrd1_2 : LoopOK (Erd1 2) (lb Try.f63 2) [1, 8, 9, 61, 62, 63] [9] rdC1 := by
  refine loopOK (.cons okgro (.cons ok113 (.cons okclo (.cons ok115 (.cons ok116 (.cons ok100 (.cons okmin (.cons oksl1 (.cons ok82 .nil))))))))) (fun b' hb => by
    have hl : loopsOf (lb Try.f63 2) = [lb Try.f63 3] := by kernel_rfl
    rw [hl] at hb
    simp only [List.mem_cons, List.not_mem_nil, or_false] at hb
    subst hb
    exact loopHyp_frm (E' := Erd1 0) (key := 23) (m := 0) (by kernel_rfl) rfl rfl (lokrd_3 oksl1)) (fun vs σ => match vs, σ with
    | [.one (.ptr 0 1 0 0), .one (.int .i64 _), .one .nil, .one (.sub 1 1 0 _), .one (.int .i64 n), .one (.int .i64 r)], [.cells [.data (.mat .i64 8 _), .data (.mat .i64 8 _), .data (.ints .i64 _), .data (.ints .i64 _)], .row 3 (.ints .i64 _)] => (n - r).toNat
    | [.one (.ptr 0 1 0 0), .one (.int .i64 _), .one (.own 2 1), .one (.sub 1 1 0 _), .one (.int .i64 n), .one (.int .i64 r)], [.cells [.data (.mat .i64 8 _), .data (.mat .i64 8 _), .data (.ints .i64 _), .data (.ints .i64 _)], .row 3 (.ints .i64 _), .cells [.own 3 1], .row 133 (.ints .i64 _)] => (n - r).toNat
    | _, _ => 0) fun vs σ k h => ?_
  unfold rdC1 at h
  split at h
  rotate_right
  · exact h.elim
  · rename_i a n0 n r D P L Q T
    rw [exrdl2a _ _ _ _ _ a n0 n r D P L Q T _]
    obtain ⟨⟨rfl, hr, ha0, ha1, rfl, rfl⟩, h⟩ := h
    have hln := hr.ln
    have hkn := hr.kn
    have hd1 := hr.d1
    have hp1 := hr.p1
    obtain ⟨t1, t2⟩ := ix_get hr.ki (show 0 < T.length by omega)
    have er : (0 : Nat) + (0 : Int).toNat + 0 = 0 := rfl
    have ea : 0 + a.toNat + 0 = a.toNat := by omega
    have hw : IntKind.i64.wrap ((0 : Int) + 1) = 1 := by decide
    rw [er, ea, hw]
    refine condI (by decide) (condI (by decide) (condI (decide_eq_true (by omega)) (And.intro ⟨by omega, by omega, rfl, rfl, t1, by omega, ix12 hr.li hd1⟩ (condI (and2 (decide_eq_true t1) (decide_eq_true t2)) (condI (and2 (decide_eq_true ha0) (decide_eq_true (by omega))) (condI (and2 (decide_eq_true (by omega)) (decide_eq_true (by omega))) (And.intro ⟨by omega, by omega, t1, by omega, ha0, ha1, hr.d8, hr.kb⟩ (And.intro ⟨(modG_range _).1, (modG_range _).2, (parR_rngL _ _ _ _ _ _ (by omega)).1, (parR_rngL _ _ _ _ _ _ (by omega)).2⟩ (condI (by rw [eqR_len, hln]; decide) ?_))))))))) 
    exact ⟨⟨⟨rfl, hr, ha0, ha1, rfl, rfl, rfl⟩, h⟩, by show ((1 : Int) - 1).toNat < ((1 : Int) - 0).toNat; decide⟩
  · rename_i a n0 n r D P L Q T R0
    rw [exrd1l2b a n0 n r D P L Q T R0 _]
    obtain ⟨⟨rfl, hr, ha0, ha1, rfl, rfl, rfl⟩, h⟩ := h
    exact h
theorem lokrd1_1 : LoopOK (Erd1 3) (lb Try.f63 1) [1, 5, 7, 54] [] rdB1 := by
  refine loopOK (.cons okgro (.cons ok113 (.cons okclo (.cons ok115 (.cons ok116 (.cons ok100 (.cons okmin (.cons oksl1 (.cons ok82 .nil))))))))) (fun b' hb => by
    have hl : loopsOf (lb Try.f63 1) = [lb Try.f63 2, lb Try.f63 3, lb Try.f63 4] := by kernel_rfl
    rw [hl] at hb
    simp only [List.mem_cons, List.not_mem_nil, or_false] at hb
    rcases hb with rfl | rfl | rfl
    · exact loopHyp_frm (E' := Erd1 2) (key := 19) (m := 2) (by kernel_rfl) rfl rfl lokrd1_2
    · exact loopHyp_frm (E' := Erd1 0) (key := 23) (m := 0) (by kernel_rfl) rfl rfl (lokrd_3 oksl1)
    · exact loopHyp_frm (E' := Erd1 3) (key := 31) (m := 3) (by kernel_rfl) rfl rfl (lokrd_4 oksl1)) (fun vs σ => match vs, σ with
    | [.one (.ptr 0 1 0 0), .one (.own 1 1), .one (.own 2 8), .one (.int .i64 a)], [.cells [.data (.mat .i64 8 _), .data (.mat .i64 8 _), .data (.ints .i64 _), .data (.ints .i64 _)], .row 3 (.ints .i64 _), .row 35 (.mat .i64 8 _)] => (8 - a).toNat
    | _, _ => 0) fun vs σ k h => ?_
  unfold rdB1 at h
  split at h
  rotate_right
  · exact h.elim
  · rename_i a D P L Q T O
    rw [exrd1l1a a D P L Q T O _]
    obtain ⟨⟨hr, ho, ha0, ha1⟩, h⟩ := h
    by_cases ha : a < 8
    · have hw : IntKind.i64.wrap (a + 1) = a + 1 := wrap_id (by omega) (by omega)
      have hln := hr.ln
      have hkn := hr.kn
      have hok := eqs_okSol hr a.toNat
      have hv := solV_len hok
      have hv2 := solV_res hok
      rw [resF_step ha0 ha] at h
      have el : eqsF D P L T a.toNat = [eqR D P L (T.getD 0 0) a.toNat] := eqs_list hr a.toNat
      rw [el] at hok hv hv2 h
      rw [decide_eq_true ha, cond_true, hw]
      have hv3 : (solV [eqR D P L (T.getD 0 0) a.toNat]).length = 1 := hv
      refine condI (and2 (decide_eq_true (by omega)) (and2 (decide_eq_true (by omega)) (decide_eq_true (by omega)))) (And.intro ⟨by omega, hr, ha0, by omega, by omega, rfl⟩ (And.intro hok fun X0 => And.intro ⟨ho.2, by rw [ho.1]; exact hr.li, rfl, by omega, by omega, hv2, ha0, by omega, by omega, by omega⟩ ?_))
      exact ⟨⟨⟨hr, put_out (O := O) L _ a.toNat O ho hr.li, by omega, by omega⟩, h⟩, by show (8 - (a + 1)).toNat < (8 - a).toNat; omega⟩
    · rw [decide_eq_false ha]
      rw [show (8 - a).toNat = 0 by omega] at h
      exact h
theorem lokrd2_2 : LoopOK (Erd2 2) (lb Try.f63 2) [1, 8, 9, 61, 62, 63] [9] rdC2 := by
  refine loopOK (.cons okgro (.cons ok113 (.cons okclo (.cons ok115 (.cons ok116 (.cons ok100 (.cons okmin (.cons oksl2 (.cons ok82 .nil))))))))) (fun b' hb => by
    have hl : loopsOf (lb Try.f63 2) = [lb Try.f63 3] := by kernel_rfl
    rw [hl] at hb
    simp only [List.mem_cons, List.not_mem_nil, or_false] at hb
    subst hb
    exact loopHyp_frm (E' := Erd2 0) (key := 23) (m := 0) (by kernel_rfl) rfl rfl (lokrd_3 oksl2)) (fun vs σ => match vs, σ with
    | [.one (.ptr 0 1 0 0), .one (.int .i64 _), .one .nil, .one (.sub 1 1 0 _), .one (.int .i64 n), .one (.int .i64 r)], [.cells [.data (.mat .i64 8 _), .data (.mat .i64 8 _), .data (.ints .i64 _), .data (.ints .i64 _)], .row 3 (.ints .i64 _)] => (n - r).toNat
    | [.one (.ptr 0 1 0 0), .one (.int .i64 _), .one (.own 2 1), .one (.sub 1 1 0 _), .one (.int .i64 n), .one (.int .i64 r)], [.cells [.data (.mat .i64 8 _), .data (.mat .i64 8 _), .data (.ints .i64 _), .data (.ints .i64 _)], .row 3 (.ints .i64 _), .cells [.own 3 1], .row 133 (.ints .i64 _)] => (n - r).toNat
    | [.one (.ptr 0 1 0 0), .one (.int .i64 _), .one (.own 2 1), .one (.sub 1 1 0 _), .one (.int .i64 n), .one (.int .i64 r)], [.cells [.data (.mat .i64 8 _), .data (.mat .i64 8 _), .data (.ints .i64 _), .data (.ints .i64 _)], .row 3 (.ints .i64 _), .cells [.own 3 1, .own 4 1], .row 133 (.ints .i64 _), .row 133 (.ints .i64 _)] => (n - r).toNat
    | _, _ => 0) fun vs σ k h => ?_
  unfold rdC2 at h
  split at h
  rotate_right
  · exact h.elim
  · rename_i a n0 n r D P L Q T
    rw [exrdl2a _ _ _ _ _ a n0 n r D P L Q T _]
    obtain ⟨⟨rfl, hr, ha0, ha1, rfl, rfl⟩, h⟩ := h
    have hln := hr.ln
    have hkn := hr.kn
    have hd1 := hr.d1
    have hp1 := hr.p1
    obtain ⟨t1, t2⟩ := ix_get hr.ki (show 0 < T.length by omega)
    have er : (0 : Nat) + (0 : Int).toNat + 0 = 0 := rfl
    have ea : 0 + a.toNat + 0 = a.toNat := by omega
    have hw : IntKind.i64.wrap ((0 : Int) + 1) = 1 := by decide
    rw [er, ea, hw]
    refine condI (by decide) (condI (by decide) (condI (decide_eq_true (by omega)) (And.intro ⟨by omega, by omega, rfl, rfl, t1, by omega, ix12 hr.li hd1⟩ (condI (and2 (decide_eq_true t1) (decide_eq_true t2)) (condI (and2 (decide_eq_true ha0) (decide_eq_true (by omega))) (condI (and2 (decide_eq_true (by omega)) (decide_eq_true (by omega))) (And.intro ⟨by omega, by omega, t1, by omega, ha0, ha1, hr.d8, hr.kb⟩ (And.intro ⟨(modG_range _).1, (modG_range _).2, (parR_rngL _ _ _ _ _ _ (by omega)).1, (parR_rngL _ _ _ _ _ _ (by omega)).2⟩ (condI (by rw [eqR_len, hln]; decide) ?_))))))))) 
    exact ⟨⟨⟨rfl, hr, ha0, ha1, rfl, rfl, rfl⟩, h⟩, by show ((2 : Int) - 1).toNat < ((2 : Int) - 0).toNat; decide⟩
  · rename_i a n0 n r D P L Q T R0
    rw [exrdl2b _ _ _ _ _ a n0 n r D P L Q T R0 _]
    obtain ⟨⟨rfl, hr, ha0, ha1, rfl, rfl, rfl⟩, h⟩ := h
    have hln := hr.ln
    have hkn := hr.kn
    have hd1 := hr.d1
    have hp1 := hr.p1
    obtain ⟨t1, t2⟩ := ix_get hr.ki (show 1 < T.length by omega)
    have er : (0 : Nat) + (1 : Int).toNat + 0 = 1 := rfl
    have ea : 0 + a.toNat + 0 = a.toNat := by omega
    have hw : IntKind.i64.wrap ((1 : Int) + 1) = 2 := by decide
    rw [er, ea, hw]
    refine condI (by decide) (condI (by decide) (condI (decide_eq_true (by omega)) (And.intro ⟨by omega, by omega, rfl, rfl, t1, by omega, ix12 hr.li hd1⟩ (condI (and2 (decide_eq_true t1) (decide_eq_true t2)) (condI (and2 (decide_eq_true ha0) (decide_eq_true (by omega))) (condI (and2 (decide_eq_true (by omega)) (decide_eq_true (by omega))) (And.intro ⟨by omega, by omega, t1, by omega, ha0, ha1, hr.d8, hr.kb⟩ (And.intro ⟨(modG_range _).1, (modG_range _).2, (parR_rngL _ _ _ _ _ _ (by omega)).1, (parR_rngL _ _ _ _ _ _ (by omega)).2⟩ (condI (by rw [eqR_len, hln]; decide) ?_))))))))) 
    exact ⟨⟨⟨rfl, hr, ha0, ha1, rfl, rfl, rfl, rfl⟩, h⟩, by show ((2 : Int) - 2).toNat < ((2 : Int) - 1).toNat; decide⟩
  · rename_i a n0 n r D P L Q T R0 R1
    rw [exrd2l2c a n0 n r D P L Q T R0 R1 _]
    obtain ⟨⟨rfl, hr, ha0, ha1, rfl, rfl, rfl, rfl⟩, h⟩ := h
    exact h
theorem lokrd2_1 : LoopOK (Erd2 3) (lb Try.f63 1) [1, 5, 7, 54] [] rdB2 := by
  refine loopOK (.cons okgro (.cons ok113 (.cons okclo (.cons ok115 (.cons ok116 (.cons ok100 (.cons okmin (.cons oksl2 (.cons ok82 .nil))))))))) (fun b' hb => by
    have hl : loopsOf (lb Try.f63 1) = [lb Try.f63 2, lb Try.f63 3, lb Try.f63 4] := by kernel_rfl
    rw [hl] at hb
    simp only [List.mem_cons, List.not_mem_nil, or_false] at hb
    rcases hb with rfl | rfl | rfl
    · exact loopHyp_frm (E' := Erd2 2) (key := 19) (m := 2) (by kernel_rfl) rfl rfl lokrd2_2
    · exact loopHyp_frm (E' := Erd2 0) (key := 23) (m := 0) (by kernel_rfl) rfl rfl (lokrd_3 oksl2)
    · exact loopHyp_frm (E' := Erd2 3) (key := 31) (m := 3) (by kernel_rfl) rfl rfl (lokrd_4 oksl2)) (fun vs σ => match vs, σ with
    | [.one (.ptr 0 1 0 0), .one (.own 1 1), .one (.own 2 8), .one (.int .i64 a)], [.cells [.data (.mat .i64 8 _), .data (.mat .i64 8 _), .data (.ints .i64 _), .data (.ints .i64 _)], .row 3 (.ints .i64 _), .row 35 (.mat .i64 8 _)] => (8 - a).toNat
    | _, _ => 0) fun vs σ k h => ?_
  unfold rdB2 at h
  split at h
  rotate_right
  · exact h.elim
  · rename_i a D P L Q T O
    rw [exrd2l1a a D P L Q T O _]
    obtain ⟨⟨hr, ho, ha0, ha1⟩, h⟩ := h
    by_cases ha : a < 8
    · have hw : IntKind.i64.wrap (a + 1) = a + 1 := wrap_id (by omega) (by omega)
      have hln := hr.ln
      have hkn := hr.kn
      have hok := eqs_okSol hr a.toNat
      have hv := solV_len hok
      have hv2 := solV_res hok
      rw [resF_step ha0 ha] at h
      have el : eqsF D P L T a.toNat = [eqR D P L (T.getD 0 0) a.toNat, eqR D P L (T.getD 1 0) a.toNat] := eqs_list hr a.toNat
      rw [el] at hok hv hv2 h
      rw [decide_eq_true ha, cond_true, hw]
      have hv3 : (solV [eqR D P L (T.getD 0 0) a.toNat, eqR D P L (T.getD 1 0) a.toNat]).length = 2 := hv
      refine condI (and2 (decide_eq_true (by omega)) (and2 (decide_eq_true (by omega)) (decide_eq_true (by omega)))) (And.intro ⟨by omega, hr, ha0, by omega, by omega, rfl⟩ (And.intro hok fun X0 X1 => And.intro ⟨ho.2, by rw [ho.1]; exact hr.li, rfl, by omega, by omega, hv2, ha0, by omega, by omega, by omega⟩ ?_))
      exact ⟨⟨⟨hr, put_out (O := O) L _ a.toNat O ho hr.li, by omega, by omega⟩, h⟩, by show (8 - (a + 1)).toNat < (8 - a).toNat; omega⟩
    · rw [decide_eq_false ha]
      rw [show (8 - a).toNat = 0 by omega] at h
      exact h
theorem lokrd3_2 : LoopOK (Erd3 2) (lb Try.f63 2) [1, 8, 9, 61, 62, 63] [9] rdC3 := by
  refine loopOK (.cons okgro (.cons ok113 (.cons okclo (.cons ok115 (.cons ok116 (.cons ok100 (.cons okmin (.cons oksl3 (.cons ok82 .nil))))))))) (fun b' hb => by
    have hl : loopsOf (lb Try.f63 2) = [lb Try.f63 3] := by kernel_rfl
    rw [hl] at hb
    simp only [List.mem_cons, List.not_mem_nil, or_false] at hb
    subst hb
    exact loopHyp_frm (E' := Erd3 0) (key := 23) (m := 0) (by kernel_rfl) rfl rfl (lokrd_3 oksl3)) (fun vs σ => match vs, σ with
    | [.one (.ptr 0 1 0 0), .one (.int .i64 _), .one .nil, .one (.sub 1 1 0 _), .one (.int .i64 n), .one (.int .i64 r)], [.cells [.data (.mat .i64 8 _), .data (.mat .i64 8 _), .data (.ints .i64 _), .data (.ints .i64 _)], .row 3 (.ints .i64 _)] => (n - r).toNat
    | [.one (.ptr 0 1 0 0), .one (.int .i64 _), .one (.own 2 1), .one (.sub 1 1 0 _), .one (.int .i64 n), .one (.int .i64 r)], [.cells [.data (.mat .i64 8 _), .data (.mat .i64 8 _), .data (.ints .i64 _), .data (.ints .i64 _)], .row 3 (.ints .i64 _), .cells [.own 3 1], .row 133 (.ints .i64 _)] => (n - r).toNat
    | [.one (.ptr 0 1 0 0), .one (.int .i64 _), .one (.own 2 1), .one (.sub 1 1 0 _), .one (.int .i64 n), .one (.int .i64 r)], [.cells [.data (.mat .i64 8 _), .data (.mat .i64 8 _), .data (.ints .i64 _), .data (.ints .i64 _)], .row 3 (.ints .i64 _), .cells [.own 3 1, .own 4 1], .row 133 (.ints .i64 _), .row 133 (.ints .i64 _)] => (n - r).toNat
    | [.one (.ptr 0 1 0 0), .one (.int .i64 _), .one (.own 2 1), .one (.sub 1 1 0 _), .one (.int .i64 n), .one (.int .i64 r)], [.cells [.data (.mat .i64 8 _), .data (.mat .i64 8 _), .data (.ints .i64 _), .data (.ints .i64 _)], .row 3 (.ints .i64 _), .cells [.own 3 1, .own 4 1, .own 5 1], .row 133 (.ints .i64 _), .row 133 (.ints .i64 _), .row 133 (.ints .i64 _)] => (n - r).toNat
    | _, _ => 0) fun vs σ k h => ?_
  unfold rdC3 at h
  split at h
  rotate_right
  · exact h.elim
  · rename_i a n0 n r D P L Q T
    rw [exrdl2a _ _ _ _ _ a n0 n r D P L Q T _]
    obtain ⟨⟨rfl, hr, ha0, ha1, rfl, rfl⟩, h⟩ := h
    have hln := hr.ln
    have hkn := hr.kn
    have hd1 := hr.d1
    have hp1 := hr.p1
    obtain ⟨t1, t2⟩ := ix_get hr.ki (show 0 < T.length by omega)
    have er : (0 : Nat) + (0 : Int).toNat + 0 = 0 := rfl
    have ea : 0 + a.toNat + 0 = a.toNat := by omega
    have hw : IntKind.i64.wrap ((0 : Int) + 1) = 1 := by decide
    rw [er, ea, hw]
    refine condI (by decide) (condI (by decide) (condI (decide_eq_true (by omega)) (And.intro ⟨by omega, by omega, rfl, rfl, t1, by omega, ix12 hr.li hd1⟩ (condI (and2 (decide_eq_true t1) (decide_eq_true t2)) (condI (and2 (decide_eq_true ha0) (decide_eq_true (by omega))) (condI (and2 (decide_eq_true (by omega)) (decide_eq_true (by omega))) (And.intro ⟨by omega, by omega, t1, by omega, ha0, ha1, hr.d8, hr.kb⟩ (And.intro ⟨(modG_range _).1, (modG_range _).2, (parR_rngL _ _ _ _ _ _ (by omega)).1, (parR_rngL _ _ _ _ _ _ (by omega)).2⟩ (condI (by rw [eqR_len, hln]; decide) ?_))))))))) 
    exact ⟨⟨⟨rfl, hr, ha0, ha1, rfl, rfl, rfl⟩, h⟩, by show ((3 : Int) - 1).toNat < ((3 : Int) - 0).toNat; decide⟩
  · rename_i a n0 n r D P L Q T R0
    rw [exrdl2b _ _ _ _ _ a n0 n r D P L Q T R0 _]
    obtain ⟨⟨rfl, hr, ha0, ha1, rfl, rfl, rfl⟩, h⟩ := h
    have hln := hr.ln
    have hkn := hr.kn
    have hd1 := hr.d1
    have hp1 := hr.p1
    obtain ⟨t1, t2⟩ := ix_get hr.ki (show 1 < T.length by omega)
    have er : (0 : Nat) + (1 : Int).toNat + 0 = 1 := rfl
    have ea : 0 + a.toNat + 0 = a.toNat := by omega
    have hw : IntKind.i64.wrap ((1 : Int) + 1) = 2 := by decide
    rw [er, ea, hw]
    refine condI (by decide) (condI (by decide) (condI (decide_eq_true (by omega)) (And.intro ⟨by omega, by omega, rfl, rfl, t1, by omega, ix12 hr.li hd1⟩ (condI (and2 (decide_eq_true t1) (decide_eq_true t2)) (condI (and2 (decide_eq_true ha0) (decide_eq_true (by omega))) (condI (and2 (decide_eq_true (by omega)) (decide_eq_true (by omega))) (And.intro ⟨by omega, by omega, t1, by omega, ha0, ha1, hr.d8, hr.kb⟩ (And.intro ⟨(modG_range _).1, (modG_range _).2, (parR_rngL _ _ _ _ _ _ (by omega)).1, (parR_rngL _ _ _ _ _ _ (by omega)).2⟩ (condI (by rw [eqR_len, hln]; decide) ?_))))))))) 
    exact ⟨⟨⟨rfl, hr, ha0, ha1, rfl, rfl, rfl, rfl⟩, h⟩, by show ((3 : Int) - 2).toNat < ((3 : Int) - 1).toNat; decide⟩
  · rename_i a n0 n r D P L Q T R0 R1
    rw [exrdl2c _ _ _ _ _ a n0 n r D P L Q T R0 R1 _]
    obtain ⟨⟨rfl, hr, ha0, ha1, rfl, rfl, rfl, rfl⟩, h⟩ := h
    have hln := hr.ln
    have hkn := hr.kn
    have hd1 := hr.d1
    have hp1 := hr.p1
    obtain ⟨t1, t2⟩ := ix_get hr.ki (show 2 < T.length by omega)
    have er : (0 : Nat) + (2 : Int).toNat + 0 = 2 := rfl
    have ea : 0 + a.toNat + 0 = a.toNat := by omega
    have hw : IntKind.i64.wrap ((2 : Int) + 1) = 3 := by decide
    rw [er, ea, hw]
    refine condI (by decide) (condI (by decide) (condI (decide_eq_true (by omega)) (And.intro ⟨by omega, by omega, rfl, rfl, t1, by omega, ix12 hr.li hd1⟩ (condI (and2 (decide_eq_true t1) (decide_eq_true t2)) (condI (and2 (decide_eq_true ha0) (decide_eq_true (by omega))) (condI (and2 (decide_eq_true (by omega)) (decide_eq_true (by omega))) (And.intro ⟨by omega, by omega, t1, by omega, ha0, ha1, hr.d8, hr.kb⟩ (And.intro ⟨(modG_range _).1, (modG_range _).2, (parR_rngL _ _ _ _ _ _ (by omega)).1, (parR_rngL _ _ _ _ _ _ (by omega)).2⟩ (condI (by rw [eqR_len, hln]; decide) ?_))))))))) 
    exact ⟨⟨⟨rfl, hr, ha0, ha1, rfl, rfl, rfl, rfl, rfl⟩, h⟩, by show ((3 : Int) - 3).toNat < ((3 : Int) - 2).toNat; decide⟩
  · rename_i a n0 n r D P L Q T R0 R1 R2
    rw [exrd3l2d a n0 n r D P L Q T R0 R1 R2 _]
    obtain ⟨⟨rfl, hr, ha0, ha1, rfl, rfl, rfl, rfl, rfl⟩, h⟩ := h
    exact h
theorem lokrd3_1 : LoopOK (Erd3 3) (lb Try.f63 1) [1, 5, 7, 54] [] rdB3 := by
  refine loopOK (.cons okgro (.cons ok113 (.cons okclo (.cons ok115 (.cons ok116 (.cons ok100 (.cons okmin (.cons oksl3 (.cons ok82 .nil))))))))) (fun b' hb => by
    have hl : loopsOf (lb Try.f63 1) = [lb Try.f63 2, lb Try.f63 3, lb Try.f63 4] := by kernel_rfl
    rw [hl] at hb
    simp only [List.mem_cons, List.not_mem_nil, or_false] at hb
    rcases hb with rfl | rfl | rfl
    · exact loopHyp_frm (E' := Erd3 2) (key := 19) (m := 2) (by kernel_rfl) rfl rfl lokrd3_2
    · exact loopHyp_frm (E' := Erd3 0) (key := 23) (m := 0) (by kernel_rfl) rfl rfl (lokrd_3 oksl3)
    · exact loopHyp_frm (E' := Erd3 3) (key := 31) (m := 3) (by kernel_rfl) rfl rfl (lokrd_4 oksl3)) (fun vs σ => match vs, σ with
    | [.one (.ptr 0 1 0 0), .one (.own 1 1), .one (.own 2 8), .one (.int .i64 a)], [.cells [.data (.mat .i64 8 _), .data (.mat .i64 8 _), .data (.ints .i64 _), .data (.ints .i64 _)], .row 3 (.ints .i64 _), .row 35 (.mat .i64 8 _)] => (8 - a).toNat
    | _, _ => 0) fun vs σ k h => ?_
  unfold rdB3 at h
  split at h
  rotate_right
  · exact h.elim
  · rename_i a D P L Q T O
    rw [exrd3l1a a D P L Q T O _]
    obtain ⟨⟨hr, ho, ha0, ha1⟩, h⟩ := h
    by_cases ha : a < 8
    · have hw : IntKind.i64.wrap (a + 1) = a + 1 := wrap_id (by omega) (by omega)
      have hln := hr.ln
      have hkn := hr.kn
      have hok := eqs_okSol hr a.toNat
      have hv := solV_len hok
      have hv2 := solV_res hok
      rw [resF_step ha0 ha] at h
      have el : eqsF D P L T a.toNat = [eqR D P L (T.getD 0 0) a.toNat, eqR D P L (T.getD 1 0) a.toNat, eqR D P L (T.getD 2 0) a.toNat] := eqs_list hr a.toNat
      rw [el] at hok hv hv2 h
      rw [decide_eq_true ha, cond_true, hw]
      have hv3 : (solV [eqR D P L (T.getD 0 0) a.toNat, eqR D P L (T.getD 1 0) a.toNat, eqR D P L (T.getD 2 0) a.toNat]).length = 3 := hv
      refine condI (and2 (decide_eq_true (by omega)) (and2 (decide_eq_true (by omega)) (decide_eq_true (by omega)))) (And.intro ⟨by omega, hr, ha0, by omega, by omega, rfl⟩ (And.intro hok fun X0 X1 X2 => And.intro ⟨ho.2, by rw [ho.1]; exact hr.li, rfl, by omega, by omega, hv2, ha0, by omega, by omega, by omega⟩ ?_))
      exact ⟨⟨⟨hr, put_out (O := O) L _ a.toNat O ho hr.li, by omega, by omega⟩, h⟩, by show (8 - (a + 1)).toNat < (8 - a).toNat; omega⟩
    · rw [decide_eq_false ha]
      rw [show (8 - a).toNat = 0 by omega] at h
      exact h
theorem lokrd4_2 : LoopOK (Erd4 2) (lb Try.f63 2) [1, 8, 9, 61, 62, 63] [9] rdC4 := by
  refine loopOK (.cons okgro (.cons ok113 (.cons okclo (.cons ok115 (.cons ok116 (.cons ok100 (.cons okmin (.cons oksl4 (.cons ok82 .nil))))))))) (fun b' hb => by
    have hl : loopsOf (lb Try.f63 2) = [lb Try.f63 3] := by kernel_rfl
    rw [hl] at hb
    simp only [List.mem_cons, List.not_mem_nil, or_false] at hb
    subst hb
    exact loopHyp_frm (E' := Erd4 0) (key := 23) (m := 0) (by kernel_rfl) rfl rfl (lokrd_3 oksl4)) (fun vs σ => match vs, σ with
    | [.one (.ptr 0 1 0 0), .one (.int .i64 _), .one .nil, .one (.sub 1 1 0 _), .one (.int .i64 n), .one (.int .i64 r)], [.cells [.data (.mat .i64 8 _), .data (.mat .i64 8 _), .data (.ints .i64 _), .data (.ints .i64 _)], .row 3 (.ints .i64 _)] => (n - r).toNat
    | [.one (.ptr 0 1 0 0), .one (.int .i64 _), .one (.own 2 1), .one (.sub 1 1 0 _), .one (.int .i64 n), .one (.int .i64 r)], [.cells [.data (.mat .i64 8 _), .data (.mat .i64 8 _), .data (.ints .i64 _), .data (.ints .i64 _)], .row 3 (.ints .i64 _), .cells [.own 3 1], .row 133 (.ints .i64 _)] => (n - r).toNat
    | [.one (.ptr 0 1 0 0), .one (.int .i64 _), .one (.own 2 1), .one (.sub 1 1 0 _), .one (.int .i64 n), .one (.int .i64 r)], [.cells [.data (.mat .i64 8 _), .data (.mat .i64 8 _), .data (.ints .i64 _), .data (.ints .i64 _)], .row 3 (.ints .i64 _), .cells [.own 3 1, .own 4 1], .row 133 (.ints .i64 _), .row 133 (.ints .i64 _)] => (n - r).toNat
    | [.one (.ptr 0 1 0 0), .one (.int .i64 _), .one (.own 2 1), .one (.sub 1 1 0 _), .one (.int .i64 n), .one (.int .i64 r)], [.cells [.data (.mat .i64 8 _), .data (.mat .i64 8 _), .data (.ints .i64 _), .data (.ints .i64 _)], .row 3 (.ints .i64 _), .cells [.own 3 1, .own 4 1, .own 5 1], .row 133 (.ints .i64 _), .row 133 (.ints .i64 _), .row 133 (.ints .i64 _)] => (n - r).toNat
    | [.one (.ptr 0 1 0 0), .one (.int .i64 _), .one (.own 2 1), .one (.sub 1 1 0 _), .one (.int .i64 n), .one (.int .i64 r)], [.cells [.data (.mat .i64 8 _), .data (.mat .i64 8 _), .data (.ints .i64 _), .data (.ints .i64 _)], .row 3 (.ints .i64 _), .cells [.own 3 1, .own 4 1, .own 5 1, .own 6 1], .row 133 (.ints .i64 _), .row 133 (.ints .i64 _), .row 133 (.ints .i64 _), .row 133 (.ints .i64 _)] => (n - r).toNat
    | _, _ => 0) fun vs σ k h => ?_
  unfold rdC4 at h
  split at h
  rotate_right
  · exact h.elim
  · rename_i a n0 n r D P L Q T
    rw [exrdl2a _ _ _ _ _ a n0 n r D P L Q T _]
    obtain ⟨⟨rfl, hr, ha0, ha1, rfl, rfl⟩, h⟩ := h
    have hln := hr.ln
    have hkn := hr.kn
    have hd1 := hr.d1
    have hp1 := hr.p1
    obtain ⟨t1, t2⟩ := ix_get hr.ki (show 0 < T.length by omega)
    have er : (0 : Nat) + (0 : Int).toNat + 0 = 0 := rfl
    have ea : 0 + a.toNat + 0 = a.toNat := by omega
    have hw : IntKind.i64.wrap ((0 : Int) + 1) = 1 := by decide
    rw [er, ea, hw]
    refine condI (by decide) (condI (by decide) (condI (decide_eq_true (by omega)) (And.intro ⟨by omega, by omega, rfl, rfl, t1, by omega, ix12 hr.li hd1⟩ (condI (and2 (decide_eq_true t1) (decide_eq_true t2)) (condI (and2 (decide_eq_true ha0) (decide_eq_true (by omega))) (condI (and2 (decide_eq_true (by omega)) (decide_eq_true (by omega))) (And.intro ⟨by omega, by omega, t1, by omega, ha0, ha1, hr.d8, hr.kb⟩ (And.intro ⟨(modG_range _).1, (modG_range _).2, (parR_rngL _ _ _ _ _ _ (by omega)).1, (parR_rngL _ _ _ _ _ _ (by omega)).2⟩ (condI (by rw [eqR_len, hln]; decide) ?_))))))))) 
    exact ⟨⟨⟨rfl, hr, ha0, ha1, rfl, rfl, rfl⟩, h⟩, by show ((4 : Int) - 1).toNat < ((4 : Int) - 0).toNat; decide⟩
  · rename_i a n0 n r D P L Q T R0
    rw [exrdl2b _ _ _ _ _ a n0 n r D P L Q T R0 _]
    obtain ⟨⟨rfl, hr, ha0, ha1, rfl, rfl, rfl⟩, h⟩ := h
    have hln := hr.ln
    have hkn := hr.kn
    have hd1 := hr.d1
    have hp1 := hr.p1
    obtain ⟨t1, t2⟩ := ix_get hr.ki (show 1 < T.length by omega)
    have er : (0 : Nat) + (1 : Int).toNat + 0 = 1 := rfl
    have ea : 0 + a.toNat + 0 = a.toNat := by omega
    have hw : IntKind.i64.wrap ((1 : Int) + 1) = 2 := by decide
    rw [er, ea, hw]
    refine condI (by decide) (condI (by decide) (condI (decide_eq_true (by omega)) (And.intro ⟨by omega, by omega, rfl, rfl, t1, by omega, ix12 hr.li hd1⟩ (condI (and2 (decide_eq_true t1) (decide_eq_true t2)) (condI (and2 (decide_eq_true ha0) (decide_eq_true (by omega))) (condI (and2 (decide_eq_true (by omega)) (decide_eq_true (by omega))) (And.intro ⟨by omega, by omega, t1, by omega, ha0, ha1, hr.d8, hr.kb⟩ (And.intro ⟨(modG_range _).1, (modG_range _).2, (parR_rngL _ _ _ _ _ _ (by omega)).1, (parR_rngL _ _ _ _ _ _ (by omega)).2⟩ (condI (by rw [eqR_len, hln]; decide) ?_))))))))) 
    exact ⟨⟨⟨rfl, hr, ha0, ha1, rfl, rfl, rfl, rfl⟩, h⟩, by show ((4 : Int) - 2).toNat < ((4 : Int) - 1).toNat; decide⟩
  · rename_i a n0 n r D P L Q T R0 R1
    rw [exrdl2c _ _ _ _ _ a n0 n r D P L Q T R0 R1 _]
    obtain ⟨⟨rfl, hr, ha0, ha1, rfl, rfl, rfl, rfl⟩, h⟩ := h
    have hln := hr.ln
    have hkn := hr.kn
    have hd1 := hr.d1
    have hp1 := hr.p1
    obtain ⟨t1, t2⟩ := ix_get hr.ki (show 2 < T.length by omega)
    have er : (0 : Nat) + (2 : Int).toNat + 0 = 2 := rfl
    have ea : 0 + a.toNat + 0 = a.toNat := by omega
    have hw : IntKind.i64.wrap ((2 : Int) + 1) = 3 := by decide
    rw [er, ea, hw]
    refine condI (by decide) (condI (by decide) (condI (decide_eq_true (by omega)) (And.intro ⟨by omega, by omega, rfl, rfl, t1, by omega, ix12 hr.li hd1⟩ (condI (and2 (decide_eq_true t1) (decide_eq_true t2)) (condI (and2 (decide_eq_true ha0) (decide_eq_true (by omega))) (condI (and2 (decide_eq_true (by omega)) (decide_eq_true (by omega))) (And.intro ⟨by omega, by omega, t1, by omega, ha0, ha1, hr.d8, hr.kb⟩ (And.intro ⟨(modG_range _).1, (modG_range _).2, (parR_rngL _ _ _ _ _ _ (by omega)).1, (parR_rngL _ _ _ _ _ _ (by omega)).2⟩ (condI (by rw [eqR_len, hln]; decide) ?_))))))))) 
    exact ⟨⟨⟨rfl, hr, ha0, ha1, rfl, rfl, rfl, rfl, rfl⟩, h⟩, by show ((4 : Int) - 3).toNat < ((4 : Int) - 2).toNat; decide⟩
  · rename_i a n0 n r D P L Q T R0 R1 R2
    rw [exrdl2d _ _ _ _ _ a n0 n r D P L Q T R0 R1 R2 _]
    obtain ⟨⟨rfl, hr, ha0, ha1, rfl, rfl, rfl, rfl, rfl⟩, h⟩ := h
    have hln := hr.ln
    have hkn := hr.kn
    have hd1 := hr.d1
    have hp1 := hr.p1
    obtain ⟨t1, t2⟩ := ix_get hr.ki (show 3 < T.length by omega)
    have er : (0 : Nat) + (3 : Int).toNat + 0 = 3 := rfl
    have ea : 0 + a.toNat + 0 = a.toNat := by omega
    have hw : IntKind.i64.wrap ((3 : Int) + 1) = 4 := by decide
    rw [er, ea, hw]
    refine condI (by decide) (condI (by decide) (condI (decide_eq_true (by omega)) (And.intro ⟨by omega, by omega, rfl, rfl, t1, by omega, ix12 hr.li hd1⟩ (condI (and2 (decide_eq_true t1) (decide_eq_true t2)) (condI (and2 (decide_eq_true ha0) (decide_eq_true (by omega))) (condI (and2 (decide_eq_true (by omega)) (decide_eq_true (by omega))) (And.intro ⟨by omega, by omega, t1, by omega, ha0, ha1, hr.d8, hr.kb⟩ (And.intro ⟨(modG_range _).1, (modG_range _).2, (parR_rngL _ _ _ _ _ _ (by omega)).1, (parR_rngL _ _ _ _ _ _ (by omega)).2⟩ (condI (by rw [eqR_len, hln]; decide) ?_))))))))) 
    exact ⟨⟨⟨rfl, hr, ha0, ha1, rfl, rfl, rfl, rfl, rfl, rfl⟩, h⟩, by show ((4 : Int) - 4).toNat < ((4 : Int) - 3).toNat; decide⟩
  · rename_i a n0 n r D P L Q T R0 R1 R2 R3
    rw [exrd4l2e a n0 n r D P L Q T R0 R1 R2 R3 _]
    obtain ⟨⟨rfl, hr, ha0, ha1, rfl, rfl, rfl, rfl, rfl, rfl⟩, h⟩ := h
    exact h
theorem lokrd4_1 : LoopOK (Erd4 3) (lb Try.f63 1) [1, 5, 7, 54] [] rdB4 := by
  refine loopOK (.cons okgro (.cons ok113 (.cons okclo (.cons ok115 (.cons ok116 (.cons ok100 (.cons okmin (.cons oksl4 (.cons ok82 .nil))))))))) (fun b' hb => by
    have hl : loopsOf (lb Try.f63 1) = [lb Try.f63 2, lb Try.f63 3, lb Try.f63 4] := by kernel_rfl
    rw [hl] at hb
    simp only [List.mem_cons, List.not_mem_nil, or_false] at hb
    rcases hb with rfl | rfl | rfl
    · exact loopHyp_frm (E' := Erd4 2) (key := 19) (m := 2) (by kernel_rfl) rfl rfl lokrd4_2
    · exact loopHyp_frm (E' := Erd4 0) (key := 23) (m := 0) (by kernel_rfl) rfl rfl (lokrd_3 oksl4)
    · exact loopHyp_frm (E' := Erd4 3) (key := 31) (m := 3) (by kernel_rfl) rfl rfl (lokrd_4 oksl4)) (fun vs σ => match vs, σ with
    | [.one (.ptr 0 1 0 0), .one (.own 1 1), .one (.own 2 8), .one (.int .i64 a)], [.cells [.data (.mat .i64 8 _), .data (.mat .i64 8 _), .data (.ints .i64 _), .data (.ints .i64 _)], .row 3 (.ints .i64 _), .row 35 (.mat .i64 8 _)] => (8 - a).toNat
    | _, _ => 0) fun vs σ k h => ?_
  unfold rdB4 at h
  split at h
  rotate_right
  · exact h.elim
  · rename_i a D P L Q T O
    rw [exrd4l1a a D P L Q T O _]
    obtain ⟨⟨hr, ho, ha0, ha1⟩, h⟩ := h
    by_cases ha : a < 8
    · have hw : IntKind.i64.wrap (a + 1) = a + 1 := wrap_id (by omega) (by omega)
      have hln := hr.ln
      have hkn := hr.kn
      have hok := eqs_okSol hr a.toNat
      have hv := solV_len hok
      have hv2 := solV_res hok
      rw [resF_step ha0 ha] at h
      have el : eqsF D P L T a.toNat = [eqR D P L (T.getD 0 0) a.toNat, eqR D P L (T.getD 1 0) a.toNat, eqR D P L (T.getD 2 0) a.toNat, eqR D P L (T.getD 3 0) a.toNat] := eqs_list hr a.toNat
      rw [el] at hok hv hv2 h
      rw [decide_eq_true ha, cond_true, hw]
      have hv3 : (solV [eqR D P L (T.getD 0 0) a.toNat, eqR D P L (T.getD 1 0) a.toNat, eqR D P L (T.getD 2 0) a.toNat, eqR D P L (T.getD 3 0) a.toNat]).length = 4 := hv
      refine condI (and2 (decide_eq_true (by omega)) (and2 (decide_eq_true (by omega)) (decide_eq_true (by omega)))) (And.intro ⟨by omega, hr, ha0, by omega, by omega, rfl⟩ (And.intro hok fun X0 X1 X2 X3 => And.intro ⟨ho.2, by rw [ho.1]; exact hr.li, rfl, by omega, by omega, hv2, ha0, by omega, by omega, by omega⟩ ?_))
      exact ⟨⟨⟨hr, put_out (O := O) L _ a.toNat O ho hr.li, by omega, by omega⟩, h⟩, by show (8 - (a + 1)).toNat < (8 - a).toNat; omega⟩
    · rw [decide_eq_false ha]
      rw [show (8 - a).toNat = 0 by omega] at h
      exact h
end Go.Ev
