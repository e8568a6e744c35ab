/-
  Chapter 1, contracts: equations modulo the prime, of the program.
-/
import Derived.Test.YtlejemnljojpgaaC1BA
import Derived.KernelRfl
set_option linter.unusedVariables false
set_option linter.unusedSimpArgs false
set_option linter.unusedSectionVars false
namespace Go.Ev
open Go Go.Proofs
set_option maxRecDepth 20000
set_option linter.unusedVariables false
def isInv (a s : Int) : Prop := s = invG a
def scR (R : List Int) (s : Int) : List Int := R.map fun x => modG (x * s)
def elR : List Int → List Int → Int → List Int
  | p :: Pv, r :: R, b => modG (r - modG (b * p)) :: elR Pv R b
  | _, _, _ => []
def stp (c : Nat) (rows : List (List Int)) : List (List Int) :=
  (List.range rows.length).map fun r => bif r == c then scR (rows.getD c []) (invG ((rows.getD c []).getD c 0)) else elR (scR (rows.getD c []) (invG ((rows.getD c []).getD c 0))) (rows.getD r []) ((rows.getD r []).getD c 0)
def solF : Nat → Nat → List (List Int) → List (List Int)
  | 0, _, rows => rows
  | f + 1, c, rows => solF f (c + 1) (stp c rows)
def solV (rows : List (List Int)) : List Int := (solF rows.length 0 rows).map fun R => R.getD rows.length 0
def pivF : Nat → Nat → List (List Int) → Prop
  | 0, _, _ => True
  | f + 1, c, rows => (rows.getD c []).getD c 0 ≠ 0 ∧ pivF f (c + 1) (stp c rows)
def okSol (rows : List (List Int)) : Prop := ∀ R ∈ rows, R.length = rows.length + 1 ∧ resRow R = true
def scL : LSpec := fun vs σ k => match vs, σ with
  | [.one (.own 0 1), .one (.int .i64 s), .one (.int .i64 n), .one (.int .i64 i)], [.row 133 (.ints .i64 R)] => (0 ≤ s ∧ s < 65537 ∧ n = R.length ∧ R.length ≤ 100 ∧ resRow R = true ∧ 0 ≤ i ∧ i ≤ n) ∧ k (.exit 2) [] [.row 133 (.ints .i64 (R.take i.toNat ++ scR (R.drop i.toNat) s))]
  | _, _ => False
def elL : LSpec := fun vs σ k => match vs, σ with
  | [.one (.own 0 1), .one (.own 1 1), .one (.int .i64 b), .one (.int .i64 n), .one (.int .i64 i)], [.row 133 (.ints .i64 P), .row 133 (.ints .i64 R)] => (0 ≤ b ∧ b < 65537 ∧ n = R.length ∧ P.length = R.length ∧ R.length ≤ 100 ∧ resRow R = true ∧ resRow P = true ∧ 0 ≤ i ∧ i ≤ n) ∧ k (.exit 6) [] [.row 133 (.ints .i64 P), .row 133 (.ints .i64 (R.take i.toNat ++ elR (P.drop i.toNat) (R.drop i.toNat) b))]
  | _, _ => False
def elI (r : Int) (i : Nat) (c : Nat) (P S : List Int) : List Int := bif decide (r ≤ i) then elR P S (S.getD c 0) else S
def okRw (n : Nat) (R : List Int) : Prop := R.length = n + 1 ∧ resRow R = true
def slB1 : LSpec := fun vs σ k => match vs, σ with
  | [.one (.int .i64 c), .one (.own 0 1), .one (.own 1 1), .one (.int .i64 n), .one (.int .i64 r)], [.row 133 (.ints .i64 P), .cells [.own 0 1]] => (c = 0 ∧ n = 1 ∧ 0 ≤ r ∧ r ≤ 1 ∧ okRw 1 P) ∧ k (.exit 4) [] [.row 133 (.ints .i64 P), .cells [.own 0 1]]
  | _, _ => False
def slB2 : LSpec := fun vs σ k => match vs, σ with
  | [.one (.int .i64 c), .one (.own 0 1), .one (.own 1 1), .one (.int .i64 n), .one (.int .i64 r)], [.row 133 (.ints .i64 P), .cells [.own 0 1, .own 2 1], .row 133 (.ints .i64 S1)] => (c = 0 ∧ n = 2 ∧ 0 ≤ r ∧ r ≤ 2 ∧ okRw 2 P ∧ okRw 2 S1) ∧ k (.exit 4) [] [.row 133 (.ints .i64 P), .cells [.own 0 1, .own 2 1], .row 133 (.ints .i64 (elI r 1 0 P S1))]
  | [.one (.int .i64 c), .one (.own 0 1), .one (.own 1 1), .one (.int .i64 n), .one (.int .i64 r)], [.row 133 (.ints .i64 P), .cells [.own 2 1, .own 0 1], .row 133 (.ints .i64 S0)] => (c = 1 ∧ n = 2 ∧ 0 ≤ r ∧ r ≤ 2 ∧ okRw 2 P ∧ okRw 2 S0) ∧ k (.exit 4) [] [.row 133 (.ints .i64 P), .cells [.own 2 1, .own 0 1], .row 133 (.ints .i64 (elI r 0 1 P S0))]
  | _, _ => False
def slB3 : LSpec := fun vs σ k => match vs, σ with
  | [.one (.int .i64 c), .one (.own 0 1), .one (.own 1 1), .one (.int .i64 n), .one (.int .i64 r)], [.row 133 (.ints .i64 P), .cells [.own 0 1, .own 2 1, .own 3 1], .row 133 (.ints .i64 S1), .row 133 (.ints .i64 S2)] => (c = 0 ∧ n = 3 ∧ 0 ≤ r ∧ r ≤ 3 ∧ okRw 3 P ∧ okRw 3 S1 ∧ okRw 3 S2) ∧ k (.exit 4) [] [.row 133 (.ints .i64 P), .cells [.own 0 1, .own 2 1, .own 3 1], .row 133 (.ints .i64 (elI r 1 0 P S1)), .row 133 (.ints .i64 (elI r 2 0 P S2))]
  | [.one (.int .i64 c), .one (.own 0 1), .one (.own 1 1), .one (.int .i64 n), .one (.int .i64 r)], [.row 133 (.ints .i64 P), .cells [.own 2 1, .own 0 1, .own 3 1], .row 133 (.ints .i64 S0), .row 133 (.ints .i64 S2)] => (c = 1 ∧ n = 3 ∧ 0 ≤ r ∧ r ≤ 3 ∧ okRw 3 P ∧ okRw 3 S0 ∧ okRw 3 S2) ∧ k (.exit 4) [] [.row 133 (.ints .i64 P), .cells [.own 2 1, .own 0 1, .own 3 1], .row 133 (.ints .i64 (elI r 0 1 P S0)), .row 133 (.ints .i64 (elI r 2 1 P S2))]
  | [.one (.int .i64 c), .one (.own 0 1), .one (.own 1 1), .one (.int .i64 n), .one (.int .i64 r)], [.row 133 (.ints .i64 P), .cells [.own 2 1, .own 3 1, .own 0 1], .row 133 (.ints .i64 S0), .row 133 (.ints .i64 S1)] => (c = 2 ∧ n = 3 ∧ 0 ≤ r ∧ r ≤ 3 ∧ okRw 3 P ∧ okRw 3 S0 ∧ okRw 3 S1) ∧ k (.exit 4) [] [.row 133 (.ints .i64 P), .cells [.own 2 1, .own 3 1, .own 0 1], .row 133 (.ints .i64 (elI r 0 2 P S0)), .row 133 (.ints .i64 (elI r 1 2 P S1))]
  | _, _ => False
def slB4 : LSpec := fun vs σ k => match vs, σ with
  | [.one (.int .i64 c), .one (.own 0 1), .one (.own 1 1), .one (.int .i64 n), .one (.int .i64 r)], [.row 133 (.ints .i64 P), .cells [.own 0 1, .own 2 1, .own 3 1, .own 4 1], .row 133 (.ints .i64 S1), .row 133 (.ints .i64 S2), .row 133 (.ints .i64 S3)] => (c = 0 ∧ n = 4 ∧ 0 ≤ r ∧ r ≤ 4 ∧ okRw 4 P ∧ okRw 4 S1 ∧ okRw 4 S2 ∧ okRw 4 S3) ∧ k (.exit 4) [] [.row 133 (.ints .i64 P), .cells [.own 0 1, .own 2 1, .own 3 1, .own 4 1], .row 133 (.ints .i64 (elI r 1 0 P S1)), .row 133 (.ints .i64 (elI r 2 0 P S2)), .row 133 (.ints .i64 (elI r 3 0 P S3))]
  | [.one (.int .i64 c), .one (.own 0 1), .one (.own 1 1), .one (.int .i64 n), .one (.int .i64 r)], [.row 133 (.ints .i64 P), .cells [.own 2 1, .own 0 1, .own 3 1, .own 4 1], .row 133 (.ints .i64 S0), .row 133 (.ints .i64 S2), .row 133 (.ints .i64 S3)] => (c = 1 ∧ n = 4 ∧ 0 ≤ r ∧ r ≤ 4 ∧ okRw 4 P ∧ okRw 4 S0 ∧ okRw 4 S2 ∧ okRw 4 S3) ∧ k (.exit 4) [] [.row 133 (.ints .i64 P), .cells [.own 2 1, .own 0 1, .own 3 1, .own 4 1], .row 133 (.ints .i64 (elI r 0 1 P S0)), .row 133 (.ints .i64 (elI r 2 1 P S2)), .row 133 (.ints .i64 (elI r 3 1 P S3))]
  | [.one (.int .i64 c), .one (.own 0 1), .one (.own 1 1), .one (.int .i64 n), .one (.int .i64 r)], [.row 133 (.ints .i64 P), .cells [.own 2 1, .own 3 1, .own 0 1, .own 4 1], .row 133 (.ints .i64 S0), .row 133 (.ints .i64 S1), .row 133 (.ints .i64 S3)] => (c = 2 ∧ n = 4 ∧ 0 ≤ r ∧ r ≤ 4 ∧ okRw 4 P ∧ okRw 4 S0 ∧ okRw 4 S1 ∧ okRw 4 S3) ∧ k (.exit 4) [] [.row 133 (.ints .i64 P), .cells [.own 2 1, .own 3 1, .own 0 1, .own 4 1], .row 133 (.ints .i64 (elI r 0 2 P S0)), .row 133 (.ints .i64 (elI r 1 2 P S1)), .row 133 (.ints .i64 (elI r 3 2 P S3))]
  | [.one (.int .i64 c), .one (.own 0 1), .one (.own 1 1), .one (.int .i64 n), .one (.int .i64 r)], [.row 133 (.ints .i64 P), .cells [.own 2 1, .own 3 1, .own 4 1, .own 0 1], .row 133 (.ints .i64 S0), .row 133 (.ints .i64 S1), .row 133 (.ints .i64 S2)] => (c = 3 ∧ n = 4 ∧ 0 ≤ r ∧ r ≤ 4 ∧ okRw 4 P ∧ okRw 4 S0 ∧ okRw 4 S1 ∧ okRw 4 S2) ∧ k (.exit 4) [] [.row 133 (.ints .i64 P), .cells [.own 2 1, .own 3 1, .own 4 1, .own 0 1], .row 133 (.ints .i64 (elI r 0 3 P S0)), .row 133 (.ints .i64 (elI r 1 3 P S1)), .row 133 (.ints .i64 (elI r 2 3 P S2))]
  | _, _ => False
def slA1 : LSpec := fun vs σ k => match vs, σ with
  | [.one (.own 0 1), .one (.int .i64 n), .one (.int .i64 c)], [.cells [.own 1 1], .row 133 (.ints .i64 R0)] => (n = 1 ∧ okSol [R0] ∧ 0 ≤ c ∧ c ≤ 1) ∧ k (.exit 0) [] [.cells [.own 1 1], .row 133 (.ints .i64 ((solF (1 - c.toNat) c.toNat [R0]).getD 0 []))]
  | _, _ => False
def slS1 : Spec := fun args σ K => match args, σ with
  | [.one (.own 0 1)], [.cells [.own 1 1], .row 133 (.ints .i64 R0)] => okSol [R0] ∧ ∀ X0 : List Int, K (.one (.own 2 1)) [.cells [.own 1 1], .row 133 (.ints .i64 X0), .row 133 (.ints .i64 (solV [R0]))]
  | _, _ => False
def minusS : Spec := fun args σ K => match args, σ with
  | [.one (.int .i64 a), .one (.int .i64 b)], [] => (0 ≤ a ∧ a < 65537 ∧ 0 ≤ b ∧ b < 65537) ∧ K (.one (.int .i64 (modG (a - b)))) []
  | _, _ => False
def slS0 : Spec := fun args σ K => match args, σ with
  | [.one .nil], [] => K (.one .nil) []
  | _, _ => False
def inv2S : Spec := fun args σ K => match args, σ with
  | [.one (.int .i64 a)], [] => (0 ≤ a ∧ a < 65537) ∧ ∀ s, isInv a s → K (.one (.int .i64 s)) []
  | _, _ => False
noncomputable abbrev Emin : Env := envOf Try.prog [(116, moduloS)] [] 9 0
noncomputable abbrev Esl0 : Env := envOf Try.prog [(98, inv2S), (130, timesS), (117, minusS)] [(3, .unroll 1), (8, .unroll 1), (13, .unroll 1), (18, .unroll 1), (25, .unroll 1)] 95 0
noncomputable abbrev Esl1 : Env := envOf Try.prog [(98, inv2S), (130, timesS), (117, minusS)] [(3, .frm 2 [0, 15, 16] [] slA1), (8, .frm 1 [5, 6, 29, 30] [] scL), (13, .frm 2 [4, 5, 43, 44, 45] [] slB1), (18, .frm 2 [5, 9, 10, 58, 59] [] elL), (25, .unroll 2)] 95 2
noncomputable abbrev Esl1F1 : Env := envOf Try.prog [(98, inv2S), (130, timesS), (117, minusS)] [(3, .frm 2 [0, 15, 16] [] slA1), (8, .frm 1 [5, 6, 29, 30] [] scL), (13, .frm 2 [4, 5, 43, 44, 45] [] slB1), (18, .frm 2 [5, 9, 10, 58, 59] [] elL), (25, .unroll 2)] 95 1
noncomputable abbrev Esl1F2 : Env := envOf Try.prog [(98, inv2S), (130, timesS), (117, minusS)] [(3, .frm 2 [0, 15, 16] [] slA1), (8, .frm 1 [5, 6, 29, 30] [] scL), (13, .frm 2 [4, 5, 43, 44, 45] [] slB1), (18, .frm 2 [5, 9, 10, 58, 59] [] elL), (25, .unroll 2)] 95 2
def slA2 : LSpec := fun vs σ k => match vs, σ with
  | [.one (.own 0 1), .one (.int .i64 n), .one (.int .i64 c)], [.cells [.own 1 1, .own 2 1], .row 133 (.ints .i64 R0), .row 133 (.ints .i64 R1)] => (n = 2 ∧ okSol [R0, R1] ∧ 0 ≤ c ∧ c ≤ 2) ∧ k (.exit 0) [] [.cells [.own 1 1, .own 2 1], .row 133 (.ints .i64 ((solF (2 - c.toNat) c.toNat [R0, R1]).getD 0 [])), .row 133 (.ints .i64 ((solF (2 - c.toNat) c.toNat [R0, R1]).getD 1 []))]
  | _, _ => False
def slS2 : Spec := fun args σ K => match args, σ with
  | [.one (.own 0 1)], [.cells [.own 1 1, .own 2 1], .row 133 (.ints .i64 R0), .row 133 (.ints .i64 R1)] => okSol [R0, R1] ∧ ∀ X0 X1 : List Int, K (.one (.own 3 1)) [.cells [.own 1 1, .own 2 1], .row 133 (.ints .i64 X0), .row 133 (.ints .i64 X1), .row 133 (.ints .i64 (solV [R0, R1]))]
  | _, _ => False
noncomputable abbrev Esl2 : Env := envOf Try.prog [(98, inv2S), (130, timesS), (117, minusS)] [(3, .frm 3 [0, 15, 16] [] slA2), (8, .frm 1 [5, 6, 29, 30] [] scL), (13, .frm 3 [4, 5, 43, 44, 45] [] slB2), (18, .frm 2 [5, 9, 10, 58, 59] [] elL), (25, .unroll 3)] 95 3
noncomputable abbrev Esl2F1 : Env := envOf Try.prog [(98, inv2S), (130, timesS), (117, minusS)] [(3, .frm 3 [0, 15, 16] [] slA2), (8, .frm 1 [5, 6, 29, 30] [] scL), (13, .frm 3 [4, 5, 43, 44, 45] [] slB2), (18, .frm 2 [5, 9, 10, 58, 59] [] elL), (25, .unroll 3)] 95 1
noncomputable abbrev Esl2F2 : Env := envOf Try.prog [(98, inv2S), (130, timesS), (117, minusS)] [(3, .frm 3 [0, 15, 16] [] slA2), (8, .frm 1 [5, 6, 29, 30] [] scL), (13, .frm 3 [4, 5, 43, 44, 45] [] slB2), (18, .frm 2 [5, 9, 10, 58, 59] [] elL), (25, .unroll 3)] 95 2
noncomputable abbrev Esl2F3 : Env := envOf Try.prog [(98, inv2S), (130, timesS), (117, minusS)] [(3, .frm 3 [0, 15, 16] [] slA2), (8, .frm 1 [5, 6, 29, 30] [] scL), (13, .frm 3 [4, 5, 43, 44, 45] [] slB2), (18, .frm 2 [5, 9, 10, 58, 59] [] elL), (25, .unroll 3)] 95 3
def slA3 : LSpec := fun vs σ k => match vs, σ with
  | [.one (.own 0 1), .one (.int .i64 n), .one (.int .i64 c)], [.cells [.own 1 1, .own 2 1, .own 3 1], .row 133 (.ints .i64 R0), .row 133 (.ints .i64 R1), .row 133 (.ints .i64 R2)] => (n = 3 ∧ okSol [R0, R1, R2] ∧ 0 ≤ c ∧ c ≤ 3) ∧ k (.exit 0) [] [.cells [.own 1 1, .own 2 1, .own 3 1], .row 133 (.ints .i64 ((solF (3 - c.toNat) c.toNat [R0, R1, R2]).getD 0 [])), .row 133 (.ints .i64 ((solF (3 - c.toNat) c.toNat [R0, R1, R2]).getD 1 [])), .row 133 (.ints .i64 ((solF (3 - c.toNat) c.toNat [R0, R1, R2]).getD 2 []))]
  | _, _ => False
def slS3 : Spec := fun args σ K => match args, σ with
  | [.one (.own 0 1)], [.cells [.own 1 1, .own 2 1, .own 3 1], .row 133 (.ints .i64 R0), .row 133 (.ints .i64 R1), .row 133 (.ints .i64 R2)] => okSol [R0, R1, R2] ∧ ∀ X0 X1 X2 : List Int, K (.one (.own 4 1)) [.cells [.own 1 1, .own 2 1, .own 3 1], .row 133 (.ints .i64 X0), .row 133 (.ints .i64 X1), .row 133 (.ints .i64 X2), .row 133 (.ints .i64 (solV [R0, R1, R2]))]
  | _, _ => False
noncomputable abbrev Esl3 : Env := envOf Try.prog [(98, inv2S), (130, timesS), (117, minusS)] [(3, .frm 4 [0, 15, 16] [] slA3), (8, .frm 1 [5, 6, 29, 30] [] scL), (13, .frm 4 [4, 5, 43, 44, 45] [] slB3), (18, .frm 2 [5, 9, 10, 58, 59] [] elL), (25, .unroll 4)] 95 4
noncomputable abbrev Esl3F1 : Env := envOf Try.prog [(98, inv2S), (130, timesS), (117, minusS)] [(3, .frm 4 [0, 15, 16] [] slA3), (8, .frm 1 [5, 6, 29, 30] [] scL), (13, .frm 4 [4, 5, 43, 44, 45] [] slB3), (18, .frm 2 [5, 9, 10, 58, 59] [] elL), (25, .unroll 4)] 95 1
noncomputable abbrev Esl3F2 : Env := envOf Try.prog [(98, inv2S), (130, timesS), (117, minusS)] [(3, .frm 4 [0, 15, 16] [] slA3), (8, .frm 1 [5, 6, 29, 30] [] scL), (13, .frm 4 [4, 5, 43, 44, 45] [] slB3), (18, .frm 2 [5, 9, 10, 58, 59] [] elL), (25, .unroll 4)] 95 2
noncomputable abbrev Esl3F4 : Env := envOf Try.prog [(98, inv2S), (130, timesS), (117, minusS)] [(3, .frm 4 [0, 15, 16] [] slA3), (8, .frm 1 [5, 6, 29, 30] [] scL), (13, .frm 4 [4, 5, 43, 44, 45] [] slB3), (18, .frm 2 [5, 9, 10, 58, 59] [] elL), (25, .unroll 4)] 95 4
def slA4 : LSpec := fun vs σ k => match vs, σ with
  | [.one (.own 0 1), .one (.int .i64 n), .one (.int .i64 c)], [.cells [.own 1 1, .own 2 1, .own 3 1, .own 4 1], .row 133 (.ints .i64 R0), .row 133 (.ints .i64 R1), .row 133 (.ints .i64 R2), .row 133 (.ints .i64 R3)] => (n = 4 ∧ okSol [R0, R1, R2, R3] ∧ 0 ≤ c ∧ c ≤ 4) ∧ k (.exit 0) [] [.cells [.own 1 1, .own 2 1, .own 3 1, .own 4 1], .row 133 (.ints .i64 ((solF (4 - c.toNat) c.toNat [R0, R1, R2, R3]).getD 0 [])), .row 133 (.ints .i64 ((solF (4 - c.toNat) c.toNat [R0, R1, R2, R3]).getD 1 [])), .row 133 (.ints .i64 ((solF (4 - c.toNat) c.toNat [R0, R1, R2, R3]).getD 2 [])), .row 133 (.ints .i64 ((solF (4 - c.toNat) c.toNat [R0, R1, R2, R3]).getD 3 []))]
  | _, _ => False
def slS4 : Spec := fun args σ K => match args, σ with
  | [.one (.own 0 1)], [.cells [.own 1 1, .own 2 1, .own 3 1, .own 4 1], .row 133 (.ints .i64 R0), .row 133 (.ints .i64 R1), .row 133 (.ints .i64 R2), .row 133 (.ints .i64 R3)] => okSol [R0, R1, R2, R3] ∧ ∀ X0 X1 X2 X3 : List Int, K (.one (.own 5 1)) [.cells [.own 1 1, .own 2 1, .own 3 1, .own 4 1], .row 133 (.ints .i64 X0), .row 133 (.ints .i64 X1), .row 133 (.ints .i64 X2), .row 133 (.ints .i64 X3), .row 133 (.ints .i64 (solV [R0, R1, R2, R3]))]
  | _, _ => False
noncomputable abbrev Esl4 : Env := envOf Try.prog [(98, inv2S), (130, timesS), (117, minusS)] [(3, .frm 5 [0, 15, 16] [] slA4), (8, .frm 1 [5, 6, 29, 30] [] scL), (13, .frm 5 [4, 5, 43, 44, 45] [] slB4), (18, .frm 2 [5, 9, 10, 58, 59] [] elL), (25, .unroll 5)] 95 5
noncomputable abbrev Esl4F1 : Env := envOf Try.prog [(98, inv2S), (130, timesS), (117, minusS)] [(3, .frm 5 [0, 15, 16] [] slA4), (8, .frm 1 [5, 6, 29, 30] [] scL), (13, .frm 5 [4, 5, 43, 44, 45] [] slB4), (18, .frm 2 [5, 9, 10, 58, 59] [] elL), (25, .unroll 5)] 95 1
noncomputable abbrev Esl4F2 : Env := envOf Try.prog [(98, inv2S), (130, timesS), (117, minusS)] [(3, .frm 5 [0, 15, 16] [] slA4), (8, .frm 1 [5, 6, 29, 30] [] scL), (13, .frm 5 [4, 5, 43, 44, 45] [] slB4), (18, .frm 2 [5, 9, 10, 58, 59] [] elL), (25, .unroll 5)] 95 2
noncomputable abbrev Esl4F5 : Env := envOf Try.prog [(98, inv2S), (130, timesS), (117, minusS)] [(3, .frm 5 [0, 15, 16] [] slA4), (8, .frm 1 [5, 6, 29, 30] [] scL), (13, .frm 5 [4, 5, 43, 44, 45] [] slB4), (18, .frm 2 [5, 9, 10, 58, 59] [] elL), (25, .unroll 5)] 95 5
end Go.Ev

namespace Go.Ev
open Go Go.Proofs
set_option maxRecDepth 100000
theorem exsb1c0r0 (P : List Int) (K : Ex → List AV → List Blk → Prop) : evBody Esl1F2 (lb Try.f118 2) [4, 5, 43, 44, 45] [] [.one (.int .i64 0), .one (.own 0 1), .one (.own 1 1), .one (.int .i64 1), .one (.int .i64 0)] [.row 133 (.ints .i64 P), .cells [.own 0 1]] K = ( bif decide ((0 : Int) ≤ (0 : Int)) && decide ((0 : Int) < (↑P.length : Int)) then bif decide (0 < P.length) then K .normal [.one (.int .i64 (0 : Int)), .one (.own 0 1), .one (.own 1 1), .one (.int .i64 (1 : Int)), .one (.int .i64 (1 : Int))] [Blk.row 133 (Row.ints .i64 P), Blk.cells [SV.own 0 1]] else False else False) := by kernel_rfl
theorem exsb1c0r1 (P : List Int) (K : Ex → List AV → List Blk → Prop) : evBody Esl1F2 (lb Try.f118 2) [4, 5, 43, 44, 45] [] [.one (.int .i64 0), .one (.own 0 1), .one (.own 1 1), .one (.int .i64 1), .one (.int .i64 1)] [.row 133 (.ints .i64 P), .cells [.own 0 1]] K = ( K (.exit 4) [] [Blk.row 133 (Row.ints .i64 P), Blk.cells [SV.own 0 1]]) := by kernel_rfl
theorem exsb2c0r0 (P S1 : List Int) (K : Ex → List AV → List Blk → Prop) : evBody Esl2F3 (lb Try.f118 2) [4, 5, 43, 44, 45] [] [.one (.int .i64 0), .one (.own 0 1), .one (.own 1 1), .one (.int .i64 2), .one (.int .i64 0)] [.row 133 (.ints .i64 P), .cells [.own 0 1, .own 2 1], .row 133 (.ints .i64 S1)] K = ( bif decide ((0 : Int) ≤ (0 : Int)) && decide ((0 : Int) < (↑P.length : Int)) then bif decide (0 < P.length) then K .normal [.one (.int .i64 (0 : Int)), .one (.own 0 1), .one (.own 1 1), .one (.int .i64 (2 : Int)), .one (.int .i64 (1 : Int))] [Blk.row 133 (Row.ints .i64 P), Blk.cells [SV.own 0 1, SV.own 2 1], Blk.row 133 (Row.ints .i64 S1)] else False else False) := by kernel_rfl
theorem exsb2c0r1 (P S1 : List Int) (K : Ex → List AV → List Blk → Prop) : evBody Esl2F3 (lb Try.f118 2) [4, 5, 43, 44, 45] [] [.one (.int .i64 0), .one (.own 0 1), .one (.own 1 1), .one (.int .i64 2), .one (.int .i64 1)] [.row 133 (.ints .i64 P), .cells [.own 0 1, .own 2 1], .row 133 (.ints .i64 S1)] K = ( bif decide ((0 : Int) ≤ (0 : Int)) && decide ((0 : Int) < (↑S1.length : Int)) then bif decide (0 < S1.length) then ((0 : Int) ≤ S1.getD 0 (0 : Int) ∧ S1.getD 0 (0 : Int) < (65537 : Int) ∧ (↑S1.length : Int) = (↑S1.length : Int) ∧ P.length = S1.length ∧ S1.length ≤ 100 ∧ resRow S1 = true ∧ resRow P = true ∧ (0 : Int) ≤ (0 : Int) ∧ (0 : Int) ≤ (↑S1.length : Int)) ∧ K .normal [.one (.int .i64 (0 : Int)), .one (.own 0 1), .one (.own 1 1), .one (.int .i64 (2 : Int)), .one (.int .i64 (2 : Int))] [Blk.row 133 (Row.ints .i64 P), Blk.cells [SV.own 0 1, SV.own 2 1], Blk.row 133 (Row.ints .i64 (elR P S1 (S1.getD 0 (0 : Int))))] else False else False) := by kernel_rfl
theorem exsb2c0r2 (P S1 : List Int) (K : Ex → List AV → List Blk → Prop) : evBody Esl2F3 (lb Try.f118 2) [4, 5, 43, 44, 45] [] [.one (.int .i64 0), .one (.own 0 1), .one (.own 1 1), .one (.int .i64 2), .one (.int .i64 2)] [.row 133 (.ints .i64 P), .cells [.own 0 1, .own 2 1], .row 133 (.ints .i64 S1)] K = ( K (.exit 4) [] [Blk.row 133 (Row.ints .i64 P), Blk.cells [SV.own 0 1, SV.own 2 1], Blk.row 133 (Row.ints .i64 S1)]) := by kernel_rfl
theorem exsb2c1r0 (P S0 : List Int) (K : Ex → List AV → List Blk → Prop) : evBody Esl2F3 (lb Try.f118 2) [4, 5, 43, 44, 45] [] [.one (.int .i64 1), .one (.own 0 1), .one (.own 1 1), .one (.int .i64 2), .one (.int .i64 0)] [.row 133 (.ints .i64 P), .cells [.own 2 1, .own 0 1], .row 133 (.ints .i64 S0)] K = ( bif decide ((0 : Int) ≤ (1 : Int)) && decide ((1 : Int) < (↑S0.length : Int)) then bif decide (1 < S0.length) then ((0 : Int) ≤ S0.getD 1 (0 : Int) ∧ S0.getD 1 (0 : Int) < (65537 : Int) ∧ (↑S0.length : Int) = (↑S0.length : Int) ∧ P.length = S0.length ∧ S0.length ≤ 100 ∧ resRow S0 = true ∧ resRow P = true ∧ (0 : Int) ≤ (0 : Int) ∧ (0 : Int) ≤ (↑S0.length : Int)) ∧ K .normal [.one (.int .i64 (1 : Int)), .one (.own 0 1), .one (.own 1 1), .one (.int .i64 (2 : Int)), .one (.int .i64 (1 : Int))] [Blk.row 133 (Row.ints .i64 P), Blk.cells [SV.own 2 1, SV.own 0 1], Blk.row 133 (Row.ints .i64 (elR P S0 (S0.getD 1 (0 : Int))))] else False else False) := by kernel_rfl
theorem exsb2c1r1 (P S0 : List Int) (K : Ex → List AV → List Blk → Prop) : evBody Esl2F3 (lb Try.f118 2) [4, 5, 43, 44, 45] [] [.one (.int .i64 1), .one (.own 0 1), .one (.own 1 1), .one (.int .i64 2), .one (.int .i64 1)] [.row 133 (.ints .i64 P), .cells [.own 2 1, .own 0 1], .row 133 (.ints .i64 S0)] K = ( bif decide ((0 : Int) ≤ (1 : Int)) && decide ((1 : Int) < (↑P.length : Int)) then bif decide (1 < P.length) then K .normal [.one (.int .i64 (1 : Int)), .one (.own 0 1), .one (.own 1 1), .one (.int .i64 (2 : Int)), .one (.int .i64 (2 : Int))] [Blk.row 133 (Row.ints .i64 P), Blk.cells [SV.own 2 1, SV.own 0 1], Blk.row 133 (Row.ints .i64 S0)] else False else False) := by kernel_rfl
theorem exsb2c1r2 (P S0 : List Int) (K : Ex → List AV → List Blk → Prop) : evBody Esl2F3 (lb Try.f118 2) [4, 5, 43, 44, 45] [] [.one (.int .i64 1), .one (.own 0 1), .one (.own 1 1), .one (.int .i64 2), .one (.int .i64 2)] [.row 133 (.ints .i64 P), .cells [.own 2 1, .own 0 1], .row 133 (.ints .i64 S0)] K = ( K (.exit 4) [] [Blk.row 133 (Row.ints .i64 P), Blk.cells [SV.own 2 1, SV.own 0 1], Blk.row 133 (Row.ints .i64 S0)]) := by kernel_rfl
theorem exsb3c0r0 (P S1 S2 : List Int) (K : Ex → List AV → List Blk → Prop) : evBody Esl3F4 (lb Try.f118 2) [4, 5, 43, 44, 45] [] [.one (.int .i64 0), .one (.own 0 1), .one (.own 1 1), .one (.int .i64 3), .one (.int .i64 0)] [.row 133 (.ints .i64 P), .cells [.own 0 1, .own 2 1, .own 3 1], .row 133 (.ints .i64 S1), .row 133 (.ints .i64 S2)] K = ( bif decide ((0 : Int) ≤ (0 : Int)) && decide ((0 : Int) < (↑P.length : Int)) then bif decide (0 < P.length) then K .normal [.one (.int .i64 (0 : Int)), .one (.own 0 1), .one (.own 1 1), .one (.int .i64 (3 : Int)), .one (.int .i64 (1 : Int))] [Blk.row 133 (Row.ints .i64 P), Blk.cells [SV.own 0 1, SV.own 2 1, SV.own 3 1], Blk.row 133 (Row.ints .i64 S1), Blk.row 133 (Row.ints .i64 S2)] else False else False) := by kernel_rfl
theorem exsb3c0r1 (P S1 S2 : List Int) (K : Ex → List AV → List Blk → Prop) : evBody Esl3F4 (lb Try.f118 2) [4, 5, 43, 44, 45] [] [.one (.int .i64 0), .one (.own 0 1), .one (.own 1 1), .one (.int .i64 3), .one (.int .i64 1)] [.row 133 (.ints .i64 P), .cells [.own 0 1, .own 2 1, .own 3 1], .row 133 (.ints .i64 S1), .row 133 (.ints .i64 S2)] K = ( bif decide ((0 : Int) ≤ (0 : Int)) && decide ((0 : Int) < (↑S1.length : Int)) then bif decide (0 < S1.length) then ((0 : Int) ≤ S1.getD 0 (0 : Int) ∧ S1.getD 0 (0 : Int) < (65537 : Int) ∧ (↑S1.length : Int) = (↑S1.length : Int) ∧ P.length = S1.length ∧ S1.length ≤ 100 ∧ resRow S1 = true ∧ resRow P = true ∧ (0 : Int) ≤ (0 : Int) ∧ (0 : Int) ≤ (↑S1.length : Int)) ∧ K .normal [.one (.int .i64 (0 : Int)), .one (.own 0 1), .one (.own 1 1), .one (.int .i64 (3 : Int)), .one (.int .i64 (2 : Int))] [Blk.row 133 (Row.ints .i64 P), Blk.cells [SV.own 0 1, SV.own 2 1, SV.own 3 1], Blk.row 133 (Row.ints .i64 (elR P S1 (S1.getD 0 (0 : Int)))), Blk.row 133 (Row.ints .i64 S2)] else False else False) := by kernel_rfl
theorem exsb3c0r2 (P S1 S2 : List Int) (K : Ex → List AV → List Blk → Prop) : evBody Esl3F4 (lb Try.f118 2) [4, 5, 43, 44, 45] [] [.one (.int .i64 0), .one (.own 0 1), .one (.own 1 1), .one (.int .i64 3), .one (.int .i64 2)] [.row 133 (.ints .i64 P), .cells [.own 0 1, .own 2 1, .own 3 1], .row 133 (.ints .i64 S1), .row 133 (.ints .i64 S2)] K = ( bif decide ((0 : Int) ≤ (0 : Int)) && decide ((0 : Int) < (↑S2.length : Int)) then bif decide (0 < S2.length) then ((0 : Int) ≤ S2.getD 0 (0 : Int) ∧ S2.getD 0 (0 : Int) < (65537 : Int) ∧ (↑S2.length : Int) = (↑S2.length : Int) ∧ P.length = S2.length ∧ S2.length ≤ 100 ∧ resRow S2 = true ∧ resRow P = true ∧ (0 : Int) ≤ (0 : Int) ∧ (0 : Int) ≤ (↑S2.length : Int)) ∧ K .normal [.one (.int .i64 (0 : Int)), .one (.own 0 1), .one (.own 1 1), .one (.int .i64 (3 : Int)), .one (.int .i64 (3 : Int))] [Blk.row 133 (Row.ints .i64 P), Blk.cells [SV.own 0 1, SV.own 2 1, SV.own 3 1], Blk.row 133 (Row.ints .i64 S1), Blk.row 133 (Row.ints .i64 (elR P S2 (S2.getD 0 (0 : Int))))] else False else False) := by kernel_rfl
theorem exsb3c0r3 (P S1 S2 : List Int) (K : Ex → List AV → List Blk → Prop) : evBody Esl3F4 (lb Try.f118 2) [4, 5, 43, 44, 45] [] [.one (.int .i64 0), .one (.own 0 1), .one (.own 1 1), .one (.int .i64 3), .one (.int .i64 3)] [.row 133 (.ints .i64 P), .cells [.own 0 1, .own 2 1, .own 3 1], .row 133 (.ints .i64 S1), .row 133 (.ints .i64 S2)] K = ( K (.exit 4) [] [Blk.row 133 (Row.ints .i64 P), Blk.cells [SV.own 0 1, SV.own 2 1, SV.own 3 1], Blk.row 133 (Row.ints .i64 S1), Blk.row 133 (Row.ints .i64 S2)]) := by kernel_rfl
theorem exsb3c1r0 (P S0 S2 : List Int) (K : Ex → List AV → List Blk → Prop) : evBody Esl3F4 (lb Try.f118 2) [4, 5, 43, 44, 45] [] [.one (.int .i64 1), .one (.own 0 1), .one (.own 1 1), .one (.int .i64 3), .one (.int .i64 0)] [.row 133 (.ints .i64 P), .cells [.own 2 1, .own 0 1, .own 3 1], .row 133 (.ints .i64 S0), .row 133 (.ints .i64 S2)] K = ( bif decide ((0 : Int) ≤ (1 : Int)) && decide ((1 : Int) < (↑S0.length : Int)) then bif decide (1 < S0.length) then ((0 : Int) ≤ S0.getD 1 (0 : Int) ∧ S0.getD 1 (0 : Int) < (65537 : Int) ∧ (↑S0.length : Int) = (↑S0.length : Int) ∧ P.length = S0.length ∧ S0.length ≤ 100 ∧ resRow S0 = true ∧ resRow P = true ∧ (0 : Int) ≤ (0 : Int) ∧ (0 : Int) ≤ (↑S0.length : Int)) ∧ K .normal [.one (.int .i64 (1 : Int)), .one (.own 0 1), .one (.own 1 1), .one (.int .i64 (3 : Int)), .one (.int .i64 (1 : Int))] [Blk.row 133 (Row.ints .i64 P), Blk.cells [SV.own 2 1, SV.own 0 1, SV.own 3 1], Blk.row 133 (Row.ints .i64 (elR P S0 (S0.getD 1 (0 : Int)))), Blk.row 133 (Row.ints .i64 S2)] else False else False) := by kernel_rfl
theorem exsb3c1r1 (P S0 S2 : List Int) (K : Ex → List AV → List Blk → Prop) : evBody Esl3F4 (lb Try.f118 2) [4, 5, 43, 44, 45] [] [.one (.int .i64 1), .one (.own 0 1), .one (.own 1 1), .one (.int .i64 3), .one (.int .i64 1)] [.row 133 (.ints .i64 P), .cells [.own 2 1, .own 0 1, .own 3 1], .row 133 (.ints .i64 S0), .row 133 (.ints .i64 S2)] K = ( bif decide ((0 : Int) ≤ (1 : Int)) && decide ((1 : Int) < (↑P.length : Int)) then bif decide (1 < P.length) then K .normal [.one (.int .i64 (1 : Int)), .one (.own 0 1), .one (.own 1 1), .one (.int .i64 (3 : Int)), .one (.int .i64 (2 : Int))] [Blk.row 133 (Row.ints .i64 P), Blk.cells [SV.own 2 1, SV.own 0 1, SV.own 3 1], Blk.row 133 (Row.ints .i64 S0), Blk.row 133 (Row.ints .i64 S2)] else False else False) := by kernel_rfl
theorem exsb3c1r2 (P S0 S2 : List Int) (K : Ex → List AV → List Blk → Prop) : evBody Esl3F4 (lb Try.f118 2) [4, 5, 43, 44, 45] [] [.one (.int .i64 1), .one (.own 0 1), .one (.own 1 1), .one (.int .i64 3), .one (.int .i64 2)] [.row 133 (.ints .i64 P), .cells [.own 2 1, .own 0 1, .own 3 1], .row 133 (.ints .i64 S0), .row 133 (.ints .i64 S2)] K = ( bif decide ((0 : Int) ≤ (1 : Int)) && decide ((1 : Int) < (↑S2.length : Int)) then bif decide (1 < S2.length) then ((0 : Int) ≤ S2.getD 1 (0 : Int) ∧ S2.getD 1 (0 : Int) < (65537 : Int) ∧ (↑S2.length : Int) = (↑S2.length : Int) ∧ P.length = S2.length ∧ S2.length ≤ 100 ∧ resRow S2 = true ∧ resRow P = true ∧ (0 : Int) ≤ (0 : Int) ∧ (0 : Int) ≤ (↑S2.length : Int)) ∧ K .normal [.one (.int .i64 (1 : Int)), .one (.own 0 1), .one (.own 1 1), .one (.int .i64 (3 : Int)), .one (.int .i64 (3 : Int))] [Blk.row 133 (Row.ints .i64 P), Blk.cells [SV.own 2 1, SV.own 0 1, SV.own 3 1], Blk.row 133 (Row.ints .i64 S0), Blk.row 133 (Row.ints .i64 (elR P S2 (S2.getD 1 (0 : Int))))] else False else False) := by kernel_rfl
theorem exsb3c1r3 (P S0 S2 : List Int) (K : Ex → List AV → List Blk → Prop) : evBody Esl3F4 (lb Try.f118 2) [4, 5, 43, 44, 45] [] [.one (.int .i64 1), .one (.own 0 1), .one (.own 1 1), .one (.int .i64 3), .one (.int .i64 3)] [.row 133 (.ints .i64 P), .cells [.own 2 1, .own 0 1, .own 3 1], .row 133 (.ints .i64 S0), .row 133 (.ints .i64 S2)] K = ( K (.exit 4) [] [Blk.row 133 (Row.ints .i64 P), Blk.cells [SV.own 2 1, SV.own 0 1, SV.own 3 1], Blk.row 133 (Row.ints .i64 S0), Blk.row 133 (Row.ints .i64 S2)]) := by kernel_rfl
theorem exsb3c2r0 (P S0 S1 : List Int) (K : Ex → List AV → List Blk → Prop) : evBody Esl3F4 (lb Try.f118 2) [4, 5, 43, 44, 45] [] [.one (.int .i64 2), .one (.own 0 1), .one (.own 1 1), .one (.int .i64 3), .one (.int .i64 0)] [.row 133 (.ints .i64 P), .cells [.own 2 1, .own 3 1, .own 0 1], .row 133 (.ints .i64 S0), .row 133 (.ints .i64 S1)] K = ( bif decide ((0 : Int) ≤ (2 : Int)) && decide ((2 : Int) < (↑S0.length : Int)) then bif decide (2 < S0.length) then ((0 : Int) ≤ S0.getD 2 (0 : Int) ∧ S0.getD 2 (0 : Int) < (65537 : Int) ∧ (↑S0.length : Int) = (↑S0.length : Int) ∧ P.length = S0.length ∧ S0.length ≤ 100 ∧ resRow S0 = true ∧ resRow P = true ∧ (0 : Int) ≤ (0 : Int) ∧ (0 : Int) ≤ (↑S0.length : Int)) ∧ K .normal [.one (.int .i64 (2 : Int)), .one (.own 0 1), .one (.own 1 1), .one (.int .i64 (3 : Int)), .one (.int .i64 (1 : Int))] [Blk.row 133 (Row.ints .i64 P), Blk.cells [SV.own 2 1, SV.own 3 1, SV.own 0 1], Blk.row 133 (Row.ints .i64 (elR P S0 (S0.getD 2 (0 : Int)))), Blk.row 133 (Row.ints .i64 S1)] else False else False) := by kernel_rfl
theorem exsb3c2r1 (P S0 S1 : List Int) (K : Ex → List AV → List Blk → Prop) : evBody Esl3F4 (lb Try.f118 2) [4, 5, 43, 44, 45] [] [.one (.int .i64 2), .one (.own 0 1), .one (.own 1 1), .one (.int .i64 3), .one (.int .i64 1)] [.row 133 (.ints .i64 P), .cells [.own 2 1, .own 3 1, .own 0 1], .row 133 (.ints .i64 S0), .row 133 (.ints .i64 S1)] K = ( bif decide ((0 : Int) ≤ (2 : Int)) && decide ((2 : Int) < (↑S1.length : Int)) then bif decide (2 < S1.length) then ((0 : Int) ≤ S1.getD 2 (0 : Int) ∧ S1.getD 2 (0 : Int) < (65537 : Int) ∧ (↑S1.length : Int) = (↑S1.length : Int) ∧ P.length = S1.length ∧ S1.length ≤ 100 ∧ resRow S1 = true ∧ resRow P = true ∧ (0 : Int) ≤ (0 : Int) ∧ (0 : Int) ≤ (↑S1.length : Int)) ∧ K .normal [.one (.int .i64 (2 : Int)), .one (.own 0 1), .one (.own 1 1), .one (.int .i64 (3 : Int)), .one (.int .i64 (2 : Int))] [Blk.row 133 (Row.ints .i64 P), Blk.cells [SV.own 2 1, SV.own 3 1, SV.own 0 1], Blk.row 133 (Row.ints .i64 S0), Blk.row 133 (Row.ints .i64 (elR P S1 (S1.getD 2 (0 : Int))))] else False else False) := by kernel_rfl
theorem exsb3c2r2 (P S0 S1 : List Int) (K : Ex → List AV → List Blk → Prop) : evBody Esl3F4 (lb Try.f118 2) [4, 5, 43, 44, 45] [] [.one (.int .i64 2), .one (.own 0 1), .one (.own 1 1), .one (.int .i64 3), .one (.int .i64 2)] [.row 133 (.ints .i64 P), .cells [.own 2 1, .own 3 1, .own 0 1], .row 133 (.ints .i64 S0), .row 133 (.ints .i64 S1)] K = ( bif decide ((0 : Int) ≤ (2 : Int)) && decide ((2 : Int) < (↑P.length : Int)) then bif decide (2 < P.length) then K .normal [.one (.int .i64 (2 : Int)), .one (.own 0 1), .one (.own 1 1), .one (.int .i64 (3 : Int)), .one (.int .i64 (3 : Int))] [Blk.row 133 (Row.ints .i64 P), Blk.cells [SV.own 2 1, SV.own 3 1, SV.own 0 1], Blk.row 133 (Row.ints .i64 S0), Blk.row 133 (Row.ints .i64 S1)] else False else False) := by kernel_rfl
theorem exsb3c2r3 (P S0 S1 : List Int) (K : Ex → List AV → List Blk → Prop) : evBody Esl3F4 (lb Try.f118 2) [4, 5, 43, 44, 45] [] [.one (.int .i64 2), .one (.own 0 1), .one (.own 1 1), .one (.int .i64 3), .one (.int .i64 3)] [.row 133 (.ints .i64 P), .cells [.own 2 1, .own 3 1, .own 0 1], .row 133 (.ints .i64 S0), .row 133 (.ints .i64 S1)] K = ( K (.exit 4) [] [Blk.row 133 (Row.ints .i64 P), Blk.cells [SV.own 2 1, SV.own 3 1, SV.own 0 1], Blk.row 133 (Row.ints .i64 S0), Blk.row 133 (Row.ints .i64 S1)]) := by kernel_rfl
theorem exsb4c0r0 (P S1 S2 S3 : List Int) (K : Ex → List AV → List Blk → Prop) : evBody Esl4F5 (lb Try.f118 2) [4, 5, 43, 44, 45] [] [.one (.int .i64 0), .one (.own 0 1), .one (.own 1 1), .one (.int .i64 4), .one (.int .i64 0)] [.row 133 (.ints .i64 P), .cells [.own 0 1, .own 2 1, .own 3 1, .own 4 1], .row 133 (.ints .i64 S1), .row 133 (.ints .i64 S2), .row 133 (.ints .i64 S3)] K = ( bif decide ((0 : Int) ≤ (0 : Int)) && decide ((0 : Int) < (↑P.length : Int)) then bif decide (0 < P.length) then K .normal [.one (.int .i64 (0 : Int)), .one (.own 0 1), .one (.own 1 1), .one (.int .i64 (4 : Int)), .one (.int .i64 (1 : Int))] [Blk.row 133 (Row.ints .i64 P), Blk.cells [SV.own 0 1, SV.own 2 1, SV.own 3 1, SV.own 4 1], Blk.row 133 (Row.ints .i64 S1), Blk.row 133 (Row.ints .i64 S2), Blk.row 133 (Row.ints .i64 S3)] else False else False) := by kernel_rfl
theorem exsb4c0r1 (P S1 S2 S3 : List Int) (K : Ex → List AV → List Blk → Prop) : evBody Esl4F5 (lb Try.f118 2) [4, 5, 43, 44, 45] [] [.one (.int .i64 0), .one (.own 0 1), .one (.own 1 1), .one (.int .i64 4), .one (.int .i64 1)] [.row 133 (.ints .i64 P), .cells [.own 0 1, .own 2 1, .own 3 1, .own 4 1], .row 133 (.ints .i64 S1), .row 133 (.ints .i64 S2), .row 133 (.ints .i64 S3)] K = ( bif decide ((0 : Int) ≤ (0 : Int)) && decide ((0 : Int) < (↑S1.length : Int)) then bif decide (0 < S1.length) then ((0 : Int) ≤ S1.getD 0 (0 : Int) ∧ S1.getD 0 (0 : Int) < (65537 : Int) ∧ (↑S1.length : Int) = (↑S1.length : Int) ∧ P.length = S1.length ∧ S1.length ≤ 100 ∧ resRow S1 = true ∧ resRow P = true ∧ (0 : Int) ≤ (0 : Int) ∧ (0 : Int) ≤ (↑S1.length : Int)) ∧ K .normal [.one (.int .i64 (0 : Int)), .one (.own 0 1), .one (.own 1 1), .one (.int .i64 (4 : Int)), .one (.int .i64 (2 : Int))] [Blk.row 133 (Row.ints .i64 P), Blk.cells [SV.own 0 1, SV.own 2 1, SV.own 3 1, SV.own 4 1], Blk.row 133 (Row.ints .i64 (elR P S1 (S1.getD 0 (0 : Int)))), Blk.row 133 (Row.ints .i64 S2), Blk.row 133 (Row.ints .i64 S3)] else False else False) := by kernel_rfl
theorem exsb4c0r2 (P S1 S2 S3 : List Int) (K : Ex → List AV → List Blk → Prop) : evBody Esl4F5 (lb Try.f118 2) [4, 5, 43, 44, 45] [] [.one (.int .i64 0), .one (.own 0 1), .one (.own 1 1), .one (.int .i64 4), .one (.int .i64 2)] [.row 133 (.ints .i64 P), .cells [.own 0 1, .own 2 1, .own 3 1, .own 4 1], .row 133 (.ints .i64 S1), .row 133 (.ints .i64 S2), .row 133 (.ints .i64 S3)] K = ( bif decide ((0 : Int) ≤ (0 : Int)) && decide ((0 : Int) < (↑S2.length : Int)) then bif decide (0 < S2.length) then ((0 : Int) ≤ S2.getD 0 (0 : Int) ∧ S2.getD 0 (0 : Int) < (65537 : Int) ∧ (↑S2.length : Int) = (↑S2.length : Int) ∧ P.length = S2.length ∧ S2.length ≤ 100 ∧ resRow S2 = true ∧ resRow P = true ∧ (0 : Int) ≤ (0 : Int) ∧ (0 : Int) ≤ (↑S2.length : Int)) ∧ K .normal [.one (.int .i64 (0 : Int)), .one (.own 0 1), .one (.own 1 1), .one (.int .i64 (4 : Int)), .one (.int .i64 (3 : Int))] [Blk.row 133 (Row.ints .i64 P), Blk.cells [SV.own 0 1, SV.own 2 1, SV.own 3 1, SV.own 4 1], Blk.row 133 (Row.ints .i64 S1), Blk.row 133 (Row.ints .i64 (elR P S2 (S2.getD 0 (0 : Int)))), Blk.row 133 (Row.ints .i64 S3)] else False else False) := by kernel_rfl
theorem exsb4c0r3 (P S1 S2 S3 : List Int) (K : Ex → List AV → List Blk → Prop) : evBody Esl4F5 (lb Try.f118 2) [4, 5, 43, 44, 45] [] [.one (.int .i64 0), .one (.own 0 1), .one (.own 1 1), .one (.int .i64 4), .one (.int .i64 3)] [.row 133 (.ints .i64 P), .cells [.own 0 1, .own 2 1, .own 3 1, .own 4 1], .row 133 (.ints .i64 S1), .row 133 (.ints .i64 S2), .row 133 (.ints .i64 S3)] K = ( bif decide ((0 : Int) ≤ (0 : Int)) && decide ((0 : Int) < (↑S3.length : Int)) then bif decide (0 < S3.length) then ((0 : Int) ≤ S3.getD 0 (0 : Int) ∧ S3.getD 0 (0 : Int) < (65537 : Int) ∧ (↑S3.length : Int) = (↑S3.length : Int) ∧ P.length = S3.length ∧ S3.length ≤ 100 ∧ resRow S3 = true ∧ resRow P = true ∧ (0 : Int) ≤ (0 : Int) ∧ (0 : Int) ≤ (↑S3.length : Int)) ∧ K .normal [.one (.int .i64 (0 : Int)), .one (.own 0 1), .one (.own 1 1), .one (.int .i64 (4 : Int)), .one (.int .i64 (4 : Int))] [Blk.row 133 (Row.ints .i64 P), Blk.cells [SV.own 0 1, SV.own 2 1, SV.own 3 1, SV.own 4 1], Blk.row 133 (Row.ints .i64 S1), Blk.row 133 (Row.ints .i64 S2), Blk.row 133 (Row.ints .i64 (elR P S3 (S3.getD 0 (0 : Int))))] else False else False) := by kernel_rfl
theorem exsb4c0r4 (P S1 S2 S3 : List Int) (K : Ex → List AV → List Blk → Prop) : evBody Esl4F5 (lb Try.f118 2) [4, 5, 43, 44, 45] [] [.one (.int .i64 0), .one (.own 0 1), .one (.own 1 1), .one (.int .i64 4), .one (.int .i64 4)] [.row 133 (.ints .i64 P), .cells [.own 0 1, .own 2 1, .own 3 1, .own 4 1], .row 133 (.ints .i64 S1), .row 133 (.ints .i64 S2), .row 133 (.ints .i64 S3)] K = ( K (.exit 4) [] [Blk.row 133 (Row.ints .i64 P), Blk.cells [SV.own 0 1, SV.own 2 1, SV.own 3 1, SV.own 4 1], Blk.row 133 (Row.ints .i64 S1), Blk.row 133 (Row.ints .i64 S2), Blk.row 133 (Row.ints .i64 S3)]) := by kernel_rfl
theorem exsb4c1r0 (P S0 S2 S3 : List Int) (K : Ex → List AV → List Blk → Prop) : evBody Esl4F5 (lb Try.f118 2) [4, 5, 43, 44, 45] [] [.one (.int .i64 1), .one (.own 0 1), .one (.own 1 1), .one (.int .i64 4), .one (.int .i64 0)] [.row 133 (.ints .i64 P), .cells [.own 2 1, .own 0 1, .own 3 1, .own 4 1], .row 133 (.ints .i64 S0), .row 133 (.ints .i64 S2), .row 133 (.ints .i64 S3)] K = ( bif decide ((0 : Int) ≤ (1 : Int)) && decide ((1 : Int) < (↑S0.length : Int)) then bif decide (1 < S0.length) then ((0 : Int) ≤ S0.getD 1 (0 : Int) ∧ S0.getD 1 (0 : Int) < (65537 : Int) ∧ (↑S0.length : Int) = (↑S0.length : Int) ∧ P.length = S0.length ∧ S0.length ≤ 100 ∧ resRow S0 = true ∧ resRow P = true ∧ (0 : Int) ≤ (0 : Int) ∧ (0 : Int) ≤ (↑S0.length : Int)) ∧ K .normal [.one (.int .i64 (1 : Int)), .one (.own 0 1), .one (.own 1 1), .one (.int .i64 (4 : Int)), .one (.int .i64 (1 : Int))] [Blk.row 133 (Row.ints .i64 P), Blk.cells [SV.own 2 1, SV.own 0 1, SV.own 3 1, SV.own 4 1], Blk.row 133 (Row.ints .i64 (elR P S0 (S0.getD 1 (0 : Int)))), Blk.row 133 (Row.ints .i64 S2), Blk.row 133 (Row.ints .i64 S3)] else False else False) := by kernel_rfl
theorem exsb4c1r1 (P S0 S2 S3 : List Int) (K : Ex → List AV → List Blk → Prop) : evBody Esl4F5 (lb Try.f118 2) [4, 5, 43, 44, 45] [] [.one (.int .i64 1), .one (.own 0 1), .one (.own 1 1), .one (.int .i64 4), .one (.int .i64 1)] [.row 133 (.ints .i64 P), .cells [.own 2 1, .own 0 1, .own 3 1, .own 4 1], .row 133 (.ints .i64 S0), .row 133 (.ints .i64 S2), .row 133 (.ints .i64 S3)] K = ( bif decide ((0 : Int) ≤ (1 : Int)) && decide ((1 : Int) < (↑P.length : Int)) then bif decide (1 < P.length) then K .normal [.one (.int .i64 (1 : Int)), .one (.own 0 1), .one (.own 1 1), .one (.int .i64 (4 : Int)), .one (.int .i64 (2 : Int))] [Blk.row 133 (Row.ints .i64 P), Blk.cells [SV.own 2 1, SV.own 0 1, SV.own 3 1, SV.own 4 1], Blk.row 133 (Row.ints .i64 S0), Blk.row 133 (Row.ints .i64 S2), Blk.row 133 (Row.ints .i64 S3)] else False else False) := by kernel_rfl
theorem exsb4c1r2 (P S0 S2 S3 : List Int) (K : Ex → List AV → List Blk → Prop) : evBody Esl4F5 (lb Try.f118 2) [4, 5, 43, 44, 45] [] [.one (.int .i64 1), .one (.own 0 1), .one (.own 1 1), .one (.int .i64 4), .one (.int .i64 2)] [.row 133 (.ints .i64 P), .cells [.own 2 1, .own 0 1, .own 3 1, .own 4 1], .row 133 (.ints .i64 S0), .row 133 (.ints .i64 S2), .row 133 (.ints .i64 S3)] K = ( bif decide ((0 : Int) ≤ (1 : Int)) && decide ((1 : Int) < (↑S2.length : Int)) then bif decide (1 < S2.length) then ((0 : Int) ≤ S2.getD 1 (0 : Int) ∧ S2.getD 1 (0 : Int) < (65537 : Int) ∧ (↑S2.length : Int) = (↑S2.length : Int) ∧ P.length = S2.length ∧ S2.length ≤ 100 ∧ resRow S2 = true ∧ resRow P = true ∧ (0 : Int) ≤ (0 : Int) ∧ (0 : Int) ≤ (↑S2.length : Int)) ∧ K .normal [.one (.int .i64 (1 : Int)), .one (.own 0 1), .one (.own 1 1), .one (.int .i64 (4 : Int)), .one (.int .i64 (3 : Int))] [Blk.row 133 (Row.ints .i64 P), Blk.cells [SV.own 2 1, SV.own 0 1, SV.own 3 1, SV.own 4 1], Blk.row 133 (Row.ints .i64 S0), Blk.row 133 (Row.ints .i64 (elR P S2 (S2.getD 1 (0 : Int)))), Blk.row 133 (Row.ints .i64 S3)] else False else False) := by kernel_rfl
theorem exsb4c1r3 (P S0 S2 S3 : List Int) (K : Ex → List AV → List Blk → Prop) : evBody Esl4F5 (lb Try.f118 2) [4, 5, 43, 44, 45] [] [.one (.int .i64 1), .one (.own 0 1), .one (.own 1 1), .one (.int .i64 4), .one (.int .i64 3)] [.row 133 (.ints .i64 P), .cells [.own 2 1, .own 0 1, .own 3 1, .own 4 1], .row 133 (.ints .i64 S0), .row 133 (.ints .i64 S2), .row 133 (.ints .i64 S3)] K = ( bif decide ((0 : Int) ≤ (1 : Int)) && decide ((1 : Int) < (↑S3.length : Int)) then bif decide (1 < S3.length) then ((0 : Int) ≤ S3.getD 1 (0 : Int) ∧ S3.getD 1 (0 : Int) < (65537 : Int) ∧ (↑S3.length : Int) = (↑S3.length : Int) ∧ P.length = S3.length ∧ S3.length ≤ 100 ∧ resRow S3 = true ∧ resRow P = true ∧ (0 : Int) ≤ (0 : Int) ∧ (0 : Int) ≤ (↑S3.length : Int)) ∧ K .normal [.one (.int .i64 (1 : Int)), .one (.own 0 1), .one (.own 1 1), .one (.int .i64 (4 : Int)), .one (.int .i64 (4 : Int))] [Blk.row 133 (Row.ints .i64 P), Blk.cells [SV.own 2 1, SV.own 0 1, SV.own 3 1, SV.own 4 1], Blk.row 133 (Row.ints .i64 S0), Blk.row 133 (Row.ints .i64 S2), Blk.row 133 (Row.ints .i64 (elR P S3 (S3.getD 1 (0 : Int))))] else False else False) := by kernel_rfl
theorem exsb4c1r4 (P S0 S2 S3 : List Int) (K : Ex → List AV → List Blk → Prop) : evBody Esl4F5 (lb Try.f118 2) [4, 5, 43, 44, 45] [] [.one (.int .i64 1), .one (.own 0 1), .one (.own 1 1), .one (.int .i64 4), .one (.int .i64 4)] [.row 133 (.ints .i64 P), .cells [.own 2 1, .own 0 1, .own 3 1, .own 4 1], .row 133 (.ints .i64 S0), .row 133 (.ints .i64 S2), .row 133 (.ints .i64 S3)] K = ( K (.exit 4) [] [Blk.row 133 (Row.ints .i64 P), Blk.cells [SV.own 2 1, SV.own 0 1, SV.own 3 1, SV.own 4 1], Blk.row 133 (Row.ints .i64 S0), Blk.row 133 (Row.ints .i64 S2), Blk.row 133 (Row.ints .i64 S3)]) := by kernel_rfl
theorem exsb4c2r0 (P S0 S1 S3 : List Int) (K : Ex → List AV → List Blk → Prop) : evBody Esl4F5 (lb Try.f118 2) [4, 5, 43, 44, 45] [] [.one (.int .i64 2), .one (.own 0 1), .one (.own 1 1), .one (.int .i64 4), .one (.int .i64 0)] [.row 133 (.ints .i64 P), .cells [.own 2 1, .own 3 1, .own 0 1, .own 4 1], .row 133 (.ints .i64 S0), .row 133 (.ints .i64 S1), .row 133 (.ints .i64 S3)] K = ( bif decide ((0 : Int) ≤ (2 : Int)) && decide ((2 : Int) < (↑S0.length : Int)) then bif decide (2 < S0.length) then ((0 : Int) ≤ S0.getD 2 (0 : Int) ∧ S0.getD 2 (0 : Int) < (65537 : Int) ∧ (↑S0.length : Int) = (↑S0.length : Int) ∧ P.length = S0.length ∧ S0.length ≤ 100 ∧ resRow S0 = true ∧ resRow P = true ∧ (0 : Int) ≤ (0 : Int) ∧ (0 : Int) ≤ (↑S0.length : Int)) ∧ K .normal [.one (.int .i64 (2 : Int)), .one (.own 0 1), .one (.own 1 1), .one (.int .i64 (4 : Int)), .one (.int .i64 (1 : Int))] [Blk.row 133 (Row.ints .i64 P), Blk.cells [SV.own 2 1, SV.own 3 1, SV.own 0 1, SV.own 4 1], Blk.row 133 (Row.ints .i64 (elR P S0 (S0.getD 2 (0 : Int)))), Blk.row 133 (Row.ints .i64 S1), Blk.row 133 (Row.ints .i64 S3)] else False else False) := by kernel_rfl
theorem exsb4c2r1 (P S0 S1 S3 : List Int) (K : Ex → List AV → List Blk → Prop) : evBody Esl4F5 (lb Try.f118 2) [4, 5, 43, 44, 45] [] [.one (.int .i64 2), .one (.own 0 1), .one (.own 1 1), .one (.int .i64 4), .one (.int .i64 1)] [.row 133 (.ints .i64 P), .cells [.own 2 1, .own 3 1, .own 0 1, .own 4 1], .row 133 (.ints .i64 S0), .row 133 (.ints .i64 S1), .row 133 (.ints .i64 S3)] K = ( bif decide ((0 : Int) ≤ (2 : Int)) && decide ((2 : Int) < (↑S1.length : Int)) then bif decide (2 < S1.length) then ((0 : Int) ≤ S1.getD 2 (0 : Int) ∧ S1.getD 2 (0 : Int) < (65537 : Int) ∧ (↑S1.length : Int) = (↑S1.length : Int) ∧ P.length = S1.length ∧ S1.length ≤ 100 ∧ resRow S1 = true ∧ resRow P = true ∧ (0 : Int) ≤ (0 : Int) ∧ (0 : Int) ≤ (↑S1.length : Int)) ∧ K .normal [.one (.int .i64 (2 : Int)), .one (.own 0 1), .one (.own 1 1), .one (.int .i64 (4 : Int)), .one (.int .i64 (2 : Int))] [Blk.row 133 (Row.ints .i64 P), Blk.cells [SV.own 2 1, SV.own 3 1, SV.own 0 1, SV.own 4 1], Blk.row 133 (Row.ints .i64 S0), Blk.row 133 (Row.ints .i64 (elR P S1 (S1.getD 2 (0 : Int)))), Blk.row 133 (Row.ints .i64 S3)] else False else False) := by kernel_rfl
theorem exsb4c2r2 (P S0 S1 S3 : List Int) (K : Ex → List AV → List Blk → Prop) : evBody Esl4F5 (lb Try.f118 2) [4, 5, 43, 44, 45] [] [.one (.int .i64 2), .one (.own 0 1), .one (.own 1 1), .one (.int .i64 4), .one (.int .i64 2)] [.row 133 (.ints .i64 P), .cells [.own 2 1, .own 3 1, .own 0 1, .own 4 1], .row 133 (.ints .i64 S0), .row 133 (.ints .i64 S1), .row 133 (.ints .i64 S3)] K = ( bif decide ((0 : Int) ≤ (2 : Int)) && decide ((2 : Int) < (↑P.length : Int)) then bif decide (2 < P.length) then K .normal [.one (.int .i64 (2 : Int)), .one (.own 0 1), .one (.own 1 1), .one (.int .i64 (4 : Int)), .one (.int .i64 (3 : Int))] [Blk.row 133 (Row.ints .i64 P), Blk.cells [SV.own 2 1, SV.own 3 1, SV.own 0 1, SV.own 4 1], Blk.row 133 (Row.ints .i64 S0), Blk.row 133 (Row.ints .i64 S1), Blk.row 133 (Row.ints .i64 S3)] else False else False) := by kernel_rfl
theorem exsb4c2r3 (P S0 S1 S3 : List Int) (K : Ex → List AV → List Blk → Prop) : evBody Esl4F5 (lb Try.f118 2) [4, 5, 43, 44, 45] [] [.one (.int .i64 2), .one (.own 0 1), .one (.own 1 1), .one (.int .i64 4), .one (.int .i64 3)] [.row 133 (.ints .i64 P), .cells [.own 2 1, .own 3 1, .own 0 1, .own 4 1], .row 133 (.ints .i64 S0), .row 133 (.ints .i64 S1), .row 133 (.ints .i64 S3)] K = ( bif decide ((0 : Int) ≤ (2 : Int)) && decide ((2 : Int) < (↑S3.length : Int)) then bif decide (2 < S3.length) then ((0 : Int) ≤ S3.getD 2 (0 : Int) ∧ S3.getD 2 (0 : Int) < (65537 : Int) ∧ (↑S3.length : Int) = (↑S3.length : Int) ∧ P.length = S3.length ∧ S3.length ≤ 100 ∧ resRow S3 = true ∧ resRow P = true ∧ (0 : Int) ≤ (0 : Int) ∧ (0 : Int) ≤ (↑S3.length : Int)) ∧ K .normal [.one (.int .i64 (2 : Int)), .one (.own 0 1), .one (.own 1 1), .one (.int .i64 (4 : Int)), .one (.int .i64 (4 : Int))] [Blk.row 133 (Row.ints .i64 P), Blk.cells [SV.own 2 1, SV.own 3 1, SV.own 0 1, SV.own 4 1], Blk.row 133 (Row.ints .i64 S0), Blk.row 133 (Row.ints .i64 S1), Blk.row 133 (Row.ints .i64 (elR P S3 (S3.getD 2 (0 : Int))))] else False else False) := by kernel_rfl
theorem exsb4c2r4 (P S0 S1 S3 : List Int) (K : Ex → List AV → List Blk → Prop) : evBody Esl4F5 (lb Try.f118 2) [4, 5, 43, 44, 45] [] [.one (.int .i64 2), .one (.own 0 1), .one (.own 1 1), .one (.int .i64 4), .one (.int .i64 4)] [.row 133 (.ints .i64 P), .cells [.own 2 1, .own 3 1, .own 0 1, .own 4 1], .row 133 (.ints .i64 S0), .row 133 (.ints .i64 S1), .row 133 (.ints .i64 S3)] K = ( K (.exit 4) [] [Blk.row 133 (Row.ints .i64 P), Blk.cells [SV.own 2 1, SV.own 3 1, SV.own 0 1, SV.own 4 1], Blk.row 133 (Row.ints .i64 S0), Blk.row 133 (Row.ints .i64 S1), Blk.row 133 (Row.ints .i64 S3)]) := by kernel_rfl
theorem exsb4c3r0 (P S0 S1 S2 : List Int) (K : Ex → List AV → List Blk → Prop) : evBody Esl4F5 (lb Try.f118 2) [4, 5, 43, 44, 45] [] [.one (.int .i64 3), .one (.own 0 1), .one (.own 1 1), .one (.int .i64 4), .one (.int .i64 0)] [.row 133 (.ints .i64 P), .cells [.own 2 1, .own 3 1, .own 4 1, .own 0 1], .row 133 (.ints .i64 S0), .row 133 (.ints .i64 S1), .row 133 (.ints .i64 S2)] K = ( bif decide ((0 : Int) ≤ (3 : Int)) && decide ((3 : Int) < (↑S0.length : Int)) then bif decide (3 < S0.length) then ((0 : Int) ≤ S0.getD 3 (0 : Int) ∧ S0.getD 3 (0 : Int) < (65537 : Int) ∧ (↑S0.length : Int) = (↑S0.length : Int) ∧ P.length = S0.length ∧ S0.length ≤ 100 ∧ resRow S0 = true ∧ resRow P = true ∧ (0 : Int) ≤ (0 : Int) ∧ (0 : Int) ≤ (↑S0.length : Int)) ∧ K .normal [.one (.int .i64 (3 : Int)), .one (.own 0 1), .one (.own 1 1), .one (.int .i64 (4 : Int)), .one (.int .i64 (1 : Int))] [Blk.row 133 (Row.ints .i64 P), Blk.cells [SV.own 2 1, SV.own 3 1, SV.own 4 1, SV.own 0 1], Blk.row 133 (Row.ints .i64 (elR P S0 (S0.getD 3 (0 : Int)))), Blk.row 133 (Row.ints .i64 S1), Blk.row 133 (Row.ints .i64 S2)] else False else False) := by kernel_rfl
theorem exsb4c3r1 (P S0 S1 S2 : List Int) (K : Ex → List AV → List Blk → Prop) : evBody Esl4F5 (lb Try.f118 2) [4, 5, 43, 44, 45] [] [.one (.int .i64 3), .one (.own 0 1), .one (.own 1 1), .one (.int .i64 4), .one (.int .i64 1)] [.row 133 (.ints .i64 P), .cells [.own 2 1, .own 3 1, .own 4 1, .own 0 1], .row 133 (.ints .i64 S0), .row 133 (.ints .i64 S1), .row 133 (.ints .i64 S2)] K = ( bif decide ((0 : Int) ≤ (3 : Int)) && decide ((3 : Int) < (↑S1.length : Int)) then bif decide (3 < S1.length) then ((0 : Int) ≤ S1.getD 3 (0 : Int) ∧ S1.getD 3 (0 : Int) < (65537 : Int) ∧ (↑S1.length : Int) = (↑S1.length : Int) ∧ P.length = S1.length ∧ S1.length ≤ 100 ∧ resRow S1 = true ∧ resRow P = true ∧ (0 : Int) ≤ (0 : Int) ∧ (0 : Int) ≤ (↑S1.length : Int)) ∧ K .normal [.one (.int .i64 (3 : Int)), .one (.own 0 1), .one (.own 1 1), .one (.int .i64 (4 : Int)), .one (.int .i64 (2 : Int))] [Blk.row 133 (Row.ints .i64 P), Blk.cells [SV.own 2 1, SV.own 3 1, SV.own 4 1, SV.own 0 1], Blk.row 133 (Row.ints .i64 S0), Blk.row 133 (Row.ints .i64 (elR P S1 (S1.getD 3 (0 : Int)))), Blk.row 133 (Row.ints .i64 S2)] else False else False) := by kernel_rfl
theorem exsb4c3r2 (P S0 S1 S2 : List Int) (K : Ex → List AV → List Blk → Prop) : evBody Esl4F5 (lb Try.f118 2) [4, 5, 43, 44, 45] [] [.one (.int .i64 3), .one (.own 0 1), .one (.own 1 1), .one (.int .i64 4), .one (.int .i64 2)] [.row 133 (.ints .i64 P), .cells [.own 2 1, .own 3 1, .own 4 1, .own 0 1], .row 133 (.ints .i64 S0), .row 133 (.ints .i64 S1), .row 133 (.ints .i64 S2)] K = ( bif decide ((0 : Int) ≤ (3 : Int)) && decide ((3 : Int) < (↑S2.length : Int)) then bif decide (3 < S2.length) then ((0 : Int) ≤ S2.getD 3 (0 : Int) ∧ S2.getD 3 (0 : Int) < (65537 : Int) ∧ (↑S2.length : Int) = (↑S2.length : Int) ∧ P.length = S2.length ∧ S2.length ≤ 100 ∧ resRow S2 = true ∧ resRow P = true ∧ (0 : Int) ≤ (0 : Int) ∧ (0 : Int) ≤ (↑S2.length : Int)) ∧ K .normal [.one (.int .i64 (3 : Int)), .one (.own 0 1), .one (.own 1 1), .one (.int .i64 (4 : Int)), .one (.int .i64 (3 : Int))] [Blk.row 133 (Row.ints .i64 P), Blk.cells [SV.own 2 1, SV.own 3 1, SV.own 4 1, SV.own 0 1], Blk.row 133 (Row.ints .i64 S0), Blk.row 133 (Row.ints .i64 S1), Blk.row 133 (Row.ints .i64 (elR P S2 (S2.getD 3 (0 : Int))))] else False else False) := by kernel_rfl
theorem exsb4c3r3 (P S0 S1 S2 : List Int) (K : Ex → List AV → List Blk → Prop) : evBody Esl4F5 (lb Try.f118 2) [4, 5, 43, 44, 45] [] [.one (.int .i64 3), .one (.own 0 1), .one (.own 1 1), .one (.int .i64 4), .one (.int .i64 3)] [.row 133 (.ints .i64 P), .cells [.own 2 1, .own 3 1, .own 4 1, .own 0 1], .row 133 (.ints .i64 S0), .row 133 (.ints .i64 S1), .row 133 (.ints .i64 S2)] K = ( bif decide ((0 : Int) ≤ (3 : Int)) && decide ((3 : Int) < (↑P.length : Int)) then bif decide (3 < P.length) then K .normal [.one (.int .i64 (3 : Int)), .one (.own 0 1), .one (.own 1 1), .one (.int .i64 (4 : Int)), .one (.int .i64 (4 : Int))] [Blk.row 133 (Row.ints .i64 P), Blk.cells [SV.own 2 1, SV.own 3 1, SV.own 4 1, SV.own 0 1], Blk.row 133 (Row.ints .i64 S0), Blk.row 133 (Row.ints .i64 S1), Blk.row 133 (Row.ints .i64 S2)] else False else False) := by kernel_rfl
theorem exsb4c3r4 (P S0 S1 S2 : List Int) (K : Ex → List AV → List Blk → Prop) : evBody Esl4F5 (lb Try.f118 2) [4, 5, 43, 44, 45] [] [.one (.int .i64 3), .one (.own 0 1), .one (.own 1 1), .one (.int .i64 4), .one (.int .i64 4)] [.row 133 (.ints .i64 P), .cells [.own 2 1, .own 3 1, .own 4 1, .own 0 1], .row 133 (.ints .i64 S0), .row 133 (.ints .i64 S1), .row 133 (.ints .i64 S2)] K = ( K (.exit 4) [] [Blk.row 133 (Row.ints .i64 P), Blk.cells [SV.own 2 1, SV.own 3 1, SV.own 4 1, SV.own 0 1], Blk.row 133 (Row.ints .i64 S0), Blk.row 133 (Row.ints .i64 S1), Blk.row 133 (Row.ints .i64 S2)]) := by kernel_rfl
theorem exsl1c0 (R0 : List Int) (K : Ex → List AV → List Blk → Prop) : evBody Esl1F2 (lb Try.f118 0) [0, 15, 16] [] [.one (.own 0 1), .one (.int .i64 1), .one (.int .i64 0)] [.cells [.own 1 1], .row 133 (.ints .i64 R0)] K = ( bif decide ((0 : Int) ≤ (0 : Int)) && decide ((0 : Int) < (↑R0.length : Int)) then bif decide (0 < R0.length) then ((0 : Int) ≤ R0.getD 0 (0 : Int) ∧ R0.getD 0 (0 : Int) < (65537 : Int)) ∧ ∀ (s : Int), isInv (R0.getD (Int.toNat (0 : Int) + (0 + nat_lit 0)) (0 : Int)) s → ((0 : Int) ≤ s ∧ s < (65537 : Int) ∧ (↑R0.length : Int) = (↑R0.length : Int) ∧ R0.length ≤ 100 ∧ resRow R0 = true ∧ (0 : Int) ≤ (0 : Int) ∧ (0 : Int) ≤ (↑R0.length : Int)) ∧ ((0 : Int) = (0 : Int) ∧ (1 : Int) = (1 : Int) ∧ (0 : Int) ≤ (0 : Int) ∧ (0 : Int) ≤ (1 : Int) ∧ okRw 1 (scR R0 s)) ∧ K .normal [.one (.own 0 1), .one (.int .i64 (1 : Int)), .one (.int .i64 (1 : Int))] [Blk.cells [SV.own 1 1], Blk.row 133 (Row.ints .i64 (scR R0 s))] else False else False) := by kernel_rfl
theorem exsl1c1 (R0 : List Int) (K : Ex → List AV → List Blk → Prop) : evBody Esl1F2 (lb Try.f118 0) [0, 15, 16] [] [.one (.own 0 1), .one (.int .i64 1), .one (.int .i64 1)] [.cells [.own 1 1], .row 133 (.ints .i64 R0)] K = ( K (.exit 0) [] [Blk.cells [SV.own 1 1], Blk.row 133 (Row.ints .i64 R0)]) := by kernel_rfl
theorem exsl2c0 (R0 R1 : List Int) (K : Ex → List AV → List Blk → Prop) : evBody Esl2F3 (lb Try.f118 0) [0, 15, 16] [] [.one (.own 0 1), .one (.int .i64 2), .one (.int .i64 0)] [.cells [.own 1 1, .own 2 1], .row 133 (.ints .i64 R0), .row 133 (.ints .i64 R1)] K = ( bif decide ((0 : Int) ≤ (0 : Int)) && decide ((0 : Int) < (↑R0.length : Int)) then bif decide (0 < R0.length) then ((0 : Int) ≤ R0.getD 0 (0 : Int) ∧ R0.getD 0 (0 : Int) < (65537 : Int)) ∧ ∀ (s : Int), isInv (R0.getD (Int.toNat (0 : Int) + (0 + nat_lit 0)) (0 : Int)) s → ((0 : Int) ≤ s ∧ s < (65537 : Int) ∧ (↑R0.length : Int) = (↑R0.length : Int) ∧ R0.length ≤ 100 ∧ resRow R0 = true ∧ (0 : Int) ≤ (0 : Int) ∧ (0 : Int) ≤ (↑R0.length : Int)) ∧ ((0 : Int) = (0 : Int) ∧ (2 : Int) = (2 : Int) ∧ (0 : Int) ≤ (0 : Int) ∧ (0 : Int) ≤ (2 : Int) ∧ okRw 2 (scR R0 s) ∧ okRw 2 R1) ∧ K .normal [.one (.own 0 1), .one (.int .i64 (2 : Int)), .one (.int .i64 (1 : Int))] [Blk.cells [SV.own 1 1, SV.own 2 1], Blk.row 133 (Row.ints .i64 (scR R0 s)), Blk.row 133 (Row.ints .i64 (elI (0 : Int) 1 0 (scR R0 s) R1))] else False else False) := by kernel_rfl
theorem exsl2c1 (R0 R1 : List Int) (K : Ex → List AV → List Blk → Prop) : evBody Esl2F3 (lb Try.f118 0) [0, 15, 16] [] [.one (.own 0 1), .one (.int .i64 2), .one (.int .i64 1)] [.cells [.own 1 1, .own 2 1], .row 133 (.ints .i64 R0), .row 133 (.ints .i64 R1)] K = ( bif decide ((0 : Int) ≤ (1 : Int)) && decide ((1 : Int) < (↑R1.length : Int)) then bif decide (1 < R1.length) then ((0 : Int) ≤ R1.getD 1 (0 : Int) ∧ R1.getD 1 (0 : Int) < (65537 : Int)) ∧ ∀ (s : Int), isInv (R1.getD (Int.toNat (1 : Int) + (0 + nat_lit 0)) (0 : Int)) s → ((0 : Int) ≤ s ∧ s < (65537 : Int) ∧ (↑R1.length : Int) = (↑R1.length : Int) ∧ R1.length ≤ 100 ∧ resRow R1 = true ∧ (0 : Int) ≤ (0 : Int) ∧ (0 : Int) ≤ (↑R1.length : Int)) ∧ ((1 : Int) = (1 : Int) ∧ (2 : Int) = (2 : Int) ∧ (0 : Int) ≤ (0 : Int) ∧ (0 : Int) ≤ (2 : Int) ∧ okRw 2 (scR R1 s) ∧ okRw 2 R0) ∧ K .normal [.one (.own 0 1), .one (.int .i64 (2 : Int)), .one (.int .i64 (2 : Int))] [Blk.cells [SV.own 1 1, SV.own 2 1], Blk.row 133 (Row.ints .i64 (elI (0 : Int) 0 1 (scR R1 s) R0)), Blk.row 133 (Row.ints .i64 (scR R1 s))] else False else False) := by kernel_rfl
theorem exsl2c2 (R0 R1 : List Int) (K : Ex → List AV → List Blk → Prop) : evBody Esl2F3 (lb Try.f118 0) [0, 15, 16] [] [.one (.own 0 1), .one (.int .i64 2), .one (.int .i64 2)] [.cells [.own 1 1, .own 2 1], .row 133 (.ints .i64 R0), .row 133 (.ints .i64 R1)] K = ( K (.exit 0) [] [Blk.cells [SV.own 1 1, SV.own 2 1], Blk.row 133 (Row.ints .i64 R0), Blk.row 133 (Row.ints .i64 R1)]) := by kernel_rfl
theorem exsl3c0 (R0 R1 R2 : List Int) (K : Ex → List AV → List Blk → Prop) : evBody Esl3F4 (lb Try.f118 0) [0, 15, 16] [] [.one (.own 0 1), .one (.int .i64 3), .one (.int .i64 0)] [.cells [.own 1 1, .own 2 1, .own 3 1], .row 133 (.ints .i64 R0), .row 133 (.ints .i64 R1), .row 133 (.ints .i64 R2)] K = ( bif decide ((0 : Int) ≤ (0 : Int)) && decide ((0 : Int) < (↑R0.length : Int)) then bif decide (0 < R0.length) then ((0 : Int) ≤ R0.getD 0 (0 : Int) ∧ R0.getD 0 (0 : Int) < (65537 : Int)) ∧ ∀ (s : Int), isInv (R0.getD (Int.toNat (0 : Int) + (0 + nat_lit 0)) (0 : Int)) s → ((0 : Int) ≤ s ∧ s < (65537 : Int) ∧ (↑R0.length : Int) = (↑R0.length : Int) ∧ R0.length ≤ 100 ∧ resRow R0 = true ∧ (0 : Int) ≤ (0 : Int) ∧ (0 : Int) ≤ (↑R0.length : Int)) ∧ ((0 : Int) = (0 : Int) ∧ (3 : Int) = (3 : Int) ∧ (0 : Int) ≤ (0 : Int) ∧ (0 : Int) ≤ (3 : Int) ∧ okRw 3 (scR R0 s) ∧ okRw 3 R1 ∧ okRw 3 R2) ∧ K .normal [.one (.own 0 1), .one (.int .i64 (3 : Int)), .one (.int .i64 (1 : Int))] [Blk.cells [SV.own 1 1, SV.own 2 1, SV.own 3 1], Blk.row 133 (Row.ints .i64 (scR R0 s)), Blk.row 133 (Row.ints .i64 (elI (0 : Int) 1 0 (scR R0 s) R1)), Blk.row 133 (Row.ints .i64 (elI (0 : Int) 2 0 (scR R0 s) R2))] else False else False) := by kernel_rfl
theorem exsl3c1 (R0 R1 R2 : List Int) (K : Ex → List AV → List Blk → Prop) : evBody Esl3F4 (lb Try.f118 0) [0, 15, 16] [] [.one (.own 0 1), .one (.int .i64 3), .one (.int .i64 1)] [.cells [.own 1 1, .own 2 1, .own 3 1], .row 133 (.ints .i64 R0), .row 133 (.ints .i64 R1), .row 133 (.ints .i64 R2)] K = ( bif decide ((0 : Int) ≤ (1 : Int)) && decide ((1 : Int) < (↑R1.length : Int)) then bif decide (1 < R1.length) then ((0 : Int) ≤ R1.getD 1 (0 : Int) ∧ R1.getD 1 (0 : Int) < (65537 : Int)) ∧ ∀ (s : Int), isInv (R1.getD (Int.toNat (1 : Int) + (0 + nat_lit 0)) (0 : Int)) s → ((0 : Int) ≤ s ∧ s < (65537 : Int) ∧ (↑R1.length : Int) = (↑R1.length : Int) ∧ R1.length ≤ 100 ∧ resRow R1 = true ∧ (0 : Int) ≤ (0 : Int) ∧ (0 : Int) ≤ (↑R1.length : Int)) ∧ ((1 : Int) = (1 : Int) ∧ (3 : Int) = (3 : Int) ∧ (0 : Int) ≤ (0 : Int) ∧ (0 : Int) ≤ (3 : Int) ∧ okRw 3 (scR R1 s) ∧ okRw 3 R0 ∧ okRw 3 R2) ∧ K .normal [.one (.own 0 1), .one (.int .i64 (3 : Int)), .one (.int .i64 (2 : Int))] [Blk.cells [SV.own 1 1, SV.own 2 1, SV.own 3 1], Blk.row 133 (Row.ints .i64 (elI (0 : Int) 0 1 (scR R1 s) R0)), Blk.row 133 (Row.ints .i64 (scR R1 s)), Blk.row 133 (Row.ints .i64 (elI (0 : Int) 2 1 (scR R1 s) R2))] else False else False) := by kernel_rfl
theorem exsl3c2 (R0 R1 R2 : List Int) (K : Ex → List AV → List Blk → Prop) : evBody Esl3F4 (lb Try.f118 0) [0, 15, 16] [] [.one (.own 0 1), .one (.int .i64 3), .one (.int .i64 2)] [.cells [.own 1 1, .own 2 1, .own 3 1], .row 133 (.ints .i64 R0), .row 133 (.ints .i64 R1), .row 133 (.ints .i64 R2)] K = ( bif decide ((0 : Int) ≤ (2 : Int)) && decide ((2 : Int) < (↑R2.length : Int)) then bif decide (2 < R2.length) then ((0 : Int) ≤ R2.getD 2 (0 : Int) ∧ R2.getD 2 (0 : Int) < (65537 : Int)) ∧ ∀ (s : Int), isInv (R2.getD (Int.toNat (2 : Int) + (0 + nat_lit 0)) (0 : Int)) s → ((0 : Int) ≤ s ∧ s < (65537 : Int) ∧ (↑R2.length : Int) = (↑R2.length : Int) ∧ R2.length ≤ 100 ∧ resRow R2 = true ∧ (0 : Int) ≤ (0 : Int) ∧ (0 : Int) ≤ (↑R2.length : Int)) ∧ ((2 : Int) = (2 : Int) ∧ (3 : Int) = (3 : Int) ∧ (0 : Int) ≤ (0 : Int) ∧ (0 : Int) ≤ (3 : Int) ∧ okRw 3 (scR R2 s) ∧ okRw 3 R0 ∧ okRw 3 R1) ∧ K .normal [.one (.own 0 1), .one (.int .i64 (3 : Int)), .one (.int .i64 (3 : Int))] [Blk.cells [SV.own 1 1, SV.own 2 1, SV.own 3 1], Blk.row 133 (Row.ints .i64 (elI (0 : Int) 0 2 (scR R2 s) R0)), Blk.row 133 (Row.ints .i64 (elI (0 : Int) 1 2 (scR R2 s) R1)), Blk.row 133 (Row.ints .i64 (scR R2 s))] else False else False) := by kernel_rfl
theorem exsl3c3 (R0 R1 R2 : List Int) (K : Ex → List AV → List Blk → Prop) : evBody Esl3F4 (lb Try.f118 0) [0, 15, 16] [] [.one (.own 0 1), .one (.int .i64 3), .one (.int .i64 3)] [.cells [.own 1 1, .own 2 1, .own 3 1], .row 133 (.ints .i64 R0), .row 133 (.ints .i64 R1), .row 133 (.ints .i64 R2)] K = ( K (.exit 0) [] [Blk.cells [SV.own 1 1, SV.own 2 1, SV.own 3 1], Blk.row 133 (Row.ints .i64 R0), Blk.row 133 (Row.ints .i64 R1), Blk.row 133 (Row.ints .i64 R2)]) := by kernel_rfl
theorem exsl4c0 (R0 R1 R2 R3 : List Int) (K : Ex → List AV → List Blk → Prop) : evBody Esl4F5 (lb Try.f118 0) [0, 15, 16] [] [.one (.own 0 1), .one (.int .i64 4), .one (.int .i64 0)] [.cells [.own 1 1, .own 2 1, .own 3 1, .own 4 1], .row 133 (.ints .i64 R0), .row 133 (.ints .i64 R1), .row 133 (.ints .i64 R2), .row 133 (.ints .i64 R3)] K = ( bif decide ((0 : Int) ≤ (0 : Int)) && decide ((0 : Int) < (↑R0.length : Int)) then bif decide (0 < R0.length) then ((0 : Int) ≤ R0.getD 0 (0 : Int) ∧ R0.getD 0 (0 : Int) < (65537 : Int)) ∧ ∀ (s : Int), isInv (R0.getD (Int.toNat (0 : Int) + (0 + nat_lit 0)) (0 : Int)) s → ((0 : Int) ≤ s ∧ s < (65537 : Int) ∧ (↑R0.length : Int) = (↑R0.length : Int) ∧ R0.length ≤ 100 ∧ resRow R0 = true ∧ (0 : Int) ≤ (0 : Int) ∧ (0 : Int) ≤ (↑R0.length : Int)) ∧ ((0 : Int) = (0 : Int) ∧ (4 : Int) = (4 : Int) ∧ (0 : Int) ≤ (0 : Int) ∧ (0 : Int) ≤ (4 : Int) ∧ okRw 4 (scR R0 s) ∧ okRw 4 R1 ∧ okRw 4 R2 ∧ okRw 4 R3) ∧ K .normal [.one (.own 0 1), .one (.int .i64 (4 : Int)), .one (.int .i64 (1 : Int))] [Blk.cells [SV.own 1 1, SV.own 2 1, SV.own 3 1, SV.own 4 1], Blk.row 133 (Row.ints .i64 (scR R0 s)), Blk.row 133 (Row.ints .i64 (elI (0 : Int) 1 0 (scR R0 s) R1)), Blk.row 133 (Row.ints .i64 (elI (0 : Int) 2 0 (scR R0 s) R2)), Blk.row 133 (Row.ints .i64 (elI (0 : Int) 3 0 (scR R0 s) R3))] else False else False) := by kernel_rfl
theorem exsl4c1 (R0 R1 R2 R3 : List Int) (K : Ex → List AV → List Blk → Prop) : evBody Esl4F5 (lb Try.f118 0) [0, 15, 16] [] [.one (.own 0 1), .one (.int .i64 4), .one (.int .i64 1)] [.cells [.own 1 1, .own 2 1, .own 3 1, .own 4 1], .row 133 (.ints .i64 R0), .row 133 (.ints .i64 R1), .row 133 (.ints .i64 R2), .row 133 (.ints .i64 R3)] K = ( bif decide ((0 : Int) ≤ (1 : Int)) && decide ((1 : Int) < (↑R1.length : Int)) then bif decide (1 < R1.length) then ((0 : Int) ≤ R1.getD 1 (0 : Int) ∧ R1.getD 1 (0 : Int) < (65537 : Int)) ∧ ∀ (s : Int), isInv (R1.getD (Int.toNat (1 : Int) + (0 + nat_lit 0)) (0 : Int)) s → ((0 : Int) ≤ s ∧ s < (65537 : Int) ∧ (↑R1.length : Int) = (↑R1.length : Int) ∧ R1.length ≤ 100 ∧ resRow R1 = true ∧ (0 : Int) ≤ (0 : Int) ∧ (0 : Int) ≤ (↑R1.length : Int)) ∧ ((1 : Int) = (1 : Int) ∧ (4 : Int) = (4 : Int) ∧ (0 : Int) ≤ (0 : Int) ∧ (0 : Int) ≤ (4 : Int) ∧ okRw 4 (scR R1 s) ∧ okRw 4 R0 ∧ okRw 4 R2 ∧ okRw 4 R3) ∧ K .normal [.one (.own 0 1), .one (.int .i64 (4 : Int)), .one (.int .i64 (2 : Int))] [Blk.cells [SV.own 1 1, SV.own 2 1, SV.own 3 1, SV.own 4 1], Blk.row 133 (Row.ints .i64 (elI (0 : Int) 0 1 (scR R1 s) R0)), Blk.row 133 (Row.ints .i64 (scR R1 s)), Blk.row 133 (Row.ints .i64 (elI (0 : Int) 2 1 (scR R1 s) R2)), Blk.row 133 (Row.ints .i64 (elI (0 : Int) 3 1 (scR R1 s) R3))] else False else False) := by kernel_rfl
theorem exsl4c2 (R0 R1 R2 R3 : List Int) (K : Ex → List AV → List Blk → Prop) : evBody Esl4F5 (lb Try.f118 0) [0, 15, 16] [] [.one (.own 0 1), .one (.int .i64 4), .one (.int .i64 2)] [.cells [.own 1 1, .own 2 1, .own 3 1, .own 4 1], .row 133 (.ints .i64 R0), .row 133 (.ints .i64 R1), .row 133 (.ints .i64 R2), .row 133 (.ints .i64 R3)] K = ( bif decide ((0 : Int) ≤ (2 : Int)) && decide ((2 : Int) < (↑R2.length : Int)) then bif decide (2 < R2.length) then ((0 : Int) ≤ R2.getD 2 (0 : Int) ∧ R2.getD 2 (0 : Int) < (65537 : Int)) ∧ ∀ (s : Int), isInv (R2.getD (Int.toNat (2 : Int) + (0 + nat_lit 0)) (0 : Int)) s → ((0 : Int) ≤ s ∧ s < (65537 : Int) ∧ (↑R2.length : Int) = (↑R2.length : Int) ∧ R2.length ≤ 100 ∧ resRow R2 = true ∧ (0 : Int) ≤ (0 : Int) ∧ (0 : Int) ≤ (↑R2.length : Int)) ∧ ((2 : Int) = (2 : Int) ∧ (4 : Int) = (4 : Int) ∧ (0 : Int) ≤ (0 : Int) ∧ (0 : Int) ≤ (4 : Int) ∧ okRw 4 (scR R2 s) ∧ okRw 4 R0 ∧ okRw 4 R1 ∧ okRw 4 R3) ∧ K .normal [.one (.own 0 1), .one (.int .i64 (4 : Int)), .one (.int .i64 (3 : Int))] [Blk.cells [SV.own 1 1, SV.own 2 1, SV.own 3 1, SV.own 4 1], Blk.row 133 (Row.ints .i64 (elI (0 : Int) 0 2 (scR R2 s) R0)), Blk.row 133 (Row.ints .i64 (elI (0 : Int) 1 2 (scR R2 s) R1)), Blk.row 133 (Row.ints .i64 (scR R2 s)), Blk.row 133 (Row.ints .i64 (elI (0 : Int) 3 2 (scR R2 s) R3))] else False else False) := by kernel_rfl
theorem exsl4c3 (R0 R1 R2 R3 : List Int) (K : Ex → List AV → List Blk → Prop) : evBody Esl4F5 (lb Try.f118 0) [0, 15, 16] [] [.one (.own 0 1), .one (.int .i64 4), .one (.int .i64 3)] [.cells [.own 1 1, .own 2 1, .own 3 1, .own 4 1], .row 133 (.ints .i64 R0), .row 133 (.ints .i64 R1), .row 133 (.ints .i64 R2), .row 133 (.ints .i64 R3)] K = ( bif decide ((0 : Int) ≤ (3 : Int)) && decide ((3 : Int) < (↑R3.length : Int)) then bif decide (3 < R3.length) then ((0 : Int) ≤ R3.getD 3 (0 : Int) ∧ R3.getD 3 (0 : Int) < (65537 : Int)) ∧ ∀ (s : Int), isInv (R3.getD (Int.toNat (3 : Int) + (0 + nat_lit 0)) (0 : Int)) s → ((0 : Int) ≤ s ∧ s < (65537 : Int) ∧ (↑R3.length : Int) = (↑R3.length : Int) ∧ R3.length ≤ 100 ∧ resRow R3 = true ∧ (0 : Int) ≤ (0 : Int) ∧ (0 : Int) ≤ (↑R3.length : Int)) ∧ ((3 : Int) = (3 : Int) ∧ (4 : Int) = (4 : Int) ∧ (0 : Int) ≤ (0 : Int) ∧ (0 : Int) ≤ (4 : Int) ∧ okRw 4 (scR R3 s) ∧ okRw 4 R0 ∧ okRw 4 R1 ∧ okRw 4 R2) ∧ K .normal [.one (.own 0 1), .one (.int .i64 (4 : Int)), .one (.int .i64 (4 : Int))] [Blk.cells [SV.own 1 1, SV.own 2 1, SV.own 3 1, SV.own 4 1], Blk.row 133 (Row.ints .i64 (elI (0 : Int) 0 3 (scR R3 s) R0)), Blk.row 133 (Row.ints .i64 (elI (0 : Int) 1 3 (scR R3 s) R1)), Blk.row 133 (Row.ints .i64 (elI (0 : Int) 2 3 (scR R3 s) R2)), Blk.row 133 (Row.ints .i64 (scR R3 s))] else False else False) := by kernel_rfl
theorem exsl4c4 (R0 R1 R2 R3 : List Int) (K : Ex → List AV → List Blk → Prop) : evBody Esl4F5 (lb Try.f118 0) [0, 15, 16] [] [.one (.own 0 1), .one (.int .i64 4), .one (.int .i64 4)] [.cells [.own 1 1, .own 2 1, .own 3 1, .own 4 1], .row 133 (.ints .i64 R0), .row 133 (.ints .i64 R1), .row 133 (.ints .i64 R2), .row 133 (.ints .i64 R3)] K = ( K (.exit 0) [] [Blk.cells [SV.own 1 1, SV.own 2 1, SV.own 3 1, SV.own 4 1], Blk.row 133 (Row.ints .i64 R0), Blk.row 133 (Row.ints .i64 R1), Blk.row 133 (Row.ints .i64 R2), Blk.row 133 (Row.ints .i64 R3)]) := by kernel_rfl
theorem exmin (a b : Int) (K : AV → List Blk → Prop) : evFn Emin Try.f117 [.one (.int .i64 a), .one (.int .i64 b)] [] K = ( K (.one (.int .i64 (modG (IntKind.i64.wrap (a - b))))) []) := by kernel_rfl
theorem exsl0 (K : AV → List Blk → Prop) : evFn Esl0 Try.f118 [.one .nil] [] K = ( K (.one .nil) []) := by kernel_rfl
theorem exsl1 (R0 : List Int) (K : AV → List Blk → Prop) : evFn Esl1 Try.f118 [.one (.own 0 1)] [.cells [.own 1 1], .row 133 (.ints .i64 R0)] K = ( ((1 : Int) = (1 : Int) ∧ okSol [R0] ∧ (0 : Int) ≤ (0 : Int) ∧ (0 : Int) ≤ (1 : Int)) ∧ bif decide ((0 : Int) ≤ (↑[SV.own 1 1].length : Int)) && decide ((↑[SV.own 1 1].length : Int) < (↑((solF 1 0 [R0]).getD 0 []).length : Int)) then bif decide ((↑[SV.own 1 1].length : Int).toNat + 0 < ((solF 1 0 [R0]).getD 0 []).length) then K (.one (.own 2 1)) [Blk.cells [SV.own 1 1], Blk.row 133 (Row.ints .i64 ((solF 1 0 [R0]).getD 0 [])), Blk.row 133 (Row.ints .i64 [((solF 1 0 [R0]).getD 0 []).getD ((↑[SV.own 1 1].length : Int).toNat + 0) (0 : Int)])] else False else False) := by kernel_rfl
theorem exsl1l1a (s n i : Int) (R : List Int) (K : Ex → List AV → List Blk → Prop) : evBody Esl1F1 (lb Try.f118 1) [5, 6, 29, 30] [] [.one (.own 0 1), .one (.int .i64 s), .one (.int .i64 n), .one (.int .i64 i)] [.row 133 (.ints .i64 R)] K = ( bif decide (i < n) then bif decide ((0 : Int) ≤ i) && decide (i < (↑R.length : Int)) then bif decide (i.toNat + 0 < R.length) then ((0 : Int) ≤ R.getD (i.toNat + 0) (0 : Int) ∧ R.getD (i.toNat + 0) (0 : Int) < (65537 : Int) ∧ (0 : Int) ≤ s ∧ s < (65537 : Int)) ∧ bif decide ((0 : Int) ≤ i) && decide (i < (↑R.length : Int)) then bif decide (i.toNat + 0 < R.length) then K .normal [.one (.own 0 1), .one (.int .i64 s), .one (.int .i64 n), .one (.int .i64 (IntKind.i64.wrap (i + (1 : Int))))] [Blk.row 133 (Row.ints .i64 (R.set (i.toNat + 0) (modG (R.getD (i.toNat + 0) (0 : Int) * s))))] else False else False else False else False else K (.exit 2) [] [Blk.row 133 (Row.ints .i64 R)]) := by kernel_rfl
theorem exsl1l3a (b n i : Int) (P R : List Int) (K : Ex → List AV → List Blk → Prop) : evBody Esl1F2 (lb Try.f118 3) [5, 9, 10, 58, 59] [] [.one (.own 0 1), .one (.own 1 1), .one (.int .i64 b), .one (.int .i64 n), .one (.int .i64 i)] [.row 133 (.ints .i64 P), .row 133 (.ints .i64 R)] K = ( bif decide (i < n) then bif decide ((0 : Int) ≤ i) && decide (i < (↑R.length : Int)) then bif decide (i.toNat + 0 < R.length) then bif decide ((0 : Int) ≤ i) && decide (i < (↑P.length : Int)) then bif decide (i.toNat + 0 < P.length) then ((0 : Int) ≤ b ∧ b < (65537 : Int) ∧ (0 : Int) ≤ P.getD (i.toNat + 0) (0 : Int) ∧ P.getD (i.toNat + 0) (0 : Int) < (65537 : Int)) ∧ ((0 : Int) ≤ R.getD (i.toNat + 0) (0 : Int) ∧ R.getD (i.toNat + 0) (0 : Int) < (65537 : Int) ∧ (0 : Int) ≤ modG (b * P.getD (i.toNat + 0) (0 : Int)) ∧ modG (b * P.getD (i.toNat + 0) (0 : Int)) < (65537 : Int)) ∧ bif decide ((0 : Int) ≤ i) && decide (i < (↑R.length : Int)) then bif decide (i.toNat + 0 < R.length) then K .normal [.one (.own 0 1), .one (.own 1 1), .one (.int .i64 b), .one (.int .i64 n), .one (.int .i64 (IntKind.i64.wrap (i + (1 : Int))))] [Blk.row 133 (Row.ints .i64 P), Blk.row 133 (Row.ints .i64 (R.set (i.toNat + 0) (modG (R.getD (i.toNat + 0) (0 : Int) - modG (b * P.getD (i.toNat + 0) (0 : Int))))))] else False else False else False else False else False else False else K (.exit 6) [] [Blk.row 133 (Row.ints .i64 P), Blk.row 133 (Row.ints .i64 R)]) := by kernel_rfl
theorem exsl2 (R0 R1 : List Int) (K : AV → List Blk → Prop) : evFn Esl2 Try.f118 [.one (.own 0 1)] [.cells [.own 1 1, .own 2 1], .row 133 (.ints .i64 R0), .row 133 (.ints .i64 R1)] K = ( ((2 : Int) = (2 : Int) ∧ okSol [R0, R1] ∧ (0 : Int) ≤ (0 : Int) ∧ (0 : Int) ≤ (2 : Int)) ∧ bif decide ((0 : Int) ≤ (↑[SV.own 1 1, SV.own 2 1].length : Int)) && decide ((↑[SV.own 1 1, SV.own 2 1].length : Int) < (↑((solF 2 0 [R0, R1]).getD 0 []).length : Int)) then bif decide ((↑[SV.own 1 1, SV.own 2 1].length : Int).toNat + 0 < ((solF 2 0 [R0, R1]).getD 0 []).length) then bif decide ((0 : Int) ≤ (↑[SV.own 1 1, SV.own 2 1].length : Int)) && decide ((↑[SV.own 1 1, SV.own 2 1].length : Int) < (↑((solF 2 0 [R0, R1]).getD 1 []).length : Int)) then bif decide ((↑[SV.own 1 1, SV.own 2 1].length : Int).toNat + 0 < ((solF 2 0 [R0, R1]).getD 1 []).length) then K (.one (.own 3 1)) [Blk.cells [SV.own 1 1, SV.own 2 1], Blk.row 133 (Row.ints .i64 ((solF 2 0 [R0, R1]).getD 0 [])), Blk.row 133 (Row.ints .i64 ((solF 2 0 [R0, R1]).getD 1 [])), Blk.row 133 (Row.ints .i64 [((solF 2 0 [R0, R1]).getD 0 []).getD ((↑[SV.own 1 1, SV.own 2 1].length : Int).toNat + 0) (0 : Int), ((solF 2 0 [R0, R1]).getD 1 []).getD ((↑[SV.own 1 1, SV.own 2 1].length : Int).toNat + 0) (0 : Int)])] else False else False else False else False) := by kernel_rfl
theorem exsl2l1a (s n i : Int) (R : List Int) (K : Ex → List AV → List Blk → Prop) : evBody Esl2F1 (lb Try.f118 1) [5, 6, 29, 30] [] [.one (.own 0 1), .one (.int .i64 s), .one (.int .i64 n), .one (.int .i64 i)] [.row 133 (.ints .i64 R)] K = ( bif decide (i < n) then bif decide ((0 : Int) ≤ i) && decide (i < (↑R.length : Int)) then bif decide (i.toNat + 0 < R.length) then ((0 : Int) ≤ R.getD (i.toNat + 0) (0 : Int) ∧ R.getD (i.toNat + 0) (0 : Int) < (65537 : Int) ∧ (0 : Int) ≤ s ∧ s < (65537 : Int)) ∧ bif decide ((0 : Int) ≤ i) && decide (i < (↑R.length : Int)) then bif decide (i.toNat + 0 < R.length) then K .normal [.one (.own 0 1), .one (.int .i64 s), .one (.int .i64 n), .one (.int .i64 (IntKind.i64.wrap (i + (1 : Int))))] [Blk.row 133 (Row.ints .i64 (R.set (i.toNat + 0) (modG (R.getD (i.toNat + 0) (0 : Int) * s))))] else False else False else False else False else K (.exit 2) [] [Blk.row 133 (Row.ints .i64 R)]) := by kernel_rfl
theorem exsl2l3a (b n i : Int) (P R : List Int) (K : Ex → List AV → List Blk → Prop) : evBody Esl2F2 (lb Try.f118 3) [5, 9, 10, 58, 59] [] [.one (.own 0 1), .one (.own 1 1), .one (.int .i64 b), .one (.int .i64 n), .one (.int .i64 i)] [.row 133 (.ints .i64 P), .row 133 (.ints .i64 R)] K = ( bif decide (i < n) then bif decide ((0 : Int) ≤ i) && decide (i < (↑R.length : Int)) then bif decide (i.toNat + 0 < R.length) then bif decide ((0 : Int) ≤ i) && decide (i < (↑P.length : Int)) then bif decide (i.toNat + 0 < P.length) then ((0 : Int) ≤ b ∧ b < (65537 : Int) ∧ (0 : Int) ≤ P.getD (i.toNat + 0) (0 : Int) ∧ P.getD (i.toNat + 0) (0 : Int) < (65537 : Int)) ∧ ((0 : Int) ≤ R.getD (i.toNat + 0) (0 : Int) ∧ R.getD (i.toNat + 0) (0 : Int) < (65537 : Int) ∧ (0 : Int) ≤ modG (b * P.getD (i.toNat + 0) (0 : Int)) ∧ modG (b * P.getD (i.toNat + 0) (0 : Int)) < (65537 : Int)) ∧ bif decide ((0 : Int) ≤ i) && decide (i < (↑R.length : Int)) then bif decide (i.toNat + 0 < R.length) then K .normal [.one (.own 0 1), .one (.own 1 1), .one (.int .i64 b), .one (.int .i64 n), .one (.int .i64 (IntKind.i64.wrap (i + (1 : Int))))] [Blk.row 133 (Row.ints .i64 P), Blk.row 133 (Row.ints .i64 (R.set (i.toNat + 0) (modG (R.getD (i.toNat + 0) (0 : Int) - modG (b * P.getD (i.toNat + 0) (0 : Int))))))] else False else False else False else False else False else False else K (.exit 6) [] [Blk.row 133 (Row.ints .i64 P), Blk.row 133 (Row.ints .i64 R)]) := by kernel_rfl
theorem exsl3 (R0 R1 R2 : List Int) (K : AV → List Blk → Prop) : evFn Esl3 Try.f118 [.one (.own 0 1)] [.cells [.own 1 1, .own 2 1, .own 3 1], .row 133 (.ints .i64 R0), .row 133 (.ints .i64 R1), .row 133 (.ints .i64 R2)] K = ( ((3 : Int) = (3 : Int) ∧ okSol [R0, R1, R2] ∧ (0 : Int) ≤ (0 : Int) ∧ (0 : Int) ≤ (3 : Int)) ∧ bif decide ((0 : Int) ≤ (↑[SV.own 1 1, SV.own 2 1, SV.own 3 1].length : Int)) && decide ((↑[SV.own 1 1, SV.own 2 1, SV.own 3 1].length : Int) < (↑((solF 3 0 [R0, R1, R2]).getD 0 []).length : Int)) then bif decide ((↑[SV.own 1 1, SV.own 2 1, SV.own 3 1].length : Int).toNat + 0 < ((solF 3 0 [R0, R1, R2]).getD 0 []).length) then bif decide ((0 : Int) ≤ (↑[SV.own 1 1, SV.own 2 1, SV.own 3 1].length : Int)) && decide ((↑[SV.own 1 1, SV.own 2 1, SV.own 3 1].length : Int) < (↑((solF 3 0 [R0, R1, R2]).getD 1 []).length : Int)) then bif decide ((↑[SV.own 1 1, SV.own 2 1, SV.own 3 1].length : Int).toNat + 0 < ((solF 3 0 [R0, R1, R2]).getD 1 []).length) then bif decide ((0 : Int) ≤ (↑[SV.own 1 1, SV.own 2 1, SV.own 3 1].length : Int)) && decide ((↑[SV.own 1 1, SV.own 2 1, SV.own 3 1].length : Int) < (↑((solF 3 0 [R0, R1, R2]).getD 2 []).length : Int)) then bif decide ((↑[SV.own 1 1, SV.own 2 1, SV.own 3 1].length : Int).toNat + 0 < ((solF 3 0 [R0, R1, R2]).getD 2 []).length) then K (.one (.own 4 1)) [Blk.cells [SV.own 1 1, SV.own 2 1, SV.own 3 1], Blk.row 133 (Row.ints .i64 ((solF 3 0 [R0, R1, R2]).getD 0 [])), Blk.row 133 (Row.ints .i64 ((solF 3 0 [R0, R1, R2]).getD 1 [])), Blk.row 133 (Row.ints .i64 ((solF 3 0 [R0, R1, R2]).getD 2 [])), Blk.row 133 (Row.ints .i64 [((solF 3 0 [R0, R1, R2]).getD 0 []).getD ((↑[SV.own 1 1, SV.own 2 1, SV.own 3 1].length : Int).toNat + 0) (0 : Int), ((solF 3 0 [R0, R1, R2]).getD 1 []).getD ((↑[SV.own 1 1, SV.own 2 1, SV.own 3 1].length : Int).toNat + 0) (0 : Int), ((solF 3 0 [R0, R1, R2]).getD 2 []).getD ((↑[SV.own 1 1, SV.own 2 1, SV.own 3 1].length : Int).toNat + 0) (0 : Int)])] else False else False else False else False else False else False) := by kernel_rfl
theorem exsl3l1a (s n i : Int) (R : List Int) (K : Ex → List AV → List Blk → Prop) : evBody Esl3F1 (lb Try.f118 1) [5, 6, 29, 30] [] [.one (.own 0 1), .one (.int .i64 s), .one (.int .i64 n), .one (.int .i64 i)] [.row 133 (.ints .i64 R)] K = ( bif decide (i < n) then bif decide ((0 : Int) ≤ i) && decide (i < (↑R.length : Int)) then bif decide (i.toNat + 0 < R.length) then ((0 : Int) ≤ R.getD (i.toNat + 0) (0 : Int) ∧ R.getD (i.toNat + 0) (0 : Int) < (65537 : Int) ∧ (0 : Int) ≤ s ∧ s < (65537 : Int)) ∧ bif decide ((0 : Int) ≤ i) && decide (i < (↑R.length : Int)) then bif decide (i.toNat + 0 < R.length) then K .normal [.one (.own 0 1), .one (.int .i64 s), .one (.int .i64 n), .one (.int .i64 (IntKind.i64.wrap (i + (1 : Int))))] [Blk.row 133 (Row.ints .i64 (R.set (i.toNat + 0) (modG (R.getD (i.toNat + 0) (0 : Int) * s))))] else False else False else False else False else K (.exit 2) [] [Blk.row 133 (Row.ints .i64 R)]) := by kernel_rfl
theorem exsl3l3a (b n i : Int) (P R : List Int) (K : Ex → List AV → List Blk → Prop) : evBody Esl3F2 (lb Try.f118 3) [5, 9, 10, 58, 59] [] [.one (.own 0 1), .one (.own 1 1), .one (.int .i64 b), .one (.int .i64 n), .one (.int .i64 i)] [.row 133 (.ints .i64 P), .row 133 (.ints .i64 R)] K = ( bif decide (i < n) then bif decide ((0 : Int) ≤ i) && decide (i < (↑R.length : Int)) then bif decide (i.toNat + 0 < R.length) then bif decide ((0 : Int) ≤ i) && decide (i < (↑P.length : Int)) then bif decide (i.toNat + 0 < P.length) then ((0 : Int) ≤ b ∧ b < (65537 : Int) ∧ (0 : Int) ≤ P.getD (i.toNat + 0) (0 : Int) ∧ P.getD (i.toNat + 0) (0 : Int) < (65537 : Int)) ∧ ((0 : Int) ≤ R.getD (i.toNat + 0) (0 : Int) ∧ R.getD (i.toNat + 0) (0 : Int) < (65537 : Int) ∧ (0 : Int) ≤ modG (b * P.getD (i.toNat + 0) (0 : Int)) ∧ modG (b * P.getD (i.toNat + 0) (0 : Int)) < (65537 : Int)) ∧ bif decide ((0 : Int) ≤ i) && decide (i < (↑R.length : Int)) then bif decide (i.toNat + 0 < R.length) then K .normal [.one (.own 0 1), .one (.own 1 1), .one (.int .i64 b), .one (.int .i64 n), .one (.int .i64 (IntKind.i64.wrap (i + (1 : Int))))] [Blk.row 133 (Row.ints .i64 P), Blk.row 133 (Row.ints .i64 (R.set (i.toNat + 0) (modG (R.getD (i.toNat + 0) (0 : Int) - modG (b * P.getD (i.toNat + 0) (0 : Int))))))] else False else False else False else False else False else False else K (.exit 6) [] [Blk.row 133 (Row.ints .i64 P), Blk.row 133 (Row.ints .i64 R)]) := by kernel_rfl
theorem exsl4 (R0 R1 R2 R3 : List Int) (K : AV → List Blk → Prop) : evFn Esl4 Try.f118 [.one (.own 0 1)] [.cells [.own 1 1, .own 2 1, .own 3 1, .own 4 1], .row 133 (.ints .i64 R0), .row 133 (.ints .i64 R1), .row 133 (.ints .i64 R2), .row 133 (.ints .i64 R3)] K = ( ((4 : Int) = (4 : Int) ∧ okSol [R0, R1, R2, R3] ∧ (0 : Int) ≤ (0 : Int) ∧ (0 : Int) ≤ (4 : Int)) ∧ bif decide ((0 : Int) ≤ (↑[SV.own 1 1, SV.own 2 1, SV.own 3 1, SV.own 4 1].length : Int)) && decide ((↑[SV.own 1 1, SV.own 2 1, SV.own 3 1, SV.own 4 1].length : Int) < (↑((solF 4 0 [R0, R1, R2, R3]).getD 0 []).length : Int)) then bif decide ((↑[SV.own 1 1, SV.own 2 1, SV.own 3 1, SV.own 4 1].length : Int).toNat + 0 < ((solF 4 0 [R0, R1, R2, R3]).getD 0 []).length) then bif decide ((0 : Int) ≤ (↑[SV.own 1 1, SV.own 2 1, SV.own 3 1, SV.own 4 1].length : Int)) && decide ((↑[SV.own 1 1, SV.own 2 1, SV.own 3 1, SV.own 4 1].length : Int) < (↑((solF 4 0 [R0, R1, R2, R3]).getD 1 []).length : Int)) then bif decide ((↑[SV.own 1 1, SV.own 2 1, SV.own 3 1, SV.own 4 1].length : Int).toNat + 0 < ((solF 4 0 [R0, R1, R2, R3]).getD 1 []).length) then bif decide ((0 : Int) ≤ (↑[SV.own 1 1, SV.own 2 1, SV.own 3 1, SV.own 4 1].length : Int)) && decide ((↑[SV.own 1 1, SV.own 2 1, SV.own 3 1, SV.own 4 1].length : Int) < (↑((solF 4 0 [R0, R1, R2, R3]).getD 2 []).length : Int)) then bif decide ((↑[SV.own 1 1, SV.own 2 1, SV.own 3 1, SV.own 4 1].length : Int).toNat + 0 < ((solF 4 0 [R0, R1, R2, R3]).getD 2 []).length) then bif decide ((0 : Int) ≤ (↑[SV.own 1 1, SV.own 2 1, SV.own 3 1, SV.own 4 1].length : Int)) && decide ((↑[SV.own 1 1, SV.own 2 1, SV.own 3 1, SV.own 4 1].length : Int) < (↑((solF 4 0 [R0, R1, R2, R3]).getD 3 []).length : Int)) then bif decide ((↑[SV.own 1 1, SV.own 2 1, SV.own 3 1, SV.own 4 1].length : Int).toNat + 0 < ((solF 4 0 [R0, R1, R2, R3]).getD 3 []).length) then K (.one (.own 5 1)) [Blk.cells [SV.own 1 1, SV.own 2 1, SV.own 3 1, SV.own 4 1], Blk.row 133 (Row.ints .i64 ((solF 4 0 [R0, R1, R2, R3]).getD 0 [])), Blk.row 133 (Row.ints .i64 ((solF 4 0 [R0, R1, R2, R3]).getD 1 [])), Blk.row 133 (Row.ints .i64 ((solF 4 0 [R0, R1, R2, R3]).getD 2 [])), Blk.row 133 (Row.ints .i64 ((solF 4 0 [R0, R1, R2, R3]).getD 3 [])), Blk.row 133 (Row.ints .i64 [((solF 4 0 [R0, R1, R2, R3]).getD 0 []).getD ((↑[SV.own 1 1, SV.own 2 1, SV.own 3 1, SV.own 4 1].length : Int).toNat + 0) (0 : Int), ((solF 4 0 [R0, R1, R2, R3]).getD 1 []).getD ((↑[SV.own 1 1, SV.own 2 1, SV.own 3 1, SV.own 4 1].length : Int).toNat + 0) (0 : Int), ((solF 4 0 [R0, R1, R2, R3]).getD 2 []).getD ((↑[SV.own 1 1, SV.own 2 1, SV.own 3 1, SV.own 4 1].length : Int).toNat + 0) (0 : Int), ((solF 4 0 [R0, R1, R2, R3]).getD 3 []).getD ((↑[SV.own 1 1, SV.own 2 1, SV.own 3 1, SV.own 4 1].length : Int).toNat + 0) (0 : Int)])] else False else False else False else False else False else False else False else False) := by kernel_rfl
theorem exsl4l1a (s n i : Int) (R : List Int) (K : Ex → List AV → List Blk → Prop) : evBody Esl4F1 (lb Try.f118 1) [5, 6, 29, 30] [] [.one (.own 0 1), .one (.int .i64 s), .one (.int .i64 n), .one (.int .i64 i)] [.row 133 (.ints .i64 R)] K = ( bif decide (i < n) then bif decide ((0 : Int) ≤ i) && decide (i < (↑R.length : Int)) then bif decide (i.toNat + 0 < R.length) then ((0 : Int) ≤ R.getD (i.toNat + 0) (0 : Int) ∧ R.getD (i.toNat + 0) (0 : Int) < (65537 : Int) ∧ (0 : Int) ≤ s ∧ s < (65537 : Int)) ∧ bif decide ((0 : Int) ≤ i) && decide (i < (↑R.length : Int)) then bif decide (i.toNat + 0 < R.length) then K .normal [.one (.own 0 1), .one (.int .i64 s), .one (.int .i64 n), .one (.int .i64 (IntKind.i64.wrap (i + (1 : Int))))] [Blk.row 133 (Row.ints .i64 (R.set (i.toNat + 0) (modG (R.getD (i.toNat + 0) (0 : Int) * s))))] else False else False else False else False else K (.exit 2) [] [Blk.row 133 (Row.ints .i64 R)]) := by kernel_rfl
theorem exsl4l3a (b n i : Int) (P R : List Int) (K : Ex → List AV → List Blk → Prop) : evBody Esl4F2 (lb Try.f118 3) [5, 9, 10, 58, 59] [] [.one (.own 0 1), .one (.own 1 1), .one (.int .i64 b), .one (.int .i64 n), .one (.int .i64 i)] [.row 133 (.ints .i64 P), .row 133 (.ints .i64 R)] K = ( bif decide (i < n) then bif decide ((0 : Int) ≤ i) && decide (i < (↑R.length : Int)) then bif decide (i.toNat + 0 < R.length) then bif decide ((0 : Int) ≤ i) && decide (i < (↑P.length : Int)) then bif decide (i.toNat + 0 < P.length) then ((0 : Int) ≤ b ∧ b < (65537 : Int) ∧ (0 : Int) ≤ P.getD (i.toNat + 0) (0 : Int) ∧ P.getD (i.toNat + 0) (0 : Int) < (65537 : Int)) ∧ ((0 : Int) ≤ R.getD (i.toNat + 0) (0 : Int) ∧ R.getD (i.toNat + 0) (0 : Int) < (65537 : Int) ∧ (0 : Int) ≤ modG (b * P.getD (i.toNat + 0) (0 : Int)) ∧ modG (b * P.getD (i.toNat + 0) (0 : Int)) < (65537 : Int)) ∧ bif decide ((0 : Int) ≤ i) && decide (i < (↑R.length : Int)) then bif decide (i.toNat + 0 < R.length) then K .normal [.one (.own 0 1), .one (.own 1 1), .one (.int .i64 b), .one (.int .i64 n), .one (.int .i64 (IntKind.i64.wrap (i + (1 : Int))))] [Blk.row 133 (Row.ints .i64 P), Blk.row 133 (Row.ints .i64 (R.set (i.toNat + 0) (modG (R.getD (i.toNat + 0) (0 : Int) - modG (b * P.getD (i.toNat + 0) (0 : Int))))))] else False else False else False else False else False else False else K (.exit 6) [] [Blk.row 133 (Row.ints .i64 P), Blk.row 133 (Row.ints .i64 R)]) := by kernel_rfl
end Go.Ev

namespace Go.Ev
open Go Go.Proofs
attribute [local irreducible] evFn evBody evRound
set_option maxRecDepth 20000
set_option linter.unusedVariables false
set_option linter.unusedSimpArgs false
theorem condI {b : Bool} {p q : Prop} (h : b = true) (hp : p) : bif b then p else q := by rw [h]; exact hp
theorem resG_iff {n : Int} : resG n = true ↔ 0 ≤ n ∧ n < 65537 := by
  unfold resG withinG
  simp only [Bool.and_eq_true, decide_eq_true_eq]
  omega
theorem res_get {R : List Int} (h : resRow R = true) (i : Nat) : 0 ≤ R.getD i 0 ∧ R.getD i 0 < 65537 := by
  by_cases hi : i < R.length
  · rw [getD_of_lt hi]; exact resG_iff.1 (List.all_eq_true.1 h _ (List.getElem_mem hi))
  · rw [List.getD, List.getElem?_eq_none (by omega)]; exact ⟨by decide, by decide⟩
theorem res_mod (n : Int) : resG (modG n) = true := resG_iff.2 (modG_range n)
theorem scR_len (R : List Int) (s : Int) : (scR R s).length = R.length := List.length_map _
theorem scR_res (R : List Int) (s : Int) : resRow (scR R s) = true := by
  unfold resRow scR
  rw [List.all_map]
  exact List.all_eq_true.2 fun x _ => res_mod _
theorem elR_len : ∀ (P R : List Int) (b : Int), P.length = R.length → (elR P R b).length = R.length
  | [], [], _, _ => rfl
  | _ :: P, _ :: R, b, h => by
    have := elR_len P R b (by simpa using h)
    simp only [elR, List.length_cons, this]
theorem elR_res : ∀ (P R : List Int) (b : Int), resRow (elR P R b) = true
  | [], _, _ => rfl
  | _ :: _, [], _ => rfl
  | p :: P, r :: R, b => by
    have := elR_res P R b
    unfold resRow at this ⊢
    rw [elR, List.all_cons, this, res_mod]; rfl
theorem scR_ok {n : Nat} {R : List Int} (s : Int) (h : okRw n R) : okRw n (scR R s) := ⟨by rw [scR_len]; exact h.1, scR_res R s⟩
theorem elR_ok {n : Nat} {P R : List Int} (b : Int) (hP : okRw n P) (h : okRw n R) : okRw n (elR P R b) := ⟨by rw [elR_len _ _ _ (by rw [hP.1, h.1])]; exact h.1, elR_res P R b⟩
theorem res_set {R : List Int} {i : Nat} {v : Int} (h : resRow R = true) (hv : resG v = true) : resRow (R.set i v) = true := by
  unfold resRow at h ⊢
  refine List.all_eq_true.2 fun x hx => ?_
  rcases List.mem_or_eq_of_mem_set hx with hx | rfl
  · exact List.all_eq_true.1 h x hx
  · exact hv
theorem drop_set1 {R : List Int} {i : Nat} {v : Int} : (R.set i v).drop (i + 1) = R.drop (i + 1) := by
  rw [List.drop_set]; simp
theorem sc_step {R : List Int} {i : Nat} {s : Int} (h : i < R.length) : (R.set i (modG (R.getD i 0 * s))).take (i + 1) ++ scR ((R.set i (modG (R.getD i 0 * s))).drop (i + 1)) s = R.take i ++ scR (R.drop i) s := by
  rw [set_take h, drop_set1, drop_step 0 h]; rfl
theorem el_step {P R : List Int} {i : Nat} {b : Int} (h : i < R.length) (hp : P.length = R.length) : (R.set i (modG (R.getD i 0 - modG (b * P.getD i 0)))).take (i + 1) ++ elR (P.drop (i + 1)) ((R.set i (modG (R.getD i 0 - modG (b * P.getD i 0)))).drop (i + 1)) b = R.take i ++ elR (P.drop i) (R.drop i) b := by
  rw [set_take h, drop_set1, drop_step (l := R) 0 h, drop_step (l := P) (i := i) 0 (by omega)]; rfl
theorem stp_len (c : Nat) (rows : List (List Int)) : (stp c rows).length = rows.length := by simp [stp]
theorem getD_mem {α : Type} {l : List α} {i : Nat} {d : α} (h : i < l.length) : l.getD i d ∈ l := by
  rw [List.getD_eq_getElem?_getD, List.getElem?_eq_getElem h]; exact List.getElem_mem h
theorem stp_ok {c : Nat} {rows : List (List Int)} (h : okSol rows) (hc : c < rows.length) : okSol (stp c rows) := by
  intro R hR
  rw [stp_len]
  unfold stp at hR
  obtain ⟨r, hr, rfl⟩ := List.mem_map.1 hR
  have hr' : r < rows.length := by simpa using hr
  have pc : okRw rows.length (rows.getD c []) := h _ (getD_mem hc)
  have pr : okRw rows.length (rows.getD r []) := h _ (getD_mem hr')
  cases r == c with
  | true => exact scR_ok _ pc
  | false => exact elR_ok _ (scR_ok _ pc) pr
theorem solF_ok : ∀ (f c : Nat) (rows : List (List Int)), okSol rows → c + f ≤ rows.length → okSol (solF f c rows) ∧ (solF f c rows).length = rows.length
  | 0, _, _, h, _ => ⟨h, rfl⟩
  | f + 1, c, rows, h, hc => by
    obtain ⟨a, b⟩ := solF_ok f (c + 1) (stp c rows) (stp_ok h (by omega)) (by rw [stp_len]; omega)
    exact ⟨a, by rw [solF, b, stp_len]⟩
theorem okmin : SpecOK Try.prog 117 minusS := by
  refine specOK (n := 9) (m := 0) (lps := []) (.cons ok116 .nil) Try.func117 (by kernel_rfl) (by kernel_rfl) (noLoops (by kernel_rfl)) fun args σ K h => ?_
  unfold minusS at h
  split at h
  rotate_right
  · exact h.elim
  rename_i a b
  rw [exmin a b K]
  obtain ⟨⟨h1, h2, h3, h4⟩, h⟩ := h
  rw [wrap_id (by omega) (by omega)]
  exact h
theorem okinv2 : SpecOK Try.prog 98 inv2S := ok98.weak fun args σ K h => by
  unfold inv2S at h
  split at h
  · exact ⟨h.1, h.2 _ rfl⟩
  · exact h.elim
theorem inv_range {a s : Int} (ha : 0 ≤ a ∧ a < 65537) (h : isInv a s) : 0 ≤ s ∧ s < 65537 := by
  cases h; exact (inv_ref ha).2.2
theorem oksl0 : SpecOK Try.prog 118 slS0 := by
  refine specOK (n := 95) (m := 0) (lps := [(3, .unroll 1), (8, .unroll 1), (13, .unroll 1), (18, .unroll 1), (25, .unroll 1)]) (.cons okinv2 (.cons ok130 (.cons okmin .nil))) Try.func118 (by kernel_rfl) (by kernel_rfl) (theLoops (n := 5) (by kernel_rfl) fun i hi => ?_) fun args σ K h => ?_
  · match i, hi with
    | 0, _ => exact loopHyp_none (key := 3) (n := 1) (by kernel_rfl) rfl
    | 1, _ => exact loopHyp_none (key := 8) (n := 1) (by kernel_rfl) rfl
    | 2, _ => exact loopHyp_none (key := 13) (n := 1) (by kernel_rfl) rfl
    | 3, _ => exact loopHyp_none (key := 18) (n := 1) (by kernel_rfl) rfl
    | 4, _ => exact loopHyp_none (key := 25) (n := 1) (by kernel_rfl) rfl
  unfold slS0 at h
  split at h
  rotate_right
  · exact h.elim
  rw [exsl0 K]
  exact h
theorem loksl1_1 : LoopOK Esl1F1 (lb Try.f118 1) [5, 6, 29, 30] [] scL := by
  refine loopOK (.cons okinv2 (.cons ok130 (.cons okmin .nil))) (noInner (by kernel_rfl)) (fun vs σ => match vs, σ with
    | [.one (.own 0 1), .one (.int .i64 _), .one (.int .i64 n), .one (.int .i64 i)], [.row 133 (.ints .i64 _)] => (n - i).toNat
    | _, _ => 0) fun vs σ k h => ?_
  unfold scL at h
  split at h
  rotate_right
  · exact h.elim
  · rename_i s n i R
    rw [exsl1l1a s n i R _]
    obtain ⟨⟨h1, h2, rfl, h4, h5, h6, h7⟩, h⟩ := h
    by_cases hi : i < (R.length : Int)
    · have hw : IntKind.i64.wrap (i + 1) = i + 1 := wrap_id (by omega) (by omega)
      have e0 : R.getD (i.toNat + 0) 0 = R.getD i.toNat 0 := rfl
      have es : ∀ v, R.set (i.toNat + 0) v = R.set i.toNat v := fun _ => rfl
      have d1 : decide (i < (R.length : Int)) = true := decide_eq_true hi
      have d2 : decide (0 ≤ i) = true := decide_eq_true h6
      have d3 : decide (i.toNat + 0 < R.length) = true := decide_eq_true (by omega)
      rw [e0, es, hw]
      simp only [d1, d2, d3, Bool.and_self, cond_true]
      refine And.intro ⟨(res_get h5 _).1, (res_get h5 _).2, h1, h2⟩ ⟨⟨⟨h1, h2, by rw [List.length_set], by rw [List.length_set]; exact h4, res_set h5 (res_mod _), by omega, by omega⟩, ?_⟩, by omega⟩
      rw [show (i + 1).toNat = i.toNat + 1 by omega, sc_step (by omega)]
      exact h
    · rw [decide_eq_false hi]
      rw [List.drop_eq_nil_of_le (by omega), List.take_of_length_le (by omega)] at h
      unfold scR at h
      rw [List.map_nil, List.append_nil] at h
      exact h
theorem loksl1_3 : LoopOK Esl1F2 (lb Try.f118 3) [5, 9, 10, 58, 59] [] elL := by
  refine loopOK (.cons okinv2 (.cons ok130 (.cons okmin .nil))) (noInner (by kernel_rfl)) (fun vs σ => match vs, σ with
    | [.one (.own 0 1), .one (.own 1 1), .one (.int .i64 _), .one (.int .i64 n), .one (.int .i64 i)], [.row 133 (.ints .i64 _), .row 133 (.ints .i64 _)] => (n - i).toNat
    | _, _ => 0) fun vs σ k h => ?_
  unfold elL at h
  split at h
  rotate_right
  · exact h.elim
  · rename_i b n i P R
    rw [exsl1l3a b n i P R _]
    obtain ⟨⟨h1, h2, rfl, hl, h4, h5, hp, h6, h7⟩, h⟩ := h
    by_cases hi : i < (R.length : Int)
    · have hw : IntKind.i64.wrap (i + 1) = i + 1 := wrap_id (by omega) (by omega)
      have e0 : R.getD (i.toNat + 0) 0 = R.getD i.toNat 0 := rfl
      have e1 : P.getD (i.toNat + 0) 0 = P.getD i.toNat 0 := rfl
      have es : ∀ v, R.set (i.toNat + 0) v = R.set i.toNat v := fun _ => rfl
      have d1 : decide (i < (R.length : Int)) = true := decide_eq_true hi
      have d2 : decide (0 ≤ i) = true := decide_eq_true h6
      have d3 : decide (i.toNat + 0 < R.length) = true := decide_eq_true (by omega)
      have d4 : decide (i < (P.length : Int)) = true := decide_eq_true (by omega)
      have d5 : decide (i.toNat + 0 < P.length) = true := decide_eq_true (by omega)
      rw [e0, e1, es, hw]
      simp only [d1, d2, d3, d4, d5, Bool.and_self, cond_true]
      refine And.intro ⟨h1, h2, (res_get hp _).1, (res_get hp _).2⟩ (And.intro ⟨(res_get h5 _).1, (res_get h5 _).2, (modG_range _).1, (modG_range _).2⟩ ⟨⟨⟨h1, h2, by rw [List.length_set], by rw [List.length_set]; exact hl, by rw [List.length_set]; exact h4, res_set h5 (res_mod _), hp, by omega, by omega⟩, ?_⟩, by omega⟩)
      rw [show (i + 1).toNat = i.toNat + 1 by omega, el_step (by omega) hl]
      exact h
    · rw [decide_eq_false hi]
      have hd : ∀ l : List Int, l.length = R.length → l.drop i.toNat = [] := fun l hl => List.drop_eq_nil_of_le (by omega)
      rw [hd R rfl, hd P hl, List.take_of_length_le (by omega)] at h
      unfold elR at h
      rw [List.append_nil] at h
      exact h
theorem loksl1_2 : LoopOK Esl1F2 (lb Try.f118 2) [4, 5, 43, 44, 45] [] slB1 := by
  refine loopOK (.cons okinv2 (.cons ok130 (.cons okmin .nil))) (fun b' hb => by
    have hl : loopsOf (lb Try.f118 2) = [lb Try.f118 3] := by kernel_rfl
    rw [hl] at hb
    simp only [List.mem_cons, List.not_mem_nil, or_false] at hb
    subst hb
    exact loopHyp_frm (E' := Esl1F2) (key := 18) (m := 2) (by kernel_rfl) rfl rfl loksl1_3) (fun vs σ => match vs, σ with
    | [.one (.int .i64 _), .one (.own 0 1), .one (.own 1 1), .one (.int .i64 n), .one (.int .i64 r)], [.row 133 (.ints .i64 _), .cells [.own 0 1]] => (n - r).toNat
    | _, _ => 0) fun vs σ k h => ?_
  unfold slB1 at h
  split at h
  rotate_right
  · exact h.elim
  · rename_i c n r P
    obtain ⟨⟨rfl, rfl, h3, h4, hP⟩, h⟩ := h
    have lP := hP.1
    have hr : r = 0 ∨ r = 1 := by omega
    rcases hr with rfl | rfl
    · rw [exsb1c0r0 P _]
      refine condI (by simp only [lP]; decide) (condI (by simp only [lP]; decide) ?_)
      exact ⟨⟨⟨rfl, rfl, by decide, by decide, hP⟩, h⟩, by show ((1 : Int) - 1).toNat < ((1 : Int) - 0).toNat; decide⟩
    · rw [exsb1c0r1 P _]
      exact h
theorem loksl1_0 : LoopOK Esl1F2 (lb Try.f118 0) [0, 15, 16] [] slA1 := by
  refine loopOK (.cons okinv2 (.cons ok130 (.cons okmin .nil))) (fun b' hb => by
    have hl : loopsOf (lb Try.f118 0) = [lb Try.f118 1, lb Try.f118 2, lb Try.f118 3] := by kernel_rfl
    rw [hl] at hb
    simp only [List.mem_cons, List.not_mem_nil, or_false] at hb
    rcases hb with rfl | rfl | rfl
    · exact loopHyp_frm (E' := Esl1F1) (key := 8) (m := 1) (by kernel_rfl) rfl rfl loksl1_1
    · exact loopHyp_frm (E' := Esl1F2) (key := 13) (m := 2) (by kernel_rfl) rfl rfl loksl1_2
    · exact loopHyp_frm (E' := Esl1F2) (key := 18) (m := 2) (by kernel_rfl) rfl rfl loksl1_3) (fun vs σ => match vs, σ with
    | [.one (.own 0 1), .one (.int .i64 n), .one (.int .i64 c)], [.cells [.own 1 1], .row 133 (.ints .i64 _)] => (n - c).toNat
    | _, _ => 0) fun vs σ k h => ?_
  unfold slA1 at h
  split at h
  rotate_right
  · exact h.elim
  · rename_i n c R0
    obtain ⟨⟨rfl, hok, h1, h2⟩, h⟩ := h
    have q0 : okRw 1 R0 := hok R0 (by simp)
    have l0 := q0.1
    have hc : c = 0 ∨ c = 1 := by omega
    rcases hc with rfl | rfl
    · rw [exsl1c0 R0 _]
      refine condI (by simp only [l0]; decide) (condI (by simp only [l0]; decide) (And.intro (res_get q0.2 _) fun s hs => ?_))
      have hsr := inv_range (res_get q0.2 0) hs
      refine And.intro ⟨hsr.1, hsr.2, rfl, by omega, q0.2, by omega, by omega⟩ (And.intro ⟨rfl, rfl, by decide, by decide, scR_ok s q0⟩ ?_)
      cases hs
      exact ⟨⟨⟨rfl, stp_ok (c := 0) hok (by simp), by decide, by decide⟩, h⟩, by show ((1 : Int) - 1).toNat < ((1 : Int) - 0).toNat; decide⟩
    · rw [exsl1c1 R0 _]
      exact h
theorem oksl1 : SpecOK Try.prog 118 slS1 := by
  refine specOK (n := 95) (m := 2) (lps := [(3, .frm 2 [0, 15, 16] [] slA1), (8, .frm 1 [5, 6, 29, 30] [] scL), (13, .frm 2 [4, 5, 43, 44, 45] [] slB1), (18, .frm 2 [5, 9, 10, 58, 59] [] elL), (25, .unroll 2)]) (.cons okinv2 (.cons ok130 (.cons okmin .nil))) Try.func118 (by kernel_rfl) (by kernel_rfl) (theLoops (n := 5) (by kernel_rfl) fun i hi => ?_) fun args σ K h => ?_
  · match i, hi with
    | 0, _ => exact loopHyp_frm (E' := Esl1F2) (key := 3) (m := 2) (by kernel_rfl) rfl rfl loksl1_0
    | 1, _ => exact loopHyp_frm (E' := Esl1F1) (key := 8) (m := 1) (by kernel_rfl) rfl rfl loksl1_1
    | 2, _ => exact loopHyp_frm (E' := Esl1F2) (key := 13) (m := 2) (by kernel_rfl) rfl rfl loksl1_2
    | 3, _ => exact loopHyp_frm (E' := Esl1F2) (key := 18) (m := 2) (by kernel_rfl) rfl rfl loksl1_3
    | 4, _ => exact loopHyp_none (key := 25) (n := 2) (by kernel_rfl) rfl
  unfold slS1 at h
  split at h
  rotate_right
  · exact h.elim
  rename_i R0
  rw [exsl1 R0 K]
  obtain ⟨hok, h⟩ := h
  refine And.intro ⟨rfl, hok, by decide, by decide⟩ ?_
  obtain ⟨hT1, hT2⟩ := solF_ok 1 0 [R0] hok (by simp)
  have e : solV [R0] = (solF 1 0 [R0]).map fun R => R.getD 1 0 := rfl
  rw [e] at h
  generalize solF 1 0 [R0] = T at *
  match T, hT2, hT1, h with
  | [t0], _, hT1, h =>
    have l0 : t0.length = 2 := (hT1 t0 (by simp)).1
    refine condI (by simp only [List.getD_cons_zero, List.getD_cons_succ, l0]; decide) (condI (by simp only [List.getD_cons_zero, List.getD_cons_succ, l0]; decide) (h t0))
theorem loksl2_1 : LoopOK Esl2F1 (lb Try.f118 1) [5, 6, 29, 30] [] scL := by
  refine loopOK (.cons okinv2 (.cons ok130 (.cons okmin .nil))) (noInner (by kernel_rfl)) (fun vs σ => match vs, σ with
    | [.one (.own 0 1), .one (.int .i64 _), .one (.int .i64 n), .one (.int .i64 i)], [.row 133 (.ints .i64 _)] => (n - i).toNat
    | _, _ => 0) fun vs σ k h => ?_
  unfold scL at h
  split at h
  rotate_right
  · exact h.elim
  · rename_i s n i R
    rw [exsl2l1a s n i R _]
    obtain ⟨⟨h1, h2, rfl, h4, h5, h6, h7⟩, h⟩ := h
    by_cases hi : i < (R.length : Int)
    · have hw : IntKind.i64.wrap (i + 1) = i + 1 := wrap_id (by omega) (by omega)
      have e0 : R.getD (i.toNat + 0) 0 = R.getD i.toNat 0 := rfl
      have es : ∀ v, R.set (i.toNat + 0) v = R.set i.toNat v := fun _ => rfl
      have d1 : decide (i < (R.length : Int)) = true := decide_eq_true hi
      have d2 : decide (0 ≤ i) = true := decide_eq_true h6
      have d3 : decide (i.toNat + 0 < R.length) = true := decide_eq_true (by omega)
      rw [e0, es, hw]
      simp only [d1, d2, d3, Bool.and_self, cond_true]
      refine And.intro ⟨(res_get h5 _).1, (res_get h5 _).2, h1, h2⟩ ⟨⟨⟨h1, h2, by rw [List.length_set], by rw [List.length_set]; exact h4, res_set h5 (res_mod _), by omega, by omega⟩, ?_⟩, by omega⟩
      rw [show (i + 1).toNat = i.toNat + 1 by omega, sc_step (by omega)]
      exact h
    · rw [decide_eq_false hi]
      rw [List.drop_eq_nil_of_le (by omega), List.take_of_length_le (by omega)] at h
      unfold scR at h
      rw [List.map_nil, List.append_nil] at h
      exact h
theorem loksl2_3 : LoopOK Esl2F2 (lb Try.f118 3) [5, 9, 10, 58, 59] [] elL := by
  refine loopOK (.cons okinv2 (.cons ok130 (.cons okmin .nil))) (noInner (by kernel_rfl)) (fun vs σ => match vs, σ with
    | [.one (.own 0 1), .one (.own 1 1), .one (.int .i64 _), .one (.int .i64 n), .one (.int .i64 i)], [.row 133 (.ints .i64 _), .row 133 (.ints .i64 _)] => (n - i).toNat
    | _, _ => 0) fun vs σ k h => ?_
  unfold elL at h
  split at h
  rotate_right
  · exact h.elim
  · rename_i b n i P R
    rw [exsl2l3a b n i P R _]
    obtain ⟨⟨h1, h2, rfl, hl, h4, h5, hp, h6, h7⟩, h⟩ := h
    by_cases hi : i < (R.length : Int)
    · have hw : IntKind.i64.wrap (i + 1) = i + 1 := wrap_id (by omega) (by omega)
      have e0 : R.getD (i.toNat + 0) 0 = R.getD i.toNat 0 := rfl
      have e1 : P.getD (i.toNat + 0) 0 = P.getD i.toNat 0 := rfl
      have es : ∀ v, R.set (i.toNat + 0) v = R.set i.toNat v := fun _ => rfl
      have d1 : decide (i < (R.length : Int)) = true := decide_eq_true hi
      have d2 : decide (0 ≤ i) = true := decide_eq_true h6
      have d3 : decide (i.toNat + 0 < R.length) = true := decide_eq_true (by omega)
      have d4 : decide (i < (P.length : Int)) = true := decide_eq_true (by omega)
      have d5 : decide (i.toNat + 0 < P.length) = true := decide_eq_true (by omega)
      rw [e0, e1, es, hw]
      simp only [d1, d2, d3, d4, d5, Bool.and_self, cond_true]
      refine And.intro ⟨h1, h2, (res_get hp _).1, (res_get hp _).2⟩ (And.intro ⟨(res_get h5 _).1, (res_get h5 _).2, (modG_range _).1, (modG_range _).2⟩ ⟨⟨⟨h1, h2, by rw [List.length_set], by rw [List.length_set]; exact hl, by rw [List.length_set]; exact h4, res_set h5 (res_mod _), hp, by omega, by omega⟩, ?_⟩, by omega⟩)
      rw [show (i + 1).toNat = i.toNat + 1 by omega, el_step (by omega) hl]
      exact h
    · rw [decide_eq_false hi]
      have hd : ∀ l : List Int, l.length = R.length → l.drop i.toNat = [] := fun l hl => List.drop_eq_nil_of_le (by omega)
      rw [hd R rfl, hd P hl, List.take_of_length_le (by omega)] at h
      unfold elR at h
      rw [List.append_nil] at h
      exact h
theorem loksl2_2 : LoopOK Esl2F3 (lb Try.f118 2) [4, 5, 43, 44, 45] [] slB2 := by
  refine loopOK (.cons okinv2 (.cons ok130 (.cons okmin .nil))) (fun b' hb => by
    have hl : loopsOf (lb Try.f118 2) = [lb Try.f118 3] := by kernel_rfl
    rw [hl] at hb
    simp only [List.mem_cons, List.not_mem_nil, or_false] at hb
    subst hb
    exact loopHyp_frm (E' := Esl2F2) (key := 18) (m := 2) (by kernel_rfl) rfl rfl loksl2_3) (fun vs σ => match vs, σ with
    | [.one (.int .i64 _), .one (.own 0 1), .one (.own 1 1), .one (.int .i64 n), .one (.int .i64 r)], [.row 133 (.ints .i64 _), .cells [.own 0 1, .own 2 1], .row 133 (.ints .i64 _)] => (n - r).toNat
    | [.one (.int .i64 _), .one (.own 0 1), .one (.own 1 1), .one (.int .i64 n), .one (.int .i64 r)], [.row 133 (.ints .i64 _), .cells [.own 2 1, .own 0 1], .row 133 (.ints .i64 _)] => (n - r).toNat
    | _, _ => 0) fun vs σ k h => ?_
  unfold slB2 at h
  split at h
  rotate_right
  · exact h.elim
  · rename_i c n r P S1
    obtain ⟨⟨rfl, rfl, h3, h4, hP, q1⟩, h⟩ := h
    have lP := hP.1
    have l1 := q1.1
    have hr : r = 0 ∨ r = 1 ∨ r = 2 := by omega
    rcases hr with rfl | rfl | rfl
    · rw [exsb2c0r0 P S1 _]
      refine condI (by simp only [lP, l1]; decide) (condI (by simp only [lP, l1]; decide) ?_)
      exact ⟨⟨⟨rfl, rfl, by decide, by decide, hP, q1⟩, h⟩, by show ((2 : Int) - 1).toNat < ((2 : Int) - 0).toNat; decide⟩
    · rw [exsb2c0r1 P S1 _]
      refine condI (by simp only [lP, l1]; decide) (condI (by simp only [lP, l1]; decide) ?_)
      refine And.intro ⟨(res_get q1.2 _).1, (res_get q1.2 _).2, rfl, by omega, by omega, q1.2, hP.2, by omega, by omega⟩ ?_
      exact ⟨⟨⟨rfl, rfl, by decide, by decide, hP, elR_ok _ hP q1⟩, h⟩, by show ((2 : Int) - 2).toNat < ((2 : Int) - 1).toNat; decide⟩
    · rw [exsb2c0r2 P S1 _]
      exact h
  · rename_i c n r P S0
    obtain ⟨⟨rfl, rfl, h3, h4, hP, q0⟩, h⟩ := h
    have lP := hP.1
    have l0 := q0.1
    have hr : r = 0 ∨ r = 1 ∨ r = 2 := by omega
    rcases hr with rfl | rfl | rfl
    · rw [exsb2c1r0 P S0 _]
      refine condI (by simp only [lP, l0]; decide) (condI (by simp only [lP, l0]; decide) ?_)
      refine And.intro ⟨(res_get q0.2 _).1, (res_get q0.2 _).2, rfl, by omega, by omega, q0.2, hP.2, by omega, by omega⟩ ?_
      exact ⟨⟨⟨rfl, rfl, by decide, by decide, hP, elR_ok _ hP q0⟩, h⟩, by show ((2 : Int) - 1).toNat < ((2 : Int) - 0).toNat; decide⟩
    · rw [exsb2c1r1 P S0 _]
      refine condI (by simp only [lP, l0]; decide) (condI (by simp only [lP, l0]; decide) ?_)
      exact ⟨⟨⟨rfl, rfl, by decide, by decide, hP, q0⟩, h⟩, by show ((2 : Int) - 2).toNat < ((2 : Int) - 1).toNat; decide⟩
    · rw [exsb2c1r2 P S0 _]
      exact h
theorem loksl2_0 : LoopOK Esl2F3 (lb Try.f118 0) [0, 15, 16] [] slA2 := by
  refine loopOK (.cons okinv2 (.cons ok130 (.cons okmin .nil))) (fun b' hb => by
    have hl : loopsOf (lb Try.f118 0) = [lb Try.f118 1, lb Try.f118 2, lb Try.f118 3] := by kernel_rfl
    rw [hl] at hb
    simp only [List.mem_cons, List.not_mem_nil, or_false] at hb
    rcases hb with rfl | rfl | rfl
    · exact loopHyp_frm (E' := Esl2F1) (key := 8) (m := 1) (by kernel_rfl) rfl rfl loksl2_1
    · exact loopHyp_frm (E' := Esl2F3) (key := 13) (m := 3) (by kernel_rfl) rfl rfl loksl2_2
    · exact loopHyp_frm (E' := Esl2F2) (key := 18) (m := 2) (by kernel_rfl) rfl rfl loksl2_3) (fun vs σ => match vs, σ with
    | [.one (.own 0 1), .one (.int .i64 n), .one (.int .i64 c)], [.cells [.own 1 1, .own 2 1], .row 133 (.ints .i64 _), .row 133 (.ints .i64 _)] => (n - c).toNat
    | _, _ => 0) fun vs σ k h => ?_
  unfold slA2 at h
  split at h
  rotate_right
  · exact h.elim
  · rename_i n c R0 R1
    obtain ⟨⟨rfl, hok, h1, h2⟩, h⟩ := h
    have q0 : okRw 2 R0 := hok R0 (by simp)
    have l0 := q0.1
    have q1 : okRw 2 R1 := hok R1 (by simp)
    have l1 := q1.1
    have hc : c = 0 ∨ c = 1 ∨ c = 2 := by omega
    rcases hc with rfl | rfl | rfl
    · rw [exsl2c0 R0 R1 _]
      refine condI (by simp only [l0, l1]; decide) (condI (by simp only [l0, l1]; decide) (And.intro (res_get q0.2 _) fun s hs => ?_))
      have hsr := inv_range (res_get q0.2 0) hs
      refine And.intro ⟨hsr.1, hsr.2, rfl, by omega, q0.2, by omega, by omega⟩ (And.intro ⟨rfl, rfl, by decide, by decide, scR_ok s q0, q1⟩ ?_)
      cases hs
      exact ⟨⟨⟨rfl, stp_ok (c := 0) hok (by simp), by decide, by decide⟩, h⟩, by show ((2 : Int) - 1).toNat < ((2 : Int) - 0).toNat; decide⟩
    · rw [exsl2c1 R0 R1 _]
      refine condI (by simp only [l0, l1]; decide) (condI (by simp only [l0, l1]; decide) (And.intro (res_get q1.2 _) fun s hs => ?_))
      have hsr := inv_range (res_get q1.2 1) hs
      refine And.intro ⟨hsr.1, hsr.2, rfl, by omega, q1.2, by omega, by omega⟩ (And.intro ⟨rfl, rfl, by decide, by decide, scR_ok s q1, q0⟩ ?_)
      cases hs
      exact ⟨⟨⟨rfl, stp_ok (c := 1) hok (by simp), by decide, by decide⟩, h⟩, by show ((2 : Int) - 2).toNat < ((2 : Int) - 1).toNat; decide⟩
    · rw [exsl2c2 R0 R1 _]
      exact h
theorem oksl2 : SpecOK Try.prog 118 slS2 := by
  refine specOK (n := 95) (m := 3) (lps := [(3, .frm 3 [0, 15, 16] [] slA2), (8, .frm 1 [5, 6, 29, 30] [] scL), (13, .frm 3 [4, 5, 43, 44, 45] [] slB2), (18, .frm 2 [5, 9, 10, 58, 59] [] elL), (25, .unroll 3)]) (.cons okinv2 (.cons ok130 (.cons okmin .nil))) Try.func118 (by kernel_rfl) (by kernel_rfl) (theLoops (n := 5) (by kernel_rfl) fun i hi => ?_) fun args σ K h => ?_
  · match i, hi with
    | 0, _ => exact loopHyp_frm (E' := Esl2F3) (key := 3) (m := 3) (by kernel_rfl) rfl rfl loksl2_0
    | 1, _ => exact loopHyp_frm (E' := Esl2F1) (key := 8) (m := 1) (by kernel_rfl) rfl rfl loksl2_1
    | 2, _ => exact loopHyp_frm (E' := Esl2F3) (key := 13) (m := 3) (by kernel_rfl) rfl rfl loksl2_2
    | 3, _ => exact loopHyp_frm (E' := Esl2F2) (key := 18) (m := 2) (by kernel_rfl) rfl rfl loksl2_3
    | 4, _ => exact loopHyp_none (key := 25) (n := 3) (by kernel_rfl) rfl
  unfold slS2 at h
  split at h
  rotate_right
  · exact h.elim
  rename_i R0 R1
  rw [exsl2 R0 R1 K]
  obtain ⟨hok, h⟩ := h
  refine And.intro ⟨rfl, hok, by decide, by decide⟩ ?_
  obtain ⟨hT1, hT2⟩ := solF_ok 2 0 [R0, R1] hok (by simp)
  have e : solV [R0, R1] = (solF 2 0 [R0, R1]).map fun R => R.getD 2 0 := rfl
  rw [e] at h
  generalize solF 2 0 [R0, R1] = T at *
  match T, hT2, hT1, h with
  | [t0, t1], _, hT1, h =>
    have l0 : t0.length = 3 := (hT1 t0 (by simp)).1
    have l1 : t1.length = 3 := (hT1 t1 (by simp)).1
    refine condI (by simp only [List.getD_cons_zero, List.getD_cons_succ, l0, l1]; decide) (condI (by simp only [List.getD_cons_zero, List.getD_cons_succ, l0, l1]; decide) (condI (by simp only [List.getD_cons_zero, List.getD_cons_succ, l0, l1]; decide) (condI (by simp only [List.getD_cons_zero, List.getD_cons_succ, l0, l1]; decide) (h t0 t1))))
theorem loksl3_1 : LoopOK Esl3F1 (lb Try.f118 1) [5, 6, 29, 30] [] scL := by
  refine loopOK (.cons okinv2 (.cons ok130 (.cons okmin .nil))) (noInner (by kernel_rfl)) (fun vs σ => match vs, σ with
    | [.one (.own 0 1), .one (.int .i64 _), .one (.int .i64 n), .one (.int .i64 i)], [.row 133 (.ints .i64 _)] => (n - i).toNat
    | _, _ => 0) fun vs σ k h => ?_
  unfold scL at h
  split at h
  rotate_right
  · exact h.elim
  · rename_i s n i R
    rw [exsl3l1a s n i R _]
    obtain ⟨⟨h1, h2, rfl, h4, h5, h6, h7⟩, h⟩ := h
    by_cases hi : i < (R.length : Int)
    · have hw : IntKind.i64.wrap (i + 1) = i + 1 := wrap_id (by omega) (by omega)
      have e0 : R.getD (i.toNat + 0) 0 = R.getD i.toNat 0 := rfl
      have es : ∀ v, R.set (i.toNat + 0) v = R.set i.toNat v := fun _ => rfl
      have d1 : decide (i < (R.length : Int)) = true := decide_eq_true hi
      have d2 : decide (0 ≤ i) = true := decide_eq_true h6
      have d3 : decide (i.toNat + 0 < R.length) = true := decide_eq_true (by omega)
      rw [e0, es, hw]
      simp only [d1, d2, d3, Bool.and_self, cond_true]
      refine And.intro ⟨(res_get h5 _).1, (res_get h5 _).2, h1, h2⟩ ⟨⟨⟨h1, h2, by rw [List.length_set], by rw [List.length_set]; exact h4, res_set h5 (res_mod _), by omega, by omega⟩, ?_⟩, by omega⟩
      rw [show (i + 1).toNat = i.toNat + 1 by omega, sc_step (by omega)]
      exact h
    · rw [decide_eq_false hi]
      rw [List.drop_eq_nil_of_le (by omega), List.take_of_length_le (by omega)] at h
      unfold scR at h
      rw [List.map_nil, List.append_nil] at h
      exact h
theorem loksl3_3 : LoopOK Esl3F2 (lb Try.f118 3) [5, 9, 10, 58, 59] [] elL := by
  refine loopOK (.cons okinv2 (.cons ok130 (.cons okmin .nil))) (noInner (by kernel_rfl)) (fun vs σ => match vs, σ with
    | [.one (.own 0 1), .one (.own 1 1), .one (.int .i64 _), .one (.int .i64 n), .one (.int .i64 i)], [.row 133 (.ints .i64 _), .row 133 (.ints .i64 _)] => (n - i).toNat
    | _, _ => 0) fun vs σ k h => ?_
  unfold elL at h
  split at h
  rotate_right
  · exact h.elim
  · rename_i b n i P R
    rw [exsl3l3a b n i P R _]
    obtain ⟨⟨h1, h2, rfl, hl, h4, h5, hp, h6, h7⟩, h⟩ := h
    by_cases hi : i < (R.length : Int)
    · have hw : IntKind.i64.wrap (i + 1) = i + 1 := wrap_id (by omega) (by omega)
      have e0 : R.getD (i.toNat + 0) 0 = R.getD i.toNat 0 := rfl
      have e1 : P.getD (i.toNat + 0) 0 = P.getD i.toNat 0 := rfl
      have es : ∀ v, R.set (i.toNat + 0) v = R.set i.toNat v := fun _ => rfl
      have d1 : decide (i < (R.length : Int)) = true := decide_eq_true hi
      have d2 : decide (0 ≤ i) = true := decide_eq_true h6
      have d3 : decide (i.toNat + 0 < R.length) = true := decide_eq_true (by omega)
      have d4 : decide (i < (P.length : Int)) = true := decide_eq_true (by omega)
      have d5 : decide (i.toNat + 0 < P.length) = true := decide_eq_true (by omega)
      rw [e0, e1, es, hw]
      simp only [d1, d2, d3, d4, d5, Bool.and_self, cond_true]
      refine And.intro ⟨h1, h2, (res_get hp _).1, (res_get hp _).2⟩ (And.intro ⟨(res_get h5 _).1, (res_get h5 _).2, (modG_range _).1, (modG_range _).2⟩ ⟨⟨⟨h1, h2, by rw [List.length_set], by rw [List.length_set]; exact hl, by rw [List.length_set]; exact h4, res_set h5 (res_mod _), hp, by omega, by omega⟩, ?_⟩, by omega⟩)
      rw [show (i + 1).toNat = i.toNat + 1 by omega, el_step (by omega) hl]
      exact h
    · rw [decide_eq_false hi]
      have hd : ∀ l : List Int, l.length = R.length → l.drop i.toNat = [] := fun l hl => List.drop_eq_nil_of_le (by omega)
      rw [hd R rfl, hd P hl, List.take_of_length_le (by omega)] at h
      unfold elR at h
      rw [List.append_nil] at h
      exact h
theorem loksl3_2 : LoopOK Esl3F4 (lb Try.f118 2) [4, 5, 43, 44, 45] [] slB3 := by
  refine loopOK (.cons okinv2 (.cons ok130 (.cons okmin .nil))) (fun b' hb => by
    have hl : loopsOf (lb Try.f118 2) = [lb Try.f118 3] := by kernel_rfl
    rw [hl] at hb
    simp only [List.mem_cons, List.not_mem_nil, or_false] at hb
    subst hb
    exact loopHyp_frm (E' := Esl3F2) (key := 18) (m := 2) (by kernel_rfl) rfl rfl loksl3_3) (fun vs σ => match vs, σ with
    | [.one (.int .i64 _), .one (.own 0 1), .one (.own 1 1), .one (.int .i64 n), .one (.int .i64 r)], [.row 133 (.ints .i64 _), .cells [.own 0 1, .own 2 1, .own 3 1], .row 133 (.ints .i64 _), .row 133 (.ints .i64 _)] => (n - r).toNat
    | [.one (.int .i64 _), .one (.own 0 1), .one (.own 1 1), .one (.int .i64 n), .one (.int .i64 r)], [.row 133 (.ints .i64 _), .cells [.own 2 1, .own 0 1, .own 3 1], .row 133 (.ints .i64 _), .row 133 (.ints .i64 _)] => (n - r).toNat
    | [.one (.int .i64 _), .one (.own 0 1), .one (.own 1 1), .one (.int .i64 n), .one (.int .i64 r)], [.row 133 (.ints .i64 _), .cells [.own 2 1, .own 3 1, .own 0 1], .row 133 (.ints .i64 _), .row 133 (.ints .i64 _)] => (n - r).toNat
    | _, _ => 0) fun vs σ k h => ?_
  unfold slB3 at h
  split at h
  rotate_right
  · exact h.elim
  · rename_i c n r P S1 S2
    obtain ⟨⟨rfl, rfl, h3, h4, hP, q1, q2⟩, h⟩ := h
    have lP := hP.1
    have l1 := q1.1
    have l2 := q2.1
    have hr : r = 0 ∨ r = 1 ∨ r = 2 ∨ r = 3 := by omega
    rcases hr with rfl | rfl | rfl | rfl
    · rw [exsb3c0r0 P S1 S2 _]
      refine condI (by simp only [lP, l1, l2]; decide) (condI (by simp only [lP, l1, l2]; decide) ?_)
      exact ⟨⟨⟨rfl, rfl, by decide, by decide, hP, q1, q2⟩, h⟩, by show ((3 : Int) - 1).toNat < ((3 : Int) - 0).toNat; decide⟩
    · rw [exsb3c0r1 P S1 S2 _]
      refine condI (by simp only [lP, l1, l2]; decide) (condI (by simp only [lP, l1, l2]; decide) ?_)
      refine And.intro ⟨(res_get q1.2 _).1, (res_get q1.2 _).2, rfl, by omega, by omega, q1.2, hP.2, by omega, by omega⟩ ?_
      exact ⟨⟨⟨rfl, rfl, by decide, by decide, hP, elR_ok _ hP q1, q2⟩, h⟩, by show ((3 : Int) - 2).toNat < ((3 : Int) - 1).toNat; decide⟩
    · rw [exsb3c0r2 P S1 S2 _]
      refine condI (by simp only [lP, l1, l2]; decide) (condI (by simp only [lP, l1, l2]; decide) ?_)
      refine And.intro ⟨(res_get q2.2 _).1, (res_get q2.2 _).2, rfl, by omega, by omega, q2.2, hP.2, by omega, by omega⟩ ?_
      exact ⟨⟨⟨rfl, rfl, by decide, by decide, hP, q1, elR_ok _ hP q2⟩, h⟩, by show ((3 : Int) - 3).toNat < ((3 : Int) - 2).toNat; decide⟩
    · rw [exsb3c0r3 P S1 S2 _]
      exact h
  · rename_i c n r P S0 S2
    obtain ⟨⟨rfl, rfl, h3, h4, hP, q0, q2⟩, h⟩ := h
    have lP := hP.1
    have l0 := q0.1
    have l2 := q2.1
    have hr : r = 0 ∨ r = 1 ∨ r = 2 ∨ r = 3 := by omega
    rcases hr with rfl | rfl | rfl | rfl
    · rw [exsb3c1r0 P S0 S2 _]
      refine condI (by simp only [lP, l0, l2]; decide) (condI (by simp only [lP, l0, l2]; decide) ?_)
      refine And.intro ⟨(res_get q0.2 _).1, (res_get q0.2 _).2, rfl, by omega, by omega, q0.2, hP.2, by omega, by omega⟩ ?_
      exact ⟨⟨⟨rfl, rfl, by decide, by decide, hP, elR_ok _ hP q0, q2⟩, h⟩, by show ((3 : Int) - 1).toNat < ((3 : Int) - 0).toNat; decide⟩
    · rw [exsb3c1r1 P S0 S2 _]
      refine condI (by simp only [lP, l0, l2]; decide) (condI (by simp only [lP, l0, l2]; decide) ?_)
      exact ⟨⟨⟨rfl, rfl, by decide, by decide, hP, q0, q2⟩, h⟩, by show ((3 : Int) - 2).toNat < ((3 : Int) - 1).toNat; decide⟩
    · rw [exsb3c1r2 P S0 S2 _]
      refine condI (by simp only [lP, l0, l2]; decide) (condI (by simp only [lP, l0, l2]; decide) ?_)
      refine And.intro ⟨(res_get q2.2 _).1, (res_get q2.2 _).2, rfl, by omega, by omega, q2.2, hP.2, by omega, by omega⟩ ?_
      exact ⟨⟨⟨rfl, rfl, by decide, by decide, hP, q0, elR_ok _ hP q2⟩, h⟩, by show ((3 : Int) - 3).toNat < ((3 : Int) - 2).toNat; decide⟩
    · rw [exsb3c1r3 P S0 S2 _]
      exact h
  · rename_i c n r P S0 S1
    obtain ⟨⟨rfl, rfl, h3, h4, hP, q0, q1⟩, h⟩ := h
    have lP := hP.1
    have l0 := q0.1
    have l1 := q1.1
    have hr : r = 0 ∨ r = 1 ∨ r = 2 ∨ r = 3 := by omega
    rcases hr with rfl | rfl | rfl | rfl
    · rw [exsb3c2r0 P S0 S1 _]
      refine condI (by simp only [lP, l0, l1]; decide) (condI (by simp only [lP, l0, l1]; decide) ?_)
      refine And.intro ⟨(res_get q0.2 _).1, (res_get q0.2 _).2, rfl, by omega, by omega, q0.2, hP.2, by omega, by omega⟩ ?_
      exact ⟨⟨⟨rfl, rfl, by decide, by decide, hP, elR_ok _ hP q0, q1⟩, h⟩, by show ((3 : Int) - 1).toNat < ((3 : Int) - 0).toNat; decide⟩
    · rw [exsb3c2r1 P S0 S1 _]
      refine condI (by simp only [lP, l0, l1]; decide) (condI (by simp only [lP, l0, l1]; decide) ?_)
      refine And.intro ⟨(res_get q1.2 _).1, (res_get q1.2 _).2, rfl, by omega, by omega, q1.2, hP.2, by omega, by omega⟩ ?_
      exact ⟨⟨⟨rfl, rfl, by decide, by decide, hP, q0, elR_ok _ hP q1⟩, h⟩, by show ((3 : Int) - 2).toNat < ((3 : Int) - 1).toNat; decide⟩
    · rw [exsb3c2r2 P S0 S1 _]
      refine condI (by simp only [lP, l0, l1]; decide) (condI (by simp only [lP, l0, l1]; decide) ?_)
      exact ⟨⟨⟨rfl, rfl, by decide, by decide, hP, q0, q1⟩, h⟩, by show ((3 : Int) - 3).toNat < ((3 : Int) - 2).toNat; decide⟩
    · rw [exsb3c2r3 P S0 S1 _]
      exact h
theorem loksl3_0 : LoopOK Esl3F4 (lb Try.f118 0) [0, 15, 16] [] slA3 := by
  refine loopOK (.cons okinv2 (.cons ok130 (.cons okmin .nil))) (fun b' hb => by
    have hl : loopsOf (lb Try.f118 0) = [lb Try.f118 1, lb Try.f118 2, lb Try.f118 3] := by kernel_rfl
    rw [hl] at hb
    simp only [List.mem_cons, List.not_mem_nil, or_false] at hb
    rcases hb with rfl | rfl | rfl
    · exact loopHyp_frm (E' := Esl3F1) (key := 8) (m := 1) (by kernel_rfl) rfl rfl loksl3_1
    · exact loopHyp_frm (E' := Esl3F4) (key := 13) (m := 4) (by kernel_rfl) rfl rfl loksl3_2
    · exact loopHyp_frm (E' := Esl3F2) (key := 18) (m := 2) (by kernel_rfl) rfl rfl loksl3_3) (fun vs σ => match vs, σ with
    | [.one (.own 0 1), .one (.int .i64 n), .one (.int .i64 c)], [.cells [.own 1 1, .own 2 1, .own 3 1], .row 133 (.ints .i64 _), .row 133 (.ints .i64 _), .row 133 (.ints .i64 _)] => (n - c).toNat
    | _, _ => 0) fun vs σ k h => ?_
  unfold slA3 at h
  split at h
  rotate_right
  · exact h.elim
  · rename_i n c R0 R1 R2
    obtain ⟨⟨rfl, hok, h1, h2⟩, h⟩ := h
    have q0 : okRw 3 R0 := hok R0 (by simp)
    have l0 := q0.1
    have q1 : okRw 3 R1 := hok R1 (by simp)
    have l1 := q1.1
    have q2 : okRw 3 R2 := hok R2 (by simp)
    have l2 := q2.1
    have hc : c = 0 ∨ c = 1 ∨ c = 2 ∨ c = 3 := by omega
    rcases hc with rfl | rfl | rfl | rfl
    · rw [exsl3c0 R0 R1 R2 _]
      refine condI (by simp only [l0, l1, l2]; decide) (condI (by simp only [l0, l1, l2]; decide) (And.intro (res_get q0.2 _) fun s hs => ?_))
      have hsr := inv_range (res_get q0.2 0) hs
      refine And.intro ⟨hsr.1, hsr.2, rfl, by omega, q0.2, by omega, by omega⟩ (And.intro ⟨rfl, rfl, by decide, by decide, scR_ok s q0, q1, q2⟩ ?_)
      cases hs
      exact ⟨⟨⟨rfl, stp_ok (c := 0) hok (by simp), by decide, by decide⟩, h⟩, by show ((3 : Int) - 1).toNat < ((3 : Int) - 0).toNat; decide⟩
    · rw [exsl3c1 R0 R1 R2 _]
      refine condI (by simp only [l0, l1, l2]; decide) (condI (by simp only [l0, l1, l2]; decide) (And.intro (res_get q1.2 _) fun s hs => ?_))
      have hsr := inv_range (res_get q1.2 1) hs
      refine And.intro ⟨hsr.1, hsr.2, rfl, by omega, q1.2, by omega, by omega⟩ (And.intro ⟨rfl, rfl, by decide, by decide, scR_ok s q1, q0, q2⟩ ?_)
      cases hs
      exact ⟨⟨⟨rfl, stp_ok (c := 1) hok (by simp), by decide, by decide⟩, h⟩, by show ((3 : Int) - 2).toNat < ((3 : Int) - 1).toNat; decide⟩
    · rw [exsl3c2 R0 R1 R2 _]
      refine condI (by simp only [l0, l1, l2]; decide) (condI (by simp only [l0, l1, l2]; decide) (And.intro (res_get q2.2 _) fun s hs => ?_))
      have hsr := inv_range (res_get q2.2 2) hs
      refine And.intro ⟨hsr.1, hsr.2, rfl, by omega, q2.2, by omega, by omega⟩ (And.intro ⟨rfl, rfl, by decide, by decide, scR_ok s q2, q0, q1⟩ ?_)
      cases hs
      exact ⟨⟨⟨rfl, stp_ok (c := 2) hok (by simp), by decide, by decide⟩, h⟩, by show ((3 : Int) - 3).toNat < ((3 : Int) - 2).toNat; decide⟩
    · rw [exsl3c3 R0 R1 R2 _]
      exact h
theorem oksl3 : SpecOK Try.prog 118 slS3 := by
  refine specOK (n := 95) (m := 4) (lps := [(3, .frm 4 [0, 15, 16] [] slA3), (8, .frm 1 [5, 6, 29, 30] [] scL), (13, .frm 4 [4, 5, 43, 44, 45] [] slB3), (18, .frm 2 [5, 9, 10, 58, 59] [] elL), (25, .unroll 4)]) (.cons okinv2 (.cons ok130 (.cons okmin .nil))) Try.func118 (by kernel_rfl) (by kernel_rfl) (theLoops (n := 5) (by kernel_rfl) fun i hi => ?_) fun args σ K h => ?_
  · match i, hi with
    | 0, _ => exact loopHyp_frm (E' := Esl3F4) (key := 3) (m := 4) (by kernel_rfl) rfl rfl loksl3_0
    | 1, _ => exact loopHyp_frm (E' := Esl3F1) (key := 8) (m := 1) (by kernel_rfl) rfl rfl loksl3_1
    | 2, _ => exact loopHyp_frm (E' := Esl3F4) (key := 13) (m := 4) (by kernel_rfl) rfl rfl loksl3_2
    | 3, _ => exact loopHyp_frm (E' := Esl3F2) (key := 18) (m := 2) (by kernel_rfl) rfl rfl loksl3_3
    | 4, _ => exact loopHyp_none (key := 25) (n := 4) (by kernel_rfl) rfl
  unfold slS3 at h
  split at h
  rotate_right
  · exact h.elim
  rename_i R0 R1 R2
  rw [exsl3 R0 R1 R2 K]
  obtain ⟨hok, h⟩ := h
  refine And.intro ⟨rfl, hok, by decide, by decide⟩ ?_
  obtain ⟨hT1, hT2⟩ := solF_ok 3 0 [R0, R1, R2] hok (by simp)
  have e : solV [R0, R1, R2] = (solF 3 0 [R0, R1, R2]).map fun R => R.getD 3 0 := rfl
  rw [e] at h
  generalize solF 3 0 [R0, R1, R2] = T at *
  match T, hT2, hT1, h with
  | [t0, t1, t2], _, hT1, h =>
    have l0 : t0.length = 4 := (hT1 t0 (by simp)).1
    have l1 : t1.length = 4 := (hT1 t1 (by simp)).1
    have l2 : t2.length = 4 := (hT1 t2 (by simp)).1
    refine condI (by simp only [List.getD_cons_zero, List.getD_cons_succ, l0, l1, l2]; decide) (condI (by simp only [List.getD_cons_zero, List.getD_cons_succ, l0, l1, l2]; decide) (condI (by simp only [List.getD_cons_zero, List.getD_cons_succ, l0, l1, l2]; decide) (condI (by simp only [List.getD_cons_zero, List.getD_cons_succ, l0, l1, l2]; decide) (condI (by simp only [List.getD_cons_zero, List.getD_cons_succ, l0, l1, l2]; decide) (condI (by simp only [List.getD_cons_zero, List.getD_cons_succ, l0, l1, l2]; decide) (h t0 t1 t2))))))
theorem loksl4_1 : LoopOK Esl4F1 (lb Try.f118 1) [5, 6, 29, 30] [] scL := by
  refine loopOK (.cons okinv2 (.cons ok130 (.cons okmin .nil))) (noInner (by kernel_rfl)) (fun vs σ => match vs, σ with
    | [.one (.own 0 1), .one (.int .i64 _), .one (.int .i64 n), .one (.int .i64 i)], [.row 133 (.ints .i64 _)] => (n - i).toNat
    | _, _ => 0) fun vs σ k h => ?_
  unfold scL at h
  split at h
  rotate_right
  · exact h.elim
  · rename_i s n i R
    rw [exsl4l1a s n i R _]
    obtain ⟨⟨h1, h2, rfl, h4, h5, h6, h7⟩, h⟩ := h
    by_cases hi : i < (R.length : Int)
    · have hw : IntKind.i64.wrap (i + 1) = i + 1 := wrap_id (by omega) (by omega)
      have e0 : R.getD (i.toNat + 0) 0 = R.getD i.toNat 0 := rfl
      have es : ∀ v, R.set (i.toNat + 0) v = R.set i.toNat v := fun _ => rfl
      have d1 : decide (i < (R.length : Int)) = true := decide_eq_true hi
      have d2 : decide (0 ≤ i) = true := decide_eq_true h6
      have d3 : decide (i.toNat + 0 < R.length) = true := decide_eq_true (by omega)
      rw [e0, es, hw]
      simp only [d1, d2, d3, Bool.and_self, cond_true]
      refine And.intro ⟨(res_get h5 _).1, (res_get h5 _).2, h1, h2⟩ ⟨⟨⟨h1, h2, by rw [List.length_set], by rw [List.length_set]; exact h4, res_set h5 (res_mod _), by omega, by omega⟩, ?_⟩, by omega⟩
      rw [show (i + 1).toNat = i.toNat + 1 by omega, sc_step (by omega)]
      exact h
    · rw [decide_eq_false hi]
      rw [List.drop_eq_nil_of_le (by omega), List.take_of_length_le (by omega)] at h
      unfold scR at h
      rw [List.map_nil, List.append_nil] at h
      exact h
theorem loksl4_3 : LoopOK Esl4F2 (lb Try.f118 3) [5, 9, 10, 58, 59] [] elL := by
  refine loopOK (.cons okinv2 (.cons ok130 (.cons okmin .nil))) (noInner (by kernel_rfl)) (fun vs σ => match vs, σ with
    | [.one (.own 0 1), .one (.own 1 1), .one (.int .i64 _), .one (.int .i64 n), .one (.int .i64 i)], [.row 133 (.ints .i64 _), .row 133 (.ints .i64 _)] => (n - i).toNat
    | _, _ => 0) fun vs σ k h => ?_
  unfold elL at h
  split at h
  rotate_right
  · exact h.elim
  · rename_i b n i P R
    rw [exsl4l3a b n i P R _]
    obtain ⟨⟨h1, h2, rfl, hl, h4, h5, hp, h6, h7⟩, h⟩ := h
    by_cases hi : i < (R.length : Int)
    · have hw : IntKind.i64.wrap (i + 1) = i + 1 := wrap_id (by omega) (by omega)
      have e0 : R.getD (i.toNat + 0) 0 = R.getD i.toNat 0 := rfl
      have e1 : P.getD (i.toNat + 0) 0 = P.getD i.toNat 0 := rfl
      have es : ∀ v, R.set (i.toNat + 0) v = R.set i.toNat v := fun _ => rfl
      have d1 : decide (i < (R.length : Int)) = true := decide_eq_true hi
      have d2 : decide (0 ≤ i) = true := decide_eq_true h6
      have d3 : decide (i.toNat + 0 < R.length) = true := decide_eq_true (by omega)
      have d4 : decide (i < (P.length : Int)) = true := decide_eq_true (by omega)
      have d5 : decide (i.toNat + 0 < P.length) = true := decide_eq_true (by omega)
      rw [e0, e1, es, hw]
      simp only [d1, d2, d3, d4, d5, Bool.and_self, cond_true]
      refine And.intro ⟨h1, h2, (res_get hp _).1, (res_get hp _).2⟩ (And.intro ⟨(res_get h5 _).1, (res_get h5 _).2, (modG_range _).1, (modG_range _).2⟩ ⟨⟨⟨h1, h2, by rw [List.length_set], by rw [List.length_set]; exact hl, by rw [List.length_set]; exact h4, res_set h5 (res_mod _), hp, by omega, by omega⟩, ?_⟩, by omega⟩)
      rw [show (i + 1).toNat = i.toNat + 1 by omega, el_step (by omega) hl]
      exact h
    · rw [decide_eq_false hi]
      have hd : ∀ l : List Int, l.length = R.length → l.drop i.toNat = [] := fun l hl => List.drop_eq_nil_of_le (by omega)
      rw [hd R rfl, hd P hl, List.take_of_length_le (by omega)] at h
      unfold elR at h
      rw [List.append_nil] at h
      exact h
theorem loksl4_2 : LoopOK Esl4F5 (lb Try.f118 2) [4, 5, 43, 44, 45] [] slB4 := by
  refine loopOK (.cons okinv2 (.cons ok130 (.cons okmin .nil))) (fun b' hb => by
    have hl : loopsOf (lb Try.f118 2) = [lb Try.f118 3] := by kernel_rfl
    rw [hl] at hb
    simp only [List.mem_cons, List.not_mem_nil, or_false] at hb
    subst hb
    exact loopHyp_frm (E' := Esl4F2) (key := 18) (m := 2) (by kernel_rfl) rfl rfl loksl4_3) (fun vs σ => match vs, σ with
    | [.one (.int .i64 _), .one (.own 0 1), .one (.own 1 1), .one (.int .i64 n), .one (.int .i64 r)], [.row 133 (.ints .i64 _), .cells [.own 0 1, .own 2 1, .own 3 1, .own 4 1], .row 133 (.ints .i64 _), .row 133 (.ints .i64 _), .row 133 (.ints .i64 _)] => (n - r).toNat
    | [.one (.int .i64 _), .one (.own 0 1), .one (.own 1 1), .one (.int .i64 n), .one (.int .i64 r)], [.row 133 (.ints .i64 _), .cells [.own 2 1, .own 0 1, .own 3 1, .own 4 1], .row 133 (.ints .i64 _), .row 133 (.ints .i64 _), .row 133 (.ints .i64 _)] => (n - r).toNat
    | [.one (.int .i64 _), .one (.own 0 1), .one (.own 1 1), .one (.int .i64 n), .one (.int .i64 r)], [.row 133 (.ints .i64 _), .cells [.own 2 1, .own 3 1, .own 0 1, .own 4 1], .row 133 (.ints .i64 _), .row 133 (.ints .i64 _), .row 133 (.ints .i64 _)] => (n - r).toNat
    | [.one (.int .i64 _), .one (.own 0 1), .one (.own 1 1), .one (.int .i64 n), .one (.int .i64 r)], [.row 133 (.ints .i64 _), .cells [.own 2 1, .own 3 1, .own 4 1, .own 0 1], .row 133 (.ints .i64 _), .row 133 (.ints .i64 _), .row 133 (.ints .i64 _)] => (n - r).toNat
    | _, _ => 0) fun vs σ k h => ?_
  unfold slB4 at h
  split at h
  rotate_right
  · exact h.elim
  · rename_i c n r P S1 S2 S3
    obtain ⟨⟨rfl, rfl, h3, h4, hP, q1, q2, q3⟩, h⟩ := h
    have lP := hP.1
    have l1 := q1.1
    have l2 := q2.1
    have l3 := q3.1
    have hr : r = 0 ∨ r = 1 ∨ r = 2 ∨ r = 3 ∨ r = 4 := by omega
    rcases hr with rfl | rfl | rfl | rfl | rfl
    · rw [exsb4c0r0 P S1 S2 S3 _]
      refine condI (by simp only [lP, l1, l2, l3]; decide) (condI (by simp only [lP, l1, l2, l3]; decide) ?_)
      exact ⟨⟨⟨rfl, rfl, by decide, by decide, hP, q1, q2, q3⟩, h⟩, by show ((4 : Int) - 1).toNat < ((4 : Int) - 0).toNat; decide⟩
    · rw [exsb4c0r1 P S1 S2 S3 _]
      refine condI (by simp only [lP, l1, l2, l3]; decide) (condI (by simp only [lP, l1, l2, l3]; decide) ?_)
      refine And.intro ⟨(res_get q1.2 _).1, (res_get q1.2 _).2, rfl, by omega, by omega, q1.2, hP.2, by omega, by omega⟩ ?_
      exact ⟨⟨⟨rfl, rfl, by decide, by decide, hP, elR_ok _ hP q1, q2, q3⟩, h⟩, by show ((4 : Int) - 2).toNat < ((4 : Int) - 1).toNat; decide⟩
    · rw [exsb4c0r2 P S1 S2 S3 _]
      refine condI (by simp only [lP, l1, l2, l3]; decide) (condI (by simp only [lP, l1, l2, l3]; decide) ?_)
      refine And.intro ⟨(res_get q2.2 _).1, (res_get q2.2 _).2, rfl, by omega, by omega, q2.2, hP.2, by omega, by omega⟩ ?_
      exact ⟨⟨⟨rfl, rfl, by decide, by decide, hP, q1, elR_ok _ hP q2, q3⟩, h⟩, by show ((4 : Int) - 3).toNat < ((4 : Int) - 2).toNat; decide⟩
    · rw [exsb4c0r3 P S1 S2 S3 _]
      refine condI (by simp only [lP, l1, l2, l3]; decide) (condI (by simp only [lP, l1, l2, l3]; decide) ?_)
      refine And.intro ⟨(res_get q3.2 _).1, (res_get q3.2 _).2, rfl, by omega, by omega, q3.2, hP.2, by omega, by omega⟩ ?_
      exact ⟨⟨⟨rfl, rfl, by decide, by decide, hP, q1, q2, elR_ok _ hP q3⟩, h⟩, by show ((4 : Int) - 4).toNat < ((4 : Int) - 3).toNat; decide⟩
    · rw [exsb4c0r4 P S1 S2 S3 _]
      exact h
  · rename_i c n r P S0 S2 S3
    obtain ⟨⟨rfl, rfl, h3, h4, hP, q0, q2, q3⟩, h⟩ := h
    have lP := hP.1
    have l0 := q0.1
    have l2 := q2.1
    have l3 := q3.1
    have hr : r = 0 ∨ r = 1 ∨ r = 2 ∨ r = 3 ∨ r = 4 := by omega
    rcases hr with rfl | rfl | rfl | rfl | rfl
    · rw [exsb4c1r0 P S0 S2 S3 _]
      refine condI (by simp only [lP, l0, l2, l3]; decide) (condI (by simp only [lP, l0, l2, l3]; decide) ?_)
      refine And.intro ⟨(res_get q0.2 _).1, (res_get q0.2 _).2, rfl, by omega, by omega, q0.2, hP.2, by omega, by omega⟩ ?_
      exact ⟨⟨⟨rfl, rfl, by decide, by decide, hP, elR_ok _ hP q0, q2, q3⟩, h⟩, by show ((4 : Int) - 1).toNat < ((4 : Int) - 0).toNat; decide⟩
    · rw [exsb4c1r1 P S0 S2 S3 _]
      refine condI (by simp only [lP, l0, l2, l3]; decide) (condI (by simp only [lP, l0, l2, l3]; decide) ?_)
      exact ⟨⟨⟨rfl, rfl, by decide, by decide, hP, q0, q2, q3⟩, h⟩, by show ((4 : Int) - 2).toNat < ((4 : Int) - 1).toNat; decide⟩
    · rw [exsb4c1r2 P S0 S2 S3 _]
      refine condI (by simp only [lP, l0, l2, l3]; decide) (condI (by simp only [lP, l0, l2, l3]; decide) ?_)
      refine And.intro ⟨(res_get q2.2 _).1, (res_get q2.2 _).2, rfl, by omega, by omega, q2.2, hP.2, by omega, by omega⟩ ?_
      exact ⟨⟨⟨rfl, rfl, by decide, by decide, hP, q0, elR_ok _ hP q2, q3⟩, h⟩, by show ((4 : Int) - 3).toNat < ((4 : Int) - 2).toNat; decide⟩
    · rw [exsb4c1r3 P S0 S2 S3 _]
      refine condI (by simp only [lP, l0, l2, l3]; decide) (condI (by simp only [lP, l0, l2, l3]; decide) ?_)
      refine And.intro ⟨(res_get q3.2 _).1, (res_get q3.2 _).2, rfl, by omega, by omega, q3.2, hP.2, by omega, by omega⟩ ?_
      exact ⟨⟨⟨rfl, rfl, by decide, by decide, hP, q0, q2, elR_ok _ hP q3⟩, h⟩, by show ((4 : Int) - 4).toNat < ((4 : Int) - 3).toNat; decide⟩
    · rw [exsb4c1r4 P S0 S2 S3 _]
      exact h
  · rename_i c n r P S0 S1 S3
    obtain ⟨⟨rfl, rfl, h3, h4, hP, q0, q1, q3⟩, h⟩ := h
    have lP := hP.1
    have l0 := q0.1
    have l1 := q1.1
    have l3 := q3.1
    have hr : r = 0 ∨ r = 1 ∨ r = 2 ∨ r = 3 ∨ r = 4 := by omega
    rcases hr with rfl | rfl | rfl | rfl | rfl
    · rw [exsb4c2r0 P S0 S1 S3 _]
      refine condI (by simp only [lP, l0, l1, l3]; decide) (condI (by simp only [lP, l0, l1, l3]; decide) ?_)
      refine And.intro ⟨(res_get q0.2 _).1, (res_get q0.2 _).2, rfl, by omega, by omega, q0.2, hP.2, by omega, by omega⟩ ?_
      exact ⟨⟨⟨rfl, rfl, by decide, by decide, hP, elR_ok _ hP q0, q1, q3⟩, h⟩, by show ((4 : Int) - 1).toNat < ((4 : Int) - 0).toNat; decide⟩
    · rw [exsb4c2r1 P S0 S1 S3 _]
      refine condI (by simp only [lP, l0, l1, l3]; decide) (condI (by simp only [lP, l0, l1, l3]; decide) ?_)
      refine And.intro ⟨(res_get q1.2 _).1, (res_get q1.2 _).2, rfl, by omega, by omega, q1.2, hP.2, by omega, by omega⟩ ?_
      exact ⟨⟨⟨rfl, rfl, by decide, by decide, hP, q0, elR_ok _ hP q1, q3⟩, h⟩, by show ((4 : Int) - 2).toNat < ((4 : Int) - 1).toNat; decide⟩
    · rw [exsb4c2r2 P S0 S1 S3 _]
      refine condI (by simp only [lP, l0, l1, l3]; decide) (condI (by simp only [lP, l0, l1, l3]; decide) ?_)
      exact ⟨⟨⟨rfl, rfl, by decide, by decide, hP, q0, q1, q3⟩, h⟩, by show ((4 : Int) - 3).toNat < ((4 : Int) - 2).toNat; decide⟩
    · rw [exsb4c2r3 P S0 S1 S3 _]
      refine condI (by simp only [lP, l0, l1, l3]; decide) (condI (by simp only [lP, l0, l1, l3]; decide) ?_)
      refine And.intro ⟨(res_get q3.2 _).1, (res_get q3.2 _).2, rfl, by omega, by omega, q3.2, hP.2, by omega, by omega⟩ ?_
      exact ⟨⟨⟨rfl, rfl, by decide, by decide, hP, q0, q1, elR_ok _ hP q3⟩, h⟩, by show ((4 : Int) - 4).toNat < ((4 : Int) - 3).toNat; decide⟩
    · rw [exsb4c2r4 P S0 S1 S3 _]
      exact h
  · rename_i c n r P S0 S1 S2
    obtain ⟨⟨rfl, rfl, h3, h4, hP, q0, q1, q2⟩, h⟩ := h
    have lP := hP.1
    have l0 := q0.1
    have l1 := q1.1
    have l2 := q2.1
    have hr : r = 0 ∨ r = 1 ∨ r = 2 ∨ r = 3 ∨ r = 4 := by omega
    rcases hr with rfl | rfl | rfl | rfl | rfl
    · rw [exsb4c3r0 P S0 S1 S2 _]
      refine condI (by simp only [lP, l0, l1, l2]; decide) (condI (by simp only [lP, l0, l1, l2]; decide) ?_)
      refine And.intro ⟨(res_get q0.2 _).1, (res_get q0.2 _).2, rfl, by omega, by omega, q0.2, hP.2, by omega, by omega⟩ ?_
      exact ⟨⟨⟨rfl, rfl, by decide, by decide, hP, elR_ok _ hP q0, q1, q2⟩, h⟩, by show ((4 : Int) - 1).toNat < ((4 : Int) - 0).toNat; decide⟩
    · rw [exsb4c3r1 P S0 S1 S2 _]
      refine condI (by simp only [lP, l0, l1, l2]; decide) (condI (by simp only [lP, l0, l1, l2]; decide) ?_)
      refine And.intro ⟨(res_get q1.2 _).1, (res_get q1.2 _).2, rfl, by omega, by omega, q1.2, hP.2, by omega, by omega⟩ ?_
      exact ⟨⟨⟨rfl, rfl, by decide, by decide, hP, q0, elR_ok _ hP q1, q2⟩, h⟩, by show ((4 : Int) - 2).toNat < ((4 : Int) - 1).toNat; decide⟩
    · rw [exsb4c3r2 P S0 S1 S2 _]
      refine condI (by simp only [lP, l0, l1, l2]; decide) (condI (by simp only [lP, l0, l1, l2]; decide) ?_)
      refine And.intro ⟨(res_get q2.2 _).1, (res_get q2.2 _).2, rfl, by omega, by omega, q2.2, hP.2, by omega, by omega⟩ ?_
      exact ⟨⟨⟨rfl, rfl, by decide, by decide, hP, q0, q1, elR_ok _ hP q2⟩, h⟩, by show ((4 : Int) - 3).toNat < ((4 : Int) - 2).toNat; decide⟩
    · rw [exsb4c3r3 P S0 S1 S2 _]
      refine condI (by simp only [lP, l0, l1, l2]; decide) (condI (by simp only [lP, l0, l1, l2]; decide) ?_)
      exact ⟨⟨⟨rfl, rfl, by decide, by decide, hP, q0, q1, q2⟩, h⟩, by show ((4 : Int) - 4).toNat < ((4 : Int) - 3).toNat; decide⟩
    · rw [exsb4c3r4 P S0 S1 S2 _]
      exact h
theorem loksl4_0 : LoopOK Esl4F5 (lb Try.f118 0) [0, 15, 16] [] slA4 := by
  refine loopOK (.cons okinv2 (.cons ok130 (.cons okmin .nil))) (fun b' hb => by
    have hl : loopsOf (lb Try.f118 0) = [lb Try.f118 1, lb Try.f118 2, lb Try.f118 3] := by kernel_rfl
    rw [hl] at hb
    simp only [List.mem_cons, List.not_mem_nil, or_false] at hb
    rcases hb with rfl | rfl | rfl
    · exact loopHyp_frm (E' := Esl4F1) (key := 8) (m := 1) (by kernel_rfl) rfl rfl loksl4_1
    · exact loopHyp_frm (E' := Esl4F5) (key := 13) (m := 5) (by kernel_rfl) rfl rfl loksl4_2
    · exact loopHyp_frm (E' := Esl4F2) (key := 18) (m := 2) (by kernel_rfl) rfl rfl loksl4_3) (fun vs σ => match vs, σ with
    | [.one (.own 0 1), .one (.int .i64 n), .one (.int .i64 c)], [.cells [.own 1 1, .own 2 1, .own 3 1, .own 4 1], .row 133 (.ints .i64 _), .row 133 (.ints .i64 _), .row 133 (.ints .i64 _), .row 133 (.ints .i64 _)] => (n - c).toNat
    | _, _ => 0) fun vs σ k h => ?_
  unfold slA4 at h
  split at h
  rotate_right
  · exact h.elim
  · rename_i n c R0 R1 R2 R3
    obtain ⟨⟨rfl, hok, h1, h2⟩, h⟩ := h
    have q0 : okRw 4 R0 := hok R0 (by simp)
    have l0 := q0.1
    have q1 : okRw 4 R1 := hok R1 (by simp)
    have l1 := q1.1
    have q2 : okRw 4 R2 := hok R2 (by simp)
    have l2 := q2.1
    have q3 : okRw 4 R3 := hok R3 (by simp)
    have l3 := q3.1
    have hc : c = 0 ∨ c = 1 ∨ c = 2 ∨ c = 3 ∨ c = 4 := by omega
    rcases hc with rfl | rfl | rfl | rfl | rfl
    · rw [exsl4c0 R0 R1 R2 R3 _]
      refine condI (by simp only [l0, l1, l2, l3]; decide) (condI (by simp only [l0, l1, l2, l3]; decide) (And.intro (res_get q0.2 _) fun s hs => ?_))
      have hsr := inv_range (res_get q0.2 0) hs
      refine And.intro ⟨hsr.1, hsr.2, rfl, by omega, q0.2, by omega, by omega⟩ (And.intro ⟨rfl, rfl, by decide, by decide, scR_ok s q0, q1, q2, q3⟩ ?_)
      cases hs
      exact ⟨⟨⟨rfl, stp_ok (c := 0) hok (by simp), by decide, by decide⟩, h⟩, by show ((4 : Int) - 1).toNat < ((4 : Int) - 0).toNat; decide⟩
    · rw [exsl4c1 R0 R1 R2 R3 _]
      refine condI (by simp only [l0, l1, l2, l3]; decide) (condI (by simp only [l0, l1, l2, l3]; decide) (And.intro (res_get q1.2 _) fun s hs => ?_))
      have hsr := inv_range (res_get q1.2 1) hs
      refine And.intro ⟨hsr.1, hsr.2, rfl, by omega, q1.2, by omega, by omega⟩ (And.intro ⟨rfl, rfl, by decide, by decide, scR_ok s q1, q0, q2, q3⟩ ?_)
      cases hs
      exact ⟨⟨⟨rfl, stp_ok (c := 1) hok (by simp), by decide, by decide⟩, h⟩, by show ((4 : Int) - 2).toNat < ((4 : Int) - 1).toNat; decide⟩
    · rw [exsl4c2 R0 R1 R2 R3 _]
      refine condI (by simp only [l0, l1, l2, l3]; decide) (condI (by simp only [l0, l1, l2, l3]; decide) (And.intro (res_get q2.2 _) fun s hs => ?_))
      have hsr := inv_range (res_get q2.2 2) hs
      refine And.intro ⟨hsr.1, hsr.2, rfl, by omega, q2.2, by omega, by omega⟩ (And.intro ⟨rfl, rfl, by decide, by decide, scR_ok s q2, q0, q1, q3⟩ ?_)
      cases hs
      exact ⟨⟨⟨rfl, stp_ok (c := 2) hok (by simp), by decide, by decide⟩, h⟩, by show ((4 : Int) - 3).toNat < ((4 : Int) - 2).toNat; decide⟩
    · rw [exsl4c3 R0 R1 R2 R3 _]
      refine condI (by simp only [l0, l1, l2, l3]; decide) (condI (by simp only [l0, l1, l2, l3]; decide) (And.intro (res_get q3.2 _) fun s hs => ?_))
      have hsr := inv_range (res_get q3.2 3) hs
      refine And.intro ⟨hsr.1, hsr.2, rfl, by omega, q3.2, by omega, by omega⟩ (And.intro ⟨rfl, rfl, by decide, by decide, scR_ok s q3, q0, q1, q2⟩ ?_)
      cases hs
      exact ⟨⟨⟨rfl, stp_ok (c := 3) hok (by simp), by decide, by decide⟩, h⟩, by show ((4 : Int) - 4).toNat < ((4 : Int) - 3).toNat; decide⟩
    · rw [exsl4c4 R0 R1 R2 R3 _]
      exact h
theorem oksl4 : SpecOK Try.prog 118 slS4 := by
  refine specOK (n := 95) (m := 5) (lps := [(3, .frm 5 [0, 15, 16] [] slA4), (8, .frm 1 [5, 6, 29, 30] [] scL), (13, .frm 5 [4, 5, 43, 44, 45] [] slB4), (18, .frm 2 [5, 9, 10, 58, 59] [] elL), (25, .unroll 5)]) (.cons okinv2 (.cons ok130 (.cons okmin .nil))) Try.func118 (by kernel_rfl) (by kernel_rfl) (theLoops (n := 5) (by kernel_rfl) fun i hi => ?_) fun args σ K h => ?_
  · match i, hi with
    | 0, _ => exact loopHyp_frm (E' := Esl4F5) (key := 3) (m := 5) (by kernel_rfl) rfl rfl loksl4_0
    | 1, _ => exact loopHyp_frm (E' := Esl4F1) (key := 8) (m := 1) (by kernel_rfl) rfl rfl loksl4_1
    | 2, _ => exact loopHyp_frm (E' := Esl4F5) (key := 13) (m := 5) (by kernel_rfl) rfl rfl loksl4_2
    | 3, _ => exact loopHyp_frm (E' := Esl4F2) (key := 18) (m := 2) (by kernel_rfl) rfl rfl loksl4_3
    | 4, _ => exact loopHyp_none (key := 25) (n := 5) (by kernel_rfl) rfl
  unfold slS4 at h
  split at h
  rotate_right
  · exact h.elim
  rename_i R0 R1 R2 R3
  rw [exsl4 R0 R1 R2 R3 K]
  obtain ⟨hok, h⟩ := h
  refine And.intro ⟨rfl, hok, by decide, by decide⟩ ?_
  obtain ⟨hT1, hT2⟩ := solF_ok 4 0 [R0, R1, R2, R3] hok (by simp)
  have e : solV [R0, R1, R2, R3] = (solF 4 0 [R0, R1, R2, R3]).map fun R => R.getD 4 0 := rfl
  rw [e] at h
  generalize solF 4 0 [R0, R1, R2, R3] = T at *
  match T, hT2, hT1, h with
  | [t0, t1, t2, t3], _, hT1, h =>
    have l0 : t0.length = 5 := (hT1 t0 (by simp)).1
    have l1 : t1.length = 5 := (hT1 t1 (by simp)).1
    have l2 : t2.length = 5 := (hT1 t2 (by simp)).1
    have l3 : t3.length = 5 := (hT1 t3 (by simp)).1
    refine condI (by simp only [List.getD_cons_zero, List.getD_cons_succ, l0, l1, l2, l3]; decide) (condI (by simp only [List.getD_cons_zero, List.getD_cons_succ, l0, l1, l2, l3]; decide) (condI (by simp only [List.getD_cons_zero, List.getD_cons_succ, l0, l1, l2, l3]; decide) (condI (by simp only [List.getD_cons_zero, List.getD_cons_succ, l0, l1, l2, l3]; decide) (condI (by simp only [List.getD_cons_zero, List.getD_cons_succ, l0, l1, l2, l3]; decide) (condI (by simp only [List.getD_cons_zero, List.getD_cons_succ, l0, l1, l2, l3]; decide) (condI (by simp only [List.getD_cons_zero, List.getD_cons_succ, l0, l1, l2, l3]; decide) (condI (by simp only [List.getD_cons_zero, List.getD_cons_succ, l0, l1, l2, l3]; decide) (h t0 t1 t2 t3))))))))
end Go.Ev
