/-
  Chapter 1, contracts: the kinds of blocks, of the program and of the reference.
-/
import Derived.Test.YtlejemnljojpgaaC1U
import Derived.KernelRfl
set_option linter.unusedVariables false
set_option linter.unusedSimpArgs false
set_option linter.unusedSectionVars false
namespace Go.Ev
open Go Go.Proofs
set_option maxRecDepth 20000
set_option linter.unusedVariables false

def kofGL : List (List AV) → LSpec := fun items vs σ k => match vs, σ with
  | [.one (.ptr 0 1 0 0)], [.cells [.nil]] => ∃ N l, items = kdI N l ∧ l.length ≤ 1000 ∧ (bif l.isEmpty then k .normal [.one (.ptr 0 1 0 0)] [.cells [.nil]] else k .normal [.one (.ptr 0 1 0 0)] [.cells [.own 1 1], .row 3 (.ints .i64 (kdsG N l))])
  | [.one (.ptr 0 1 0 0)], [.cells [.own 1 1], .row 3 (.ints .i64 o)] => ∃ N l, items = kdI N l ∧ o.length + l.length ≤ 1000 ∧ k .normal [.one (.ptr 0 1 0 0)] [.cells [.own 1 1], .row 3 (.ints .i64 (o ++ kdsG N l))]
  | _, _ => False
def kofS : Spec := fun args σ K => match args, σ with
  | [.one (.data (.mat .i64 11 l))], [] => okBs l ∧ bif bsE l == 0 then (bif l.isEmpty then K (.tup [.one .nil, .one (.int .i64 0)]) [] else K (.tup [.one (.own 0 1), .one (.int .i64 0)]) [.row 3 (.ints .i64 (kdsG [] l))]) else K (.tup [.one .nil, .one (.int .i64 (bsE l))]) []
  | _, _ => False
def kdsE (l : List (List Int)) : List Int := bif bsE l == 0 then kdsG [] l else []
def kofDS : Spec := fun args σ K => match args, σ with
  | [.one (.data (.mat .i64 11 l))], [] => okBs l ∧ K (.tup [.one (.data (.ints .i64 (kdsE l))), .one (.int .i64 (bsE l))]) []
  | _, _ => False
/-- What the reference's scan of the earlier blocks finds. -/
def scK (o : List Int) (l : List (List Int)) (x : List Int) : Nat → Int → Int
  | 0, kd => kd
  | k + 1, kd => scK o l x k (bif o.getD k 0 == 0 && sameK x (l.getD k []) then (bif l.getD k [] == x then 1 else 2) else kd)
def rkB : LSpec := fun vs σ k => match vs, σ with
  | [.one (.data (.mat .i64 11 l)), .one .nil, .one (.int .i64 i), .one (.int .i64 kd), .one (.int .i64 j)], [] => (okBs l ∧ i = 0 ∧ j = -1) ∧ k (.exit 2) [.one (.data (.mat .i64 11 l)), .one .nil, .one (.int .i64 i), .one (.int .i64 kd)] []
  | [.one (.data (.mat .i64 11 l)), .one (.own 0 1), .one (.int .i64 i), .one (.int .i64 kd), .one (.int .i64 j)], [.row 3 (.ints .i64 o)] => (okBs l ∧ o.length = i ∧ i < l.length ∧ -1 ≤ j ∧ j < i) ∧ k (.exit 2) [.one (.data (.mat .i64 11 l)), .one (.own 0 1), .one (.int .i64 i), .one (.int .i64 (scK o l (l.getD i.toNat []) (j + 1).toNat kd))] [.row 3 (.ints .i64 o)]
  | _, _ => False
def rkA : LSpec := fun vs σ k => match vs, σ with
  | [.one (.data (.mat .i64 11 l)), .one .nil, .one (.int .i64 i)], [] => (okBs l ∧ l.all conB = true ∧ i = 0) ∧ bif l.isEmpty then k (.exit 0) [.one .nil] [] else k (.exit 0) [.one (.own 0 1)] [.row 3 (.ints .i64 (kdsG [] l))]
  | [.one (.data (.mat .i64 11 l)), .one (.own 0 1), .one (.int .i64 i)], [.row 3 (.ints .i64 o)] => (okBs l ∧ l.all conB = true ∧ 1 ≤ i ∧ i ≤ l.length ∧ o = kdsG [] (l.take i.toNat)) ∧ k (.exit 0) [.one (.own 0 1)] [.row 3 (.ints .i64 (kdsG [] l))]
  | _, _ => False
def rkS : Spec := fun args σ K => match args, σ with
  | [.one (.data (.mat .i64 11 l))], [] => (okBs l ∧ l.all conB = true) ∧ bif l.isEmpty then K (.one .nil) [] else K (.one (.own 0 1)) [.row 3 (.ints .i64 (kdsG [] l))]
  | _, _ => False
def rkDS : Spec := fun args σ K => match args, σ with
  | [.one (.data (.mat .i64 11 l))], [] => (okBs l ∧ l.all conB = true) ∧ K (.one (.data (.ints .i64 (kdsG [] l)))) []
  | _, _ => False
def rbsL : LSpec := fun vs σ k => match vs, σ with
  | [.one (.data (.mat .i64 11 l)), .one (.int .i64 i)], [] => (okBs l ∧ 0 ≤ i) ∧ bif (l.drop i.toNat).all conB then k (.exit 0) [.any] [] else k .ret [.one (.int .i64 2)] []
  | _, _ => False
noncomputable abbrev Ekof : Env := envOf Try.prog [(109, bsS), (110, kindsS)] [(1000006, .range 134 kdSq [5] kofGL)] 21 0
noncomputable abbrev Erk : Env := envOf Try.prog [(22, blockS)] [(3, .spec [0, 3, 4] [3] rkA), (7, .spec [0, 3, 4, 5, 6] [0, 3, 4, 5] rkB)] 70 0
noncomputable abbrev Erbs : Env := envOf Try.prog [(23, contentS)] [(4, .spec [0, 3] [2] rbsL)] 22 0
end Go.Ev

namespace Go.Ev
open Go Go.Proofs
set_option maxRecDepth 100000
theorem exkofr0 (q y0 y1 y2 y3 y4 y5 y6 y7 y8 y9 y10 : Int) (K : Ex → List AV → List Blk → Prop) : evRound Ekof (rangePs (lb Try.f52 0)) (rangeAssign (lb Try.f52 0)) (rangeBody (lb Try.f52 0)) [5] [.one (.ptr 0 1 0 0)] [.cells [.nil]] [.one (.int .i64 q), .agg [.int .i64 y0, .int .i64 y1, .int .i64 y2, .int .i64 y3, .int .i64 y4, .int .i64 y5, .int .i64 y6, .int .i64 y7, .int .i64 y8, .int .i64 y9, .int .i64 y10]] K = (
 K Ex.normal [AV.one (SV.ptr (0 : Nat) (1 : Nat) (0 : Nat) (0 : Nat))]
 [Blk.cells [SV.own (1 : Nat) (1 : Nat)], Blk.row (3 : Nat) (Row.ints IntKind.i64 [q])]) := by kernel_rfl
theorem exkofr1 (q y0 y1 y2 y3 y4 y5 y6 y7 y8 y9 y10 : Int) (o : List Int) (K : Ex → List AV → List Blk → Prop) : evRound Ekof (rangePs (lb Try.f52 0)) (rangeAssign (lb Try.f52 0)) (rangeBody (lb Try.f52 0)) [5] [.one (.ptr 0 1 0 0)] [.cells [.own 1 1], .row 3 (.ints .i64 o)] [.one (.int .i64 q), .agg [.int .i64 y0, .int .i64 y1, .int .i64 y2, .int .i64 y3, .int .i64 y4, .int .i64 y5, .int .i64 y6, .int .i64 y7, .int .i64 y8, .int .i64 y9, .int .i64 y10]] K = (
 bif decide ((o ++ [q]).length * (8 : Nat) ≤ (140737488355328 : Nat) ∧ (o ++ [q]).length ≤ (140737488355328 : Nat)) then
 K Ex.normal [AV.one (SV.ptr (0 : Nat) (1 : Nat) (0 : Nat) (0 : Nat))]
 [Blk.cells [SV.own (1 : Nat) (1 : Nat)], Blk.row (3 : Nat) (Row.ints IntKind.i64 (o ++ [q]))]
 else False) := by kernel_rfl
theorem exkof (l : List (List Int)) (K : AV → List Blk → Prop) : evFn Ekof Try.f52 [.one (.data (.mat .i64 11 l))] [] K = (
 okBs l ∧
 bif bsE l != (0 : Int) then K (AV.tup [TV.one SV.nil, TV.one (SV.int IntKind.i64 (bsE l))]) []
 else
 bif decide (l.length ≤ (1000 : Nat)) && (l.all len11 && l.all conB) then
 ∃ N l_1,
 kdI [] l = kdI N l_1 ∧
 l_1.length ≤ (1000 : Nat) ∧
 bif l_1.isEmpty then K (AV.tup [TV.one SV.nil, TV.one (SV.int IntKind.i64 (0 : Int))]) []
 else
 K (AV.tup [TV.one (SV.own (0 : Nat) (1 : Nat)), TV.one (SV.int IntKind.i64 (0 : Int))])
 [Blk.row (3 : TypeId) (Row.ints IntKind.i64 (kdsG N l_1))]
 else False) := by kernel_rfl
theorem exrk (l : List (List Int)) (K : AV → List Blk → Prop) : evFn Erk Try.f58 [.one (.data (.mat .i64 11 l))] [] K = (
 (okBs l ∧ l.all conB = true ∧ (0 : Int) = (0 : Int)) ∧
 bif l.isEmpty then K (AV.one SV.nil) []
 else K (AV.one (SV.own (0 : Nat) (1 : Nat))) [Blk.row (3 : TypeId) (Row.ints IntKind.i64 (kdsG [] l))]) := by kernel_rfl
theorem exrkl0a (l : List (List Int)) (i : Int) (K : Ex → List AV → List Blk → Prop) : evBody Erk (lb Try.f58 0) [0, 3, 4] [3] [.one (.data (.mat .i64 11 l)), .one .nil, .one (.int .i64 i)] [] K = (
 bif decide (i < (↑l.length : Int)) then
 (okBs l ∧ i = (0 : Int) ∧ IntKind.i64.wrap (i - (1 : Int)) = (-1 : Int)) ∧
 bif decide ((0 : Int) ≤ i) && decide (i < (↑l.length : Int)) then
 bif decide ((10 : Nat) < (11 : Nat)) && decide (i.toNat < l.length) then
 bif
 blockE ((l.getD i.toNat []).getD (0 : Nat) (0 : Int)) ((l.getD i.toNat []).getD (1 : Nat) (0 : Int))
 [(l.getD i.toNat []).getD (2 : Nat) (0 : Int), (l.getD i.toNat []).getD (3 : Nat) (0 : Int),
 (l.getD i.toNat []).getD (4 : Nat) (0 : Int), (l.getD i.toNat []).getD (5 : Nat) (0 : Int),
 (l.getD i.toNat []).getD (6 : Nat) (0 : Int), (l.getD i.toNat []).getD (7 : Nat) (0 : Int),
 (l.getD i.toNat []).getD (8 : Nat) (0 : Int), (l.getD i.toNat []).getD (9 : Nat) (0 : Int)]
 ((l.getD i.toNat []).getD (10 : Nat) (0 : Int)) !=
 (0 : Int) then
 K Ex.normal
 [AV.one (SV.data (Row.mat IntKind.i64 (11 : Nat) l)), AV.one (SV.own (0 : Nat) (1 : Nat)),
 AV.one (SV.int IntKind.i64 (IntKind.i64.wrap (i + (1 : Int))))]
 [Blk.row (3 : Nat) (Row.ints IntKind.i64 [(3 : Int)])]
 else
 K Ex.normal
 [AV.one (SV.data (Row.mat IntKind.i64 (11 : Nat) l)), AV.one (SV.own (0 : Nat) (1 : Nat)),
 AV.one (SV.int IntKind.i64 (IntKind.i64.wrap (i + (1 : Int))))]
 [Blk.row (3 : Nat) (Row.ints IntKind.i64 [(0 : Int)])]
 else False
 else False
 else K (Ex.exit (0 : Nat)) [AV.one SV.nil] []) := by kernel_rfl
theorem exrkl0b (l : List (List Int)) (i : Int) (o : List Int) (K : Ex → List AV → List Blk → Prop) : evBody Erk (lb Try.f58 0) [0, 3, 4] [3] [.one (.data (.mat .i64 11 l)), .one (.own 0 1), .one (.int .i64 i)] [.row 3 (.ints .i64 o)] K = (
 bif decide (i < (↑l.length : Int)) then
 (okBs l ∧
 (↑o.length : Int) = i ∧
 i < (↑l.length : Int) ∧ (-1 : Int) ≤ IntKind.i64.wrap (i - (1 : Int)) ∧ IntKind.i64.wrap (i - (1 : Int)) < i) ∧
 bif decide ((0 : Int) ≤ i) && decide (i < (↑l.length : Int)) then
 bif decide ((10 : Nat) < (11 : Nat)) && decide (i.toNat < l.length) then
 bif
 blockE ((l.getD i.toNat []).getD (0 : Nat) (0 : Int)) ((l.getD i.toNat []).getD (1 : Nat) (0 : Int))
 [(l.getD i.toNat []).getD (2 : Nat) (0 : Int), (l.getD i.toNat []).getD (3 : Nat) (0 : Int),
 (l.getD i.toNat []).getD (4 : Nat) (0 : Int), (l.getD i.toNat []).getD (5 : Nat) (0 : Int),
 (l.getD i.toNat []).getD (6 : Nat) (0 : Int), (l.getD i.toNat []).getD (7 : Nat) (0 : Int),
 (l.getD i.toNat []).getD (8 : Nat) (0 : Int), (l.getD i.toNat []).getD (9 : Nat) (0 : Int)]
 ((l.getD i.toNat []).getD (10 : Nat) (0 : Int)) !=
 (0 : Int) then
 bif
 decide
 ((o ++ [(3 : Int)]).length * (8 : Nat) ≤ (140737488355328 : Nat) ∧
 (o ++ [(3 : Int)]).length ≤ (140737488355328 : Nat)) then
 K Ex.normal
 [AV.one (SV.data (Row.mat IntKind.i64 (11 : Nat) l)), AV.one (SV.own (0 : Nat) (1 : Nat)),
 AV.one (SV.int IntKind.i64 (IntKind.i64.wrap (i + (1 : Int))))]
 [Blk.row (3 : Nat) (Row.ints IntKind.i64 (o ++ [(3 : Int)]))]
 else False
 else
 bif
 decide
 ((o ++
 [scK o l (l.getD i.toNat []) (IntKind.i64.wrap (i - (1 : Int)) + (1 : Int)).toNat
 (0 : Int)]).length *
 (8 : Nat) ≤
 (140737488355328 : Nat) ∧
 (o ++
 [scK o l (l.getD i.toNat []) (IntKind.i64.wrap (i - (1 : Int)) + (1 : Int)).toNat
 (0 : Int)]).length ≤
 (140737488355328 : Nat)) then
 K Ex.normal
 [AV.one (SV.data (Row.mat IntKind.i64 (11 : Nat) l)), AV.one (SV.own (0 : Nat) (1 : Nat)),
 AV.one (SV.int IntKind.i64 (IntKind.i64.wrap (i + (1 : Int))))]
 [Blk.row (3 : Nat)
 (Row.ints IntKind.i64
 (o ++
 [scK o l (l.getD i.toNat []) (IntKind.i64.wrap (i - (1 : Int)) + (1 : Int)).toNat (0 : Int)]))]
 else False
 else False
 else False
 else K (Ex.exit (0 : Nat)) [AV.one (SV.own (0 : Nat) (1 : Nat))] [Blk.row (3 : TypeId) (Row.ints IntKind.i64 o)]) := by kernel_rfl
theorem exrkl1a (l : List (List Int)) (i kd j : Int) (K : Ex → List AV → List Blk → Prop) : evBody Erk (lb Try.f58 1) [0, 3, 4, 5, 6] [0, 3, 4, 5] [.one (.data (.mat .i64 11 l)), .one .nil, .one (.int .i64 i), .one (.int .i64 kd), .one (.int .i64 j)] [] K = (
 bif decide (j ≥ (0 : Int)) then False
 else
 K (Ex.exit (2 : Nat))
 [AV.one (SV.data (Row.mat IntKind.i64 (11 : Nat) l)), AV.one SV.nil, AV.one (SV.int IntKind.i64 i),
 AV.one (SV.int IntKind.i64 kd)]
 []) := by kernel_rfl
theorem exrkl1b (l : List (List Int)) (i kd j : Int) (o : List Int) (K : Ex → List AV → List Blk → Prop) : evBody Erk (lb Try.f58 1) [0, 3, 4, 5, 6] [0, 3, 4, 5] [.one (.data (.mat .i64 11 l)), .one (.own 0 1), .one (.int .i64 i), .one (.int .i64 kd), .one (.int .i64 j)] [.row 3 (.ints .i64 o)] K = (
 bif decide (j ≥ (0 : Int)) then
 bif decide ((0 : Int) ≤ j) && decide (j < (↑o.length : Int)) then
 bif decide (j.toNat + (0 : Nat) < o.length) then
 bif o.getD (j.toNat + (0 : Nat)) (0 : Int) == (0 : Int) then
 bif decide ((0 : Int) ≤ j) && decide (j < (↑l.length : Int)) then
 bif decide ((1 : Nat) < (11 : Nat)) && decide (j.toNat < l.length) then
 bif decide ((0 : Int) ≤ i) && decide (i < (↑l.length : Int)) then
 bif decide ((1 : Nat) < (11 : Nat)) && decide (i.toNat < l.length) then
 bif (l.getD j.toNat []).getD (1 : Nat) (0 : Int) == (l.getD i.toNat []).getD (1 : Nat) (0 : Int) then
 bif decide ((0 : Int) ≤ j) && decide (j < (↑l.length : Int)) then
 bif decide ((0 : Nat) < (11 : Nat)) && decide (j.toNat < l.length) then
 bif decide ((0 : Int) ≤ i) && decide (i < (↑l.length : Int)) then
 bif decide ((0 : Nat) < (11 : Nat)) && decide (i.toNat < l.length) then
 bif
 (l.getD j.toNat []).getD (0 : Nat) (0 : Int) ==
 (l.getD i.toNat []).getD (0 : Nat) (0 : Int) then
 bif decide ((0 : Int) ≤ j) && decide (j < (↑l.length : Int)) then
 bif decide ((10 : Nat) < (11 : Nat)) && decide (j.toNat < l.length) then
 bif decide ((0 : Int) ≤ i) && decide (i < (↑l.length : Int)) then
 bif decide ((10 : Nat) < (11 : Nat)) && decide (i.toNat < l.length) then
 bif
 (l.getD j.toNat []).getD (0 : Nat) (0 : Int) ==
 (l.getD i.toNat []).getD (0 : Nat) (0 : Int) &&
 ((l.getD j.toNat []).getD (1 : Nat) (0 : Int) ==
 (l.getD i.toNat []).getD (1 : Nat) (0 : Int) &&
 ((l.getD j.toNat []).getD (2 : Nat) (0 : Int) ==
 (l.getD i.toNat []).getD (2 : Nat) (0 : Int) &&
 ((l.getD j.toNat []).getD (3 : Nat) (0 : Int) ==
 (l.getD i.toNat []).getD (3 : Nat) (0 : Int) &&
 ((l.getD j.toNat []).getD (4 : Nat) (0 : Int) ==
 (l.getD i.toNat []).getD (4 : Nat) (0 : Int) &&
 ((l.getD j.toNat []).getD (5 : Nat) (0 : Int) ==
 (l.getD i.toNat []).getD (5 : Nat) (0 : Int) &&
 ((l.getD j.toNat []).getD (6 : Nat) (0 : Int) ==
 (l.getD i.toNat []).getD (6 : Nat) (0 : Int) &&
 ((l.getD j.toNat []).getD (7 : Nat) (0 : Int) ==
 (l.getD i.toNat []).getD (7 : Nat) (0 : Int) &&
 ((l.getD j.toNat []).getD (8 : Nat) (0 : Int) ==
 (l.getD i.toNat []).getD (8 : Nat) (0 : Int) &&
 (l.getD j.toNat []).getD (9 : Nat) (0 : Int) ==
 (l.getD i.toNat []).getD (9 : Nat) (0 : Int))))))) &&
 (l.getD j.toNat []).getD (10 : Nat) (0 : Int) ==
 (l.getD i.toNat []).getD (10 : Nat) (0 : Int))) then
 K Ex.normal
 [AV.one (SV.data (Row.mat IntKind.i64 (11 : Nat) l)),
 AV.one (SV.own (0 : Nat) (1 : Nat)), AV.one (SV.int IntKind.i64 i),
 AV.one (SV.int IntKind.i64 (1 : Int)),
 AV.one (SV.int IntKind.i64 (IntKind.i64.wrap (j - (1 : Int))))]
 [Blk.row (3 : TypeId) (Row.ints IntKind.i64 o)]
 else
 K Ex.normal
 [AV.one (SV.data (Row.mat IntKind.i64 (11 : Nat) l)),
 AV.one (SV.own (0 : Nat) (1 : Nat)), AV.one (SV.int IntKind.i64 i),
 AV.one (SV.int IntKind.i64 (2 : Int)),
 AV.one (SV.int IntKind.i64 (IntKind.i64.wrap (j - (1 : Int))))]
 [Blk.row (3 : TypeId) (Row.ints IntKind.i64 o)]
 else False
 else False
 else False
 else False
 else
 K Ex.normal
 [AV.one (SV.data (Row.mat IntKind.i64 (11 : Nat) l)), AV.one (SV.own (0 : Nat) (1 : Nat)),
 AV.one (SV.int IntKind.i64 i), AV.one (SV.int IntKind.i64 kd),
 AV.one (SV.int IntKind.i64 (IntKind.i64.wrap (j - (1 : Int))))]
 [Blk.row (3 : TypeId) (Row.ints IntKind.i64 o)]
 else False
 else False
 else False
 else False
 else
 K Ex.normal
 [AV.one (SV.data (Row.mat IntKind.i64 (11 : Nat) l)), AV.one (SV.own (0 : Nat) (1 : Nat)),
 AV.one (SV.int IntKind.i64 i), AV.one (SV.int IntKind.i64 kd),
 AV.one (SV.int IntKind.i64 (IntKind.i64.wrap (j - (1 : Int))))]
 [Blk.row (3 : TypeId) (Row.ints IntKind.i64 o)]
 else False
 else False
 else False
 else False
 else
 K Ex.normal
 [AV.one (SV.data (Row.mat IntKind.i64 (11 : Nat) l)), AV.one (SV.own (0 : Nat) (1 : Nat)),
 AV.one (SV.int IntKind.i64 i), AV.one (SV.int IntKind.i64 kd),
 AV.one (SV.int IntKind.i64 (IntKind.i64.wrap (j - (1 : Int))))]
 [Blk.row (3 : TypeId) (Row.ints IntKind.i64 o)]
 else False
 else False
 else
 K (Ex.exit (2 : Nat))
 [AV.one (SV.data (Row.mat IntKind.i64 (11 : Nat) l)), AV.one (SV.own (0 : Nat) (1 : Nat)),
 AV.one (SV.int IntKind.i64 i), AV.one (SV.int IntKind.i64 kd)]
 [Blk.row (3 : TypeId) (Row.ints IntKind.i64 o)]) := by kernel_rfl
theorem exrbs (l : List (List Int)) (K : AV → List Blk → Prop) : evFn Erbs Try.f56 [.one (.data (.mat .i64 11 l))] [] K = (
 bif decide ((↑l.length : Int) > (40 : Int)) then K (AV.one (SV.int IntKind.i64 (8 : Int))) []
 else
 (okBs l ∧ (0 : Int) ≤ (0 : Int)) ∧
 bif l.all conB then K (AV.one (SV.int IntKind.i64 (0 : Int))) [] else K (AV.one (SV.int IntKind.i64 (2 : Int))) []) := by kernel_rfl
theorem exrbsl0a (l : List (List Int)) (i : Int) (K : Ex → List AV → List Blk → Prop) : evBody Erbs (lb Try.f56 0) [0, 3] [2] [.one (.data (.mat .i64 11 l)), .one (.int .i64 i)] [] K = (
 bif decide (i < (↑l.length : Int)) then
 bif decide ((0 : Int) ≤ i) && decide (i < (↑l.length : Int)) then
 bif decide ((10 : Nat) < (11 : Nat)) && decide (i.toNat < l.length) then
 bif
 (bif
 contentG ((l.getD i.toNat []).getD (0 : Nat) (0 : Int)) ((l.getD i.toNat []).getD (1 : Nat) (0 : Int))
 [(l.getD i.toNat []).getD (2 : Nat) (0 : Int), (l.getD i.toNat []).getD (3 : Nat) (0 : Int),
 (l.getD i.toNat []).getD (4 : Nat) (0 : Int), (l.getD i.toNat []).getD (5 : Nat) (0 : Int),
 (l.getD i.toNat []).getD (6 : Nat) (0 : Int), (l.getD i.toNat []).getD (7 : Nat) (0 : Int),
 (l.getD i.toNat []).getD (8 : Nat) (0 : Int), (l.getD i.toNat []).getD (9 : Nat) (0 : Int)] then
 (0 : Int)
 else (2 : Int)) !=
 (0 : Int) then
 K Ex.ret
 [AV.one
 (SV.int IntKind.i64
 (bif
 contentG ((l.getD i.toNat []).getD (0 : Nat) (0 : Int))
 ((l.getD i.toNat []).getD (1 : Nat) (0 : Int))
 [(l.getD i.toNat []).getD (2 : Nat) (0 : Int), (l.getD i.toNat []).getD (3 : Nat) (0 : Int),
 (l.getD i.toNat []).getD (4 : Nat) (0 : Int), (l.getD i.toNat []).getD (5 : Nat) (0 : Int),
 (l.getD i.toNat []).getD (6 : Nat) (0 : Int), (l.getD i.toNat []).getD (7 : Nat) (0 : Int),
 (l.getD i.toNat []).getD (8 : Nat) (0 : Int), (l.getD i.toNat []).getD (9 : Nat) (0 : Int)] then
 (0 : Int)
 else (2 : Int)))]
 []
 else
 K Ex.normal
 [AV.one (SV.data (Row.mat IntKind.i64 (11 : Nat) l)),
 AV.one (SV.int IntKind.i64 (IntKind.i64.wrap (i + (1 : Int))))]
 []
 else False
 else False
 else K (Ex.exit (0 : Nat)) [AV.any] []) := by kernel_rfl
end Go.Ev

namespace Go.Ev
open Go Go.Proofs
attribute [local irreducible] evFn evBody evRound
set_option maxRecDepth 20000
set_option linter.unusedVariables false
set_option linter.unusedSimpArgs false

/-- The new blocks behind some. -/
def newsF : List (List Int) → List (List Int) → List (List Int)
  | N, [] => N
  | N, x :: l => newsF (nxG N x) l
theorem kdsG_length : ∀ (N l : List (List Int)), (kdsG N l).length = l.length
  | _, [] => rfl
  | N, x :: l => by simp [kdsG, kdsG_length (nxG N x) l]
theorem newsF_step : ∀ (N l : List (List Int)) (k : Nat), k < l.length → newsF N (l.take (k + 1)) = nxG (newsF N (l.take k)) (l.getD k [])
  | _, [], k, h => by simp at h
  | N, x :: l, 0, _ => by simp [newsF]
  | N, x :: l, k + 1, h => by
    simp only [List.take_succ_cons, newsF, List.getD_cons_succ]
    exact newsF_step (nxG N x) l k (by simpa using h)
theorem kdsG_get : ∀ (N l : List (List Int)) (k : Nat), k < l.length → (kdsG N l).getD k 0 = kdG (newsF N (l.take k)) (l.getD k [])
  | _, [], k, h => by simp at h
  | N, x :: l, 0, _ => by simp [kdsG, newsF]
  | N, x :: l, k + 1, h => by
    simp only [kdsG, List.getD_cons_succ, List.take_succ_cons, newsF]
    exact kdsG_get (nxG N x) l k (by simpa using h)
theorem kdsG_step : ∀ (N l : List (List Int)) (k : Nat), k < l.length → kdsG N (l.take (k + 1)) = kdsG N (l.take k) ++ [kdG (newsF N (l.take k)) (l.getD k [])]
  | _, [], k, h => by simp at h
  | N, x :: l, 0, _ => by simp [kdsG, newsF]
  | N, x :: l, k + 1, h => by
    simp only [kdsG, List.getD_cons_succ, List.take_succ_cons, newsF, List.cons_append, List.cons.injEq, true_and]
    exact kdsG_step (nxG N x) l k (by simpa using h)
/-- What the reference's scan finds: the kind by the first new block with the same key. -/
theorem scK_eq {l : List (List Int)} {i : Nat} (hi : i ≤ l.length) (x : List Int) : ∀ (k : Nat) (kd : Int), k ≤ i →
    scK (kdsG [] (l.take i)) l x k kd = match (newsF [] (l.take k)).find? (sameK x) with
      | some y => bif y == x then 1 else 2
      | none => kd
  | 0, kd, _ => by simp [scK, newsF]
  | k + 1, kd, hk => by
    have hkl : k < l.length := by omega
    have e1 : (kdsG [] (l.take i)).getD k 0 = kdG (newsF [] (l.take k)) (l.getD k []) := by
      rw [kdsG_get _ _ _ (by rw [List.length_take]; omega), List.take_take, Nat.min_eq_left (by omega)]
      congr 1
      rw [List.getD_eq_getElem?_getD, List.getD_eq_getElem?_getD, List.getElem?_take_of_lt (by omega)]
    rw [scK, scK_eq hi x k _ (by omega), newsF_step _ _ _ hkl, e1]
    unfold nxG
    generalize newsF [] (l.take k) = N
    generalize l.getD k [] = y
    cases hf : N.find? (sameK x) with
    | some z =>
      have : (bif kdG N y == 0 then N ++ [y] else N).find? (sameK x) = some z := by
        cases kdG N y == 0 with
        | true => rw [cond_true, List.find?_append, hf]; rfl
        | false => rw [cond_false, hf]
      rw [this]
    | none =>
      cases hk : kdG N y == 0 with
      | true =>
        rw [cond_true, List.find?_append, hf, Bool.true_and]
        cases hs : sameK x y with
        | true => simp [List.find?_cons, hs]
        | false => simp [List.find?_cons, hs]
      | false => rw [cond_false, hf]; rfl
theorem kdI_nil {N l : List (List Int)} (h : kdI N l = []) : l = [] := by
  cases l with
  | nil => rfl
  | cons x l => simp [kdI] at h
theorem kdI_cons {N l : List (List Int)} {x : List AV} {rest : List (List AV)} (h : x :: rest = kdI N l) : ∃ y l', l = y :: l' ∧ x = it2 (kdG N y) y ∧ rest = kdI (nxG N y) l' := by
  cases l with
  | nil => simp [kdI] at h
  | cons y l' =>
    simp only [kdI, List.cons.injEq] at h
    exact ⟨y, l', rfl, h.1, h.2⟩
theorem kdI_kds : ∀ {N N' l l' : List (List Int)}, kdI N l = kdI N' l' → kdsG N l = kdsG N' l' ∧ l.length = l'.length
  | _, _, [], [], _ => ⟨rfl, rfl⟩
  | _, _, [], _ :: _, h => by simp [kdI] at h
  | _, _, _ :: _, [], h => by simp [kdI] at h
  | N, N', x :: l, y :: l', h => by
    simp only [kdI, List.cons.injEq, it2, AV.one.injEq, SV.int.injEq, true_and] at h
    obtain ⟨⟨h1, _⟩, h2⟩ := h
    obtain ⟨h3, h4⟩ := kdI_kds h2
    exact ⟨by simp [kdsG, h1, h3], by simp [h4]⟩
theorem blockE_ne {x : List Int} (h : conB x = true) : (blockE (x.getD 0 0) (x.getD 1 0) [x.getD 2 0, x.getD 3 0, x.getD 4 0, x.getD 5 0, x.getD 6 0, x.getD 7 0, x.getD 8 0, x.getD 9 0] (x.getD 10 0) != 0) = !sumB x := by
  unfold conB samX at h
  unfold blockE sumB samX
  rw [h, cond_true]
  cases hs : x.getD 10 0 == sumG (x.getD 0 0) (x.getD 1 0) [x.getD 2 0, x.getD 3 0, x.getD 4 0, x.getD 5 0, x.getD 6 0, x.getD 7 0, x.getD 8 0, x.getD 9 0] with
  | true =>
    have e : (x.getD 10 0 != sumG (x.getD 0 0) (x.getD 1 0) [x.getD 2 0, x.getD 3 0, x.getD 4 0, x.getD 5 0, x.getD 6 0, x.getD 7 0, x.getD 8 0, x.getD 9 0]) = false := by rw [bne, hs]; rfl
    rw [e]; rfl
  | false =>
    have e : (x.getD 10 0 != sumG (x.getD 0 0) (x.getD 1 0) [x.getD 2 0, x.getD 3 0, x.getD 4 0, x.getD 5 0, x.getD 6 0, x.getD 7 0, x.getD 8 0, x.getD 9 0]) = true := by rw [bne, hs]; rfl
    rw [e]; rfl

theorem rokkof_0 : RangeOK Ekof 134 kdSq (rangePs (lb Try.f52 0)) (rangeAssign (lb Try.f52 0)) (rangeBody (lb Try.f52 0)) [5] kofGL := by
  refine ⟨okkd, fun x rest vs σ k h => ?_, fun vs σ k h => ?_⟩
  · unfold kofGL at h
    split at h
    · obtain ⟨N, l, h1, h2, h3⟩ := h
      obtain ⟨y, l', rfl, rfl, rfl⟩ := kdI_cons h1
      unfold it2
      rw [exkofr0 _ _ _ _ _ _ _ _ _ _ _ _ _]
      rw [List.isEmpty_cons, cond_false] at h3
      simp only [List.length_cons] at h2
      exact ⟨_, l', rfl, by simp; omega, h3⟩
    · rename_i o
      obtain ⟨N, l, h1, h2, h3⟩ := h
      obtain ⟨y, l', rfl, rfl, rfl⟩ := kdI_cons h1
      unfold it2
      rw [exkofr1 _ _ _ _ _ _ _ _ _ _ _ _ _ _]
      simp only [List.length_cons] at h2
      rw [decide_eq_true (by simp; omega), cond_true]
      refine ⟨_, l', rfl, by simp; omega, ?_⟩
      rw [List.append_assoc]
      exact h3
    · exact h.elim
  · unfold kofGL at h
    split at h
    · obtain ⟨N, l, h1, h2, h3⟩ := h
      have := kdI_nil h1.symm
      subst this
      exact h3
    · obtain ⟨N, l, h1, h2, h3⟩ := h
      have := kdI_nil h1.symm
      subst this
      simpa [kdsG] using h3
    · exact h.elim
theorem okkof : SpecOK Try.prog 52 kofS := by
  refine specOK (n := 21) (m := 0) (lps := [(1000006, .range 134 kdSq [5] kofGL)]) (.cons okbse (.cons okknd .nil)) Try.func52 (by kernel_rfl) (by kernel_rfl) (theLoops (n := 1) (by kernel_rfl) fun i hi => ?_) fun args σ K h => ?_
  · match i, hi with
    | 0, _ => exact loopHyp_range (key := 1000006) (by kernel_rfl) (by kernel_rfl) rfl rokkof_0
  unfold kofS at h
  split at h
  rotate_right
  · exact h.elim
  rename_i l
  rw [exkof l K]
  obtain ⟨h1, h⟩ := h
  refine And.intro h1 ?_
  have hb : (bsE l != 0) = !(bsE l == 0) := rfl
  rw [hb]
  cases h0 : bsE l == 0 with
  | false => rw [h0] at h; exact h
  | true =>
    rw [h0, cond_true] at h
    rw [Bool.not_true, cond_false]
    have hall : l.all conB = true := by
      have := beq_iff_eq.1 h0
      unfold bsE at this
      cases hd : decide ((l.length : Int) ≤ 40) with
      | true =>
        rw [hd, cond_true] at this
        cases ha : l.all conB with
        | true => rfl
        | false => rw [ha] at this; cases this
      | false => rw [hd] at this; cases this
    rw [decide_eq_true h1.1, h1.2, hall]
    exact ⟨[], l, rfl, h1.1, h⟩
theorem okkofD : SpecOK Try.prog 52 kofDS := by
  refine okkof.froze fun args σ K h => ?_
  unfold kofDS at h
  split at h
  rotate_right
  · exact h.elim
  rename_i l
  refine ⟨rfl, h.1, ?_⟩
  have h2 := h.2
  unfold kdsE at h2
  cases h0 : bsE l == 0 with
  | false =>
    rw [h0, cond_false] at h2
    rw [cond_false]
    exact ⟨.tup [.one (.data (.ints .i64 [])), .one (.int .i64 (bsE l))], ⟨.inr ⟨.ints .i64 [], rfl, rfl⟩, rfl, trivial⟩, h2⟩
  | true =>
    rw [h0, cond_true] at h2
    rw [cond_true]
    have e0 := beq_iff_eq.1 h0
    rw [e0] at h2
    cases l with
    | nil => exact ⟨.tup [.one (.data (.ints .i64 [])), .one (.int .i64 0)], ⟨.inr ⟨.ints .i64 [], rfl, rfl⟩, rfl, trivial⟩, h2⟩
    | cons x l => exact ⟨.tup [.one (.data (.ints .i64 (kdsG [] (x :: l)))), .one (.int .i64 0)], ⟨⟨_, _, rfl, rfl, rfl⟩, rfl, trivial⟩, h2⟩
theorem lokrk_1 : LoopOK Erk (lb Try.f58 1) [0, 3, 4, 5, 6] [0, 3, 4, 5] rkB := by
  refine loopOK (.cons ok22 .nil) (noInner (by kernel_rfl)) (fun vs σ => match vs, σ with
    | [.one (.data (.mat .i64 11 _)), .one .nil, .one (.int .i64 _), .one (.int .i64 _), .one (.int .i64 j)], [] => (j + 1).toNat
    | [.one (.data (.mat .i64 11 _)), .one (.own 0 1), .one (.int .i64 _), .one (.int .i64 _), .one (.int .i64 j)], [.row 3 (.ints .i64 _)] => (j + 1).toNat
    | _, _ => 0) fun vs σ k h => ?_
  unfold rkB at h
  split at h
  rotate_right
  · exact h.elim
  · rename_i l i kd j
    rw [exrkl1a l i kd j _]
    obtain ⟨⟨h1, rfl, rfl⟩, h⟩ := h
    exact h
  · rename_i l i kd j o
    rw [exrkl1b l i kd j o _]
    obtain ⟨⟨⟨h1, h2⟩, h3, h4, h5, h6⟩, h⟩ := h
    by_cases hj : 0 ≤ j
    · have hw : IntKind.i64.wrap (j - 1) = j - 1 := wrap_id (by omega) (by omega)
      have e1 : (j + 1).toNat = j.toNat + 1 := by omega
      have e2 : (j - 1 + 1).toNat = j.toNat := by omega
      rw [e1, scK] at h
      have hmu : (j - 1 + 1).toNat < (j + 1).toNat := by omega
      have hil : i.toNat < l.length := by omega
      have hjl : j.toNat < l.length := by omega
      obtain ⟨x, hx, _, hgx, _⟩ := row11 hil h2
      obtain ⟨y, hy, _, hgy, _⟩ := row11 hjl h2
      rw [hgx, hgy] at h
      have goal : ∀ kd', k (.exit 2) [.one (.data (.mat .i64 11 l)), .one (.own 0 1), .one (.int .i64 i), .one (.int .i64 (scK o l x j.toNat kd'))] [.row 3 (.ints .i64 o)] →
          rkB [.one (.data (.mat .i64 11 l)), .one (.own 0 1), .one (.int .i64 i), .one (.int .i64 kd'), .one (.int .i64 (IntKind.i64.wrap (j - 1)))] [.row 3 (.ints .i64 o)] k ∧ (IntKind.i64.wrap (j - 1) + 1).toNat < (j + 1).toNat := by
        intro kd' hk
        rw [hw]
        refine ⟨⟨⟨⟨h1, h2⟩, h3, h4, by omega, by omega⟩, ?_⟩, hmu⟩
        rw [e2, hgx]
        exact hk
      have d1 : decide (0 ≤ j) = true := decide_eq_true hj
      have d2 : decide (j < (o.length : Int)) = true := decide_eq_true (by omega)
      have d3 : decide (j.toNat < o.length) = true := decide_eq_true (by omega)
      have d4 : decide (j < (l.length : Int)) = true := decide_eq_true (by omega)
      have d5 : decide (j.toNat < l.length) = true := decide_eq_true hjl
      have d6 : decide (0 ≤ i) = true := decide_eq_true (by omega)
      have d7 : decide (i < (l.length : Int)) = true := decide_eq_true (by omega)
      have d8 : decide (i.toNat < l.length) = true := decide_eq_true hil
      have hj' : decide (j ≥ 0) = true := decide_eq_true hj
      simp only [hj', d1, d2, d3, d4, d5, d6, d7, d8, hgx, hgy, show decide (1 < 11) = true by decide, show decide (0 < 11) = true by decide, show decide (10 < 11) = true by decide, Bool.and_self, cond_true, Nat.add_zero]
      rw [eq11 hy hx]
      unfold sameK at h
      cases c1 : o.getD j.toNat 0 == 0 with
      | false =>
        rw [c1, Bool.false_and, cond_false] at h
        rw [cond_false]
        exact goal _ h
      | true =>
        rw [c1, Bool.true_and] at h
        rw [cond_true]
        cases c2 : y.getD 1 0 == x.getD 1 0 with
        | false =>
          rw [c2, Bool.false_and, cond_false] at h
          rw [cond_false]
          exact goal _ h
        | true =>
          rw [c2, Bool.true_and] at h
          rw [cond_true]
          cases c3 : y.getD 0 0 == x.getD 0 0 with
          | false =>
            rw [c3, cond_false] at h
            rw [cond_false]
            exact goal _ h
          | true =>
            rw [c3, cond_true] at h
            rw [cond_true]
            cases c4 : y == x with
            | true =>
              rw [c4, cond_true] at h
              rw [cond_true]
              exact goal _ h
            | false =>
              rw [c4, cond_false] at h
              rw [cond_false]
              exact goal _ h
    · have e : j = -1 := by omega
      subst e
      exact h
theorem lokrk_0 : LoopOK Erk (lb Try.f58 0) [0, 3, 4] [3] rkA := by
  refine loopOK (.cons ok22 .nil) (fun b' hb => by
    have hl : loopsOf (lb Try.f58 0) = [lb Try.f58 1] := by kernel_rfl
    rw [hl] at hb
    simp only [List.mem_cons, List.not_mem_nil, or_false] at hb
    subst hb
    exact loopHyp_of (key := 7) (by kernel_rfl) rfl lokrk_1) (fun vs σ => match vs, σ with
    | [.one (.data (.mat .i64 11 l)), .one .nil, .one (.int .i64 i)], [] => (l.length - i).toNat
    | [.one (.data (.mat .i64 11 l)), .one (.own 0 1), .one (.int .i64 i)], [.row 3 (.ints .i64 _)] => (l.length - i).toNat
    | _, _ => 0) fun vs σ k h => ?_
  unfold rkA at h
  split at h
  rotate_right
  · exact h.elim
  · rename_i l i
    rw [exrkl0a l i _]
    obtain ⟨⟨⟨h1, h2⟩, h3, rfl⟩, h⟩ := h
    cases l with
    | nil => exact h
    | cons x l =>
      have hw : IntKind.i64.wrap ((0 : Int) - 1) = -1 := by decide
      have hw1 : IntKind.i64.wrap ((0 : Int) + 1) = 1 := by decide
      have hx : conB x = true := (Bool.and_eq_true _ _ ▸ (show (conB x && l.all conB) = true from h3)).1
      have d1 : decide ((0 : Int) < ((x :: l).length : Int)) = true := decide_eq_true (by simp)
      have d2 : decide (Int.toNat 0 < (x :: l).length) = true := decide_eq_true (by simp)
      rw [hw, hw1]
      have e0 : (x :: l).getD (Int.toNat 0) [] = x := rfl
      simp only [d1, d2, e0, show decide ((0 : Int) ≤ 0) = true by decide, show decide (10 < 11) = true by decide, Bool.and_self, cond_true]
      rw [blockE_ne hx]
      refine And.intro ⟨⟨h1, h2⟩, by first | rfl | trivial, by first | rfl | trivial⟩ ?_
      rw [List.isEmpty_cons, cond_false] at h
      have hmu : ((((x :: l).length : Nat) : Int) - 1).toNat < ((((x :: l).length : Nat) : Int) - 0).toNat := by simp only [List.length_cons]; omega
      cases hs : sumB x with
      | false =>
        rw [Bool.not_false, cond_true]
        refine ⟨⟨⟨⟨h1, h2⟩, h3, by omega, by simp only [List.length_cons]; omega, ?_⟩, h⟩, hmu⟩
        show [3] = kdsG [] [x]
        simp [kdsG, kdG, hs]
      | true =>
        rw [Bool.not_true, cond_false]
        refine ⟨⟨⟨⟨h1, h2⟩, h3, by omega, by simp only [List.length_cons]; omega, ?_⟩, h⟩, hmu⟩
        show [0] = kdsG [] [x]
        simp [kdsG, kdG, hs]
  · rename_i l i o
    rw [exrkl0b l i o _]
    obtain ⟨⟨⟨h1, h2⟩, h3, h4, h5, rfl⟩, h⟩ := h
    by_cases hi : i < (l.length : Int)
    · have hil : i.toNat < l.length := by omega
      have hw : IntKind.i64.wrap (i - 1) = i - 1 := wrap_id (by omega) (by omega)
      have hw1 : IntKind.i64.wrap (i + 1) = i + 1 := wrap_id (by omega) (by omega)
      obtain ⟨x, hx, _, hgx, hm⟩ := row11 hil h2
      have hcx := List.all_eq_true.1 h3 _ hm
      have hol : (kdsG [] (l.take i.toNat)).length = i.toNat := by rw [kdsG_length, List.length_take]; omega
      rw [hw, hw1]
      simp only [decide_eq_true hi, decide_eq_true (show 0 ≤ i by omega), decide_eq_true hil, hgx, show decide (10 < 11) = true by decide, Bool.and_self, cond_true]
      rw [blockE_ne hcx]
      refine And.intro ⟨⟨h1, h2⟩, by rw [hol]; omega, hi, by omega, by omega⟩ ?_
      have hmu : ((l.length : Int) - (i + 1)).toNat < ((l.length : Int) - i).toNat := by omega
      have e1 : (i - 1 + 1).toNat = i.toNat := by omega
      rw [e1, scK_eq (by omega) x i.toNat 0 (Nat.le_refl _)]
      have hst := kdsG_step [] l i.toNat hil
      rw [hgx] at hst
      have hlen : ∀ q : Int, decide ((kdsG [] (l.take i.toNat) ++ [q]).length * 8 ≤ 140737488355328 ∧ (kdsG [] (l.take i.toNat) ++ [q]).length ≤ 140737488355328) = true := fun q => decide_eq_true (by simp only [List.length_append, hol, List.length_cons, List.length_nil]; omega)
      have goal : ∀ q, q = kdG (newsF [] (l.take i.toNat)) x → rkA [.one (.data (.mat .i64 11 l)), .one (.own 0 1), .one (.int .i64 (i + 1))] [.row 3 (.ints .i64 (kdsG [] (l.take i.toNat) ++ [q]))] k ∧ ((l.length : Int) - (i + 1)).toNat < ((l.length : Int) - i).toNat := by
        rintro q rfl
        rw [← hst]
        exact ⟨⟨⟨⟨h1, h2⟩, h3, by omega, by omega, by rw [show (i + 1).toNat = i.toNat + 1 by omega]⟩, h⟩, hmu⟩
      cases hs : sumB x with
      | false =>
        rw [Bool.not_false, cond_true, hlen, cond_true]
        exact goal _ (by simp [kdG, hs])
      | true =>
        rw [Bool.not_true, cond_false, hlen, cond_true]
        exact goal _ (by unfold kdG; rw [hs]; rfl)
    · rw [decide_eq_false hi, cond_false]
      have : i.toNat = l.length := by omega
      rw [this, List.take_length]
      exact h
theorem okrk : SpecOK Try.prog 58 rkS := by
  refine specOK (n := 70) (m := 0) (lps := [(3, .spec [0, 3, 4] [3] rkA), (7, .spec [0, 3, 4, 5, 6] [0, 3, 4, 5] rkB)]) (.cons ok22 .nil) Try.func58 (by kernel_rfl) (by kernel_rfl) (theLoops (n := 2) (by kernel_rfl) fun i hi => ?_) fun args σ K h => ?_
  · match i, hi with
    | 0, _ => exact loopHyp_of (key := 3) (by kernel_rfl) rfl lokrk_0
    | 1, _ => exact loopHyp_of (key := 7) (by kernel_rfl) rfl lokrk_1
  unfold rkS at h
  split at h
  rotate_right
  · exact h.elim
  rename_i l
  rw [exrk l K]
  exact ⟨⟨h.1.1, h.1.2, rfl⟩, h.2⟩
theorem okrkD : SpecOK Try.prog 58 rkDS := by
  refine okrk.froze fun args σ K h => ?_
  unfold rkDS at h
  split at h
  rotate_right
  · exact h.elim
  rename_i l
  refine ⟨rfl, h.1, ?_⟩
  cases l with
  | nil => exact ⟨.one (.data (.ints .i64 [])), .inr ⟨.ints .i64 [], rfl, rfl⟩, h.2⟩
  | cons x l => exact ⟨.one (.data (.ints .i64 (kdsG [] (x :: l)))), ⟨_, _, rfl, rfl, rfl⟩, h.2⟩
theorem lokrbs_0 : LoopOK Erbs (lb Try.f56 0) [0, 3] [2] rbsL := by
  refine loopOK (.cons ok23 .nil) (noInner (by kernel_rfl)) (fun vs σ => match vs, σ with
    | [.one (.data (.mat .i64 11 l)), .one (.int .i64 i)], [] => (l.length - i).toNat
    | _, _ => 0) fun vs σ k h => ?_
  unfold rbsL at h
  split at h
  rotate_right
  · exact h.elim
  · rename_i l i
    rw [exrbsl0a l i _]
    obtain ⟨⟨⟨h1, h2⟩, h3⟩, h⟩ := h
    by_cases hi : i < (l.length : Int)
    · have hw : IntKind.i64.wrap (i + 1) = i + 1 := wrap_id (by omega) (by omega)
      have hi' : i.toNat < l.length := by omega
      obtain ⟨x, hx, hd, hg, _⟩ := row11 hi' h2
      rw [hd, List.all_cons, show i.toNat + 1 = (i + 1).toNat by omega] at h
      have hmu : ((l.length : Int) - (i + 1)).toNat < ((l.length : Int) - i).toNat := by omega
      simp only [decide_eq_true hi, decide_eq_true h3, decide_eq_true hi', hw, hg, show decide (10 < 11) = true by decide, Bool.and_self, cond_true]
      have e : contentG (x.getD 0 0) (x.getD 1 0) [x.getD 2 0, x.getD 3 0, x.getD 4 0, x.getD 5 0, x.getD 6 0, x.getD 7 0, x.getD 8 0, x.getD 9 0] = conB x := rfl
      rw [e]
      cases hc : conB x with
      | true => rw [hc, Bool.true_and] at h; exact ⟨⟨⟨⟨h1, h2⟩, by omega⟩, h⟩, hmu⟩
      | false => rw [hc] at h; exact h
    · rw [decide_eq_false hi]
      rw [List.drop_eq_nil_of_le (by omega)] at h
      exact h
theorem okrbs : SpecOK Try.prog 56 bsS := by
  refine specOK (n := 22) (m := 0) (lps := [(4, .spec [0, 3] [2] rbsL)]) (.cons ok23 .nil) Try.func56 (by kernel_rfl) (by kernel_rfl) (theLoops (n := 1) (by kernel_rfl) fun i hi => ?_) fun args σ K h => ?_
  · match i, hi with
    | 0, _ => exact loopHyp_of (key := 4) (by kernel_rfl) rfl lokrbs_0
  unfold bsS at h
  split at h
  rotate_right
  · exact h.elim
  rename_i l
  rw [exrbs l K]
  obtain ⟨h1, h⟩ := h
  unfold bsE at h
  by_cases h40 : (l.length : Int) ≤ 40
  · rw [decide_eq_true h40, cond_true] at h
    rw [decide_eq_false (show ¬ (l.length : Int) > 40 by omega), cond_false]
    refine And.intro ⟨h1, by decide⟩ ?_
    cases hc : l.all conB <;> rw [hc] at h <;> exact h
  · rw [decide_eq_false h40, cond_false] at h
    rw [decide_eq_true (show (l.length : Int) > 40 by omega), cond_true]
    exact h
end Go.Ev
