/-
  Part of the proof of a law.
-/
import Derived.Test.YtiflkochjfiegaaDoorC9V
import Derived.KernelRfl
set_option linter.unusedVariables false
set_option linter.unusedSimpArgs false
set_option linter.unusedSectionVars false
/-
  Chapter 9, contracts: rules, states, scores of sessions.
-/
namespace Go.Ev
open Go Go.Proofs
set_option maxRecDepth 20000
def ansG (n : Int) : Bool := withinG n 0 1
def isaS : Spec := fun args σ K => match args, σ with
  | [.one (.int .i64 n)], [] => K (.one (.bool (ansG n))) []
  | _, _ => False
def issS : Spec := fun args σ K => match args, σ with
  | [.one (.int .i64 n)], [] => K (.one (.bool (withinG n 0 2))) []
  | _, _ => False
def nsaS : Spec := fun args σ K => match args, σ with
  | [.one (.int .i64 n)], [] => K (.one (.bool (!ansG n))) []
  | _, _ => False
def idxA : Int → List Int → Int
  | _, [] => -1
  | i, x :: l => bif !ansG x then i else idxA (i + 1) l
def idxAL : LSpec := fun vs σ k => match vs, σ with
  | [.one (.data (.ints .i64 l)), .one (.func 127 []), .one (.int .i64 n), .one (.int .i64 i)], [] =>
    (l.length ≤ 1000000000 ∧ 0 ≤ i ∧ n = l.length) ∧ bif (l.drop i.toNat).all ansG then k (.exit 0) [.any] [] else k .ret [.one (.int .i64 (idxA i (l.drop i.toNat)))] []
  | [.one (.data (.ints .i64 l)), .one (.func 157 []), .one (.int .i64 n), .one (.int .i64 i)], [] =>
    (l.length ≤ 1000000000 ∧ 0 ≤ i ∧ n = l.length) ∧ bif (l.drop i.toNat).all ansG then k (.exit 0) [.any] [] else k .ret [.one (.int .i64 (idxA i (l.drop i.toNat)))] []
  | _, _ => False
def idxAS : Spec := fun args σ K => match args, σ with
  | [.one (.data (.ints .i64 l)), .one (.func 127 [])], [] => l.length ≤ 1000000000 ∧ K (.one (.int .i64 (idxA 0 l))) []
  | [.one (.data (.ints .i64 l)), .one (.func 157 [])], [] => l.length ≤ 1000000000 ∧ K (.one (.int .i64 (idxA 0 l))) []
  | _, _ => False
def hasAS : Spec := fun args σ K => match args, σ with
  | [.one (.data (.ints .i64 l)), .one (.func 127 [])], [] => l.length ≤ 1000000000 ∧ K (.one (.bool (!l.all ansG))) []
  | [.one (.data (.ints .i64 l)), .one (.func 157 [])], [] => l.length ≤ 1000000000 ∧ K (.one (.bool (!l.all ansG))) []
  | _, _ => False
def ruE (h : List Int) : Int := bif decide ((h.length : Int) > 0) then (bif decide ((h.length : Int) ≤ 10) then (bif h.all ansG then 0 else 2) else 8) else 10
def ruS : Spec := fun args σ K => match args, σ with
  | [.agg [.data (.ints .i64 h)]], [] => h.length ≤ 1000000000 ∧ K (.one (.int .i64 (ruE h))) []
  | _, _ => False
def altL : LSpec := fun vs σ k => match vs, σ with
  | [.one (.data (.ints .i64 l)), .one (.int .i64 i)], [] => (l.length ≤ 1000000000 ∧ 0 ≤ i) ∧ bif (l.drop i.toNat).all ansG then k (.exit 0) [.any] [] else k .ret [.one (.bool false)] []
  | _, _ => False
def altS : Spec := fun args σ K => match args, σ with
  | [.one (.data (.ints .i64 l))], [] => l.length ≤ 1000000000 ∧ K (.one (.bool (l.all ansG))) []
  | _, _ => False
def hrd (p : Int) (b0 b1 b2 : Bool) : Bool := bif p == 0 then b0 else (bif p == 1 then b1 else b2)
def stE2 (h : List Int) (p : Int) (b0 b1 b2 : Bool) (a : List Int) : Int :=
  bif decide ((a.length : Int) ≤ h.length) then (bif a.all ansG then (bif decide ((a.length : Int) ≥ h.length) && (p != -1 || (b0 || (b1 || b2))) then 21 else (bif p == -1 || hrd p b0 b1 b2 then 0 else 3)) else 2) else 8
def stE (h : List Int) (p : Int) (b0 b1 b2 : Bool) (a : List Int) : Int := bif withinG p (-1) 2 then stE2 h p b0 b1 b2 a else 2
def opE (h : List Int) (p : Int) : Int := bif ruE h == 0 then (bif withinG p (-1) 2 then 0 else 2) else ruE h
def boE (h : List Int) (p : Int) (b0 b1 b2 : Bool) (a : List Int) : Int := bif ruE h == 0 then stE h p b0 b1 b2 a else ruE h
def plyN : Spec := fun args σ K => match args, σ with
  | [.one (.ptr 0 1 0 0)], [.cells [.data (.ints .i64 h), .int .i64 p, .bool b0, .bool b1, .bool b2, .nil]] => K (.one (.bool (p != -1))) [.cells [.data (.ints .i64 h), .int .i64 p, .bool b0, .bool b1, .bool b2, .nil]]
  | _, _ => False
def plyO : Spec := fun args σ K => match args, σ with
  | [.one (.ptr 0 1 0 0)], [.cells [.data (.ints .i64 h), .int .i64 p, .bool b0, .bool b1, .bool b2, .own 1 1], .row 3 (.ints .i64 a)] => K (.one (.bool (p != -1))) [.cells [.data (.ints .i64 h), .int .i64 p, .bool b0, .bool b1, .bool b2, .own 1 1], .row 3 (.ints .i64 a)]
  | [.one (.ptr 0 1 0 0)], [.cells [.data (.ints .i64 h), .int .i64 p, .bool b0, .bool b1, .bool b2, .sub 1 1 0 m], .row 3 (.ints .i64 a)] => K (.one (.bool (p != -1))) [.cells [.data (.ints .i64 h), .int .i64 p, .bool b0, .bool b1, .bool b2, .sub 1 1 0 m], .row 3 (.ints .i64 a)]
  | _, _ => False
def plyS : Spec := fun args σ K => match args, σ with
  | [.one (.ptr 0 1 0 0)], [.cells [.data (.ints .i64 h), .int .i64 p, .bool b0, .bool b1, .bool b2, .nil]] => K (.one (.bool (p != -1))) [.cells [.data (.ints .i64 h), .int .i64 p, .bool b0, .bool b1, .bool b2, .nil]]
  | [.one (.ptr 0 1 0 0)], [.cells [.data (.ints .i64 h), .int .i64 p, .bool b0, .bool b1, .bool b2, .own 1 1], .row 3 (.ints .i64 a)] => K (.one (.bool (p != -1))) [.cells [.data (.ints .i64 h), .int .i64 p, .bool b0, .bool b1, .bool b2, .own 1 1], .row 3 (.ints .i64 a)]
  | [.one (.ptr 0 1 0 0)], [.cells [.data (.ints .i64 h), .int .i64 p, .bool b0, .bool b1, .bool b2, .sub 1 1 0 m], .row 3 (.ints .i64 a)] => K (.one (.bool (p != -1))) [.cells [.data (.ints .i64 h), .int .i64 p, .bool b0, .bool b1, .bool b2, .sub 1 1 0 m], .row 3 (.ints .i64 a)]
  | _, _ => False
def endN : Spec := fun args σ K => match args, σ with
  | [.one (.ptr 0 1 0 0)], [.cells [.data (.ints .i64 h), .int .i64 p, .bool b0, .bool b1, .bool b2, .nil]] => K (.one (.bool (decide ((0 : Int) ≥ h.length)))) [.cells [.data (.ints .i64 h), .int .i64 p, .bool b0, .bool b1, .bool b2, .nil]]
  | _, _ => False
def endO : Spec := fun args σ K => match args, σ with
  | [.one (.ptr 0 1 0 0)], [.cells [.data (.ints .i64 h), .int .i64 p, .bool b0, .bool b1, .bool b2, .own 1 1], .row 3 (.ints .i64 a)] => K (.one (.bool (decide ((a.length : Int) ≥ h.length)))) [.cells [.data (.ints .i64 h), .int .i64 p, .bool b0, .bool b1, .bool b2, .own 1 1], .row 3 (.ints .i64 a)]
  | [.one (.ptr 0 1 0 0)], [.cells [.data (.ints .i64 h), .int .i64 p, .bool b0, .bool b1, .bool b2, .sub 1 1 0 m], .row 3 (.ints .i64 a)] => K (.one (.bool (decide ((m : Int) ≥ h.length)))) [.cells [.data (.ints .i64 h), .int .i64 p, .bool b0, .bool b1, .bool b2, .sub 1 1 0 m], .row 3 (.ints .i64 a)]
  | _, _ => False
def endS : Spec := fun args σ K => match args, σ with
  | [.one (.ptr 0 1 0 0)], [.cells [.data (.ints .i64 h), .int .i64 p, .bool b0, .bool b1, .bool b2, .nil]] => K (.one (.bool (decide ((0 : Int) ≥ h.length)))) [.cells [.data (.ints .i64 h), .int .i64 p, .bool b0, .bool b1, .bool b2, .nil]]
  | [.one (.ptr 0 1 0 0)], [.cells [.data (.ints .i64 h), .int .i64 p, .bool b0, .bool b1, .bool b2, .own 1 1], .row 3 (.ints .i64 a)] => K (.one (.bool (decide ((a.length : Int) ≥ h.length)))) [.cells [.data (.ints .i64 h), .int .i64 p, .bool b0, .bool b1, .bool b2, .own 1 1], .row 3 (.ints .i64 a)]
  | [.one (.ptr 0 1 0 0)], [.cells [.data (.ints .i64 h), .int .i64 p, .bool b0, .bool b1, .bool b2, .sub 1 1 0 m], .row 3 (.ints .i64 a)] => K (.one (.bool (decide ((m : Int) ≥ h.length)))) [.cells [.data (.ints .i64 h), .int .i64 p, .bool b0, .bool b1, .bool b2, .sub 1 1 0 m], .row 3 (.ints .i64 a)]
  | _, _ => False
def opnS : Spec := fun args σ K => match args, σ with
  | [.agg [.data (.ints .i64 h)], .agg [.int .i64 p, .bool b0, .bool b1, .bool b2, .data (.ints .i64 a)]], [] => (h.length ≤ 1000000000 ∧ a.length ≤ 1000000) ∧
    bif opE h p == 0 then (K (.tup [.one (.ptr 0 1 0 0), .one (.int .i64 (stE2 h p b0 b1 b2 a))]) [.cells [.data (.ints .i64 h), .int .i64 p, .bool b0, .bool b1, .bool b2, .own 1 1], .row 3 (.ints .i64 a)] ∧ (a = [] → K (.tup [.one (.ptr 0 1 0 0), .one (.int .i64 (stE2 h p b0 b1 b2 a))]) [.cells [.data (.ints .i64 h), .int .i64 p, .bool b0, .bool b1, .bool b2, .nil]])) else K (.tup [.one .any, .one (.int .i64 (opE h p))]) []
  | _, _ => False
def bgS : Spec := fun args σ K => match args, σ with
  | [.agg [.data (.ints .i64 h)]], [] => K (.one (.ptr 0 1 0 0)) [.cells [.data (.ints .i64 h), .int .i64 (-1), .bool false, .bool false, .bool false, .nil]]
  | _, _ => False
def cpRS : Spec := fun args σ K => match args, σ with
  | [.agg [.data (.ints .i64 h)]], [] => h.length ≤ 1000000000000 ∧ K (.agg [.data (.ints .i64 h)]) []
  | _, _ => False
def cpSS : Spec := fun args σ K => match args, σ with
  | [.agg [.int .i64 p, .bool b0, .bool b1, .bool b2, .data (.ints .i64 a)]], [] => a.length ≤ 1000000000000 ∧ K (.agg [.int .i64 p, .bool b0, .bool b1, .bool b2, .data (.ints .i64 a)]) []
  | _, _ => False
def scG : List Int → List Int → Int
  | x :: a, y :: h => (bif x == y then 1 else 0) + scG a h
  | _, _ => 0
def scL : LSpec := fun vs σ k => match vs, σ with
  | [.one (.ptr 0 1 0 0), .one (.int .i64 s), .one .nil, .one (.int .i64 n), .one (.int .i64 i)], [.cells [.data (.ints .i64 h), .int .i64 p, .bool b0, .bool b1, .bool b2, .nil]] => (n = 0 ∧ i = 0) ∧ k (.exit 0) [.one (.int .i64 s)] []
  | [.one (.ptr 0 1 0 0), .one (.int .i64 s), .one (.own 1 1), .one (.int .i64 n), .one (.int .i64 i)], [.cells [.data (.ints .i64 h), .int .i64 p, .bool b0, .bool b1, .bool b2, .own 1 1], .row 3 (.ints .i64 a)] =>
    (n = a.length ∧ a.length ≤ h.length ∧ h.length ≤ 1000000 ∧ 0 ≤ i ∧ i ≤ n ∧ 0 ≤ s ∧ s ≤ i) ∧ k (.exit 0) [.one (.int .i64 (s + scG (a.drop i.toNat) (h.drop i.toNat)))] []
  | _, _ => False
def scS : Spec := fun args σ K => match args, σ with
  | [.agg [.data (.ints .i64 h)], .agg [.int .i64 p, .bool b0, .bool b1, .bool b2, .data (.ints .i64 a)]], [] => (h.length ≤ 1000000000 ∧ a.length ≤ 1000000) ∧ K (.tup [.one (.int .i64 (bif boE h p b0 b1 b2 a == 0 then scG a h else 0)), .one (.int .i64 (boE h p b0 b1 b2 a))]) []
  | _, _ => False
noncomputable abbrev Eisa : Env := envOf Tryd.prog [(103, withinS)] [] 5 0
noncomputable abbrev Eiss : Env := envOf Tryd.prog [(103, withinS)] [] 5 0
noncomputable abbrev Ecr1 : Env := envOf Tryd.prog [(128, isaS)] [] 6 0
noncomputable abbrev Eop1 : Env := envOf Tryd.prog [(128, isaS)] [] 6 0
noncomputable abbrev Eixa : Env := envOf Tryd.prog [(127, nsaS), (157, nsaS)] [(2, .spec [0, 1, 7, 8] [4] idxAL)] 19 0
noncomputable abbrev Ehsa : Env := envOf Tryd.prog [(114, idxAS)] [] 9 0
noncomputable abbrev Ecru : Env := envOf Tryd.prog [(126, hasAS), (127, nsaS), (104, unlessS), (98, firstS)] [] 22 0
noncomputable abbrev Ealt : Env := envOf Tryd.prog [(30, withinS)] [(2, .spec [0, 3] [2] altL)] 16 0
noncomputable abbrev Eplyn : Env := envOf Tryd.prog [] [] 9 1
noncomputable abbrev Eplyo : Env := envOf Tryd.prog [] [] 9 2
noncomputable abbrev Eendn : Env := envOf Tryd.prog [] [] 16 1
noncomputable abbrev Eendo : Env := envOf Tryd.prog [] [] 16 2
noncomputable abbrev Eopn : Env := envOf Tryd.prog [(154, cloneS), (67, ruS), (155, plyS), (156, issS), (104, unlessS), (98, firstS), (126, hasAS), (157, nsaS), (158, endS)] [] 79 0
noncomputable abbrev Ebgn : Env := envOf Tryd.prog [] [] 7 0
noncomputable abbrev EcpR : Env := envOf Tryd.prog [(22, copyDS)] [] 7 0
noncomputable abbrev EcpS : Env := envOf Tryd.prog [(22, copyDS)] [] 8 0
noncomputable abbrev Esco : Env := envOf Tryd.prog [(124, opnS)] [(6, .spec [6, 8, 24, 25, 26] [8] scL)] 45 0
end Go.Ev

namespace Go.Ev
open Go Go.Proofs
set_option maxRecDepth 100000
theorem exisa (n : Int) (K : AV → List Blk → Prop) : evFn Eisa Tryd.f128 [.one (.int .i64 n)] [] K = ( K (.one (.bool (decide (0 ≤ n) && decide (n ≤ 1)))) []) := by kernel_rfl
theorem exiss (n : Int) (K : AV → List Blk → Prop) : evFn Eiss Tryd.f156 [.one (.int .i64 n)] [] K = ( K (.one (.bool (decide (0 ≤ n) && decide (n ≤ 2)))) []) := by kernel_rfl
theorem excr1 (n : Int) (K : AV → List Blk → Prop) : evFn Ecr1 Tryd.f127 [.one (.int .i64 n)] [] K = ( K (.one (.bool !ansG n)) []) := by kernel_rfl
theorem exop1 (n : Int) (K : AV → List Blk → Prop) : evFn Eop1 Tryd.f157 [.one (.int .i64 n)] [] K = ( K (.one (.bool !ansG n)) []) := by kernel_rfl
theorem exixa_0 (l : List Int) (K : AV → List Blk → Prop) : evFn Eixa Tryd.f114 [.one (.data (.ints .i64 l)), .one (.func 127 [])] [] K = ( (l.length ≤ 1000000000 ∧ (0 :Int) ≤ (0 :Int) ∧ (↑l.length : Int) = (↑l.length : Int)) ∧ bif l.all ansG then K (.one (.int .i64 (-1 : Int))) [] else K (.one (.int .i64 (idxA 0 l))) []) := by kernel_rfl
theorem exixa_1 (l : List Int) (K : AV → List Blk → Prop) : evFn Eixa Tryd.f114 [.one (.data (.ints .i64 l)), .one (.func 157 [])] [] K = ( (l.length ≤ 1000000000 ∧ (0 :Int) ≤ (0 :Int) ∧ (↑l.length : Int) = (↑l.length : Int)) ∧ bif l.all ansG then K (.one (.int .i64 (-1 : Int))) [] else K (.one (.int .i64 (idxA 0 l))) []) := by kernel_rfl
theorem exixal0a (l : List Int) (n i : Int) (K : Ex → List AV → List Blk → Prop) : evBody Eixa (lb Tryd.f114 0) [0, 1, 7, 8] [4] [.one (.data (.ints .i64 l)), .one (.func 127 []), .one (.int .i64 n), .one (.int .i64 i)] [] K = ( bif decide (i < n) then bif decide (0 ≤ i) && decide (i < (↑l.length : Int)) then bif decide (i.toNat + 0 < l.length) then bif !ansG (l.getD (i.toNat + 0) 0) then K .ret [.one (.int .i64 i)] [] else K .normal [.one (.data (Row.ints .i64 l)), .one (.func (127 : FuncId) []), .one (.int .i64 n), .one (.int .i64 (IntKind.i64.wrap (i + 1)))] [] else False else False else K (.exit 0) [AV.any] []) := by kernel_rfl
theorem exixal0b (l : List Int) (n i : Int) (K : Ex → List AV → List Blk → Prop) : evBody Eixa (lb Tryd.f114 0) [0, 1, 7, 8] [4] [.one (.data (.ints .i64 l)), .one (.func 157 []), .one (.int .i64 n), .one (.int .i64 i)] [] K = ( bif decide (i < n) then bif decide (0 ≤ i) && decide (i < (↑l.length : Int)) then bif decide (i.toNat + 0 < l.length) then bif !ansG (l.getD (i.toNat + 0) 0) then K .ret [.one (.int .i64 i)] [] else K .normal [.one (.data (Row.ints .i64 l)), .one (.func (157 : FuncId) []), .one (.int .i64 n), .one (.int .i64 (IntKind.i64.wrap (i + 1)))] [] else False else False else K (.exit 0) [AV.any] []) := by kernel_rfl
theorem exhsa_0 (l : List Int) (K : AV → List Blk → Prop) : evFn Ehsa Tryd.f126 [.one (.data (.ints .i64 l)), .one (.func 127 [])] [] K = ( l.length ≤ 1000000000 ∧ K (.one (.bool (decide (idxA 0 l ≥ 0)))) []) := by kernel_rfl
theorem exhsa_1 (l : List Int) (K : AV → List Blk → Prop) : evFn Ehsa Tryd.f126 [.one (.data (.ints .i64 l)), .one (.func 157 [])] [] K = ( l.length ≤ 1000000000 ∧ K (.one (.bool (decide (idxA 0 l ≥ 0)))) []) := by kernel_rfl
theorem excru (h : List Int) (K : AV → List Blk → Prop) : evFn Ecru Tryd.f67 [.agg [.data (.ints .i64 h)]] [] K = ( h.length ≤ 1000000000 ∧ [bif decide ((↑h.length : Int) > 0) then (0 :Int) else (10 :Int), bif decide ((↑h.length : Int) ≤ 10) then (0 :Int) else (8 :Int), bif !!h.all ansG then (0 :Int) else (2 :Int)].length ≤ 1000 ∧ K (.one (.int .i64 (firstE [bif decide ((↑h.length : Int) > 0) then (0 :Int) else (10 :Int), bif decide ((↑h.length : Int) ≤ 10) then (0 :Int) else (8 :Int), bif !!h.all ansG then (0 :Int) else (2 :Int)]))) []) := by kernel_rfl
theorem exalt (l : List Int) (K : AV → List Blk → Prop) : evFn Ealt Tryd.f125 [.one (.data (.ints .i64 l))] [] K = ( (l.length ≤ 1000000000 ∧ (0 :Int) ≤ (0 :Int)) ∧ bif l.all ansG then K (.one (.bool true)) [] else K (.one (.bool false)) []) := by kernel_rfl
theorem exaltl0a (l : List Int) (i : Int) (K : Ex → List AV → List Blk → Prop) : evBody Ealt (lb Tryd.f125 0) [0, 3] [2] [.one (.data (.ints .i64 l)), .one (.int .i64 i)] [] K = ( bif decide (i < (↑l.length : Int)) then bif decide (0 ≤ i) && decide (i < (↑l.length : Int)) then bif decide (i.toNat + 0 < l.length) then bif !(decide (0 ≤ l.getD (i.toNat + 0) 0) && decide (l.getD (i.toNat + 0) (0 :Int) ≤ (1 :Int))) then K .ret [.one (.bool false)] [] else K .normal [.one (.data (Row.ints .i64 l)), .one (.int .i64 (IntKind.i64.wrap (i + 1)))] [] else False else False else K (.exit 0) [AV.any] []) := by kernel_rfl
theorem explyn (h : List Int) (p : Int) (b0 b1 b2 : Bool) (K : AV → List Blk → Prop) : evFn Eplyn Tryd.f155 [.one (.ptr 0 1 0 0)] [.cells [.data (.ints .i64 h), .int .i64 p, .bool b0, .bool b1, .bool b2, .nil]] K = ( K (.one (.bool (p != (-1 : Int)))) [Blk.cells [SV.data (Row.ints .i64 h), SV.int .i64 p, SV.bool b0, SV.bool b1, SV.bool b2, SV.nil]]) := by kernel_rfl
theorem explyo_0 (h : List Int) (p : Int) (b0 b1 b2 : Bool) (a : List Int) (K : AV → List Blk → Prop) : evFn Eplyo Tryd.f155 [.one (.ptr 0 1 0 0)] [.cells [.data (.ints .i64 h), .int .i64 p, .bool b0, .bool b1, .bool b2, .own 1 1], .row 3 (.ints .i64 a)] K = ( K (.one (.bool (p != (-1 : Int)))) [Blk.cells [SV.data (Row.ints .i64 h), SV.int .i64 p, SV.bool b0, SV.bool b1, SV.bool b2, SV.own 1 1], Blk.row 3 (Row.ints .i64 a)]) := by kernel_rfl
theorem explyo_1 (h : List Int) (p : Int) (b0 b1 b2 : Bool) (m : Nat) (a : List Int) (K : AV → List Blk → Prop) : evFn Eplyo Tryd.f155 [.one (.ptr 0 1 0 0)] [.cells [.data (.ints .i64 h), .int .i64 p, .bool b0, .bool b1, .bool b2, .sub 1 1 0 m], .row 3 (.ints .i64 a)] K = ( K (.one (.bool (p != (-1 : Int)))) [Blk.cells [SV.data (Row.ints .i64 h), SV.int .i64 p, SV.bool b0, SV.bool b1, SV.bool b2, SV.sub 1 1 0 m], Blk.row 3 (Row.ints .i64 a)]) := by kernel_rfl
theorem exendn (h : List Int) (p : Int) (b0 b1 b2 : Bool) (K : AV → List Blk → Prop) : evFn Eendn Tryd.f158 [.one (.ptr 0 1 0 0)] [.cells [.data (.ints .i64 h), .int .i64 p, .bool b0, .bool b1, .bool b2, .nil]] K = ( K (.one (.bool (decide (0 ≥ (↑h.length : Int))))) [Blk.cells [SV.data (Row.ints .i64 h), SV.int .i64 p, SV.bool b0, SV.bool b1, SV.bool b2, SV.nil]]) := by kernel_rfl
theorem exendo_0 (h : List Int) (p : Int) (b0 b1 b2 : Bool) (a : List Int) (K : AV → List Blk → Prop) : evFn Eendo Tryd.f158 [.one (.ptr 0 1 0 0)] [.cells [.data (.ints .i64 h), .int .i64 p, .bool b0, .bool b1, .bool b2, .own 1 1], .row 3 (.ints .i64 a)] K = ( K (.one (.bool (decide ((↑a.length : Int) ≥ (↑h.length : Int))))) [Blk.cells [SV.data (Row.ints .i64 h), SV.int .i64 p, SV.bool b0, SV.bool b1, SV.bool b2, SV.own 1 1], Blk.row 3 (Row.ints .i64 a)]) := by kernel_rfl
theorem exendo_1 (h : List Int) (p : Int) (b0 b1 b2 : Bool) (m : Nat) (a : List Int) (K : AV → List Blk → Prop) : evFn Eendo Tryd.f158 [.one (.ptr 0 1 0 0)] [.cells [.data (.ints .i64 h), .int .i64 p, .bool b0, .bool b1, .bool b2, .sub 1 1 0 m], .row 3 (.ints .i64 a)] K = ( K (.one (.bool (decide ((↑m : Int) ≥ (↑h.length : Int))))) [Blk.cells [SV.data (Row.ints .i64 h), SV.int .i64 p, SV.bool b0, SV.bool b1, SV.bool b2, SV.sub 1 1 0 m], Blk.row 3 (Row.ints .i64 a)]) := by kernel_rfl
theorem exopn (h : List Int) (p : Int) (b0 b1 b2 : Bool) (a : List Int) (K : AV → List Blk → Prop) : evFn Eopn Tryd.f124 [.agg [.data (.ints .i64 h)], .agg [.int .i64 p, .bool b0, .bool b1, .bool b2, .data (.ints .i64 a)]] [] K = ( a.length ≤ 1000000 ∧ (h.length ≤ 1000000000 ∧ bif !p != (-1 : Int) then [ruE h, 0].length ≤ 1000 ∧ bif firstE [ruE h, 0] != 0 then K (AV.tup [TV.one SV.any, .one (.int .i64 (firstE [ruE h, 0]))]) [] else a.length ≤ 1000000000 ∧ bif !decide ((↑a.length : Int) ≥ (↑h.length : Int)) then bif !p != (-1 : Int) then [bif decide ((↑a.length : Int) ≤ (↑h.length : Int)) then (0 :Int) else (8 :Int), bif !!a.all ansG then (0 :Int) else (2 :Int), 0, 0].length ≤ 1000 ∧ K (AV.tup [.one (.ptr 0 1 0 0), .one (.int .i64 (firstE [bif decide ((↑a.length : Int) ≤ (↑h.length : Int)) then (0 :Int) else (8 :Int), bif !!a.all ansG then (0 :Int) else (2 :Int), 0, 0]))]) [Blk.cells [SV.data (Row.ints .i64 h), SV.int .i64 p, SV.bool b0, SV.bool b1, SV.bool b2, SV.own 1 1], Blk.row 3 (Row.ints .i64 a)] else bif decide (0 ≤ p) && decide (p < 3) then bif p == 0 then [bif decide ((↑a.length : Int) ≤ (↑h.length : Int)) then (0 :Int) else (8 :Int), bif !!a.all ansG then (0 :Int) else (2 :Int), 0, bif b0 then (0 :Int) else (3 :Int)].length ≤ 1000 ∧ K (AV.tup [.one (.ptr 0 1 0 0), .one (.int .i64 (firstE [bif decide ((↑a.length : Int) ≤ (↑h.length : Int)) then (0 :Int) else (8 :Int), bif !!a.all ansG then (0 :Int) else (2 :Int), 0, bif b0 then (0 :Int) else (3 :Int)]))]) [Blk.cells [SV.data (Row.ints .i64 h), SV.int .i64 p, SV.bool b0, SV.bool b1, SV.bool b2, SV.own 1 1], Blk.row 3 (Row.ints .i64 a)] else bif p == 1 then [bif decide ((↑a.length : Int) ≤ (↑h.length : Int)) then (0 :Int) else (8 :Int), bif !!a.all ansG then (0 :Int) else (2 :Int), 0, bif b1 then (0 :Int) else (3 :Int)].length ≤ 1000 ∧ K (AV.tup [.one (.ptr 0 1 0 0), .one (.int .i64 (firstE [bif decide ((↑a.length : Int) ≤ (↑h.length : Int)) then (0 :Int) else (8 :Int), bif !!a.all ansG then (0 :Int) else (2 :Int), 0, bif b1 then (0 :Int) else (3 :Int)]))]) [Blk.cells [SV.data (Row.ints .i64 h), SV.int .i64 p, SV.bool b0, SV.bool b1, SV.bool b2, SV.own 1 1], Blk.row 3 (Row.ints .i64 a)] else [bif decide ((↑a.length : Int) ≤ (↑h.length : Int)) then (0 :Int) else (8 :Int), bif !!a.all ansG then (0 :Int) else (2 :Int), 0, bif b2 then (0 :Int) else (3 :Int)].length ≤ 1000 ∧ K (AV.tup [.one (.ptr 0 1 0 0), .one (.int .i64 (firstE [bif decide ((↑a.length : Int) ≤ (↑h.length : Int)) then (0 :Int) else (8 :Int), bif !!a.all ansG then (0 :Int) else (2 :Int), 0, bif b2 then (0 :Int) else (3 :Int)]))]) [Blk.cells [SV.data (Row.ints .i64 h), SV.int .i64 p, SV.bool b0, SV.bool b1, SV.bool b2, SV.own 1 1], Blk.row 3 (Row.ints .i64 a)] else False else bif !p != (-1 : Int) then bif !p != (-1 : Int) then [bif decide ((↑a.length : Int) ≤ (↑h.length : Int)) then (0 :Int) else (8 :Int), bif !!a.all ansG then (0 :Int) else (2 :Int), bif b0 == false && (b1 == false && b2 == false) then (0 :Int) else (21 :Int), 0].length ≤ 1000 ∧ K (AV.tup [.one (.ptr 0 1 0 0), .one (.int .i64 (firstE [bif decide ((↑a.length : Int) ≤ (↑h.length : Int)) then (0 :Int) else (8 :Int), bif !!a.all ansG then (0 :Int) else (2 :Int), bif b0 == false && (b1 == false && b2 == false) then (0 :Int) else (21 :Int), 0]))]) [Blk.cells [SV.data (Row.ints .i64 h), SV.int .i64 p, SV.bool b0, SV.bool b1, SV.bool b2, SV.own 1 1], Blk.row 3 (Row.ints .i64 a)] else bif decide (0 ≤ p) && decide (p < 3) then bif p == 0 then [bif decide ((↑a.length : Int) ≤ (↑h.length : Int)) then (0 :Int) else (8 :Int), bif !!a.all ansG then (0 :Int) else (2 :Int), bif b0 == false && (b1 == false && b2 == false) then (0 :Int) else (21 :Int), bif b0 then (0 :Int) else (3 :Int)].length ≤ 1000 ∧ K (AV.tup [.one (.ptr 0 1 0 0), .one (.int .i64 (firstE [bif decide ((↑a.length : Int) ≤ (↑h.length : Int)) then (0 :Int) else (8 :Int), bif !!a.all ansG then (0 :Int) else (2 :Int), bif b0 == false && (b1 == false && b2 == false) then (0 :Int) else (21 :Int), bif b0 then (0 :Int) else (3 :Int)]))]) [Blk.cells [SV.data (Row.ints .i64 h), SV.int .i64 p, SV.bool b0, SV.bool b1, SV.bool b2, SV.own 1 1], Blk.row 3 (Row.ints .i64 a)] else bif p == 1 then [bif decide ((↑a.length : Int) ≤ (↑h.length : Int)) then (0 :Int) else (8 :Int), bif !!a.all ansG then (0 :Int) else (2 :Int), bif b0 == false && (b1 == false && b2 == false) then (0 :Int) else (21 :Int), bif b1 then (0 :Int) else (3 :Int)].length ≤ 1000 ∧ K (AV.tup [.one (.ptr 0 1 0 0), .one (.int .i64 (firstE [bif decide ((↑a.length : Int) ≤ (↑h.length : Int)) then (0 :Int) else (8 :Int), bif !!a.all ansG then (0 :Int) else (2 :Int), bif b0 == false && (b1 == false && b2 == false) then (0 :Int) else (21 :Int), bif b1 then (0 :Int) else (3 :Int)]))]) [Blk.cells [SV.data (Row.ints .i64 h), SV.int .i64 p, SV.bool b0, SV.bool b1, SV.bool b2, SV.own 1 1], Blk.row 3 (Row.ints .i64 a)] else [bif decide ((↑a.length : Int) ≤ (↑h.length : Int)) then (0 :Int) else (8 :Int), bif !!a.all ansG then (0 :Int) else (2 :Int), bif b0 == false && (b1 == false && b2 == false) then (0 :Int) else (21 :Int), bif b2 then (0 :Int) else (3 :Int)].length ≤ 1000 ∧ K (AV.tup [.one (.ptr 0 1 0 0), .one (.int .i64 (firstE [bif decide ((↑a.length : Int) ≤ (↑h.length : Int)) then (0 :Int) else (8 :Int), bif !!a.all ansG then (0 :Int) else (2 :Int), bif b0 == false && (b1 == false && b2 == false) then (0 :Int) else (21 :Int), bif b2 then (0 :Int) else (3 :Int)]))]) [Blk.cells [SV.data (Row.ints .i64 h), SV.int .i64 p, SV.bool b0, SV.bool b1, SV.bool b2, SV.own 1 1], Blk.row 3 (Row.ints .i64 a)] else False else bif !p != (-1 : Int) then [bif decide ((↑a.length : Int) ≤ (↑h.length : Int)) then (0 :Int) else (8 :Int), bif !!a.all ansG then (0 :Int) else (2 :Int), 21, 0].length ≤ 1000 ∧ K (AV.tup [.one (.ptr 0 1 0 0), .one (.int .i64 (firstE [bif decide ((↑a.length : Int) ≤ (↑h.length : Int)) then (0 :Int) else (8 :Int), bif !!a.all ansG then (0 :Int) else (2 :Int), 21, 0]))]) [Blk.cells [SV.data (Row.ints .i64 h), SV.int .i64 p, SV.bool b0, SV.bool b1, SV.bool b2, SV.own 1 1], Blk.row 3 (Row.ints .i64 a)] else bif decide (0 ≤ p) && decide (p < 3) then bif p == 0 then [bif decide ((↑a.length : Int) ≤ (↑h.length : Int)) then (0 :Int) else (8 :Int), bif !!a.all ansG then (0 :Int) else (2 :Int), 21, bif b0 then (0 :Int) else (3 :Int)].length ≤ 1000 ∧ K (AV.tup [.one (.ptr 0 1 0 0), .one (.int .i64 (firstE [bif decide ((↑a.length : Int) ≤ (↑h.length : Int)) then (0 :Int) else (8 :Int), bif !!a.all ansG then (0 :Int) else (2 :Int), 21, bif b0 then (0 :Int) else (3 :Int)]))]) [Blk.cells [SV.data (Row.ints .i64 h), SV.int .i64 p, SV.bool b0, SV.bool b1, SV.bool b2, SV.own 1 1], Blk.row 3 (Row.ints .i64 a)] else bif p == 1 then [bif decide ((↑a.length : Int) ≤ (↑h.length : Int)) then (0 :Int) else (8 :Int), bif !!a.all ansG then (0 :Int) else (2 :Int), 21, bif b1 then (0 :Int) else (3 :Int)].length ≤ 1000 ∧ K (AV.tup [.one (.ptr 0 1 0 0), .one (.int .i64 (firstE [bif decide ((↑a.length : Int) ≤ (↑h.length : Int)) then (0 :Int) else (8 :Int), bif !!a.all ansG then (0 :Int) else (2 :Int), 21, bif b1 then (0 :Int) else (3 :Int)]))]) [Blk.cells [SV.data (Row.ints .i64 h), SV.int .i64 p, SV.bool b0, SV.bool b1, SV.bool b2, SV.own 1 1], Blk.row 3 (Row.ints .i64 a)] else [bif decide ((↑a.length : Int) ≤ (↑h.length : Int)) then (0 :Int) else (8 :Int), bif !!a.all ansG then (0 :Int) else (2 :Int), 21, bif b2 then (0 :Int) else (3 :Int)].length ≤ 1000 ∧ K (AV.tup [.one (.ptr 0 1 0 0), .one (.int .i64 (firstE [bif decide ((↑a.length : Int) ≤ (↑h.length : Int)) then (0 :Int) else (8 :Int), bif !!a.all ansG then (0 :Int) else (2 :Int), 21, bif b2 then (0 :Int) else (3 :Int)]))]) [Blk.cells [SV.data (Row.ints .i64 h), SV.int .i64 p, SV.bool b0, SV.bool b1, SV.bool b2, SV.own 1 1], Blk.row 3 (Row.ints .i64 a)] else False else [ruE h, bif withinG p 0 2 then (0 :Int) else (2 :Int)].length ≤ 1000 ∧ bif firstE [ruE h, bif withinG p 0 2 then (0 :Int) else (2 :Int)] != 0 then K (AV.tup [TV.one SV.any, .one (.int .i64 (firstE [ruE h, bif withinG p 0 2 then (0 :Int) else (2 :Int)]))]) [] else a.length ≤ 1000000000 ∧ bif !decide ((↑a.length : Int) ≥ (↑h.length : Int)) then bif !p != (-1 : Int) then [bif decide ((↑a.length : Int) ≤ (↑h.length : Int)) then (0 :Int) else (8 :Int), bif !!a.all ansG then (0 :Int) else (2 :Int), 0, 0].length ≤ 1000 ∧ K (AV.tup [.one (.ptr 0 1 0 0), .one (.int .i64 (firstE [bif decide ((↑a.length : Int) ≤ (↑h.length : Int)) then (0 :Int) else (8 :Int), bif !!a.all ansG then (0 :Int) else (2 :Int), 0, 0]))]) [Blk.cells [SV.data (Row.ints .i64 h), SV.int .i64 p, SV.bool b0, SV.bool b1, SV.bool b2, SV.own 1 1], Blk.row 3 (Row.ints .i64 a)] else bif decide (0 ≤ p) && decide (p < 3) then bif p == 0 then [bif decide ((↑a.length : Int) ≤ (↑h.length : Int)) then (0 :Int) else (8 :Int), bif !!a.all ansG then (0 :Int) else (2 :Int), 0, bif b0 then (0 :Int) else (3 :Int)].length ≤ 1000 ∧ K (AV.tup [.one (.ptr 0 1 0 0), .one (.int .i64 (firstE [bif decide ((↑a.length : Int) ≤ (↑h.length : Int)) then (0 :Int) else (8 :Int), bif !!a.all ansG then (0 :Int) else (2 :Int), 0, bif b0 then (0 :Int) else (3 :Int)]))]) [Blk.cells [SV.data (Row.ints .i64 h), SV.int .i64 p, SV.bool b0, SV.bool b1, SV.bool b2, SV.own 1 1], Blk.row 3 (Row.ints .i64 a)] else bif p == 1 then [bif decide ((↑a.length : Int) ≤ (↑h.length : Int)) then (0 :Int) else (8 :Int), bif !!a.all ansG then (0 :Int) else (2 :Int), 0, bif b1 then (0 :Int) else (3 :Int)].length ≤ 1000 ∧ K (AV.tup [.one (.ptr 0 1 0 0), .one (.int .i64 (firstE [bif decide ((↑a.length : Int) ≤ (↑h.length : Int)) then (0 :Int) else (8 :Int), bif !!a.all ansG then (0 :Int) else (2 :Int), 0, bif b1 then (0 :Int) else (3 :Int)]))]) [Blk.cells [SV.data (Row.ints .i64 h), SV.int .i64 p, SV.bool b0, SV.bool b1, SV.bool b2, SV.own 1 1], Blk.row 3 (Row.ints .i64 a)] else [bif decide ((↑a.length : Int) ≤ (↑h.length : Int)) then (0 :Int) else (8 :Int), bif !!a.all ansG then (0 :Int) else (2 :Int), 0, bif b2 then (0 :Int) else (3 :Int)].length ≤ 1000 ∧ K (AV.tup [.one (.ptr 0 1 0 0), .one (.int .i64 (firstE [bif decide ((↑a.length : Int) ≤ (↑h.length : Int)) then (0 :Int) else (8 :Int), bif !!a.all ansG then (0 :Int) else (2 :Int), 0, bif b2 then (0 :Int) else (3 :Int)]))]) [Blk.cells [SV.data (Row.ints .i64 h), SV.int .i64 p, SV.bool b0, SV.bool b1, SV.bool b2, SV.own 1 1], Blk.row 3 (Row.ints .i64 a)] else False else bif !p != (-1 : Int) then bif !p != (-1 : Int) then [bif decide ((↑a.length : Int) ≤ (↑h.length : Int)) then (0 :Int) else (8 :Int), bif !!a.all ansG then (0 :Int) else (2 :Int), bif b0 == false && (b1 == false && b2 == false) then (0 :Int) else (21 :Int), 0].length ≤ 1000 ∧ K (AV.tup [.one (.ptr 0 1 0 0), .one (.int .i64 (firstE [bif decide ((↑a.length : Int) ≤ (↑h.length : Int)) then (0 :Int) else (8 :Int), bif !!a.all ansG then (0 :Int) else (2 :Int), bif b0 == false && (b1 == false && b2 == false) then (0 :Int) else (21 :Int), 0]))]) [Blk.cells [SV.data (Row.ints .i64 h), SV.int .i64 p, SV.bool b0, SV.bool b1, SV.bool b2, SV.own 1 1], Blk.row 3 (Row.ints .i64 a)] else bif decide (0 ≤ p) && decide (p < 3) then bif p == 0 then [bif decide ((↑a.length : Int) ≤ (↑h.length : Int)) then (0 :Int) else (8 :Int), bif !!a.all ansG then (0 :Int) else (2 :Int), bif b0 == false && (b1 == false && b2 == false) then (0 :Int) else (21 :Int), bif b0 then (0 :Int) else (3 :Int)].length ≤ 1000 ∧ K (AV.tup [.one (.ptr 0 1 0 0), .one (.int .i64 (firstE [bif decide ((↑a.length : Int) ≤ (↑h.length : Int)) then (0 :Int) else (8 :Int), bif !!a.all ansG then (0 :Int) else (2 :Int), bif b0 == false && (b1 == false && b2 == false) then (0 :Int) else (21 :Int), bif b0 then (0 :Int) else (3 :Int)]))]) [Blk.cells [SV.data (Row.ints .i64 h), SV.int .i64 p, SV.bool b0, SV.bool b1, SV.bool b2, SV.own 1 1], Blk.row 3 (Row.ints .i64 a)] else bif p == 1 then [bif decide ((↑a.length : Int) ≤ (↑h.length : Int)) then (0 :Int) else (8 :Int), bif !!a.all ansG then (0 :Int) else (2 :Int), bif b0 == false && (b1 == false && b2 == false) then (0 :Int) else (21 :Int), bif b1 then (0 :Int) else (3 :Int)].length ≤ 1000 ∧ K (AV.tup [.one (.ptr 0 1 0 0), .one (.int .i64 (firstE [bif decide ((↑a.length : Int) ≤ (↑h.length : Int)) then (0 :Int) else (8 :Int), bif !!a.all ansG then (0 :Int) else (2 :Int), bif b0 == false && (b1 == false && b2 == false) then (0 :Int) else (21 :Int), bif b1 then (0 :Int) else (3 :Int)]))]) [Blk.cells [SV.data (Row.ints .i64 h), SV.int .i64 p, SV.bool b0, SV.bool b1, SV.bool b2, SV.own 1 1], Blk.row 3 (Row.ints .i64 a)] else [bif decide ((↑a.length : Int) ≤ (↑h.length : Int)) then (0 :Int) else (8 :Int), bif !!a.all ansG then (0 :Int) else (2 :Int), bif b0 == false && (b1 == false && b2 == false) then (0 :Int) else (21 :Int), bif b2 then (0 :Int) else (3 :Int)].length ≤ 1000 ∧ K (AV.tup [.one (.ptr 0 1 0 0), .one (.int .i64 (firstE [bif decide ((↑a.length : Int) ≤ (↑h.length : Int)) then (0 :Int) else (8 :Int), bif !!a.all ansG then (0 :Int) else (2 :Int), bif b0 == false && (b1 == false && b2 == false) then (0 :Int) else (21 :Int), bif b2 then (0 :Int) else (3 :Int)]))]) [Blk.cells [SV.data (Row.ints .i64 h), SV.int .i64 p, SV.bool b0, SV.bool b1, SV.bool b2, SV.own 1 1], Blk.row 3 (Row.ints .i64 a)] else False else bif !p != (-1 : Int) then [bif decide ((↑a.length : Int) ≤ (↑h.length : Int)) then (0 :Int) else (8 :Int), bif !!a.all ansG then (0 :Int) else (2 :Int), 21, 0].length ≤ 1000 ∧ K (AV.tup [.one (.ptr 0 1 0 0), .one (.int .i64 (firstE [bif decide ((↑a.length : Int) ≤ (↑h.length : Int)) then (0 :Int) else (8 :Int), bif !!a.all ansG then (0 :Int) else (2 :Int), 21, 0]))]) [Blk.cells [SV.data (Row.ints .i64 h), SV.int .i64 p, SV.bool b0, SV.bool b1, SV.bool b2, SV.own 1 1], Blk.row 3 (Row.ints .i64 a)] else bif decide (0 ≤ p) && decide (p < 3) then bif p == 0 then [bif decide ((↑a.length : Int) ≤ (↑h.length : Int)) then (0 :Int) else (8 :Int), bif !!a.all ansG then (0 :Int) else (2 :Int), 21, bif b0 then (0 :Int) else (3 :Int)].length ≤ 1000 ∧ K (AV.tup [.one (.ptr 0 1 0 0), .one (.int .i64 (firstE [bif decide ((↑a.length : Int) ≤ (↑h.length : Int)) then (0 :Int) else (8 :Int), bif !!a.all ansG then (0 :Int) else (2 :Int), 21, bif b0 then (0 :Int) else (3 :Int)]))]) [Blk.cells [SV.data (Row.ints .i64 h), SV.int .i64 p, SV.bool b0, SV.bool b1, SV.bool b2, SV.own 1 1], Blk.row 3 (Row.ints .i64 a)] else bif p == 1 then [bif decide ((↑a.length : Int) ≤ (↑h.length : Int)) then (0 :Int) else (8 :Int), bif !!a.all ansG then (0 :Int) else (2 :Int), 21, bif b1 then (0 :Int) else (3 :Int)].length ≤ 1000 ∧ K (AV.tup [.one (.ptr 0 1 0 0), .one (.int .i64 (firstE [bif decide ((↑a.length : Int) ≤ (↑h.length : Int)) then (0 :Int) else (8 :Int), bif !!a.all ansG then (0 :Int) else (2 :Int), 21, bif b1 then (0 :Int) else (3 :Int)]))]) [Blk.cells [SV.data (Row.ints .i64 h), SV.int .i64 p, SV.bool b0, SV.bool b1, SV.bool b2, SV.own 1 1], Blk.row 3 (Row.ints .i64 a)] else [bif decide ((↑a.length : Int) ≤ (↑h.length : Int)) then (0 :Int) else (8 :Int), bif !!a.all ansG then (0 :Int) else (2 :Int), 21, bif b2 then (0 :Int) else (3 :Int)].length ≤ 1000 ∧ K (AV.tup [.one (.ptr 0 1 0 0), .one (.int .i64 (firstE [bif decide ((↑a.length : Int) ≤ (↑h.length : Int)) then (0 :Int) else (8 :Int), bif !!a.all ansG then (0 :Int) else (2 :Int), 21, bif b2 then (0 :Int) else (3 :Int)]))]) [Blk.cells [SV.data (Row.ints .i64 h), SV.int .i64 p, SV.bool b0, SV.bool b1, SV.bool b2, SV.own 1 1], Blk.row 3 (Row.ints .i64 a)] else False) ∧ (a = [] → h.length ≤ 1000000000 ∧ bif !p != (-1 : Int) then [ruE h, 0].length ≤ 1000 ∧ bif firstE [ruE h, 0] != 0 then K (AV.tup [TV.one SV.any, .one (.int .i64 (firstE [ruE h, 0]))]) [] else a.length ≤ 1000000000 ∧ bif !decide (0 ≥ (↑h.length : Int)) then bif !p != (-1 : Int) then [bif decide ((↑a.length : Int) ≤ (↑h.length : Int)) then (0 :Int) else (8 :Int), bif !!a.all ansG then (0 :Int) else (2 :Int), 0, 0].length ≤ 1000 ∧ K (AV.tup [.one (.ptr 0 1 0 0), .one (.int .i64 (firstE [bif decide ((↑a.length : Int) ≤ (↑h.length : Int)) then (0 :Int) else (8 :Int), bif !!a.all ansG then (0 :Int) else (2 :Int), 0, 0]))]) [Blk.cells [SV.data (Row.ints .i64 h), SV.int .i64 p, SV.bool b0, SV.bool b1, SV.bool b2, SV.nil]] else bif decide (0 ≤ p) && decide (p < 3) then bif p == 0 then [bif decide ((↑a.length : Int) ≤ (↑h.length : Int)) then (0 :Int) else (8 :Int), bif !!a.all ansG then (0 :Int) else (2 :Int), 0, bif b0 then (0 :Int) else (3 :Int)].length ≤ 1000 ∧ K (AV.tup [.one (.ptr 0 1 0 0), .one (.int .i64 (firstE [bif decide ((↑a.length : Int) ≤ (↑h.length : Int)) then (0 :Int) else (8 :Int), bif !!a.all ansG then (0 :Int) else (2 :Int), 0, bif b0 then (0 :Int) else (3 :Int)]))]) [Blk.cells [SV.data (Row.ints .i64 h), SV.int .i64 p, SV.bool b0, SV.bool b1, SV.bool b2, SV.nil]] else bif p == 1 then [bif decide ((↑a.length : Int) ≤ (↑h.length : Int)) then (0 :Int) else (8 :Int), bif !!a.all ansG then (0 :Int) else (2 :Int), 0, bif b1 then (0 :Int) else (3 :Int)].length ≤ 1000 ∧ K (AV.tup [.one (.ptr 0 1 0 0), .one (.int .i64 (firstE [bif decide ((↑a.length : Int) ≤ (↑h.length : Int)) then (0 :Int) else (8 :Int), bif !!a.all ansG then (0 :Int) else (2 :Int), 0, bif b1 then (0 :Int) else (3 :Int)]))]) [Blk.cells [SV.data (Row.ints .i64 h), SV.int .i64 p, SV.bool b0, SV.bool b1, SV.bool b2, SV.nil]] else [bif decide ((↑a.length : Int) ≤ (↑h.length : Int)) then (0 :Int) else (8 :Int), bif !!a.all ansG then (0 :Int) else (2 :Int), 0, bif b2 then (0 :Int) else (3 :Int)].length ≤ 1000 ∧ K (AV.tup [.one (.ptr 0 1 0 0), .one (.int .i64 (firstE [bif decide ((↑a.length : Int) ≤ (↑h.length : Int)) then (0 :Int) else (8 :Int), bif !!a.all ansG then (0 :Int) else (2 :Int), 0, bif b2 then (0 :Int) else (3 :Int)]))]) [Blk.cells [SV.data (Row.ints .i64 h), SV.int .i64 p, SV.bool b0, SV.bool b1, SV.bool b2, SV.nil]] else False else bif !p != (-1 : Int) then bif !p != (-1 : Int) then [bif decide ((↑a.length : Int) ≤ (↑h.length : Int)) then (0 :Int) else (8 :Int), bif !!a.all ansG then (0 :Int) else (2 :Int), bif b0 == false && (b1 == false && b2 == false) then (0 :Int) else (21 :Int), 0].length ≤ 1000 ∧ K (AV.tup [.one (.ptr 0 1 0 0), .one (.int .i64 (firstE [bif decide ((↑a.length : Int) ≤ (↑h.length : Int)) then (0 :Int) else (8 :Int), bif !!a.all ansG then (0 :Int) else (2 :Int), bif b0 == false && (b1 == false && b2 == false) then (0 :Int) else (21 :Int), 0]))]) [Blk.cells [SV.data (Row.ints .i64 h), SV.int .i64 p, SV.bool b0, SV.bool b1, SV.bool b2, SV.nil]] else bif decide (0 ≤ p) && decide (p < 3) then bif p == 0 then [bif decide ((↑a.length : Int) ≤ (↑h.length : Int)) then (0 :Int) else (8 :Int), bif !!a.all ansG then (0 :Int) else (2 :Int), bif b0 == false && (b1 == false && b2 == false) then (0 :Int) else (21 :Int), bif b0 then (0 :Int) else (3 :Int)].length ≤ 1000 ∧ K (AV.tup [.one (.ptr 0 1 0 0), .one (.int .i64 (firstE [bif decide ((↑a.length : Int) ≤ (↑h.length : Int)) then (0 :Int) else (8 :Int), bif !!a.all ansG then (0 :Int) else (2 :Int), bif b0 == false && (b1 == false && b2 == false) then (0 :Int) else (21 :Int), bif b0 then (0 :Int) else (3 :Int)]))]) [Blk.cells [SV.data (Row.ints .i64 h), SV.int .i64 p, SV.bool b0, SV.bool b1, SV.bool b2, SV.nil]] else bif p == 1 then [bif decide ((↑a.length : Int) ≤ (↑h.length : Int)) then (0 :Int) else (8 :Int), bif !!a.all ansG then (0 :Int) else (2 :Int), bif b0 == false && (b1 == false && b2 == false) then (0 :Int) else (21 :Int), bif b1 then (0 :Int) else (3 :Int)].length ≤ 1000 ∧ K (AV.tup [.one (.ptr 0 1 0 0), .one (.int .i64 (firstE [bif decide ((↑a.length : Int) ≤ (↑h.length : Int)) then (0 :Int) else (8 :Int), bif !!a.all ansG then (0 :Int) else (2 :Int), bif b0 == false && (b1 == false && b2 == false) then (0 :Int) else (21 :Int), bif b1 then (0 :Int) else (3 :Int)]))]) [Blk.cells [SV.data (Row.ints .i64 h), SV.int .i64 p, SV.bool b0, SV.bool b1, SV.bool b2, SV.nil]] else [bif decide ((↑a.length : Int) ≤ (↑h.length : Int)) then (0 :Int) else (8 :Int), bif !!a.all ansG then (0 :Int) else (2 :Int), bif b0 == false && (b1 == false && b2 == false) then (0 :Int) else (21 :Int), bif b2 then (0 :Int) else (3 :Int)].length ≤ 1000 ∧ K (AV.tup [.one (.ptr 0 1 0 0), .one (.int .i64 (firstE [bif decide ((↑a.length : Int) ≤ (↑h.length : Int)) then (0 :Int) else (8 :Int), bif !!a.all ansG then (0 :Int) else (2 :Int), bif b0 == false && (b1 == false && b2 == false) then (0 :Int) else (21 :Int), bif b2 then (0 :Int) else (3 :Int)]))]) [Blk.cells [SV.data (Row.ints .i64 h), SV.int .i64 p, SV.bool b0, SV.bool b1, SV.bool b2, SV.nil]] else False else bif !p != (-1 : Int) then [bif decide ((↑a.length : Int) ≤ (↑h.length : Int)) then (0 :Int) else (8 :Int), bif !!a.all ansG then (0 :Int) else (2 :Int), 21, 0].length ≤ 1000 ∧ K (AV.tup [.one (.ptr 0 1 0 0), .one (.int .i64 (firstE [bif decide ((↑a.length : Int) ≤ (↑h.length : Int)) then (0 :Int) else (8 :Int), bif !!a.all ansG then (0 :Int) else (2 :Int), 21, 0]))]) [Blk.cells [SV.data (Row.ints .i64 h), SV.int .i64 p, SV.bool b0, SV.bool b1, SV.bool b2, SV.nil]] else bif decide (0 ≤ p) && decide (p < 3) then bif p == 0 then [bif decide ((↑a.length : Int) ≤ (↑h.length : Int)) then (0 :Int) else (8 :Int), bif !!a.all ansG then (0 :Int) else (2 :Int), 21, bif b0 then (0 :Int) else (3 :Int)].length ≤ 1000 ∧ K (AV.tup [.one (.ptr 0 1 0 0), .one (.int .i64 (firstE [bif decide ((↑a.length : Int) ≤ (↑h.length : Int)) then (0 :Int) else (8 :Int), bif !!a.all ansG then (0 :Int) else (2 :Int), 21, bif b0 then (0 :Int) else (3 :Int)]))]) [Blk.cells [SV.data (Row.ints .i64 h), SV.int .i64 p, SV.bool b0, SV.bool b1, SV.bool b2, SV.nil]] else bif p == 1 then [bif decide ((↑a.length : Int) ≤ (↑h.length : Int)) then (0 :Int) else (8 :Int), bif !!a.all ansG then (0 :Int) else (2 :Int), 21, bif b1 then (0 :Int) else (3 :Int)].length ≤ 1000 ∧ K (AV.tup [.one (.ptr 0 1 0 0), .one (.int .i64 (firstE [bif decide ((↑a.length : Int) ≤ (↑h.length : Int)) then (0 :Int) else (8 :Int), bif !!a.all ansG then (0 :Int) else (2 :Int), 21, bif b1 then (0 :Int) else (3 :Int)]))]) [Blk.cells [SV.data (Row.ints .i64 h), SV.int .i64 p, SV.bool b0, SV.bool b1, SV.bool b2, SV.nil]] else [bif decide ((↑a.length : Int) ≤ (↑h.length : Int)) then (0 :Int) else (8 :Int), bif !!a.all ansG then (0 :Int) else (2 :Int), 21, bif b2 then (0 :Int) else (3 :Int)].length ≤ 1000 ∧ K (AV.tup [.one (.ptr 0 1 0 0), .one (.int .i64 (firstE [bif decide ((↑a.length : Int) ≤ (↑h.length : Int)) then (0 :Int) else (8 :Int), bif !!a.all ansG then (0 :Int) else (2 :Int), 21, bif b2 then (0 :Int) else (3 :Int)]))]) [Blk.cells [SV.data (Row.ints .i64 h), SV.int .i64 p, SV.bool b0, SV.bool b1, SV.bool b2, SV.nil]] else False else [ruE h, bif withinG p 0 2 then (0 :Int) else (2 :Int)].length ≤ 1000 ∧ bif firstE [ruE h, bif withinG p 0 2 then (0 :Int) else (2 :Int)] != 0 then K (AV.tup [TV.one SV.any, .one (.int .i64 (firstE [ruE h, bif withinG p 0 2 then (0 :Int) else (2 :Int)]))]) [] else a.length ≤ 1000000000 ∧ bif !decide (0 ≥ (↑h.length : Int)) then bif !p != (-1 : Int) then [bif decide ((↑a.length : Int) ≤ (↑h.length : Int)) then (0 :Int) else (8 :Int), bif !!a.all ansG then (0 :Int) else (2 :Int), 0, 0].length ≤ 1000 ∧ K (AV.tup [.one (.ptr 0 1 0 0), .one (.int .i64 (firstE [bif decide ((↑a.length : Int) ≤ (↑h.length : Int)) then (0 :Int) else (8 :Int), bif !!a.all ansG then (0 :Int) else (2 :Int), 0, 0]))]) [Blk.cells [SV.data (Row.ints .i64 h), SV.int .i64 p, SV.bool b0, SV.bool b1, SV.bool b2, SV.nil]] else bif decide (0 ≤ p) && decide (p < 3) then bif p == 0 then [bif decide ((↑a.length : Int) ≤ (↑h.length : Int)) then (0 :Int) else (8 :Int), bif !!a.all ansG then (0 :Int) else (2 :Int), 0, bif b0 then (0 :Int) else (3 :Int)].length ≤ 1000 ∧ K (AV.tup [.one (.ptr 0 1 0 0), .one (.int .i64 (firstE [bif decide ((↑a.length : Int) ≤ (↑h.length : Int)) then (0 :Int) else (8 :Int), bif !!a.all ansG then (0 :Int) else (2 :Int), 0, bif b0 then (0 :Int) else (3 :Int)]))]) [Blk.cells [SV.data (Row.ints .i64 h), SV.int .i64 p, SV.bool b0, SV.bool b1, SV.bool b2, SV.nil]] else bif p == 1 then [bif decide ((↑a.length : Int) ≤ (↑h.length : Int)) then (0 :Int) else (8 :Int), bif !!a.all ansG then (0 :Int) else (2 :Int), 0, bif b1 then (0 :Int) else (3 :Int)].length ≤ 1000 ∧ K (AV.tup [.one (.ptr 0 1 0 0), .one (.int .i64 (firstE [bif decide ((↑a.length : Int) ≤ (↑h.length : Int)) then (0 :Int) else (8 :Int), bif !!a.all ansG then (0 :Int) else (2 :Int), 0, bif b1 then (0 :Int) else (3 :Int)]))]) [Blk.cells [SV.data (Row.ints .i64 h), SV.int .i64 p, SV.bool b0, SV.bool b1, SV.bool b2, SV.nil]] else [bif decide ((↑a.length : Int) ≤ (↑h.length : Int)) then (0 :Int) else (8 :Int), bif !!a.all ansG then (0 :Int) else (2 :Int), 0, bif b2 then (0 :Int) else (3 :Int)].length ≤ 1000 ∧ K (AV.tup [.one (.ptr 0 1 0 0), .one (.int .i64 (firstE [bif decide ((↑a.length : Int) ≤ (↑h.length : Int)) then (0 :Int) else (8 :Int), bif !!a.all ansG then (0 :Int) else (2 :Int), 0, bif b2 then (0 :Int) else (3 :Int)]))]) [Blk.cells [SV.data (Row.ints .i64 h), SV.int .i64 p, SV.bool b0, SV.bool b1, SV.bool b2, SV.nil]] else False else bif !p != (-1 : Int) then bif !p != (-1 : Int) then [bif decide ((↑a.length : Int) ≤ (↑h.length : Int)) then (0 :Int) else (8 :Int), bif !!a.all ansG then (0 :Int) else (2 :Int), bif b0 == false && (b1 == false && b2 == false) then (0 :Int) else (21 :Int), 0].length ≤ 1000 ∧ K (AV.tup [.one (.ptr 0 1 0 0), .one (.int .i64 (firstE [bif decide ((↑a.length : Int) ≤ (↑h.length : Int)) then (0 :Int) else (8 :Int), bif !!a.all ansG then (0 :Int) else (2 :Int), bif b0 == false && (b1 == false && b2 == false) then (0 :Int) else (21 :Int), 0]))]) [Blk.cells [SV.data (Row.ints .i64 h), SV.int .i64 p, SV.bool b0, SV.bool b1, SV.bool b2, SV.nil]] else bif decide (0 ≤ p) && decide (p < 3) then bif p == 0 then [bif decide ((↑a.length : Int) ≤ (↑h.length : Int)) then (0 :Int) else (8 :Int), bif !!a.all ansG then (0 :Int) else (2 :Int), bif b0 == false && (b1 == false && b2 == false) then (0 :Int) else (21 :Int), bif b0 then (0 :Int) else (3 :Int)].length ≤ 1000 ∧ K (AV.tup [.one (.ptr 0 1 0 0), .one (.int .i64 (firstE [bif decide ((↑a.length : Int) ≤ (↑h.length : Int)) then (0 :Int) else (8 :Int), bif !!a.all ansG then (0 :Int) else (2 :Int), bif b0 == false && (b1 == false && b2 == false) then (0 :Int) else (21 :Int), bif b0 then (0 :Int) else (3 :Int)]))]) [Blk.cells [SV.data (Row.ints .i64 h), SV.int .i64 p, SV.bool b0, SV.bool b1, SV.bool b2, SV.nil]] else bif p == 1 then [bif decide ((↑a.length : Int) ≤ (↑h.length : Int)) then (0 :Int) else (8 :Int), bif !!a.all ansG then (0 :Int) else (2 :Int), bif b0 == false && (b1 == false && b2 == false) then (0 :Int) else (21 :Int), bif b1 then (0 :Int) else (3 :Int)].length ≤ 1000 ∧ K (AV.tup [.one (.ptr 0 1 0 0), .one (.int .i64 (firstE [bif decide ((↑a.length : Int) ≤ (↑h.length : Int)) then (0 :Int) else (8 :Int), bif !!a.all ansG then (0 :Int) else (2 :Int), bif b0 == false && (b1 == false && b2 == false) then (0 :Int) else (21 :Int), bif b1 then (0 :Int) else (3 :Int)]))]) [Blk.cells [SV.data (Row.ints .i64 h), SV.int .i64 p, SV.bool b0, SV.bool b1, SV.bool b2, SV.nil]] else [bif decide ((↑a.length : Int) ≤ (↑h.length : Int)) then (0 :Int) else (8 :Int), bif !!a.all ansG then (0 :Int) else (2 :Int), bif b0 == false && (b1 == false && b2 == false) then (0 :Int) else (21 :Int), bif b2 then (0 :Int) else (3 :Int)].length ≤ 1000 ∧ K (AV.tup [.one (.ptr 0 1 0 0), .one (.int .i64 (firstE [bif decide ((↑a.length : Int) ≤ (↑h.length : Int)) then (0 :Int) else (8 :Int), bif !!a.all ansG then (0 :Int) else (2 :Int), bif b0 == false && (b1 == false && b2 == false) then (0 :Int) else (21 :Int), bif b2 then (0 :Int) else (3 :Int)]))]) [Blk.cells [SV.data (Row.ints .i64 h), SV.int .i64 p, SV.bool b0, SV.bool b1, SV.bool b2, SV.nil]] else False else bif !p != (-1 : Int) then [bif decide ((↑a.length : Int) ≤ (↑h.length : Int)) then (0 :Int) else (8 :Int), bif !!a.all ansG then (0 :Int) else (2 :Int), 21, 0].length ≤ 1000 ∧ K (AV.tup [.one (.ptr 0 1 0 0), .one (.int .i64 (firstE [bif decide ((↑a.length : Int) ≤ (↑h.length : Int)) then (0 :Int) else (8 :Int), bif !!a.all ansG then (0 :Int) else (2 :Int), 21, 0]))]) [Blk.cells [SV.data (Row.ints .i64 h), SV.int .i64 p, SV.bool b0, SV.bool b1, SV.bool b2, SV.nil]] else bif decide (0 ≤ p) && decide (p < 3) then bif p == 0 then [bif decide ((↑a.length : Int) ≤ (↑h.length : Int)) then (0 :Int) else (8 :Int), bif !!a.all ansG then (0 :Int) else (2 :Int), 21, bif b0 then (0 :Int) else (3 :Int)].length ≤ 1000 ∧ K (AV.tup [.one (.ptr 0 1 0 0), .one (.int .i64 (firstE [bif decide ((↑a.length : Int) ≤ (↑h.length : Int)) then (0 :Int) else (8 :Int), bif !!a.all ansG then (0 :Int) else (2 :Int), 21, bif b0 then (0 :Int) else (3 :Int)]))]) [Blk.cells [SV.data (Row.ints .i64 h), SV.int .i64 p, SV.bool b0, SV.bool b1, SV.bool b2, SV.nil]] else bif p == 1 then [bif decide ((↑a.length : Int) ≤ (↑h.length : Int)) then (0 :Int) else (8 :Int), bif !!a.all ansG then (0 :Int) else (2 :Int), 21, bif b1 then (0 :Int) else (3 :Int)].length ≤ 1000 ∧ K (AV.tup [.one (.ptr 0 1 0 0), .one (.int .i64 (firstE [bif decide ((↑a.length : Int) ≤ (↑h.length : Int)) then (0 :Int) else (8 :Int), bif !!a.all ansG then (0 :Int) else (2 :Int), 21, bif b1 then (0 :Int) else (3 :Int)]))]) [Blk.cells [SV.data (Row.ints .i64 h), SV.int .i64 p, SV.bool b0, SV.bool b1, SV.bool b2, SV.nil]] else [bif decide ((↑a.length : Int) ≤ (↑h.length : Int)) then (0 :Int) else (8 :Int), bif !!a.all ansG then (0 :Int) else (2 :Int), 21, bif b2 then (0 :Int) else (3 :Int)].length ≤ 1000 ∧ K (AV.tup [.one (.ptr 0 1 0 0), .one (.int .i64 (firstE [bif decide ((↑a.length : Int) ≤ (↑h.length : Int)) then (0 :Int) else (8 :Int), bif !!a.all ansG then (0 :Int) else (2 :Int), 21, bif b2 then (0 :Int) else (3 :Int)]))]) [Blk.cells [SV.data (Row.ints .i64 h), SV.int .i64 p, SV.bool b0, SV.bool b1, SV.bool b2, SV.nil]] else False)) := by kernel_rfl
theorem exbgn (h : List Int) (K : AV → List Blk → Prop) : evFn Ebgn Tryd.f123 [.agg [.data (.ints .i64 h)]] [] K = ( K (.one (.ptr 0 1 0 0)) [Blk.cells [SV.data (Row.ints .i64 h), SV.int .i64 (-1 : Int), SV.bool false, SV.bool false, SV.bool false, SV.nil]]) := by kernel_rfl
theorem excpR (h : List Int) (K : AV → List Blk → Prop) : evFn EcpR Tryd.f63 [.agg [.data (.ints .i64 h)]] [] K = ( h.length ≤ 1000000000000 ∧ K (AV.agg [SV.data (Row.ints .i64 h)]) []) := by kernel_rfl
theorem excpS (p : Int) (b0 b1 b2 : Bool) (a : List Int) (K : AV → List Blk → Prop) : evFn EcpS Tryd.f65 [.agg [.int .i64 p, .bool b0, .bool b1, .bool b2, .data (.ints .i64 a)]] [] K = ( a.length ≤ 1000000000000 ∧ K (AV.agg [SV.int .i64 p, SV.bool b0, SV.bool b1, SV.bool b2, SV.data (Row.ints .i64 a)]) []) := by kernel_rfl
theorem exsco (h : List Int) (p : Int) (b0 b1 b2 : Bool) (a : List Int) (K : AV → List Blk → Prop) : evFn Esco Tryd.f64 [.agg [.data (.ints .i64 h)], .agg [.int .i64 p, .bool b0, .bool b1, .bool b2, .data (.ints .i64 a)]] [] K = ( (h.length ≤ 1000000000 ∧ a.length ≤ 1000000) ∧ bif opE h p == 0 then (bif stE2 h p b0 b1 b2 a != 0 then K (AV.tup [.one (.int .i64 0), .one (.int .i64 (stE2 h p b0 b1 b2 a))]) [] else ((↑a.length : Int) = (↑a.length : Int) ∧ a.length ≤ h.length ∧ h.length ≤ 1000000 ∧ (0 :Int) ≤ (0 :Int) ∧ 0 ≤ (↑a.length : Int) ∧ (0 :Int) ≤ (0 :Int) ∧ (0 :Int) ≤ (0 :Int)) ∧ K (AV.tup [.one (.int .i64 (0 + scG a h)), .one (.int .i64 0)]) []) ∧ (a = [] → bif stE2 h p b0 b1 b2 a != 0 then K (AV.tup [.one (.int .i64 0), .one (.int .i64 (stE2 h p b0 b1 b2 a))]) [] else ((0 :Int) = (0 :Int) ∧ (0 :Int) = (0 :Int)) ∧ K (AV.tup [.one (.int .i64 0), .one (.int .i64 0)]) []) else bif opE h p != 0 then K (AV.tup [.one (.int .i64 0), .one (.int .i64 (opE h p))]) [] else False) := by kernel_rfl
theorem exscol0a (s n i : Int) (h : List Int) (p : Int) (b0 b1 b2 : Bool) (K : Ex → List AV → List Blk → Prop) : evBody Esco (lb Tryd.f64 0) [6, 8, 24, 25, 26] [8] [.one (.ptr 0 1 0 0), .one (.int .i64 s), .one .nil, .one (.int .i64 n), .one (.int .i64 i)] [.cells [.data (.ints .i64 h), .int .i64 p, .bool b0, .bool b1, .bool b2, .nil]] K = ( bif decide (i < n) then False else K (.exit 0) [.one (.int .i64 s)] []) := by kernel_rfl
theorem exscol0b (s n i : Int) (h : List Int) (p : Int) (b0 b1 b2 : Bool) (a : List Int) (K : Ex → List AV → List Blk → Prop) : evBody Esco (lb Tryd.f64 0) [6, 8, 24, 25, 26] [8] [.one (.ptr 0 1 0 0), .one (.int .i64 s), .one (.own 1 1), .one (.int .i64 n), .one (.int .i64 i)] [.cells [.data (.ints .i64 h), .int .i64 p, .bool b0, .bool b1, .bool b2, .own 1 1], .row 3 (.ints .i64 a)] K = ( bif decide (i < n) then bif decide (0 ≤ i) && decide (i < (↑a.length : Int)) then bif decide (i.toNat + 0 < a.length) then bif decide (0 ≤ i) && decide (i < (↑h.length : Int)) then bif decide (i.toNat + 0 < h.length) then bif a.getD (i.toNat + 0) 0 == h.getD (i.toNat + 0) 0 then K .normal [.one (.ptr 0 1 0 0), .one (.int .i64 (IntKind.i64.wrap (s + 1))), .one (.own 1 1), .one (.int .i64 n), .one (.int .i64 (IntKind.i64.wrap (i + 1)))] [Blk.cells [SV.data (Row.ints .i64 h), SV.int .i64 p, SV.bool b0, SV.bool b1, SV.bool b2, SV.own 1 1], Blk.row 3 (Row.ints .i64 a)] else K .normal [.one (.ptr 0 1 0 0), .one (.int .i64 s), .one (.own 1 1), .one (.int .i64 n), .one (.int .i64 (IntKind.i64.wrap (i + 1)))] [Blk.cells [SV.data (Row.ints .i64 h), SV.int .i64 p, SV.bool b0, SV.bool b1, SV.bool b2, SV.own 1 1], Blk.row 3 (Row.ints .i64 a)] else False else False else False else False else K (.exit 0) [.one (.int .i64 s)] []) := by kernel_rfl
end Go.Ev

/-
  Chapter 9: rules, states and scores of sessions: the contracts are kept.
-/
namespace Go.Ev
open Go Go.Proofs
attribute [local irreducible] evFn evBody evRound
set_option maxRecDepth 20000
theorem okisa : SpecOK Tryd.prog 128 isaS := by
  refine specOK (n := 5) (m := 0) (lps := []) (.cons ok71 .nil) Tryd.func128 (by kernel_rfl) (by kernel_rfl) (noLoops (by kernel_rfl)) fun args σ K h => ?_
  unfold isaS at h
  split at h
  rotate_right
  · exact h.elim
  rename_i n
  rw [exisa n K]; exact h
theorem okiss : SpecOK Tryd.prog 156 issS := by
  refine specOK (n := 5) (m := 0) (lps := []) (.cons ok71 .nil) Tryd.func156 (by kernel_rfl) (by kernel_rfl) (noLoops (by kernel_rfl)) fun args σ K h => ?_
  unfold issS at h
  split at h
  rotate_right
  · exact h.elim
  rename_i n
  rw [exiss n K]; exact h
theorem okcr1 : SpecOK Tryd.prog 127 nsaS := by
  refine specOK (n := 6) (m := 0) (lps := []) (.cons okisa .nil) Tryd.func127 (by kernel_rfl) (by kernel_rfl) (noLoops (by kernel_rfl)) fun args σ K h => ?_
  unfold nsaS at h
  split at h
  rotate_right
  · exact h.elim
  rename_i n
  rw [excr1 n K]; exact h
theorem okop1 : SpecOK Tryd.prog 157 nsaS := by
  refine specOK (n := 6) (m := 0) (lps := []) (.cons okisa .nil) Tryd.func157 (by kernel_rfl) (by kernel_rfl) (noLoops (by kernel_rfl)) fun args σ K h => ?_
  unfold nsaS at h
  split at h
  rotate_right
  · exact h.elim
  rename_i n
  rw [exop1 n K]; exact h
theorem lokixa_0 : LoopOK Eixa (lb Tryd.f114 0) [0, 1, 7, 8] [4] idxAL := by
  refine loopOK (.cons okcr1 (.cons okop1 .nil)) (noInner (by kernel_rfl)) (fun vs σ => match vs, σ with
    | [.one (.data (.ints .i64 l)), .one (.func 127 []), .one (.int .i64 _), .one (.int .i64 i)], [] => l.length - i.toNat
    | [.one (.data (.ints .i64 l)), .one (.func 157 []), .one (.int .i64 _), .one (.int .i64 i)], [] => l.length - i.toNat
    | _, _ => 0) fun vs σ k h => ?_
  unfold idxAL at h
  split at h
  rotate_right
  · exact h.elim
  · rename_i l n i
    rw [exixal0a l n i _]
    obtain ⟨⟨h1, h2, rfl⟩, h⟩ := h
    by_cases hi : i < l.length
    · have hw : IntKind.i64.wrap (i + 1) = i + 1 := wrap_id (by omega) (by omega)
      have hi' : i.toNat < l.length := by omega
      have hmu : l.length - (i + 1).toNat < l.length - i.toNat := by omega
      have e : idxA i (l.drop i.toNat) = bif !ansG (l.getD i.toNat 0) then i else idxA (i + 1) (l.drop (i + 1).toNat) := by
        rw [drop_step 0 (by omega), show (i + 1).toNat = i.toNat + 1 by omega]
        rfl
      rw [all_step h2 hi, e] at h
      simp only [hi, hi', h2, hw, Nat.add_zero, decide_true, Bool.and_self, cond_true]
      cases hs : ansG (l.getD i.toNat 0) with
      | true => rw [hs] at h; exact ⟨⟨⟨h1, by omega, rfl⟩, h⟩, hmu⟩
      | false => rw [hs] at h; exact h
    · rw [List.drop_eq_nil_of_le (by omega)] at h
      simp only [hi, decide_false, cond_false]
      exact h
  · rename_i l n i
    rw [exixal0b l n i _]
    obtain ⟨⟨h1, h2, rfl⟩, h⟩ := h
    by_cases hi : i < l.length
    · have hw : IntKind.i64.wrap (i + 1) = i + 1 := wrap_id (by omega) (by omega)
      have hi' : i.toNat < l.length := by omega
      have hmu : l.length - (i + 1).toNat < l.length - i.toNat := by omega
      have e : idxA i (l.drop i.toNat) = bif !ansG (l.getD i.toNat 0) then i else idxA (i + 1) (l.drop (i + 1).toNat) := by
        rw [drop_step 0 (by omega), show (i + 1).toNat = i.toNat + 1 by omega]
        rfl
      rw [all_step h2 hi, e] at h
      simp only [hi, hi', h2, hw, Nat.add_zero, decide_true, Bool.and_self, cond_true]
      cases hs : ansG (l.getD i.toNat 0) with
      | true => rw [hs] at h; exact ⟨⟨⟨h1, by omega, rfl⟩, h⟩, hmu⟩
      | false => rw [hs] at h; exact h
    · rw [List.drop_eq_nil_of_le (by omega)] at h
      simp only [hi, decide_false, cond_false]
      exact h
theorem idxA_none : ∀ {l : List Int} {i : Int}, l.all ansG = true → idxA i l = -1
  | [], _, _ => rfl
  | b :: l, i, h => by
    simp only [List.all_cons, Bool.and_eq_true] at h
    simp only [idxA, h.1, Bool.not_true, cond_false]
    exact idxA_none h.2
theorem idxA_some : ∀ {l : List Int} {i : Int}, l.all ansG = false → i ≤ idxA i l
  | [], _, h => by simp at h
  | b :: l, i, h => by
    simp only [idxA]
    cases hb : ansG b with
    | false => exact Int.le_refl _
    | true =>
      simp only [List.all_cons, hb, Bool.true_and] at h
      have := idxA_some (i := i + 1) h
      simp only [Bool.not_true, cond_false]
      omega
theorem hasA_eq (l : List Int) : decide (idxA 0 l ≥ 0) = !l.all ansG := by
  cases hs : l.all ansG with
  | false => exact decide_eq_true (idxA_some hs)
  | true => rw [idxA_none hs]; rfl
theorem okixa : SpecOK Tryd.prog 114 idxAS := by
  refine specOK (n := 19) (m := 0) (lps := [(2, .spec [0, 1, 7, 8] [4] idxAL)]) (.cons okcr1 (.cons okop1 .nil)) Tryd.func114 (by kernel_rfl) (by kernel_rfl) (theLoops (n := 1) (by kernel_rfl) fun i hi => ?_) fun args σ K h => ?_
  · match i, hi with
    | 0, _ => exact loopHyp_of (key := 2) (by kernel_rfl) rfl lokixa_0
  unfold idxAS at h
  split at h
  rotate_right
  · exact h.elim
  · rename_i l
    rw [exixa_0 l K]
    obtain ⟨h1, h⟩ := h
    refine ⟨⟨h1, by omega, rfl⟩, ?_⟩
    cases hs : l.all ansG with
    | false => exact h
    | true => rw [idxA_none hs] at h; exact h
  · rename_i l
    rw [exixa_1 l K]
    obtain ⟨h1, h⟩ := h
    refine ⟨⟨h1, by omega, rfl⟩, ?_⟩
    cases hs : l.all ansG with
    | false => exact h
    | true => rw [idxA_none hs] at h; exact h
theorem okhsa : SpecOK Tryd.prog 126 hasAS := by
  refine specOK (n := 9) (m := 0) (lps := []) (.cons okixa .nil) Tryd.func126 (by kernel_rfl) (by kernel_rfl) (noLoops (by kernel_rfl)) fun args σ K h => ?_
  unfold hasAS at h
  split at h
  rotate_right
  · exact h.elim
  · rename_i l
    rw [exhsa_0 l K, hasA_eq]
    exact h
  · rename_i l
    rw [exhsa_1 l K, hasA_eq]
    exact h
theorem okcru : SpecOK Tryd.prog 67 ruS := by
  refine specOK (n := 22) (m := 0) (lps := []) (.cons okhsa (.cons okcr1 (.cons ok70 (.cons ok69 .nil)))) Tryd.func67 (by kernel_rfl) (by kernel_rfl) (noLoops (by kernel_rfl)) fun args σ K h => ?_
  unfold ruS at h
  split at h
  rotate_right
  · exact h.elim
  rename_i l
  rw [excru l K]
  obtain ⟨h1, h⟩ := h
  refine ⟨h1, (by decide : (3 : Nat) ≤ 1000), ?_⟩
  unfold ruE at h
  generalize decide ((l.length : Int) ≤ 10) = c1 at *
  generalize decide ((l.length : Int) > 0) = c2 at *
  generalize l.all ansG = c3 at *
  cases c1 <;> cases c2 <;> cases c3 <;> exact h
theorem lokalt_0 : LoopOK Ealt (lb Tryd.f125 0) [0, 3] [2] altL := by
  refine loopOK (.cons ok25 .nil) (noInner (by kernel_rfl)) (fun vs σ => match vs, σ with
    | [.one (.data (.ints .i64 l)), .one (.int .i64 i)], [] => l.length - i.toNat
    | _, _ => 0) fun vs σ k h => ?_
  unfold altL at h
  split at h
  rotate_right
  · exact h.elim
  · rename_i l i
    rw [exaltl0a l i _]
    obtain ⟨⟨h1, h2⟩, h⟩ := h
    by_cases hi : i < l.length
    · have hw : IntKind.i64.wrap (i + 1) = i + 1 := wrap_id (by omega) (by omega)
      have hi' : i.toNat < l.length := by omega
      have hmu : l.length - (i + 1).toNat < l.length - i.toNat := by omega
      have e : ∀ v, (decide (0 ≤ v) && decide (v ≤ 1)) = ansG v := fun _ => rfl
      rw [all_step h2 hi] at h
      simp only [hi, hi', h2, hw, Nat.add_zero, decide_true, Bool.and_self, cond_true, e]
      cases hs : ansG (l.getD i.toNat 0) with
      | true => rw [hs] at h; exact ⟨⟨⟨h1, by omega⟩, h⟩, hmu⟩
      | false => rw [hs] at h; exact h
    · rw [List.drop_eq_nil_of_le (by omega)] at h
      simp only [hi, decide_false, cond_false]
      exact h
theorem okalt : SpecOK Tryd.prog 125 altS := by
  refine specOK (n := 16) (m := 0) (lps := [(2, .spec [0, 3] [2] altL)]) (.cons ok25 .nil) Tryd.func125 (by kernel_rfl) (by kernel_rfl) (theLoops (n := 1) (by kernel_rfl) fun i hi => ?_) fun args σ K h => ?_
  · match i, hi with
    | 0, _ => exact loopHyp_of (key := 2) (by kernel_rfl) rfl lokalt_0
  unfold altS at h
  split at h
  rotate_right
  · exact h.elim
  rename_i l
  rw [exalt l K]
  obtain ⟨h1, h⟩ := h
  refine ⟨⟨h1, by omega⟩, ?_⟩
  cases hs : l.all ansG with
  | false => rw [hs] at h; exact h
  | true => rw [hs] at h; exact h
theorem okplyn : SpecOK Tryd.prog 155 plyN := by
  refine specOK (n := 9) (m := 1) (lps := []) .nil Tryd.func155 (by kernel_rfl) (by kernel_rfl) (noLoops (by kernel_rfl)) fun args σ K h => ?_
  unfold plyN at h
  split at h
  rotate_right
  · exact h.elim
  rename_i l p b0 b1 b2
  rw [explyn l p b0 b1 b2 K]; exact h
theorem okplyo : SpecOK Tryd.prog 155 plyO := by
  refine specOK (n := 9) (m := 2) (lps := []) .nil Tryd.func155 (by kernel_rfl) (by kernel_rfl) (noLoops (by kernel_rfl)) fun args σ K h => ?_
  unfold plyO at h
  split at h
  rotate_right
  · exact h.elim
  · rename_i l p b0 b1 b2 a
    rw [explyo_0 l p b0 b1 b2 a K]; exact h
  · rename_i l p b0 b1 b2 m a
    rw [explyo_1 l p b0 b1 b2 m a K]; exact h
theorem okendn : SpecOK Tryd.prog 158 endN := by
  refine specOK (n := 16) (m := 1) (lps := []) .nil Tryd.func158 (by kernel_rfl) (by kernel_rfl) (noLoops (by kernel_rfl)) fun args σ K h => ?_
  unfold endN at h
  split at h
  rotate_right
  · exact h.elim
  rename_i l p b0 b1 b2
  rw [exendn l p b0 b1 b2 K]; exact h
theorem okendo : SpecOK Tryd.prog 158 endO := by
  refine specOK (n := 16) (m := 2) (lps := []) .nil Tryd.func158 (by kernel_rfl) (by kernel_rfl) (noLoops (by kernel_rfl)) fun args σ K h => ?_
  unfold endO at h
  split at h
  rotate_right
  · exact h.elim
  · rename_i l p b0 b1 b2 a
    rw [exendo_0 l p b0 b1 b2 a K]; exact h
  · rename_i l p b0 b1 b2 m a
    rw [exendo_1 l p b0 b1 b2 m a K]; exact h
theorem okply : SpecOK Tryd.prog 155 plyS := okplyn.mk2 okplyo fun args σ K h => by
  unfold plyS at h
  split at h
  · exact .inl h
  · exact .inr h
  · exact .inr h
  · exact h.elim
theorem okend : SpecOK Tryd.prog 158 endS := okendn.mk2 okendo fun args σ K h => by
  unfold endS at h
  split at h
  · exact .inl h
  · exact .inr h
  · exact .inr h
  · exact h.elim
theorem ruE_first (r : Int) : firstE [r, 0] = r := by
  unfold firstE
  by_cases h : r = 0
  · subst h; rfl
  · rw [beq_ff h]; rfl
theorem ruE_first2 (r : Int) : firstE [r, 2] = bif r == 0 then 2 else r := by
  by_cases h : r = 0
  · subst h; rfl
  · unfold firstE; rw [beq_ff h]; rfl
theorem p_cases (p : Int) : (p = -1 ∨ p = 0 ∨ p = 1 ∨ p = 2) ∨ (withinG p (-1) 2 = false ∧ withinG p 0 2 = false ∧ p ≠ -1) := by
  unfold withinG
  by_cases h1 : -1 ≤ p
  · by_cases h2 : p ≤ 2
    · omega
    · right; rw [decide_eq_false h2, Bool.and_false, Bool.and_false]; exact ⟨rfl, rfl, by omega⟩
  · right; rw [decide_eq_false h1, decide_eq_false (show ¬ 0 ≤ p by omega)]; exact ⟨rfl, rfl, by omega⟩
theorem decnil (l : List Int) : decide ((([] : List Int).length : Int) ≥ (l.length : Int)) = decide ((0 : Int) ≥ (l.length : Int)) := rfl
theorem okopn : SpecOK Tryd.prog 124 opnS := by
  refine specOK (n := 79) (m := 0) (lps := []) (.cons okcln (.cons okcru (.cons okply (.cons okiss (.cons ok70 (.cons ok69 (.cons okhsa (.cons okop1 (.cons okend .nil))))))))) Tryd.func124 (by kernel_rfl) (by kernel_rfl) (noLoops (by kernel_rfl)) fun args σ K h => ?_
  unfold opnS at h
  split at h
  rotate_right
  · exact h.elim
  rename_i l p b0 b1 b2 a
  rw [exopn l p b0 b1 b2 a K]
  obtain ⟨⟨h1, h2⟩, h⟩ := h
  have k4 : ∀ x y z w : Int, [x, y, z, w].length ≤ 1000 := fun _ _ _ _ => (by decide : (4 : Nat) ≤ 1000)
  have k2 : ∀ x y : Int, [x, y].length ≤ 1000 := fun _ _ => (by decide : (2 : Nat) ≤ 1000)
  have h3 : a.length ≤ 1000000000 := by omega
  unfold opE stE2 hrd at h
  generalize ruE l = r at *
  rcases p_cases p with hp | ⟨w1, w2, w3⟩
  rotate_left
  · have q : (!(p != -1)) = false := by rw [bne_tt w3]; rfl
    rw [q, w2]
    rw [w1] at h
    have fin : cond (firstE [r, 2] != 0) (K (.tup [.one .any, .one (.int .i64 (firstE [r, 2]))]) []) False := by
      by_cases hr : r = 0
      · subst hr; exact h
      · rw [ruE_first2, beq_ff hr]
        rw [beq_ff hr] at h
        have h : cond (r == 0) _ (K (.tup [.one .any, .one (.int .i64 r)]) []) := h
        rw [beq_ff hr] at h
        show cond (r != 0) (K (.tup [.one .any, .one (.int .i64 r)]) []) False
        rw [bne_tt hr]
        exact h
    have e : (firstE [r, 2] != 0) = true := by
      rw [ruE_first2]
      by_cases hr : r = 0
      · subst hr; rfl
      · rw [beq_ff hr]; exact bne_tt hr
    rw [e] at fin
    refine And.intro h2 (And.intro (And.intro h1 (And.intro (k2 _ _) ?_)) (fun _ => And.intro h1 (And.intro (k2 _ _) ?_)))
    · show cond (firstE [r, 2] != 0) (K (.tup [.one .any, .one (.int .i64 (firstE [r, 2]))]) []) _
      rw [e]; exact fin
    · show cond (firstE [r, 2] != 0) (K (.tup [.one .any, .one (.int .i64 (firstE [r, 2]))]) []) _
      rw [e]; exact fin
  by_cases hr : r = 0
  rotate_left
  · have e0 : (r == 0) = false := beq_ff hr
    rw [e0] at h
    replace h : cond (r == 0) _ (K (.tup [.one .any, .one (.int .i64 r)]) []) := h
    rw [e0, cond_false] at h
    rcases hp with rfl | rfl | rfl | rfl
    all_goals
      refine And.intro h2 (And.intro (And.intro h1 (And.intro (k2 _ _) ?_)) (fun _ => And.intro h1 (And.intro (k2 _ _) ?_)))
      · show cond (firstE [r, 0] != 0) (K (.tup [.one .any, .one (.int .i64 (firstE [r, 0]))]) []) _
        rw [ruE_first, bne_tt hr]; exact h
      · show cond (firstE [r, 0] != 0) (K (.tup [.one .any, .one (.int .i64 (firstE [r, 0]))]) []) _
        rw [ruE_first, bne_tt hr]; exact h
  subst hr
  rcases hp with rfl | rfl | rfl | rfl
  all_goals
    have h : K (.tup [.one (.ptr 0 1 0 0), _]) _ ∧ (a = [] → K (.tup [.one (.ptr 0 1 0 0), _]) _) := h
    obtain ⟨hk, hn⟩ := h
    refine And.intro h2 (And.intro (And.intro h1 (And.intro (k2 _ _) (And.intro h3 ?_))) (fun ha => And.intro h1 (And.intro (k2 _ _) (And.intro h3 ?_))))
    · clear hn
      generalize decide ((a.length : Int) ≥ (l.length : Int)) = c2 at *
      generalize decide ((a.length : Int) ≤ (l.length : Int)) = c1 at *
      generalize a.all ansG = c3 at *
      cases c1 <;> cases c2 <;> cases c3 <;> cases b0 <;> cases b1 <;> cases b2 <;> exact And.intro (k4 _ _ _ _) hk
    · clear hk
      have hn := hn ha
      subst ha
      rw [decnil] at hn
      generalize decide ((0 : Int) ≥ (l.length : Int)) = c2 at *
      generalize decide ((([] : List Int).length : Int) ≤ (l.length : Int)) = c1 at *
      generalize ([] : List Int).all ansG = c3 at *
      cases c1 <;> cases c2 <;> cases c3 <;> cases b0 <;> cases b1 <;> cases b2 <;> exact And.intro (k4 _ _ _ _) hn
theorem okbgn : SpecOK Tryd.prog 123 bgS := by
  refine specOK (n := 7) (m := 0) (lps := []) .nil Tryd.func123 (by kernel_rfl) (by kernel_rfl) (noLoops (by kernel_rfl)) fun args σ K h => ?_
  unfold bgS at h
  split at h
  rotate_right
  · exact h.elim
  rename_i l
  rw [exbgn l K]; exact h
theorem okcpR : SpecOK Tryd.prog 63 cpRS := by
  refine specOK (n := 7) (m := 0) (lps := []) (.cons okcopyD .nil) Tryd.func63 (by kernel_rfl) (by kernel_rfl) (noLoops (by kernel_rfl)) fun args σ K h => ?_
  unfold cpRS at h
  split at h
  rotate_right
  · exact h.elim
  rename_i l
  rw [excpR l K]; exact h
theorem okcpS : SpecOK Tryd.prog 65 cpSS := by
  refine specOK (n := 8) (m := 0) (lps := []) (.cons okcopyD .nil) Tryd.func65 (by kernel_rfl) (by kernel_rfl) (noLoops (by kernel_rfl)) fun args σ K h => ?_
  unfold cpSS at h
  split at h
  rotate_right
  · exact h.elim
  rename_i p b0 b1 b2 a
  rw [excpS p b0 b1 b2 a K]; exact h
theorem boE_op (h : List Int) (p : Int) (b0 b1 b2 : Bool) (a : List Int) : boE h p b0 b1 b2 a = bif opE h p == 0 then stE2 h p b0 b1 b2 a else opE h p := by
  unfold boE opE stE
  by_cases hr : ruE h = 0
  · rw [hr]
    cases withinG p (-1) 2 <;> rfl
  · rw [beq_ff hr, cond_false, cond_false, beq_ff hr, cond_false]
theorem scG_nil (h : List Int) : scG [] h = 0 := by cases h <;> rfl
theorem scG_step {a h : List Int} {i : Nat} (h1 : i < a.length) (h2 : i < h.length) : scG (a.drop i) (h.drop i) = (bif a.getD i 0 == h.getD i 0 then 1 else 0) + scG (a.drop (i + 1)) (h.drop (i + 1)) := by
  rw [drop_step 0 h1, drop_step 0 h2]; rfl
theorem stE2_len {h : List Int} {p : Int} {b0 b1 b2 : Bool} {a : List Int} (e : stE2 h p b0 b1 b2 a = 0) : a.length ≤ h.length := by
  unfold stE2 at e
  by_cases hl : (a.length : Int) ≤ h.length
  · omega
  · rw [decide_eq_false hl] at e; exact absurd (show (8 : Int) = 0 from e) (by decide)
theorem boE_facts {h : List Int} {p : Int} {b0 b1 b2 : Bool} {a : List Int} (e : boE h p b0 b1 b2 a = 0) : ruE h = 0 ∧ withinG p (-1) 2 = true ∧ stE2 h p b0 b1 b2 a = 0 := by
  unfold boE stE at e
  by_cases hr : ruE h = 0
  · rw [hr] at e
    cases hw : withinG p (-1) 2 with
    | true => rw [hw] at e; exact ⟨hr, rfl, e⟩
    | false => rw [hw] at e; exact absurd (show (2 : Int) = 0 from e) (by decide)
  · rw [beq_ff hr, cond_false] at e; exact absurd e hr
theorem ruE_len {h : List Int} (e : ruE h = 0) : 0 < h.length ∧ h.length ≤ 10 ∧ h.all ansG = true := by
  unfold ruE at e
  by_cases h1 : (h.length : Int) > 0
  · rw [decide_eq_true h1] at e
    by_cases h2 : (h.length : Int) ≤ 10
    · rw [decide_eq_true h2] at e
      cases ha : h.all ansG with
      | true => exact ⟨by omega, by omega, rfl⟩
      | false => rw [ha] at e; exact absurd (show (2 : Int) = 0 from e) (by decide)
    · rw [decide_eq_false h2] at e; exact absurd (show (8 : Int) = 0 from e) (by decide)
  · rw [decide_eq_false h1] at e; exact absurd (show (10 : Int) = 0 from e) (by decide)
theorem loksco_0 : LoopOK Esco (lb Tryd.f64 0) [6, 8, 24, 25, 26] [8] scL := by
  refine loopOK (.cons okopn .nil) (noInner (by kernel_rfl)) (fun vs σ => match vs, σ with
    | [.one (.ptr 0 1 0 0), .one (.int .i64 _), .one .nil, .one (.int .i64 n), .one (.int .i64 i)], [.cells [.data (.ints .i64 _), .int .i64 _, .bool _, .bool _, .bool _, .nil]] => (n - i).toNat
    | [.one (.ptr 0 1 0 0), .one (.int .i64 _), .one (.own 1 1), .one (.int .i64 n), .one (.int .i64 i)], [.cells [.data (.ints .i64 _), .int .i64 _, .bool _, .bool _, .bool _, .own 1 1], .row 3 (.ints .i64 _)] => (n - i).toNat
    | _, _ => 0) fun vs σ k h => ?_
  unfold scL at h
  split at h
  rotate_right
  · exact h.elim
  · rename_i s n i l p b0 b1 b2
    rw [exscol0a s n i l p b0 b1 b2 _]
    obtain ⟨⟨rfl, rfl⟩, h⟩ := h
    exact h
  · rename_i s n i l p b0 b1 b2 a
    rw [exscol0b s n i l p b0 b1 b2 a _]
    obtain ⟨⟨rfl, h1, h2, h3, h4, h5, h6⟩, h⟩ := h
    by_cases hi : i < (a.length : Int)
    · have hw : IntKind.i64.wrap (i + 1) = i + 1 := wrap_id (by omega) (by omega)
      have hw2 : IntKind.i64.wrap (s + 1) = s + 1 := wrap_id (by omega) (by omega)
      have hmu : ((a.length : Int) - (i + 1)).toNat < ((a.length : Int) - i).toNat := by omega
      rw [scG_step (show i.toNat < a.length by omega) (show i.toNat < l.length by omega), show i.toNat + 1 = (i + 1).toNat by omega] at h
      simp only [hw, hw2, Nat.add_zero, decide_eq_true hi, decide_eq_true h3, decide_eq_true (show i.toNat < a.length by omega), decide_eq_true (show i.toNat < l.length by omega), decide_eq_true (show i < (l.length : Int) by omega), Bool.and_self, cond_true]
      cases hs : a.getD i.toNat 0 == l.getD i.toNat 0 with
      | true =>
        rw [hs, cond_true, show s + (1 + scG (a.drop (i + 1).toNat) (l.drop (i + 1).toNat)) = s + 1 + scG (a.drop (i + 1).toNat) (l.drop (i + 1).toNat) by omega] at h
        exact ⟨⟨⟨rfl, h1, h2, by omega, by omega, by omega, by omega⟩, h⟩, hmu⟩
      | false =>
        rw [hs, cond_false, Int.zero_add] at h
        exact ⟨⟨⟨rfl, h1, h2, by omega, by omega, by omega, by omega⟩, h⟩, hmu⟩
    · rw [decide_eq_false hi]
      rw [List.drop_eq_nil_of_le (show a.length ≤ i.toNat by omega), scG_nil, Int.add_zero] at h
      exact h
theorem oksco : SpecOK Tryd.prog 64 scS := by
  refine specOK (n := 45) (m := 0) (lps := [(6, .spec [6, 8, 24, 25, 26] [8] scL)]) (.cons okopn .nil) Tryd.func64 (by kernel_rfl) (by kernel_rfl) (theLoops (n := 1) (by kernel_rfl) fun i hi => ?_) fun args σ K h => ?_
  · match i, hi with
    | 0, _ => exact loopHyp_of (key := 6) (by kernel_rfl) rfl loksco_0
  unfold scS at h
  split at h
  rotate_right
  · exact h.elim
  rename_i l p b0 b1 b2 a
  rw [exsco l p b0 b1 b2 a K]
  obtain ⟨⟨h1, h2⟩, h⟩ := h
  refine ⟨⟨h1, h2⟩, ?_⟩
  have hb := boE_op l p b0 b1 b2 a
  cases ho : opE l p == 0 with
  | true =>
    rw [ho, cond_true] at hb
    rw [hb] at h
    by_cases hs : stE2 l p b0 b1 b2 a = 0
    · have hl := stE2_len hs
      have hf := boE_facts (hb.trans hs)
      have hq := ruE_len hf.1
      rw [hs] at h ⊢
      refine And.intro (And.intro ⟨rfl, hl, by omega, by decide, by omega, by decide, by decide⟩ ?_) (fun ha => And.intro ⟨rfl, rfl⟩ ?_)
      · rw [Int.zero_add]; exact h
      · subst ha; rw [scG_nil] at h; exact h
    · rw [bne_tt hs]
      rw [beq_ff hs] at h
      exact ⟨h, fun _ => h⟩
  | false =>
    rw [ho, cond_false] at hb
    rw [hb, ho] at h
    have hn : opE l p ≠ 0 := beq_eq_false_iff_ne.1 ho
    rw [bne_tt hn]
    exact h
end Go.Ev
