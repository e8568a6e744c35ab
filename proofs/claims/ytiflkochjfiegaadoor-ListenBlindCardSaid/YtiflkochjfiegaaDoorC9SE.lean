/-
  Chapter 9, contract: the law of blind listening.
-/
import Derived.Test.YtiflkochjfiegaaDoorC9SC
import Derived.Test.YtiflkochjfiegaaDoorEvCut
import Derived.KernelRfl
set_option linter.unusedVariables false
set_option linter.unusedSimpArgs false
set_option linter.unusedSectionVars false
namespace Go.Ev
open Go Go.Proofs
set_option maxRecDepth 20000

def beg2S : Spec := fun args σ K => match args, σ with
  | [.agg [.data (.ints .i64 h)]], [] => h.length ≤ 1000000000 ∧ K (.tup [.agg [.int .i64 (bif ruE h == 0 then -1 else 0), .bool false, .bool false, .bool false, .data (.ints .i64 [])], .one (.int .i64 (ruE h))]) []
  | _, _ => False
def bliL : LSpec := fun vs σ k => match vs, σ with
  | [.one (.data (.mat .i64 2 l)), .one (.ptr 0 1 0 0), .one (.ptr 1 1 0 0), .one (.ptr 2 1 0 0), .one (.int .i64 i)], [.cells [.data (.ints .i64 h)], .cells [.int .i64 p, .bool b0, .bool b1, .bool b2, .data (.ints .i64 a)], .cells [.bool c0, .bool c1, .bool c2]] =>
    (l.length ≤ 1000 ∧ 0 ≤ i ∧ i ≤ l.length ∧ boE h p b0 b1 b2 a = 0 ∧ c0 = b0 ∧ c1 = b1 ∧ c2 = b2) ∧
    ∀ (q : Int) (d0 d1 d2 : Bool) (z : List Int), boE h q d0 d1 d2 z = 0 → k (.exit 0) [.one (.ptr 0 1 0 0), .any, .one (.ptr 1 1 0 0)] [.cells [.data (.ints .i64 h)], .cells [.int .i64 q, .bool d0, .bool d1, .bool d2, .data (.ints .i64 z)]]
  | _, _ => False
def lawBliS : Spec := fun args σ K => match args, σ with
  | [.agg [.data (.ints .i64 h)], .one (.data (.mat .i64 2 l))], [] => K (.one (.bool true)) []
  | _, _ => False
noncomputable abbrev Ebli : Env := envOf Tryd.prog [(19, awakeS), (66, ruS), (63, cpRS), (62, beg2S), (65, cpSS), (90, aplS), (93, rstS), (30, withinS), (27, intsS), (64, scS)] [(10, .spec [1, 2, 5, 7, 8] [2, 4, 5] bliL)] 190 0
end Go.Ev

namespace Go.Ev
open Go Go.Proofs
set_option maxRecDepth 100000
def exbliA_x0 (l : List (List Int)) (i : Int) (h : List Int) (p : Int) (b0 b1 b2 : Bool) (a : List Int) (c0 c1 c2 : Bool) (k : Ex → St → Prop) : Prop := (
 (h.length ≤ (1000000000 : Nat) ∧ a.length ≤ (1000000 : Nat)) ∧
 k Ex.normal
 {
 t :=
 [AV.any, AV.one (SV.data (Row.mat IntKind.i64 (2 : Nat) l)),
 AV.one (SV.ptr (0 : Nat) (1 : Nat) (0 : Nat) (0 : Nat)), AV.any, AV.any,
 AV.one (SV.ptr (1 : Nat) (1 : Nat) (0 : Nat) (0 : Nat)), AV.any,
 AV.one (SV.ptr (2 : Nat) (1 : Nat) (0 : Nat) (0 : Nat)), AV.one (SV.int IntKind.i64 i),
 AV.one
 (SV.ptr
 [Blk.cells [SV.data (Row.ints IntKind.i64 h)],
 Blk.cells
 [SV.int IntKind.i64 p, SV.bool b0, SV.bool b1, SV.bool b2, SV.data (Row.ints IntKind.i64 a)],
 Blk.cells [SV.bool c0, SV.bool c1, SV.bool c2]].length
 (1 : Nat) (0 : Nat) (0 : Nat)),
 AV.one
 (SV.int IntKind.i64
 (apE h p b0 b1 b2 a ((l.getD i.toNat []).getD (0 : Nat) (0 : Int))
 ((l.getD i.toNat []).getD (1 : Nat) (0 : Int)))),
 AV.any, AV.any, AV.any, AV.any, AV.any, AV.any, AV.any, AV.any, AV.any, AV.any, AV.any, AV.any, AV.any,
 AV.any, AV.any, AV.any, AV.any, AV.any, AV.any, AV.any, AV.any, AV.any, AV.any, AV.any, AV.any, AV.any,
 AV.one (SV.int IntKind.i64 i), AV.one (SV.data (Row.mat IntKind.i64 (2 : Nat) l)),
 AV.one (SV.int IntKind.i64 (↑l.length : Int)), AV.one (SV.bool true), AV.any, AV.any,
 AV.tup
 [TV.agg
 [SV.int IntKind.i64
 (aoP
 (apE h p b0 b1 b2 a ((l.getD i.toNat []).getD (0 : Nat) (0 : Int))
 ((l.getD i.toNat []).getD (1 : Nat) (0 : Int)))
 p ((l.getD i.toNat []).getD (0 : Nat) (0 : Int)) ((l.getD i.toNat []).getD (1 : Nat) (0 : Int))),
 SV.bool
 (aoB
 (apE h p b0 b1 b2 a ((l.getD i.toNat []).getD (0 : Nat) (0 : Int))
 ((l.getD i.toNat []).getD (1 : Nat) (0 : Int)))
 (0 : Int) b0 ((l.getD i.toNat []).getD (0 : Nat) (0 : Int))
 ((l.getD i.toNat []).getD (1 : Nat) (0 : Int))),
 SV.bool
 (aoB
 (apE h p b0 b1 b2 a ((l.getD i.toNat []).getD (0 : Nat) (0 : Int))
 ((l.getD i.toNat []).getD (1 : Nat) (0 : Int)))
 (1 : Int) b1 ((l.getD i.toNat []).getD (0 : Nat) (0 : Int))
 ((l.getD i.toNat []).getD (1 : Nat) (0 : Int))),
 SV.bool
 (aoB
 (apE h p b0 b1 b2 a ((l.getD i.toNat []).getD (0 : Nat) (0 : Int))
 ((l.getD i.toNat []).getD (1 : Nat) (0 : Int)))
 (2 : Int) b2 ((l.getD i.toNat []).getD (0 : Nat) (0 : Int))
 ((l.getD i.toNat []).getD (1 : Nat) (0 : Int))),
 SV.data
 (Row.ints IntKind.i64
 (aoA
 (apE h p b0 b1 b2 a ((l.getD i.toNat []).getD (0 : Nat) (0 : Int))
 ((l.getD i.toNat []).getD (1 : Nat) (0 : Int)))
 a ((l.getD i.toNat []).getD (0 : Nat) (0 : Int))
 ((l.getD i.toNat []).getD (1 : Nat) (0 : Int))))],
 TV.one
 (SV.int IntKind.i64
 (apE h p b0 b1 b2 a ((l.getD i.toNat []).getD (0 : Nat) (0 : Int))
 ((l.getD i.toNat []).getD (1 : Nat) (0 : Int))))],
 AV.agg [SV.data (Row.ints IntKind.i64 h)], AV.agg [SV.data (Row.ints IntKind.i64 h)],
 AV.agg [SV.int IntKind.i64 p, SV.bool b0, SV.bool b1, SV.bool b2, SV.data (Row.ints IntKind.i64 a)],
 AV.agg [SV.int IntKind.i64 p, SV.bool b0, SV.bool b1, SV.bool b2, SV.data (Row.ints IntKind.i64 a)],
 AV.one (SV.data (Row.mat IntKind.i64 (2 : Nat) l)), AV.one (SV.int IntKind.i64 i),
 AV.one (SV.dptr (Row.mat IntKind.i64 (2 : Nat) l) i.toNat (0 : Nat)),
 AV.agg
 [SV.int IntKind.i64 ((l.getD i.toNat []).getD (0 : Nat) (0 : Int)),
 SV.int IntKind.i64 ((l.getD i.toNat []).getD (1 : Nat) (0 : Int))],
 AV.tup
 [TV.agg
 [SV.int IntKind.i64
 (aoP
 (apE h p b0 b1 b2 a ((l.getD i.toNat []).getD (0 : Nat) (0 : Int))
 ((l.getD i.toNat []).getD (1 : Nat) (0 : Int)))
 p ((l.getD i.toNat []).getD (0 : Nat) (0 : Int)) ((l.getD i.toNat []).getD (1 : Nat) (0 : Int))),
 SV.bool
 (aoB
 (apE h p b0 b1 b2 a ((l.getD i.toNat []).getD (0 : Nat) (0 : Int))
 ((l.getD i.toNat []).getD (1 : Nat) (0 : Int)))
 (0 : Int) b0 ((l.getD i.toNat []).getD (0 : Nat) (0 : Int))
 ((l.getD i.toNat []).getD (1 : Nat) (0 : Int))),
 SV.bool
 (aoB
 (apE h p b0 b1 b2 a ((l.getD i.toNat []).getD (0 : Nat) (0 : Int))
 ((l.getD i.toNat []).getD (1 : Nat) (0 : Int)))
 (1 : Int) b1 ((l.getD i.toNat []).getD (0 : Nat) (0 : Int))
 ((l.getD i.toNat []).getD (1 : Nat) (0 : Int))),
 SV.bool
 (aoB
 (apE h p b0 b1 b2 a ((l.getD i.toNat []).getD (0 : Nat) (0 : Int))
 ((l.getD i.toNat []).getD (1 : Nat) (0 : Int)))
 (2 : Int) b2 ((l.getD i.toNat []).getD (0 : Nat) (0 : Int))
 ((l.getD i.toNat []).getD (1 : Nat) (0 : Int))),
 SV.data
 (Row.ints IntKind.i64
 (aoA
 (apE h p b0 b1 b2 a ((l.getD i.toNat []).getD (0 : Nat) (0 : Int))
 ((l.getD i.toNat []).getD (1 : Nat) (0 : Int)))
 a ((l.getD i.toNat []).getD (0 : Nat) (0 : Int))
 ((l.getD i.toNat []).getD (1 : Nat) (0 : Int))))],
 TV.one
 (SV.int IntKind.i64
 (apE h p b0 b1 b2 a ((l.getD i.toNat []).getD (0 : Nat) (0 : Int))
 ((l.getD i.toNat []).getD (1 : Nat) (0 : Int))))],
 AV.agg
 [SV.int IntKind.i64
 (aoP
 (apE h p b0 b1 b2 a ((l.getD i.toNat []).getD (0 : Nat) (0 : Int))
 ((l.getD i.toNat []).getD (1 : Nat) (0 : Int)))
 p ((l.getD i.toNat []).getD (0 : Nat) (0 : Int)) ((l.getD i.toNat []).getD (1 : Nat) (0 : Int))),
 SV.bool
 (aoB
 (apE h p b0 b1 b2 a ((l.getD i.toNat []).getD (0 : Nat) (0 : Int))
 ((l.getD i.toNat []).getD (1 : Nat) (0 : Int)))
 (0 : Int) b0 ((l.getD i.toNat []).getD (0 : Nat) (0 : Int))
 ((l.getD i.toNat []).getD (1 : Nat) (0 : Int))),
 SV.bool
 (aoB
 (apE h p b0 b1 b2 a ((l.getD i.toNat []).getD (0 : Nat) (0 : Int))
 ((l.getD i.toNat []).getD (1 : Nat) (0 : Int)))
 (1 : Int) b1 ((l.getD i.toNat []).getD (0 : Nat) (0 : Int))
 ((l.getD i.toNat []).getD (1 : Nat) (0 : Int))),
 SV.bool
 (aoB
 (apE h p b0 b1 b2 a ((l.getD i.toNat []).getD (0 : Nat) (0 : Int))
 ((l.getD i.toNat []).getD (1 : Nat) (0 : Int)))
 (2 : Int) b2 ((l.getD i.toNat []).getD (0 : Nat) (0 : Int))
 ((l.getD i.toNat []).getD (1 : Nat) (0 : Int))),
 SV.data
 (Row.ints IntKind.i64
 (aoA
 (apE h p b0 b1 b2 a ((l.getD i.toNat []).getD (0 : Nat) (0 : Int))
 ((l.getD i.toNat []).getD (1 : Nat) (0 : Int)))
 a ((l.getD i.toNat []).getD (0 : Nat) (0 : Int)) ((l.getD i.toNat []).getD (1 : Nat) (0 : Int))))],
 AV.one
 (SV.int IntKind.i64
 (apE h p b0 b1 b2 a ((l.getD i.toNat []).getD (0 : Nat) (0 : Int))
 ((l.getD i.toNat []).getD (1 : Nat) (0 : Int)))),
 AV.any, AV.any, AV.any, AV.any, AV.any, AV.any, AV.any, AV.any, AV.any, AV.any, AV.any, AV.any, AV.any,
 AV.any, AV.any, AV.any, AV.any, AV.any, AV.any, AV.any, AV.any, AV.any, AV.any, AV.any, AV.any, AV.any,
 AV.any, AV.any, AV.any, AV.any, AV.any, AV.any, AV.any, AV.any, AV.any, AV.any, AV.any, AV.any, AV.any,
 AV.any, AV.any, AV.any, AV.any, AV.any, AV.any, AV.any, AV.any, AV.any, AV.any, AV.any, AV.any, AV.any,
 AV.any, AV.any, AV.any, AV.any, AV.any, AV.any, AV.any, AV.any, AV.any, AV.any, AV.any, AV.any, AV.any,
 AV.any, AV.any, AV.any, AV.any, AV.any, AV.any, AV.any, AV.any, AV.any, AV.any, AV.any, AV.any, AV.any,
 AV.any, AV.any, AV.any, AV.any, AV.any, AV.any, AV.any, AV.any, AV.any, AV.any, AV.any, AV.any, AV.any,
 AV.any, AV.any, AV.any, AV.any, AV.any, AV.any, AV.any, AV.any, AV.any, AV.any, AV.any, AV.any, AV.any,
 AV.any, AV.any, AV.any, AV.any, AV.any, AV.any, AV.any, AV.any, AV.any, AV.any, AV.any, AV.any, AV.any,
 AV.any, AV.any, AV.any, AV.any, AV.any, AV.any, AV.any, AV.any, AV.any, AV.any, AV.any, AV.any, AV.any,
 AV.any, AV.any, AV.any, AV.any, AV.any],
 σ :=
 [Blk.cells [SV.data (Row.ints IntKind.i64 h)],
 Blk.cells [SV.int IntKind.i64 p, SV.bool b0, SV.bool b1, SV.bool b2, SV.data (Row.ints IntKind.i64 a)],
 Blk.cells [SV.bool c0, SV.bool c1, SV.bool c2],
 Blk.cells
 [SV.int IntKind.i64
 (aoP
 (apE h p b0 b1 b2 a ((l.getD i.toNat []).getD (0 : Nat) (0 : Int))
 ((l.getD i.toNat []).getD (1 : Nat) (0 : Int)))
 p ((l.getD i.toNat []).getD (0 : Nat) (0 : Int)) ((l.getD i.toNat []).getD (1 : Nat) (0 : Int))),
 SV.bool
 (aoB
 (apE h p b0 b1 b2 a ((l.getD i.toNat []).getD (0 : Nat) (0 : Int))
 ((l.getD i.toNat []).getD (1 : Nat) (0 : Int)))
 (0 : Int) b0 ((l.getD i.toNat []).getD (0 : Nat) (0 : Int))
 ((l.getD i.toNat []).getD (1 : Nat) (0 : Int))),
 SV.bool
 (aoB
 (apE h p b0 b1 b2 a ((l.getD i.toNat []).getD (0 : Nat) (0 : Int))
 ((l.getD i.toNat []).getD (1 : Nat) (0 : Int)))
 (1 : Int) b1 ((l.getD i.toNat []).getD (0 : Nat) (0 : Int))
 ((l.getD i.toNat []).getD (1 : Nat) (0 : Int))),
 SV.bool
 (aoB
 (apE h p b0 b1 b2 a ((l.getD i.toNat []).getD (0 : Nat) (0 : Int))
 ((l.getD i.toNat []).getD (1 : Nat) (0 : Int)))
 (2 : Int) b2 ((l.getD i.toNat []).getD (0 : Nat) (0 : Int))
 ((l.getD i.toNat []).getD (1 : Nat) (0 : Int))),
 SV.data
 (Row.ints IntKind.i64
 (aoA
 (apE h p b0 b1 b2 a ((l.getD i.toNat []).getD (0 : Nat) (0 : Int))
 ((l.getD i.toNat []).getD (1 : Nat) (0 : Int)))
 a ((l.getD i.toNat []).getD (0 : Nat) (0 : Int))
 ((l.getD i.toNat []).getD (1 : Nat) (0 : Int))))]] })
def exbliA_x1 (l : List (List Int)) (i : Int) (h : List Int) (p : Int) (b0 b1 b2 : Bool) (a : List Int) (c0 c1 c2 : Bool) (k : Ex → St → Prop) : Prop := (
 a.length ≤ (1000000000000 : Nat) ∧ exbliA_x0 l i h p b0 b1 b2 a c0 c1 c2 k)
theorem exbliA (l : List (List Int)) (i : Int) (h : List Int) (p : Int) (b0 b1 b2 : Bool) (a : List Int) (c0 c1 c2 : Bool) (k : Ex → St → Prop) : evCode Ebli (cutA (lb Tryd.f17 0)) (spread Ebli.n [1, 2, 5, 7, 8] [.one (.data (.mat .i64 2 l)), .one (.ptr 0 1 0 0), .one (.ptr 1 1 0 0), .one (.ptr 2 1 0 0), .one (.int .i64 i)] [.cells [.data (.ints .i64 h)], .cells [.int .i64 p, .bool b0, .bool b1, .bool b2, .data (.ints .i64 a)], .cells [.bool c0, .bool c1, .bool c2]]) k = (
 bif decide (i < (↑l.length : Int)) then
 bif decide ((0 : Int) ≤ i) && decide (i < (↑l.length : Int)) then
 bif decide ((1 : Nat) < (2 : Nat)) && decide (i.toNat < l.length) then
 (h.length ≤ (1000000000000 : Nat) ∧
 (a.length ≤ (1000000000000 : Nat) ∧
 exbliA_x0 l i h p b0 b1 b2 a c0 c1 c2 k ∧ exbliA_x0 l i h p b0 b1 b2 a c0 c1 c2 k) ∧
 exbliA_x1 l i h p b0 b1 b2 a c0 c1 c2 k) ∧
 h.length ≤ (1000000000000 : Nat) ∧ exbliA_x1 l i h p b0 b1 b2 a c0 c1 c2 k
 else False
 else False
 else
 k (Ex.exit (0 : Nat))
 {
 t :=
 [AV.any, AV.one (SV.data (Row.mat IntKind.i64 (2 : Nat) l)),
 AV.one (SV.ptr (0 : Nat) (1 : Nat) (0 : Nat) (0 : Nat)), AV.any, AV.any,
 AV.one (SV.ptr (1 : Nat) (1 : Nat) (0 : Nat) (0 : Nat)), AV.any,
 AV.one (SV.ptr (2 : Nat) (1 : Nat) (0 : Nat) (0 : Nat)), AV.one (SV.int IntKind.i64 i), AV.any, AV.any,
 AV.any, AV.any, AV.any, AV.any, AV.any, AV.any, AV.any, AV.any, AV.any, AV.any, AV.any, AV.any, AV.any,
 AV.any, AV.any, AV.any, AV.any, AV.any, AV.any, AV.any, AV.any, AV.any, AV.any, AV.any, AV.any, AV.any,
 AV.one (SV.int IntKind.i64 i), AV.one (SV.data (Row.mat IntKind.i64 (2 : Nat) l)),
 AV.one (SV.int IntKind.i64 (↑l.length : Int)), AV.one (SV.bool false), AV.any, AV.any, AV.any, AV.any, AV.any,
 AV.any, AV.any, AV.any, AV.any, AV.any, AV.any, AV.any, AV.any, AV.any, AV.any, AV.any, AV.any, AV.any,
 AV.any, AV.any, AV.any, AV.any, AV.any, AV.any, AV.any, AV.any, AV.any, AV.any, AV.any, AV.any, AV.any,
 AV.any, AV.any, AV.any, AV.any, AV.any, AV.any, AV.any, AV.any, AV.any, AV.any, AV.any, AV.any, AV.any,
 AV.any, AV.any, AV.any, AV.any, AV.any, AV.any, AV.any, AV.any, AV.any, AV.any, AV.any, AV.any, AV.any,
 AV.any, AV.any, AV.any, AV.any, AV.any, AV.any, AV.any, AV.any, AV.any, AV.any, AV.any, AV.any, AV.any,
 AV.any, AV.any, AV.any, AV.any, AV.any, AV.any, AV.any, AV.any, AV.any, AV.any, AV.any, AV.any, AV.any,
 AV.any, AV.any, AV.any, AV.any, AV.any, AV.any, AV.any, AV.any, AV.any, AV.any, AV.any, AV.any, AV.any,
 AV.any, AV.any, AV.any, AV.any, AV.any, AV.any, AV.any, AV.any, AV.any, AV.any, AV.any, AV.any, AV.any,
 AV.any, AV.any, AV.any, AV.any, AV.any, AV.any, AV.any, AV.any, AV.any, AV.any, AV.any, AV.any, AV.any,
 AV.any, AV.any, AV.any, AV.any, AV.any, AV.any, AV.any, AV.any, AV.any, AV.any, AV.any, AV.any, AV.any,
 AV.any, AV.any, AV.any, AV.any, AV.any, AV.any, AV.any, AV.any, AV.any, AV.any, AV.any, AV.any, AV.any,
 AV.any],
 σ :=
 [Blk.cells [SV.data (Row.ints IntKind.i64 h)],
 Blk.cells [SV.int IntKind.i64 p, SV.bool b0, SV.bool b1, SV.bool b2, SV.data (Row.ints IntKind.i64 a)],
 Blk.cells [SV.bool c0, SV.bool c1, SV.bool c2]] }) := by kernel_rfl
theorem exbli (h : List Int) (l : List (List Int)) (K : AV → List Blk → Prop) : evFn Ebli Tryd.f17 [.agg [.data (.ints .i64 h)], .one (.data (.mat .i64 2 l))] [] K = (
 bif decide ((↑h.length : Int) > (10 : Int)) then K (AV.one (SV.bool true)) []
 else
 bif decide ((↑l.length : Int) > (60 : Int)) then K (AV.one (SV.bool true)) []
 else
 h.length ≤ (1000000000 : Nat) ∧
 bif ruE h != (0 : Int) then K (AV.one (SV.bool true)) []
 else
 h.length ≤ (1000000000000 : Nat) ∧
 h.length ≤ (1000000000 : Nat) ∧
 bif ruE h != (0 : Int) then K (AV.one (SV.bool false)) []
 else
 (l.length ≤ (1000 : Nat) ∧
 (0 : Int) ≤ (0 : Int) ∧
 (0 : Int) ≤ (↑l.length : Int) ∧
 boE h (bif ruE h == (0 : Int) then (-1 : Int) else (0 : Int)) false false false [] = (0 : Int) ∧
 false = false ∧ false = false ∧ false = false) ∧
 ∀ (q : Int) (d0 d1 d2 : Bool) (z : List Int),
 boE h q d0 d1 d2 z = (0 : Int) →
 h.length ≤ (1000000000000 : Nat) ∧
 z.length ≤ (1000000000000 : Nat) ∧
 (h.length ≤ (1000000000 : Nat) ∧ z.length ≤ (1000000 : Nat)) ∧
 bif boE h q d0 d1 d2 z == (0 : Int) then
 K
 (AV.one
 (SV.bool
 (decide
 ((0 : Int) ≤ bif boE h q d0 d1 d2 z == (0 : Int) then scG z h else (0 : Int)) &&
 decide
 ((bif boE h q d0 d1 d2 z == (0 : Int) then scG z h else (0 : Int)) ≤
 (↑z.length : Int)))))
 []
 else K (AV.one (SV.bool false)) []) := by kernel_rfl
end Go.Ev
