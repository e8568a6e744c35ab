/-
  Chapter 9, contract: the law of blind listening, the second part of a round.
-/
import Derived.Test.YtiflkochjfiegaaDoorC9SE
import Derived.KernelRfl
set_option linter.unusedVariables false
set_option linter.unusedSimpArgs false
set_option linter.unusedSectionVars false
namespace Go.Ev
open Go Go.Proofs
set_option maxRecDepth 20000

end Go.Ev

namespace Go.Ev
open Go Go.Proofs
set_option maxRecDepth 100000
def exbliB_x0 (l : List (List Int)) (i : Int) (h : List Int) (p : Int) (b0 b1 b2 : Bool) (a : List Int) (c0 c1 c2 : Bool) (K : Ex → List AV → List Blk → Prop) : Prop := (
 bif
 !(aoB
 (apE h p b0 b1 b2 a ((l.getD i.toNat []).getD (0 : Nat) (0 : Int))
 ((l.getD i.toNat []).getD (1 : Nat) (0 : Int)))
 (0 : Int) b0 ((l.getD i.toNat []).getD (0 : Nat) (0 : Int))
 ((l.getD i.toNat []).getD (1 : Nat) (0 : Int)) ==
 true &&
 (aoB
 (apE h p b0 b1 b2 a ((l.getD i.toNat []).getD (0 : Nat) (0 : Int))
 ((l.getD i.toNat []).getD (1 : Nat) (0 : Int)))
 (1 : Int) b1 ((l.getD i.toNat []).getD (0 : Nat) (0 : Int))
 ((l.getD i.toNat []).getD (1 : Nat) (0 : Int)) ==
 c1 &&
 aoB
 (apE h p b0 b1 b2 a ((l.getD i.toNat []).getD (0 : Nat) (0 : Int))
 ((l.getD i.toNat []).getD (1 : Nat) (0 : Int)))
 (2 : Int) b2 ((l.getD i.toNat []).getD (0 : Nat) (0 : Int))
 ((l.getD i.toNat []).getD (1 : Nat) (0 : Int)) ==
 c2)) then
 K Ex.ret
 [AV.one (SV.ptr (0 : Nat) (1 : Nat) (0 : Nat) (0 : Nat)), AV.one (SV.bool false),
 AV.one (SV.ptr (1 : Nat) (1 : Nat) (0 : Nat) (0 : Nat))]
 [Blk.cells [SV.data (Row.ints IntKind.i64 h)],
 Blk.cells [SV.int IntKind.i64 p, SV.bool b0, SV.bool b1, SV.bool b2, SV.data (Row.ints IntKind.i64 a)]]
 else
 K Ex.normal
 [AV.one (SV.data (Row.mat IntKind.i64 (2 : Nat) l)), AV.one (SV.ptr (0 : Nat) (1 : Nat) (0 : Nat) (0 : Nat)),
 AV.one (SV.ptr (1 : Nat) (1 : Nat) (0 : Nat) (0 : Nat)), AV.one (SV.ptr (2 : Nat) (1 : Nat) (0 : Nat) (0 : Nat)),
 AV.one (SV.int IntKind.i64 (IntKind.i64.wrap (i + (1 : Int))))]
 [Blk.cells [SV.data (Row.ints IntKind.i64 h)],
 Blk.cells
 [SV.int IntKind.i64
 (aoP
 (apE h p b0 b1 b2 a ((l.getD i.toNat []).getD (0 : Nat) (0 : Int))
 ((l.getD i.toNat []).getD (1 : Nat) (0 : Int)))
 p ((l.getD i.toNat []).getD (0 : Nat) (0 : Int)) ((l.getD i.toNat []).getD (1 : Nat) (0 : Int))),
 SV.bool
 (aoB
 (apE h p b0 b1 b2 a ((l.getD i.toNat []).getD (0 : Nat) (0 : Int))
 ((l.getD i.toNat []).getD (1 : Nat) (0 : Int)))
 (0 : Int) b0 ((l.getD i.toNat []).getD (0 : Nat) (0 : Int))
 ((l.getD i.toNat []).getD (1 : Nat) (0 : Int))),
 SV.bool
 (aoB
 (apE h p b0 b1 b2 a ((l.getD i.toNat []).getD (0 : Nat) (0 : Int))
 ((l.getD i.toNat []).getD (1 : Nat) (0 : Int)))
 (1 : Int) b1 ((l.getD i.toNat []).getD (0 : Nat) (0 : Int))
 ((l.getD i.toNat []).getD (1 : Nat) (0 : Int))),
 SV.bool
 (aoB
 (apE h p b0 b1 b2 a ((l.getD i.toNat []).getD (0 : Nat) (0 : Int))
 ((l.getD i.toNat []).getD (1 : Nat) (0 : Int)))
 (2 : Int) b2 ((l.getD i.toNat []).getD (0 : Nat) (0 : Int))
 ((l.getD i.toNat []).getD (1 : Nat) (0 : Int))),
 SV.data
 (Row.ints IntKind.i64
 (aoA
 (apE h p b0 b1 b2 a ((l.getD i.toNat []).getD (0 : Nat) (0 : Int))
 ((l.getD i.toNat []).getD (1 : Nat) (0 : Int)))
 a ((l.getD i.toNat []).getD (0 : Nat) (0 : Int)) ((l.getD i.toNat []).getD (1 : Nat) (0 : Int))))],
 Blk.cells [SV.bool true, SV.bool c1, SV.bool c2]])
def exbliB_x1 (l : List (List Int)) (i : Int) (h : List Int) (p : Int) (b0 b1 b2 : Bool) (a : List Int) (c0 c1 c2 : Bool) (K : Ex → List AV → List Blk → Prop) : Prop := (
 bif
 !(aoB
 (apE h p b0 b1 b2 a ((l.getD i.toNat []).getD (0 : Nat) (0 : Int))
 ((l.getD i.toNat []).getD (1 : Nat) (0 : Int)))
 (0 : Int) b0 ((l.getD i.toNat []).getD (0 : Nat) (0 : Int))
 ((l.getD i.toNat []).getD (1 : Nat) (0 : Int)) ==
 c0 &&
 (aoB
 (apE h p b0 b1 b2 a ((l.getD i.toNat []).getD (0 : Nat) (0 : Int))
 ((l.getD i.toNat []).getD (1 : Nat) (0 : Int)))
 (1 : Int) b1 ((l.getD i.toNat []).getD (0 : Nat) (0 : Int))
 ((l.getD i.toNat []).getD (1 : Nat) (0 : Int)) ==
 true &&
 aoB
 (apE h p b0 b1 b2 a ((l.getD i.toNat []).getD (0 : Nat) (0 : Int))
 ((l.getD i.toNat []).getD (1 : Nat) (0 : Int)))
 (2 : Int) b2 ((l.getD i.toNat []).getD (0 : Nat) (0 : Int))
 ((l.getD i.toNat []).getD (1 : Nat) (0 : Int)) ==
 c2)) then
 K Ex.ret
 [AV.one (SV.ptr (0 : Nat) (1 : Nat) (0 : Nat) (0 : Nat)), AV.one (SV.bool false),
 AV.one (SV.ptr (1 : Nat) (1 : Nat) (0 : Nat) (0 : Nat))]
 [Blk.cells [SV.data (Row.ints IntKind.i64 h)],
 Blk.cells [SV.int IntKind.i64 p, SV.bool b0, SV.bool b1, SV.bool b2, SV.data (Row.ints IntKind.i64 a)]]
 else
 K Ex.normal
 [AV.one (SV.data (Row.mat IntKind.i64 (2 : Nat) l)), AV.one (SV.ptr (0 : Nat) (1 : Nat) (0 : Nat) (0 : Nat)),
 AV.one (SV.ptr (1 : Nat) (1 : Nat) (0 : Nat) (0 : Nat)), AV.one (SV.ptr (2 : Nat) (1 : Nat) (0 : Nat) (0 : Nat)),
 AV.one (SV.int IntKind.i64 (IntKind.i64.wrap (i + (1 : Int))))]
 [Blk.cells [SV.data (Row.ints IntKind.i64 h)],
 Blk.cells
 [SV.int IntKind.i64
 (aoP
 (apE h p b0 b1 b2 a ((l.getD i.toNat []).getD (0 : Nat) (0 : Int))
 ((l.getD i.toNat []).getD (1 : Nat) (0 : Int)))
 p ((l.getD i.toNat []).getD (0 : Nat) (0 : Int)) ((l.getD i.toNat []).getD (1 : Nat) (0 : Int))),
 SV.bool
 (aoB
 (apE h p b0 b1 b2 a ((l.getD i.toNat []).getD (0 : Nat) (0 : Int))
 ((l.getD i.toNat []).getD (1 : Nat) (0 : Int)))
 (0 : Int) b0 ((l.getD i.toNat []).getD (0 : Nat) (0 : Int))
 ((l.getD i.toNat []).getD (1 : Nat) (0 : Int))),
 SV.bool
 (aoB
 (apE h p b0 b1 b2 a ((l.getD i.toNat []).getD (0 : Nat) (0 : Int))
 ((l.getD i.toNat []).getD (1 : Nat) (0 : Int)))
 (1 : Int) b1 ((l.getD i.toNat []).getD (0 : Nat) (0 : Int))
 ((l.getD i.toNat []).getD (1 : Nat) (0 : Int))),
 SV.bool
 (aoB
 (apE h p b0 b1 b2 a ((l.getD i.toNat []).getD (0 : Nat) (0 : Int))
 ((l.getD i.toNat []).getD (1 : Nat) (0 : Int)))
 (2 : Int) b2 ((l.getD i.toNat []).getD (0 : Nat) (0 : Int))
 ((l.getD i.toNat []).getD (1 : Nat) (0 : Int))),
 SV.data
 (Row.ints IntKind.i64
 (aoA
 (apE h p b0 b1 b2 a ((l.getD i.toNat []).getD (0 : Nat) (0 : Int))
 ((l.getD i.toNat []).getD (1 : Nat) (0 : Int)))
 a ((l.getD i.toNat []).getD (0 : Nat) (0 : Int)) ((l.getD i.toNat []).getD (1 : Nat) (0 : Int))))],
 Blk.cells [SV.bool c0, SV.bool true, SV.bool c2]])
def exbliB_x2 (l : List (List Int)) (i : Int) (h : List Int) (p : Int) (b0 b1 b2 : Bool) (a : List Int) (c0 c1 c2 : Bool) (K : Ex → List AV → List Blk → Prop) : Prop := (
 bif
 !(aoB
 (apE h p b0 b1 b2 a ((l.getD i.toNat []).getD (0 : Nat) (0 : Int))
 ((l.getD i.toNat []).getD (1 : Nat) (0 : Int)))
 (0 : Int) b0 ((l.getD i.toNat []).getD (0 : Nat) (0 : Int))
 ((l.getD i.toNat []).getD (1 : Nat) (0 : Int)) ==
 c0 &&
 (aoB
 (apE h p b0 b1 b2 a ((l.getD i.toNat []).getD (0 : Nat) (0 : Int))
 ((l.getD i.toNat []).getD (1 : Nat) (0 : Int)))
 (1 : Int) b1 ((l.getD i.toNat []).getD (0 : Nat) (0 : Int))
 ((l.getD i.toNat []).getD (1 : Nat) (0 : Int)) ==
 c1 &&
 aoB
 (apE h p b0 b1 b2 a ((l.getD i.toNat []).getD (0 : Nat) (0 : Int))
 ((l.getD i.toNat []).getD (1 : Nat) (0 : Int)))
 (2 : Int) b2 ((l.getD i.toNat []).getD (0 : Nat) (0 : Int))
 ((l.getD i.toNat []).getD (1 : Nat) (0 : Int)) ==
 true)) then
 K Ex.ret
 [AV.one (SV.ptr (0 : Nat) (1 : Nat) (0 : Nat) (0 : Nat)), AV.one (SV.bool false),
 AV.one (SV.ptr (1 : Nat) (1 : Nat) (0 : Nat) (0 : Nat))]
 [Blk.cells [SV.data (Row.ints IntKind.i64 h)],
 Blk.cells [SV.int IntKind.i64 p, SV.bool b0, SV.bool b1, SV.bool b2, SV.data (Row.ints IntKind.i64 a)]]
 else
 K Ex.normal
 [AV.one (SV.data (Row.mat IntKind.i64 (2 : Nat) l)), AV.one (SV.ptr (0 : Nat) (1 : Nat) (0 : Nat) (0 : Nat)),
 AV.one (SV.ptr (1 : Nat) (1 : Nat) (0 : Nat) (0 : Nat)), AV.one (SV.ptr (2 : Nat) (1 : Nat) (0 : Nat) (0 : Nat)),
 AV.one (SV.int IntKind.i64 (IntKind.i64.wrap (i + (1 : Int))))]
 [Blk.cells [SV.data (Row.ints IntKind.i64 h)],
 Blk.cells
 [SV.int IntKind.i64
 (aoP
 (apE h p b0 b1 b2 a ((l.getD i.toNat []).getD (0 : Nat) (0 : Int))
 ((l.getD i.toNat []).getD (1 : Nat) (0 : Int)))
 p ((l.getD i.toNat []).getD (0 : Nat) (0 : Int)) ((l.getD i.toNat []).getD (1 : Nat) (0 : Int))),
 SV.bool
 (aoB
 (apE h p b0 b1 b2 a ((l.getD i.toNat []).getD (0 : Nat) (0 : Int))
 ((l.getD i.toNat []).getD (1 : Nat) (0 : Int)))
 (0 : Int) b0 ((l.getD i.toNat []).getD (0 : Nat) (0 : Int))
 ((l.getD i.toNat []).getD (1 : Nat) (0 : Int))),
 SV.bool
 (aoB
 (apE h p b0 b1 b2 a ((l.getD i.toNat []).getD (0 : Nat) (0 : Int))
 ((l.getD i.toNat []).getD (1 : Nat) (0 : Int)))
 (1 : Int) b1 ((l.getD i.toNat []).getD (0 : Nat) (0 : Int))
 ((l.getD i.toNat []).getD (1 : Nat) (0 : Int))),
 SV.bool
 (aoB
 (apE h p b0 b1 b2 a ((l.getD i.toNat []).getD (0 : Nat) (0 : Int))
 ((l.getD i.toNat []).getD (1 : Nat) (0 : Int)))
 (2 : Int) b2 ((l.getD i.toNat []).getD (0 : Nat) (0 : Int))
 ((l.getD i.toNat []).getD (1 : Nat) (0 : Int))),
 SV.data
 (Row.ints IntKind.i64
 (aoA
 (apE h p b0 b1 b2 a ((l.getD i.toNat []).getD (0 : Nat) (0 : Int))
 ((l.getD i.toNat []).getD (1 : Nat) (0 : Int)))
 a ((l.getD i.toNat []).getD (0 : Nat) (0 : Int)) ((l.getD i.toNat []).getD (1 : Nat) (0 : Int))))],
 Blk.cells [SV.bool c0, SV.bool c1, SV.bool true]])
def exbliB_x3 (l : List (List Int)) (i : Int) (h : List Int) (p : Int) (b0 b1 b2 : Bool) (a : List Int) (c0 c1 c2 : Bool) (K : Ex → List AV → List Blk → Prop) : Prop := (
 bif
 !(aoB
 (apE h p b0 b1 b2 a ((l.getD i.toNat []).getD (0 : Nat) (0 : Int))
 ((l.getD i.toNat []).getD (1 : Nat) (0 : Int)))
 (0 : Int) b0 ((l.getD i.toNat []).getD (0 : Nat) (0 : Int))
 ((l.getD i.toNat []).getD (1 : Nat) (0 : Int)) ==
 false &&
 (aoB
 (apE h p b0 b1 b2 a ((l.getD i.toNat []).getD (0 : Nat) (0 : Int))
 ((l.getD i.toNat []).getD (1 : Nat) (0 : Int)))
 (1 : Int) b1 ((l.getD i.toNat []).getD (0 : Nat) (0 : Int))
 ((l.getD i.toNat []).getD (1 : Nat) (0 : Int)) ==
 false &&
 aoB
 (apE h p b0 b1 b2 a ((l.getD i.toNat []).getD (0 : Nat) (0 : Int))
 ((l.getD i.toNat []).getD (1 : Nat) (0 : Int)))
 (2 : Int) b2 ((l.getD i.toNat []).getD (0 : Nat) (0 : Int))
 ((l.getD i.toNat []).getD (1 : Nat) (0 : Int)) ==
 false)) then
 K Ex.ret
 [AV.one (SV.ptr (0 : Nat) (1 : Nat) (0 : Nat) (0 : Nat)), AV.one (SV.bool false),
 AV.one (SV.ptr (1 : Nat) (1 : Nat) (0 : Nat) (0 : Nat))]
 [Blk.cells [SV.data (Row.ints IntKind.i64 h)],
 Blk.cells [SV.int IntKind.i64 p, SV.bool b0, SV.bool b1, SV.bool b2, SV.data (Row.ints IntKind.i64 a)]]
 else
 K Ex.normal
 [AV.one (SV.data (Row.mat IntKind.i64 (2 : Nat) l)), AV.one (SV.ptr (0 : Nat) (1 : Nat) (0 : Nat) (0 : Nat)),
 AV.one (SV.ptr (1 : Nat) (1 : Nat) (0 : Nat) (0 : Nat)), AV.one (SV.ptr (2 : Nat) (1 : Nat) (0 : Nat) (0 : Nat)),
 AV.one (SV.int IntKind.i64 (IntKind.i64.wrap (i + (1 : Int))))]
 [Blk.cells [SV.data (Row.ints IntKind.i64 h)],
 Blk.cells
 [SV.int IntKind.i64
 (aoP
 (apE h p b0 b1 b2 a ((l.getD i.toNat []).getD (0 : Nat) (0 : Int))
 ((l.getD i.toNat []).getD (1 : Nat) (0 : Int)))
 p ((l.getD i.toNat []).getD (0 : Nat) (0 : Int)) ((l.getD i.toNat []).getD (1 : Nat) (0 : Int))),
 SV.bool
 (aoB
 (apE h p b0 b1 b2 a ((l.getD i.toNat []).getD (0 : Nat) (0 : Int))
 ((l.getD i.toNat []).getD (1 : Nat) (0 : Int)))
 (0 : Int) b0 ((l.getD i.toNat []).getD (0 : Nat) (0 : Int))
 ((l.getD i.toNat []).getD (1 : Nat) (0 : Int))),
 SV.bool
 (aoB
 (apE h p b0 b1 b2 a ((l.getD i.toNat []).getD (0 : Nat) (0 : Int))
 ((l.getD i.toNat []).getD (1 : Nat) (0 : Int)))
 (1 : Int) b1 ((l.getD i.toNat []).getD (0 : Nat) (0 : Int))
 ((l.getD i.toNat []).getD (1 : Nat) (0 : Int))),
 SV.bool
 (aoB
 (apE h p b0 b1 b2 a ((l.getD i.toNat []).getD (0 : Nat) (0 : Int))
 ((l.getD i.toNat []).getD (1 : Nat) (0 : Int)))
 (2 : Int) b2 ((l.getD i.toNat []).getD (0 : Nat) (0 : Int))
 ((l.getD i.toNat []).getD (1 : Nat) (0 : Int))),
 SV.data
 (Row.ints IntKind.i64
 (aoA
 (apE h p b0 b1 b2 a ((l.getD i.toNat []).getD (0 : Nat) (0 : Int))
 ((l.getD i.toNat []).getD (1 : Nat) (0 : Int)))
 a ((l.getD i.toNat []).getD (0 : Nat) (0 : Int)) ((l.getD i.toNat []).getD (1 : Nat) (0 : Int))))],
 Blk.cells [SV.bool false, SV.bool false, SV.bool false]])
def exbliB_x4 (l : List (List Int)) (i : Int) (h : List Int) (p : Int) (b0 b1 b2 : Bool) (a : List Int) (c0 c1 c2 : Bool) (K : Ex → List AV → List Blk → Prop) : Prop := (
 bif decide ((0 : Int) ≤ i) && decide (i < (↑l.length : Int)) then
 bif decide ((0 : Nat) < (2 : Nat)) && decide (i.toNat < l.length) then
 bif (l.getD i.toNat []).getD (0 : Nat) (0 : Int) != (2 : Int) then
 bif decide ((0 : Int) ≤ i) && decide (i < (↑l.length : Int)) then
 bif decide ((0 : Nat) < (2 : Nat)) && decide (i.toNat < l.length) then
 bif (l.getD i.toNat []).getD (0 : Nat) (0 : Int) != (3 : Int) then
 (aoA
 (apE h p b0 b1 b2 a ((l.getD i.toNat []).getD (0 : Nat) (0 : Int))
 ((l.getD i.toNat []).getD (1 : Nat) (0 : Int)))
 a ((l.getD i.toNat []).getD (0 : Nat) (0 : Int))
 ((l.getD i.toNat []).getD (1 : Nat) (0 : Int))).length ≤
 (1000000000 : Nat) ∧
 bif
 !aoA
 (apE h p b0 b1 b2 a ((l.getD i.toNat []).getD (0 : Nat) (0 : Int))
 ((l.getD i.toNat []).getD (1 : Nat) (0 : Int)))
 a ((l.getD i.toNat []).getD (0 : Nat) (0 : Int))
 ((l.getD i.toNat []).getD (1 : Nat) (0 : Int)) ==
 a then
 K Ex.ret
 [AV.one (SV.ptr (0 : Nat) (1 : Nat) (0 : Nat) (0 : Nat)), AV.one (SV.bool false),
 AV.one (SV.ptr (1 : Nat) (1 : Nat) (0 : Nat) (0 : Nat))]
 [Blk.cells [SV.data (Row.ints IntKind.i64 h)],
 Blk.cells
 [SV.int IntKind.i64 p, SV.bool b0, SV.bool b1, SV.bool b2, SV.data (Row.ints IntKind.i64 a)]]
 else exbliB_x3 l i h p b0 b1 b2 a c0 c1 c2 K
 else exbliB_x3 l i h p b0 b1 b2 a c0 c1 c2 K
 else False
 else False
 else exbliB_x3 l i h p b0 b1 b2 a c0 c1 c2 K
 else False
 else False)
def exbliB_x5 (l : List (List Int)) (i : Int) (h : List Int) (p : Int) (b0 b1 b2 : Bool) (a : List Int) (c0 c1 c2 : Bool) (K : Ex → List AV → List Blk → Prop) : Prop := (
 bif
 !(aoB
 (apE h p b0 b1 b2 a ((l.getD i.toNat []).getD (0 : Nat) (0 : Int))
 ((l.getD i.toNat []).getD (1 : Nat) (0 : Int)))
 (0 : Int) b0 ((l.getD i.toNat []).getD (0 : Nat) (0 : Int))
 ((l.getD i.toNat []).getD (1 : Nat) (0 : Int)) ==
 c0 &&
 (aoB
 (apE h p b0 b1 b2 a ((l.getD i.toNat []).getD (0 : Nat) (0 : Int))
 ((l.getD i.toNat []).getD (1 : Nat) (0 : Int)))
 (1 : Int) b1 ((l.getD i.toNat []).getD (0 : Nat) (0 : Int))
 ((l.getD i.toNat []).getD (1 : Nat) (0 : Int)) ==
 c1 &&
 aoB
 (apE h p b0 b1 b2 a ((l.getD i.toNat []).getD (0 : Nat) (0 : Int))
 ((l.getD i.toNat []).getD (1 : Nat) (0 : Int)))
 (2 : Int) b2 ((l.getD i.toNat []).getD (0 : Nat) (0 : Int))
 ((l.getD i.toNat []).getD (1 : Nat) (0 : Int)) ==
 c2)) then
 K Ex.ret
 [AV.one (SV.ptr (0 : Nat) (1 : Nat) (0 : Nat) (0 : Nat)), AV.one (SV.bool false),
 AV.one (SV.ptr (1 : Nat) (1 : Nat) (0 : Nat) (0 : Nat))]
 [Blk.cells [SV.data (Row.ints IntKind.i64 h)],
 Blk.cells [SV.int IntKind.i64 p, SV.bool b0, SV.bool b1, SV.bool b2, SV.data (Row.ints IntKind.i64 a)]]
 else
 K Ex.normal
 [AV.one (SV.data (Row.mat IntKind.i64 (2 : Nat) l)), AV.one (SV.ptr (0 : Nat) (1 : Nat) (0 : Nat) (0 : Nat)),
 AV.one (SV.ptr (1 : Nat) (1 : Nat) (0 : Nat) (0 : Nat)), AV.one (SV.ptr (2 : Nat) (1 : Nat) (0 : Nat) (0 : Nat)),
 AV.one (SV.int IntKind.i64 (IntKind.i64.wrap (i + (1 : Int))))]
 [Blk.cells [SV.data (Row.ints IntKind.i64 h)],
 Blk.cells
 [SV.int IntKind.i64
 (aoP
 (apE h p b0 b1 b2 a ((l.getD i.toNat []).getD (0 : Nat) (0 : Int))
 ((l.getD i.toNat []).getD (1 : Nat) (0 : Int)))
 p ((l.getD i.toNat []).getD (0 : Nat) (0 : Int)) ((l.getD i.toNat []).getD (1 : Nat) (0 : Int))),
 SV.bool
 (aoB
 (apE h p b0 b1 b2 a ((l.getD i.toNat []).getD (0 : Nat) (0 : Int))
 ((l.getD i.toNat []).getD (1 : Nat) (0 : Int)))
 (0 : Int) b0 ((l.getD i.toNat []).getD (0 : Nat) (0 : Int))
 ((l.getD i.toNat []).getD (1 : Nat) (0 : Int))),
 SV.bool
 (aoB
 (apE h p b0 b1 b2 a ((l.getD i.toNat []).getD (0 : Nat) (0 : Int))
 ((l.getD i.toNat []).getD (1 : Nat) (0 : Int)))
 (1 : Int) b1 ((l.getD i.toNat []).getD (0 : Nat) (0 : Int))
 ((l.getD i.toNat []).getD (1 : Nat) (0 : Int))),
 SV.bool
 (aoB
 (apE h p b0 b1 b2 a ((l.getD i.toNat []).getD (0 : Nat) (0 : Int))
 ((l.getD i.toNat []).getD (1 : Nat) (0 : Int)))
 (2 : Int) b2 ((l.getD i.toNat []).getD (0 : Nat) (0 : Int))
 ((l.getD i.toNat []).getD (1 : Nat) (0 : Int))),
 SV.data
 (Row.ints IntKind.i64
 (aoA
 (apE h p b0 b1 b2 a ((l.getD i.toNat []).getD (0 : Nat) (0 : Int))
 ((l.getD i.toNat []).getD (1 : Nat) (0 : Int)))
 a ((l.getD i.toNat []).getD (0 : Nat) (0 : Int)) ((l.getD i.toNat []).getD (1 : Nat) (0 : Int))))],
 Blk.cells [SV.bool c0, SV.bool c1, SV.bool c2]])
theorem exbliB (l : List (List Int)) (i : Int) (h : List Int) (p : Int) (b0 b1 b2 : Bool) (a : List Int) (c0 c1 c2 : Bool) (K : Ex → List AV → List Blk → Prop) : evCode Ebli (cutB (lb Tryd.f17 0)) { t := [AV.any, AV.one (SV.data (Row.mat IntKind.i64 (2 : Nat) l)), AV.one (SV.ptr (0 : Nat) (1 : Nat) (0 : Nat) (0 : Nat)), AV.any, AV.any, AV.one (SV.ptr (1 : Nat) (1 : Nat) (0 : Nat) (0 : Nat)), AV.any, AV.one (SV.ptr (2 : Nat) (1 : Nat) (0 : Nat) (0 : Nat)), AV.one (SV.int IntKind.i64 i), AV.one (SV.ptr [Blk.cells [SV.data (Row.ints IntKind.i64 h)], Blk.cells [SV.int IntKind.i64 p, SV.bool b0, SV.bool b1, SV.bool b2, SV.data (Row.ints IntKind.i64 a)], Blk.cells [SV.bool c0, SV.bool c1, SV.bool c2]].length (1 : Nat) (0 : Nat) (0 : Nat)), AV.one (SV.int IntKind.i64 (apE h p b0 b1 b2 a ((l.getD i.toNat []).getD (0 : Nat) (0 : Int)) ((l.getD i.toNat []).getD (1 : Nat) (0 : Int)))), AV.any, AV.any, AV.any, AV.any, AV.any, AV.any, AV.any, AV.any, AV.any, AV.any, AV.any, AV.any, AV.any, AV.any, AV.any, AV.any, AV.any, AV.any, AV.any, AV.any, AV.any, AV.any, AV.any, AV.any, AV.any, AV.any, AV.one (SV.int IntKind.i64 i), AV.one (SV.data (Row.mat IntKind.i64 (2 : Nat) l)), AV.one (SV.int IntKind.i64 (↑l.length : Int)), AV.one (SV.bool true), AV.any, AV.any, AV.tup [TV.agg [SV.int IntKind.i64 (aoP (apE h p b0 b1 b2 a ((l.getD i.toNat []).getD (0 : Nat) (0 : Int)) ((l.getD i.toNat []).getD (1 : Nat) (0 : Int))) p ((l.getD i.toNat []).getD (0 : Nat) (0 : Int)) ((l.getD i.toNat []).getD (1 : Nat) (0 : Int))), SV.bool (aoB (apE h p b0 b1 b2 a ((l.getD i.toNat []).getD (0 : Nat) (0 : Int)) ((l.getD i.toNat []).getD (1 : Nat) (0 : Int))) (0 : Int) b0 ((l.getD i.toNat []).getD (0 : Nat) (0 : Int)) ((l.getD i.toNat []).getD (1 : Nat) (0 : Int))), SV.bool (aoB (apE h p b0 b1 b2 a ((l.getD i.toNat []).getD (0 : Nat) (0 : Int)) ((l.getD i.toNat []).getD (1 : Nat) (0 : Int))) (1 : Int) b1 ((l.getD i.toNat []).getD (0 : Nat) (0 : Int)) ((l.getD i.toNat []).getD (1 : Nat) (0 : Int))), SV.bool (aoB (apE h p b0 b1 b2 a ((l.getD i.toNat []).getD (0 : Nat) (0 : Int)) ((l.getD i.toNat []).getD (1 : Nat) (0 : Int))) (2 : Int) b2 ((l.getD i.toNat []).getD (0 : Nat) (0 : Int)) ((l.getD i.toNat []).getD (1 : Nat) (0 : Int))), SV.data (Row.ints IntKind.i64 (aoA (apE h p b0 b1 b2 a ((l.getD i.toNat []).getD (0 : Nat) (0 : Int)) ((l.getD i.toNat []).getD (1 : Nat) (0 : Int))) a ((l.getD i.toNat []).getD (0 : Nat) (0 : Int)) ((l.getD i.toNat []).getD (1 : Nat) (0 : Int))))], TV.one (SV.int IntKind.i64 (apE h p b0 b1 b2 a ((l.getD i.toNat []).getD (0 : Nat) (0 : Int)) ((l.getD i.toNat []).getD (1 : Nat) (0 : Int))))], AV.agg [SV.data (Row.ints IntKind.i64 h)], AV.agg [SV.data (Row.ints IntKind.i64 h)], AV.agg [SV.int IntKind.i64 p, SV.bool b0, SV.bool b1, SV.bool b2, SV.data (Row.ints IntKind.i64 a)], AV.agg [SV.int IntKind.i64 p, SV.bool b0, SV.bool b1, SV.bool b2, SV.data (Row.ints IntKind.i64 a)], AV.one (SV.data (Row.mat IntKind.i64 (2 : Nat) l)), AV.one (SV.int IntKind.i64 i), AV.one (SV.dptr (Row.mat IntKind.i64 (2 : Nat) l) i.toNat (0 : Nat)), AV.agg [SV.int IntKind.i64 ((l.getD i.toNat []).getD (0 : Nat) (0 : Int)), SV.int IntKind.i64 ((l.getD i.toNat []).getD (1 : Nat) (0 : Int))], AV.tup [TV.agg [SV.int IntKind.i64 (aoP (apE h p b0 b1 b2 a ((l.getD i.toNat []).getD (0 : Nat) (0 : Int)) ((l.getD i.toNat []).getD (1 : Nat) (0 : Int))) p ((l.getD i.toNat []).getD (0 : Nat) (0 : Int)) ((l.getD i.toNat []).getD (1 : Nat) (0 : Int))), SV.bool (aoB (apE h p b0 b1 b2 a ((l.getD i.toNat []).getD (0 : Nat) (0 : Int)) ((l.getD i.toNat []).getD (1 : Nat) (0 : Int))) (0 : Int) b0 ((l.getD i.toNat []).getD (0 : Nat) (0 : Int)) ((l.getD i.toNat []).getD (1 : Nat) (0 : Int))), SV.bool (aoB (apE h p b0 b1 b2 a ((l.getD i.toNat []).getD (0 : Nat) (0 : Int)) ((l.getD i.toNat []).getD (1 : Nat) (0 : Int))) (1 : Int) b1 ((l.getD i.toNat []).getD (0 : Nat) (0 : Int)) ((l.getD i.toNat []).getD (1 : Nat) (0 : Int))), SV.bool (aoB (apE h p b0 b1 b2 a ((l.getD i.toNat []).getD (0 : Nat) (0 : Int)) ((l.getD i.toNat []).getD (1 : Nat) (0 : Int))) (2 : Int) b2 ((l.getD i.toNat []).getD (0 : Nat) (0 : Int)) ((l.getD i.toNat []).getD (1 : Nat) (0 : Int))), SV.data (Row.ints IntKind.i64 (aoA (apE h p b0 b1 b2 a ((l.getD i.toNat []).getD (0 : Nat) (0 : Int)) ((l.getD i.toNat []).getD (1 : Nat) (0 : Int))) a ((l.getD i.toNat []).getD (0 : Nat) (0 : Int)) ((l.getD i.toNat []).getD (1 : Nat) (0 : Int))))], TV.one (SV.int IntKind.i64 (apE h p b0 b1 b2 a ((l.getD i.toNat []).getD (0 : Nat) (0 : Int)) ((l.getD i.toNat []).getD (1 : Nat) (0 : Int))))], AV.agg [SV.int IntKind.i64 (aoP (apE h p b0 b1 b2 a ((l.getD i.toNat []).getD (0 : Nat) (0 : Int)) ((l.getD i.toNat []).getD (1 : Nat) (0 : Int))) p ((l.getD i.toNat []).getD (0 : Nat) (0 : Int)) ((l.getD i.toNat []).getD (1 : Nat) (0 : Int))), SV.bool (aoB (apE h p b0 b1 b2 a ((l.getD i.toNat []).getD (0 : Nat) (0 : Int)) ((l.getD i.toNat []).getD (1 : Nat) (0 : Int))) (0 : Int) b0 ((l.getD i.toNat []).getD (0 : Nat) (0 : Int)) ((l.getD i.toNat []).getD (1 : Nat) (0 : Int))), SV.bool (aoB (apE h p b0 b1 b2 a ((l.getD i.toNat []).getD (0 : Nat) (0 : Int)) ((l.getD i.toNat []).getD (1 : Nat) (0 : Int))) (1 : Int) b1 ((l.getD i.toNat []).getD (0 : Nat) (0 : Int)) ((l.getD i.toNat []).getD (1 : Nat) (0 : Int))), SV.bool (aoB (apE h p b0 b1 b2 a ((l.getD i.toNat []).getD (0 : Nat) (0 : Int)) ((l.getD i.toNat []).getD (1 : Nat) (0 : Int))) (2 : Int) b2 ((l.getD i.toNat []).getD (0 : Nat) (0 : Int)) ((l.getD i.toNat []).getD (1 : Nat) (0 : Int))), SV.data (Row.ints IntKind.i64 (aoA (apE h p b0 b1 b2 a ((l.getD i.toNat []).getD (0 : Nat) (0 : Int)) ((l.getD i.toNat []).getD (1 : Nat) (0 : Int))) a ((l.getD i.toNat []).getD (0 : Nat) (0 : Int)) ((l.getD i.toNat []).getD (1 : Nat) (0 : Int))))], AV.one (SV.int IntKind.i64 (apE h p b0 b1 b2 a ((l.getD i.toNat []).getD (0 : Nat) (0 : Int)) ((l.getD i.toNat []).getD (1 : Nat) (0 : Int)))), AV.any, AV.any, AV.any, AV.any, AV.any, AV.any, AV.any, AV.any, AV.any, AV.any, AV.any, AV.any, AV.any, AV.any, AV.any, AV.any, AV.any, AV.any, AV.any, AV.any, AV.any, AV.any, AV.any, AV.any, AV.any, AV.any, AV.any, AV.any, AV.any, AV.any, AV.any, AV.any, AV.any, AV.any, AV.any, AV.any, AV.any, AV.any, AV.any, AV.any, AV.any, AV.any, AV.any, AV.any, AV.any, AV.any, AV.any, AV.any, AV.any, AV.any, AV.any, AV.any, AV.any, AV.any, AV.any, AV.any, AV.any, AV.any, AV.any, AV.any, AV.any, AV.any, AV.any, AV.any, AV.any, AV.any, AV.any, AV.any, AV.any, AV.any, AV.any, AV.any, AV.any, AV.any, AV.any, AV.any, AV.any, AV.any, AV.any, AV.any, AV.any, AV.any, AV.any, AV.any, AV.any, AV.any, AV.any, AV.any, AV.any, AV.any, AV.any, AV.any, AV.any, AV.any, AV.any, AV.any, AV.any, AV.any, AV.any, AV.any, AV.any, AV.any, AV.any, AV.any, AV.any, AV.any, AV.any, AV.any, AV.any, AV.any, AV.any, AV.any, AV.any, AV.any, AV.any, AV.any, AV.any, AV.any, AV.any, AV.any, AV.any, AV.any, AV.any, AV.any, AV.any, AV.any, AV.any, AV.any, AV.any, AV.any, AV.any, AV.any, AV.any, AV.any, AV.any], σ := [Blk.cells [SV.data (Row.ints IntKind.i64 h)], Blk.cells [SV.int IntKind.i64 p, SV.bool b0, SV.bool b1, SV.bool b2, SV.data (Row.ints IntKind.i64 a)], Blk.cells [SV.bool c0, SV.bool c1, SV.bool c2], Blk.cells [SV.int IntKind.i64 (aoP (apE h p b0 b1 b2 a ((l.getD i.toNat []).getD (0 : Nat) (0 : Int)) ((l.getD i.toNat []).getD (1 : Nat) (0 : Int))) p ((l.getD i.toNat []).getD (0 : Nat) (0 : Int)) ((l.getD i.toNat []).getD (1 : Nat) (0 : Int))), SV.bool (aoB (apE h p b0 b1 b2 a ((l.getD i.toNat []).getD (0 : Nat) (0 : Int)) ((l.getD i.toNat []).getD (1 : Nat) (0 : Int))) (0 : Int) b0 ((l.getD i.toNat []).getD (0 : Nat) (0 : Int)) ((l.getD i.toNat []).getD (1 : Nat) (0 : Int))), SV.bool (aoB (apE h p b0 b1 b2 a ((l.getD i.toNat []).getD (0 : Nat) (0 : Int)) ((l.getD i.toNat []).getD (1 : Nat) (0 : Int))) (1 : Int) b1 ((l.getD i.toNat []).getD (0 : Nat) (0 : Int)) ((l.getD i.toNat []).getD (1 : Nat) (0 : Int))), SV.bool (aoB (apE h p b0 b1 b2 a ((l.getD i.toNat []).getD (0 : Nat) (0 : Int)) ((l.getD i.toNat []).getD (1 : Nat) (0 : Int))) (2 : Int) b2 ((l.getD i.toNat []).getD (0 : Nat) (0 : Int)) ((l.getD i.toNat []).getD (1 : Nat) (0 : Int))), SV.data (Row.ints IntKind.i64 (aoA (apE h p b0 b1 b2 a ((l.getD i.toNat []).getD (0 : Nat) (0 : Int)) ((l.getD i.toNat []).getD (1 : Nat) (0 : Int))) a ((l.getD i.toNat []).getD (0 : Nat) (0 : Int)) ((l.getD i.toNat []).getD (1 : Nat) (0 : Int))))]] } (bodyK Ebli [1, 2, 5, 7, 8] [2, 4, 5] K) = (
 bif
 apE h p b0 b1 b2 a ((l.getD i.toNat []).getD (0 : Nat) (0 : Int)) ((l.getD i.toNat []).getD (1 : Nat) (0 : Int)) !=
 (0 : Int) then
 K Ex.normal
 [AV.one (SV.data (Row.mat IntKind.i64 (2 : Nat) l)), AV.one (SV.ptr (0 : Nat) (1 : Nat) (0 : Nat) (0 : Nat)),
 AV.one (SV.ptr (1 : Nat) (1 : Nat) (0 : Nat) (0 : Nat)), AV.one (SV.ptr (2 : Nat) (1 : Nat) (0 : Nat) (0 : Nat)),
 AV.one (SV.int IntKind.i64 (IntKind.i64.wrap (i + (1 : Int))))]
 [Blk.cells [SV.data (Row.ints IntKind.i64 h)],
 Blk.cells [SV.int IntKind.i64 p, SV.bool b0, SV.bool b1, SV.bool b2, SV.data (Row.ints IntKind.i64 a)],
 Blk.cells [SV.bool c0, SV.bool c1, SV.bool c2]]
 else
 (aoA
 (apE h p b0 b1 b2 a ((l.getD i.toNat []).getD (0 : Nat) (0 : Int))
 ((l.getD i.toNat []).getD (1 : Nat) (0 : Int)))
 a ((l.getD i.toNat []).getD (0 : Nat) (0 : Int)) ((l.getD i.toNat []).getD (1 : Nat) (0 : Int))).length ≤
 (1000000000 : Nat) ∧
 bif
 stE h
 (aoP
 (apE h p b0 b1 b2 a ((l.getD i.toNat []).getD (0 : Nat) (0 : Int))
 ((l.getD i.toNat []).getD (1 : Nat) (0 : Int)))
 p ((l.getD i.toNat []).getD (0 : Nat) (0 : Int)) ((l.getD i.toNat []).getD (1 : Nat) (0 : Int)))
 (aoB
 (apE h p b0 b1 b2 a ((l.getD i.toNat []).getD (0 : Nat) (0 : Int))
 ((l.getD i.toNat []).getD (1 : Nat) (0 : Int)))
 (0 : Int) b0 ((l.getD i.toNat []).getD (0 : Nat) (0 : Int))
 ((l.getD i.toNat []).getD (1 : Nat) (0 : Int)))
 (aoB
 (apE h p b0 b1 b2 a ((l.getD i.toNat []).getD (0 : Nat) (0 : Int))
 ((l.getD i.toNat []).getD (1 : Nat) (0 : Int)))
 (1 : Int) b1 ((l.getD i.toNat []).getD (0 : Nat) (0 : Int))
 ((l.getD i.toNat []).getD (1 : Nat) (0 : Int)))
 (aoB
 (apE h p b0 b1 b2 a ((l.getD i.toNat []).getD (0 : Nat) (0 : Int))
 ((l.getD i.toNat []).getD (1 : Nat) (0 : Int)))
 (2 : Int) b2 ((l.getD i.toNat []).getD (0 : Nat) (0 : Int))
 ((l.getD i.toNat []).getD (1 : Nat) (0 : Int)))
 (aoA
 (apE h p b0 b1 b2 a ((l.getD i.toNat []).getD (0 : Nat) (0 : Int))
 ((l.getD i.toNat []).getD (1 : Nat) (0 : Int)))
 a ((l.getD i.toNat []).getD (0 : Nat) (0 : Int)) ((l.getD i.toNat []).getD (1 : Nat) (0 : Int))) !=
 (0 : Int) then
 K Ex.ret
 [AV.one (SV.ptr (0 : Nat) (1 : Nat) (0 : Nat) (0 : Nat)), AV.one (SV.bool false),
 AV.one (SV.ptr (1 : Nat) (1 : Nat) (0 : Nat) (0 : Nat))]
 [Blk.cells [SV.data (Row.ints IntKind.i64 h)],
 Blk.cells [SV.int IntKind.i64 p, SV.bool b0, SV.bool b1, SV.bool b2, SV.data (Row.ints IntKind.i64 a)]]
 else
 bif decide ((0 : Int) ≤ i) && decide (i < (↑l.length : Int)) then
 bif decide ((0 : Nat) < (2 : Nat)) && decide (i.toNat < l.length) then
 bif (l.getD i.toNat []).getD (0 : Nat) (0 : Int) == (0 : Int) then
 bif decide ((0 : Int) ≤ i) && decide (i < (↑l.length : Int)) then
 bif decide ((1 : Nat) < (2 : Nat)) && decide (i.toNat < l.length) then
 bif
 !(decide ((0 : Int) ≤ (l.getD i.toNat []).getD (1 : Nat) (0 : Int)) &&
 decide ((l.getD i.toNat []).getD (1 : Nat) (0 : Int) ≤ (2 : Int))) then
 K Ex.ret
 [AV.one (SV.ptr (0 : Nat) (1 : Nat) (0 : Nat) (0 : Nat)), AV.one (SV.bool false),
 AV.one (SV.ptr (1 : Nat) (1 : Nat) (0 : Nat) (0 : Nat))]
 [Blk.cells [SV.data (Row.ints IntKind.i64 h)],
 Blk.cells
 [SV.int IntKind.i64 p, SV.bool b0, SV.bool b1, SV.bool b2, SV.data (Row.ints IntKind.i64 a)]]
 else
 bif decide ((0 : Int) ≤ i) && decide (i < (↑l.length : Int)) then
 bif decide ((1 : Nat) < (2 : Nat)) && decide (i.toNat < l.length) then
 bif
 decide ((0 : Int) ≤ (l.getD i.toNat []).getD (1 : Nat) (0 : Int)) &&
 decide ((l.getD i.toNat []).getD (1 : Nat) (0 : Int) < (3 : Int)) then
 bif (l.getD i.toNat []).getD (1 : Nat) (0 : Int) == (0 : Int) then
 bif decide ((0 : Int) ≤ i) && decide (i < (↑l.length : Int)) then
 bif decide ((0 : Nat) < (2 : Nat)) && decide (i.toNat < l.length) then
 bif (l.getD i.toNat []).getD (0 : Nat) (0 : Int) != (2 : Int) then
 bif decide ((0 : Int) ≤ i) && decide (i < (↑l.length : Int)) then
 bif decide ((0 : Nat) < (2 : Nat)) && decide (i.toNat < l.length) then
 bif (l.getD i.toNat []).getD (0 : Nat) (0 : Int) != (3 : Int) then
 (aoA
 (apE h p b0 b1 b2 a ((l.getD i.toNat []).getD (0 : Nat) (0 : Int))
 ((l.getD i.toNat []).getD (1 : Nat) (0 : Int)))
 a ((l.getD i.toNat []).getD (0 : Nat) (0 : Int))
 ((l.getD i.toNat []).getD (1 : Nat) (0 : Int))).length ≤
 (1000000000 : Nat) ∧
 bif
 !aoA
 (apE h p b0 b1 b2 a ((l.getD i.toNat []).getD (0 : Nat) (0 : Int))
 ((l.getD i.toNat []).getD (1 : Nat) (0 : Int)))
 a ((l.getD i.toNat []).getD (0 : Nat) (0 : Int))
 ((l.getD i.toNat []).getD (1 : Nat) (0 : Int)) ==
 a then
 K Ex.ret
 [AV.one (SV.ptr (0 : Nat) (1 : Nat) (0 : Nat) (0 : Nat)),
 AV.one (SV.bool false),
 AV.one (SV.ptr (1 : Nat) (1 : Nat) (0 : Nat) (0 : Nat))]
 [Blk.cells [SV.data (Row.ints IntKind.i64 h)],
 Blk.cells
 [SV.int IntKind.i64 p, SV.bool b0, SV.bool b1, SV.bool b2,
 SV.data (Row.ints IntKind.i64 a)]]
 else exbliB_x0 l i h p b0 b1 b2 a c0 c1 c2 K
 else exbliB_x0 l i h p b0 b1 b2 a c0 c1 c2 K
 else False
 else False
 else exbliB_x0 l i h p b0 b1 b2 a c0 c1 c2 K
 else False
 else False
 else
 bif (l.getD i.toNat []).getD (1 : Nat) (0 : Int) == (1 : Int) then
 bif decide ((0 : Int) ≤ i) && decide (i < (↑l.length : Int)) then
 bif decide ((0 : Nat) < (2 : Nat)) && decide (i.toNat < l.length) then
 bif (l.getD i.toNat []).getD (0 : Nat) (0 : Int) != (2 : Int) then
 bif decide ((0 : Int) ≤ i) && decide (i < (↑l.length : Int)) then
 bif decide ((0 : Nat) < (2 : Nat)) && decide (i.toNat < l.length) then
 bif (l.getD i.toNat []).getD (0 : Nat) (0 : Int) != (3 : Int) then
 (aoA
 (apE h p b0 b1 b2 a ((l.getD i.toNat []).getD (0 : Nat) (0 : Int))
 ((l.getD i.toNat []).getD (1 : Nat) (0 : Int)))
 a ((l.getD i.toNat []).getD (0 : Nat) (0 : Int))
 ((l.getD i.toNat []).getD (1 : Nat) (0 : Int))).length ≤
 (1000000000 : Nat) ∧
 bif
 !aoA
 (apE h p b0 b1 b2 a ((l.getD i.toNat []).getD (0 : Nat) (0 : Int))
 ((l.getD i.toNat []).getD (1 : Nat) (0 : Int)))
 a ((l.getD i.toNat []).getD (0 : Nat) (0 : Int))
 ((l.getD i.toNat []).getD (1 : Nat) (0 : Int)) ==
 a then
 K Ex.ret
 [AV.one (SV.ptr (0 : Nat) (1 : Nat) (0 : Nat) (0 : Nat)),
 AV.one (SV.bool false),
 AV.one (SV.ptr (1 : Nat) (1 : Nat) (0 : Nat) (0 : Nat))]
 [Blk.cells [SV.data (Row.ints IntKind.i64 h)],
 Blk.cells
 [SV.int IntKind.i64 p, SV.bool b0, SV.bool b1, SV.bool b2,
 SV.data (Row.ints IntKind.i64 a)]]
 else exbliB_x1 l i h p b0 b1 b2 a c0 c1 c2 K
 else exbliB_x1 l i h p b0 b1 b2 a c0 c1 c2 K
 else False
 else False
 else exbliB_x1 l i h p b0 b1 b2 a c0 c1 c2 K
 else False
 else False
 else
 bif decide ((0 : Int) ≤ i) && decide (i < (↑l.length : Int)) then
 bif decide ((0 : Nat) < (2 : Nat)) && decide (i.toNat < l.length) then
 bif (l.getD i.toNat []).getD (0 : Nat) (0 : Int) != (2 : Int) then
 bif decide ((0 : Int) ≤ i) && decide (i < (↑l.length : Int)) then
 bif decide ((0 : Nat) < (2 : Nat)) && decide (i.toNat < l.length) then
 bif (l.getD i.toNat []).getD (0 : Nat) (0 : Int) != (3 : Int) then
 (aoA
 (apE h p b0 b1 b2 a ((l.getD i.toNat []).getD (0 : Nat) (0 : Int))
 ((l.getD i.toNat []).getD (1 : Nat) (0 : Int)))
 a ((l.getD i.toNat []).getD (0 : Nat) (0 : Int))
 ((l.getD i.toNat []).getD (1 : Nat) (0 : Int))).length ≤
 (1000000000 : Nat) ∧
 bif
 !aoA
 (apE h p b0 b1 b2 a ((l.getD i.toNat []).getD (0 : Nat) (0 : Int))
 ((l.getD i.toNat []).getD (1 : Nat) (0 : Int)))
 a ((l.getD i.toNat []).getD (0 : Nat) (0 : Int))
 ((l.getD i.toNat []).getD (1 : Nat) (0 : Int)) ==
 a then
 K Ex.ret
 [AV.one (SV.ptr (0 : Nat) (1 : Nat) (0 : Nat) (0 : Nat)),
 AV.one (SV.bool false),
 AV.one (SV.ptr (1 : Nat) (1 : Nat) (0 : Nat) (0 : Nat))]
 [Blk.cells [SV.data (Row.ints IntKind.i64 h)],
 Blk.cells
 [SV.int IntKind.i64 p, SV.bool b0, SV.bool b1, SV.bool b2,
 SV.data (Row.ints IntKind.i64 a)]]
 else exbliB_x2 l i h p b0 b1 b2 a c0 c1 c2 K
 else exbliB_x2 l i h p b0 b1 b2 a c0 c1 c2 K
 else False
 else False
 else exbliB_x2 l i h p b0 b1 b2 a c0 c1 c2 K
 else False
 else False
 else False
 else False
 else False
 else False
 else False
 else
 bif (l.getD i.toNat []).getD (0 : Nat) (0 : Int) == (2 : Int) then
 bif !(c0 == true && (c1 == true && c2 == true)) then
 K Ex.ret
 [AV.one (SV.ptr (0 : Nat) (1 : Nat) (0 : Nat) (0 : Nat)), AV.one (SV.bool false),
 AV.one (SV.ptr (1 : Nat) (1 : Nat) (0 : Nat) (0 : Nat))]
 [Blk.cells [SV.data (Row.ints IntKind.i64 h)],
 Blk.cells
 [SV.int IntKind.i64 p, SV.bool b0, SV.bool b1, SV.bool b2, SV.data (Row.ints IntKind.i64 a)]]
 else
 bif
 (↑(aoA
 (apE h p b0 b1 b2 a ((l.getD i.toNat []).getD (0 : Nat) (0 : Int))
 ((l.getD i.toNat []).getD (1 : Nat) (0 : Int)))
 a ((l.getD i.toNat []).getD (0 : Nat) (0 : Int))
 ((l.getD i.toNat []).getD (1 : Nat) (0 : Int))).length :
 Int) !=
 IntKind.i64.wrap ((↑a.length : Int) + (1 : Int)) then
 K Ex.ret
 [AV.one (SV.ptr (0 : Nat) (1 : Nat) (0 : Nat) (0 : Nat)), AV.one (SV.bool false),
 AV.one (SV.ptr (1 : Nat) (1 : Nat) (0 : Nat) (0 : Nat))]
 [Blk.cells [SV.data (Row.ints IntKind.i64 h)],
 Blk.cells
 [SV.int IntKind.i64 p, SV.bool b0, SV.bool b1, SV.bool b2, SV.data (Row.ints IntKind.i64 a)]]
 else
 bif
 decide ((0 : Int) ≤ (↑a.length : Int)) &&
 (decide
 ((↑a.length : Int).toNat ≤
 (aoA
 (apE h p b0 b1 b2 a ((l.getD i.toNat []).getD (0 : Nat) (0 : Int))
 ((l.getD i.toNat []).getD (1 : Nat) (0 : Int)))
 a ((l.getD i.toNat []).getD (0 : Nat) (0 : Int))
 ((l.getD i.toNat []).getD (1 : Nat) (0 : Int))).length) &&
 decide ((0 : Nat) ≤ (↑a.length : Int).toNat)) then
 (List.take ((↑a.length : Int).toNat - (0 : Nat))
 (aoA
 (apE h p b0 b1 b2 a ((l.getD i.toNat []).getD (0 : Nat) (0 : Int))
 ((l.getD i.toNat []).getD (1 : Nat) (0 : Int)))
 a ((l.getD i.toNat []).getD (0 : Nat) (0 : Int))
 ((l.getD i.toNat []).getD (1 : Nat) (0 : Int)))).length ≤
 (1000000000 : Nat) ∧
 bif
 !List.take ((↑a.length : Int).toNat - (0 : Nat))
 (aoA
 (apE h p b0 b1 b2 a ((l.getD i.toNat []).getD (0 : Nat) (0 : Int))
 ((l.getD i.toNat []).getD (1 : Nat) (0 : Int)))
 a ((l.getD i.toNat []).getD (0 : Nat) (0 : Int))
 ((l.getD i.toNat []).getD (1 : Nat) (0 : Int))) ==
 a then
 K Ex.ret
 [AV.one (SV.ptr (0 : Nat) (1 : Nat) (0 : Nat) (0 : Nat)), AV.one (SV.bool false),
 AV.one (SV.ptr (1 : Nat) (1 : Nat) (0 : Nat) (0 : Nat))]
 [Blk.cells [SV.data (Row.ints IntKind.i64 h)],
 Blk.cells
 [SV.int IntKind.i64 p, SV.bool b0, SV.bool b1, SV.bool b2,
 SV.data (Row.ints IntKind.i64 a)]]
 else
 bif
 decide ((0 : Int) ≤ (↑a.length : Int)) &&
 decide
 ((↑a.length : Int) <
 (↑(aoA
 (apE h p b0 b1 b2 a ((l.getD i.toNat []).getD (0 : Nat) (0 : Int))
 ((l.getD i.toNat []).getD (1 : Nat) (0 : Int)))
 a ((l.getD i.toNat []).getD (0 : Nat) (0 : Int))
 ((l.getD i.toNat []).getD (1 : Nat) (0 : Int))).length :
 Int)) then
 bif
 decide
 ((↑a.length : Int).toNat + (0 : Nat) <
 (aoA
 (apE h p b0 b1 b2 a ((l.getD i.toNat []).getD (0 : Nat) (0 : Int))
 ((l.getD i.toNat []).getD (1 : Nat) (0 : Int)))
 a ((l.getD i.toNat []).getD (0 : Nat) (0 : Int))
 ((l.getD i.toNat []).getD (1 : Nat) (0 : Int))).length) then
 bif decide ((0 : Int) ≤ i) && decide (i < (↑l.length : Int)) then
 bif decide ((1 : Nat) < (2 : Nat)) && decide (i.toNat < l.length) then
 bif
 (aoA
 (apE h p b0 b1 b2 a ((l.getD i.toNat []).getD (0 : Nat) (0 : Int))
 ((l.getD i.toNat []).getD (1 : Nat) (0 : Int)))
 a ((l.getD i.toNat []).getD (0 : Nat) (0 : Int))
 ((l.getD i.toNat []).getD (1 : Nat) (0 : Int))).getD
 ((↑a.length : Int).toNat + (0 : Nat)) (0 : Int) !=
 (l.getD i.toNat []).getD (1 : Nat) (0 : Int) then
 K Ex.ret
 [AV.one (SV.ptr (0 : Nat) (1 : Nat) (0 : Nat) (0 : Nat)), AV.one (SV.bool false),
 AV.one (SV.ptr (1 : Nat) (1 : Nat) (0 : Nat) (0 : Nat))]
 [Blk.cells [SV.data (Row.ints IntKind.i64 h)],
 Blk.cells
 [SV.int IntKind.i64 p, SV.bool b0, SV.bool b1, SV.bool b2,
 SV.data (Row.ints IntKind.i64 a)]]
 else exbliB_x4 l i h p b0 b1 b2 a c0 c1 c2 K
 else False
 else False
 else False
 else False
 else False
 else
 bif (l.getD i.toNat []).getD (0 : Nat) (0 : Int) == (3 : Int) then
 bif (↑a.length : Int) == (0 : Int) then
 K Ex.ret
 [AV.one (SV.ptr (0 : Nat) (1 : Nat) (0 : Nat) (0 : Nat)), AV.one (SV.bool false),
 AV.one (SV.ptr (1 : Nat) (1 : Nat) (0 : Nat) (0 : Nat))]
 [Blk.cells [SV.data (Row.ints IntKind.i64 h)],
 Blk.cells
 [SV.int IntKind.i64 p, SV.bool b0, SV.bool b1, SV.bool b2, SV.data (Row.ints IntKind.i64 a)]]
 else
 bif
 decide ((0 : Int) ≤ IntKind.i64.wrap ((↑a.length : Int) - (1 : Int))) &&
 (decide ((IntKind.i64.wrap ((↑a.length : Int) - (1 : Int))).toNat ≤ a.length) &&
 decide ((0 : Nat) ≤ (IntKind.i64.wrap ((↑a.length : Int) - (1 : Int))).toNat)) then
 (aoA
 (apE h p b0 b1 b2 a ((l.getD i.toNat []).getD (0 : Nat) (0 : Int))
 ((l.getD i.toNat []).getD (1 : Nat) (0 : Int)))
 a ((l.getD i.toNat []).getD (0 : Nat) (0 : Int))
 ((l.getD i.toNat []).getD (1 : Nat) (0 : Int))).length ≤
 (1000000000 : Nat) ∧
 bif
 !aoA
 (apE h p b0 b1 b2 a ((l.getD i.toNat []).getD (0 : Nat) (0 : Int))
 ((l.getD i.toNat []).getD (1 : Nat) (0 : Int)))
 a ((l.getD i.toNat []).getD (0 : Nat) (0 : Int))
 ((l.getD i.toNat []).getD (1 : Nat) (0 : Int)) ==
 List.take ((IntKind.i64.wrap ((↑a.length : Int) - (1 : Int))).toNat - (0 : Nat)) a then
 K Ex.ret
 [AV.one (SV.ptr (0 : Nat) (1 : Nat) (0 : Nat) (0 : Nat)), AV.one (SV.bool false),
 AV.one (SV.ptr (1 : Nat) (1 : Nat) (0 : Nat) (0 : Nat))]
 [Blk.cells [SV.data (Row.ints IntKind.i64 h)],
 Blk.cells
 [SV.int IntKind.i64 p, SV.bool b0, SV.bool b1, SV.bool b2,
 SV.data (Row.ints IntKind.i64 a)]]
 else exbliB_x4 l i h p b0 b1 b2 a c0 c1 c2 K
 else False
 else
 bif decide ((0 : Int) ≤ i) && decide (i < (↑l.length : Int)) then
 bif decide ((0 : Nat) < (2 : Nat)) && decide (i.toNat < l.length) then
 bif (l.getD i.toNat []).getD (0 : Nat) (0 : Int) != (2 : Int) then
 bif decide ((0 : Int) ≤ i) && decide (i < (↑l.length : Int)) then
 bif decide ((0 : Nat) < (2 : Nat)) && decide (i.toNat < l.length) then
 bif (l.getD i.toNat []).getD (0 : Nat) (0 : Int) != (3 : Int) then
 (aoA
 (apE h p b0 b1 b2 a ((l.getD i.toNat []).getD (0 : Nat) (0 : Int))
 ((l.getD i.toNat []).getD (1 : Nat) (0 : Int)))
 a ((l.getD i.toNat []).getD (0 : Nat) (0 : Int))
 ((l.getD i.toNat []).getD (1 : Nat) (0 : Int))).length ≤
 (1000000000 : Nat) ∧
 bif
 !aoA
 (apE h p b0 b1 b2 a ((l.getD i.toNat []).getD (0 : Nat) (0 : Int))
 ((l.getD i.toNat []).getD (1 : Nat) (0 : Int)))
 a ((l.getD i.toNat []).getD (0 : Nat) (0 : Int))
 ((l.getD i.toNat []).getD (1 : Nat) (0 : Int)) ==
 a then
 K Ex.ret
 [AV.one (SV.ptr (0 : Nat) (1 : Nat) (0 : Nat) (0 : Nat)), AV.one (SV.bool false),
 AV.one (SV.ptr (1 : Nat) (1 : Nat) (0 : Nat) (0 : Nat))]
 [Blk.cells [SV.data (Row.ints IntKind.i64 h)],
 Blk.cells
 [SV.int IntKind.i64 p, SV.bool b0, SV.bool b1, SV.bool b2,
 SV.data (Row.ints IntKind.i64 a)]]
 else exbliB_x5 l i h p b0 b1 b2 a c0 c1 c2 K
 else exbliB_x5 l i h p b0 b1 b2 a c0 c1 c2 K
 else False
 else False
 else exbliB_x5 l i h p b0 b1 b2 a c0 c1 c2 K
 else False
 else False
 else False
 else False) := by kernel_rfl
theorem exbliC (l : List (List Int)) (i : Int) (h : List Int) (p : Int) (b0 b1 b2 : Bool) (a : List Int) (c0 c1 c2 : Bool) (K : Ex → List AV → List Blk → Prop) : bodyK Ebli [1, 2, 5, 7, 8] [2, 4, 5] K (.exit 0) { t := [AV.any, AV.one (SV.data (Row.mat IntKind.i64 (2 : Nat) l)), AV.one (SV.ptr (0 : Nat) (1 : Nat) (0 : Nat) (0 : Nat)), AV.any, AV.any, AV.one (SV.ptr (1 : Nat) (1 : Nat) (0 : Nat) (0 : Nat)), AV.any, AV.one (SV.ptr (2 : Nat) (1 : Nat) (0 : Nat) (0 : Nat)), AV.one (SV.int IntKind.i64 i), AV.any, AV.any, AV.any, AV.any, AV.any, AV.any, AV.any, AV.any, AV.any, AV.any, AV.any, AV.any, AV.any, AV.any, AV.any, AV.any, AV.any, AV.any, AV.any, AV.any, AV.any, AV.any, AV.any, AV.any, AV.any, AV.any, AV.any, AV.any, AV.one (SV.int IntKind.i64 i), AV.one (SV.data (Row.mat IntKind.i64 (2 : Nat) l)), AV.one (SV.int IntKind.i64 (↑l.length : Int)), AV.one (SV.bool false), AV.any, AV.any, AV.any, AV.any, AV.any, AV.any, AV.any, AV.any, AV.any, AV.any, AV.any, AV.any, AV.any, AV.any, AV.any, AV.any, AV.any, AV.any, AV.any, AV.any, AV.any, AV.any, AV.any, AV.any, AV.any, AV.any, AV.any, AV.any, AV.any, AV.any, AV.any, AV.any, AV.any, AV.any, AV.any, AV.any, AV.any, AV.any, AV.any, AV.any, AV.any, AV.any, AV.any, AV.any, AV.any, AV.any, AV.any, AV.any, AV.any, AV.any, AV.any, AV.any, AV.any, AV.any, AV.any, AV.any, AV.any, AV.any, AV.any, AV.any, AV.any, AV.any, AV.any, AV.any, AV.any, AV.any, AV.any, AV.any, AV.any, AV.any, AV.any, AV.any, AV.any, AV.any, AV.any, AV.any, AV.any, AV.any, AV.any, AV.any, AV.any, AV.any, AV.any, AV.any, AV.any, AV.any, AV.any, AV.any, AV.any, AV.any, AV.any, AV.any, AV.any, AV.any, AV.any, AV.any, AV.any, AV.any, AV.any, AV.any, AV.any, AV.any, AV.any, AV.any, AV.any, AV.any, AV.any, AV.any, AV.any, AV.any, AV.any, AV.any, AV.any, AV.any, AV.any, AV.any, AV.any, AV.any, AV.any, AV.any, AV.any, AV.any, AV.any, AV.any, AV.any, AV.any, AV.any, AV.any, AV.any, AV.any, AV.any, AV.any, AV.any, AV.any, AV.any, AV.any, AV.any, AV.any, AV.any, AV.any, AV.any, AV.any, AV.any, AV.any, AV.any, AV.any, AV.any, AV.any, AV.any], σ := [Blk.cells [SV.data (Row.ints IntKind.i64 h)], Blk.cells [SV.int IntKind.i64 p, SV.bool b0, SV.bool b1, SV.bool b2, SV.data (Row.ints IntKind.i64 a)], Blk.cells [SV.bool c0, SV.bool c1, SV.bool c2]] } = (
 K (Ex.exit (0 : Nat))
 [AV.one (SV.ptr (0 : Nat) (1 : Nat) (0 : Nat) (0 : Nat)), AV.any,
 AV.one (SV.ptr (1 : Nat) (1 : Nat) (0 : Nat) (0 : Nat))]
 [Blk.cells [SV.data (Row.ints IntKind.i64 h)],
 Blk.cells [SV.int IntKind.i64 p, SV.bool b0, SV.bool b1, SV.bool b2, SV.data (Row.ints IntKind.i64 a)]]) := by kernel_rfl
end Go.Ev
