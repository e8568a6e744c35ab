/-
  Part of the proof of a law.
-/
import Derived.Test.YtiflkochjfiegaaDoorC9SC
import Derived.Test.YtiflkochjfiegaaDoorCStr2
import Derived.KernelRfl
import Derived.Test.YtiflkochjfiegaaDoorEvTab
import Derived.Test.YtiflkochjfiegaaDoorC9XS
import Derived.Lib.ItoaLen
import Derived.Test.YtiflkochjfiegaaDoorC9V
set_option linter.unusedVariables false
set_option linter.unusedSimpArgs false
set_option linter.unusedSectionVars false
/-
  Chapter 9, contracts: strings of events.
-/
namespace Go.Ev
open Go Go.Proofs
set_option maxRecDepth 20000
set_option linter.unusedVariables false
def strcutS : Spec := fun args σ K => match args, σ with
  | [.one (.str s), .one (.str [c])], [] => s.length ≤ 1000000 ∧ K (.tup [.one (.str (bef c s)), .one (.str (aft c s)), .one (.bool (hasB c s))]) []
  | _, _ => False
def itoaS : Spec := fun args σ K => match args, σ with
  | [.one (.int .i64 n)], [] => (-9223372036854775808 ≤ n ∧ n ≤ 9223372036854775807) ∧ K (.one (.str (itoG n))) []
  | _, _ => False
def decL : LSpec := fun vs σ k => match vs, σ with
  | [.one (.int .i64 n), .one (.str s), .one (.str g)], [] => ((digF n ++ s).length ≤ 1000 ∧ -9223372036854775808 ≤ n ∧ n ≤ 9223372036854775807) ∧ k (.exit 0) [.one (.str (digF n ++ s)), .one (.str g)] []
  | _, _ => False
def decS : Spec := fun args σ K => match args, σ with
  | [.one (.int .i64 n)], [] => (-9223372036854775808 ≤ n ∧ n ≤ 9223372036854775807) ∧ K (.one (.str (itoG n))) []
  | _, _ => False
def wrdG (k : Int) : List UInt8 := bif k == 0 then [112, 108, 97, 121] else (bif k == 1 then [115, 116, 111, 112] else (bif k == 2 then [97, 110, 115, 119, 101, 114] else [114, 101, 112, 101, 97, 116]))
def fmtG (k n : Int) : List UInt8 := bif withinG k 0 3 then (bif k == 0 || k == 2 then (wrdG k ++ [32]) ++ itoG n else wrdG k) else []
def fmtS : Spec := fun args σ K => match args, σ with
  | [.agg [.int .i64 k, .int .i64 n]], [] => (-9223372036854775808 ≤ n ∧ n ≤ 9223372036854775807) ∧ K (.one (.str (fmtG k n))) []
  | _, _ => False
def kndG (w : List UInt8) : Int := bif [112, 108, 97, 121] == w then 0 else (bif [115, 116, 111, 112] == w then 1 else (bif [97, 110, 115, 119, 101, 114] == w then 2 else (bif [114, 101, 112, 101, 97, 116] == w then 3 else -1)))
def nmsG (k : Int) : Int := bif k == 0 then 3 else (bif k == 2 then 2 else 0)
def dgG (r : List UInt8) : Option Int := match r with | [d] => if 48 ≤ d.toNat ∧ d.toNat ≤ 57 then some ((d.toNat : Int) - 48) else none | _ => none
def parN (k : Int) (r : List UInt8) : Int × Int × Int := match dgG r with
  | some n => if n < nmsG k then (k, n, 0) else (0, 0, 2)
  | none => (0, 0, 7)
def parG (s : List UInt8) : Int × Int × Int := if kndG (bef 32 s) = -1 then (0, 0, 7) else
  match decide (0 < nmsG (kndG (bef 32 s))), hasB 32 s with
  | true, true => parN (kndG (bef 32 s)) (aft 32 s)
  | false, false => (kndG (bef 32 s), 0, 0)
  | _, _ => (0, 0, 7)
def parS : Spec := fun args σ K => match args, σ with
  | [.one (.str s)], [] => s.length ≤ 1000000 ∧ K (.tup [.agg [.int .i64 (parG s).1, .int .i64 (parG s).2.1], .one (.int .i64 ((parG s).2.2))]) []
  | _, _ => False
noncomputable abbrev Edec : Env := envOf Tryd.prog [(38, sizeS)] [(6, .spec [0, 3, 4] [3, 4] decL)] 27 0
noncomputable abbrev Efmt : Env := envOf Tryd.prog [(137, kdS), (103, withinS), (138, itoaS)] [] 29 0
noncomputable abbrev Eprs : Env := envOf Tryd.prog [(136, strcutS), (137, kdS)] [(3, .unroll 5)] 64 0
end Go.Ev

namespace Go.Ev
open Go Go.Proofs
set_option maxRecDepth 100000
theorem exdec (n : Int) (K : AV → List Blk → Prop) : evFn Edec Tryd.f143 [.one (.int .i64 n)] [] K = ( bif n == 0 then K (.one (.str [(48 : UInt8)])) [] else bif decide (n < 0) then ((digF n ++ []).length ≤ 1000 ∧ (-9223372036854775808 : Int) ≤ n ∧ n ≤ 9223372036854775807) ∧ bif decide (1 + (digF n ++ []).length ≤ 140737488355328) then K (.one (.str ((45 : UInt8) :: (digF n ++ [])))) [] else False else ((digF n ++ []).length ≤ 1000 ∧ (-9223372036854775808 : Int) ≤ n ∧ n ≤ 9223372036854775807) ∧ bif decide (0 + (digF n ++ []).length ≤ 140737488355328) then K (.one (.str (digF n ++ []))) [] else False) := by kernel_rfl
theorem exdecl0a (n : Int) (s g : List UInt8) (K : Ex → List AV → List Blk → Prop) : evBody Edec (lb Tryd.f143 0) [0, 3, 4] [3, 4] [.one (.int .i64 n), .one (.str s), .one (.str g)] [] K = ( bif n != 0 then bif decide ([UInt8.ofNat (IntKind.u8.wrap (IntKind.i64.wrap (48 + sizeG (n.tmod 10)))).toNat].length + s.length ≤ 140737488355328) then K .normal [.one (.int .i64 (IntKind.i64.wrap (n.tdiv 10))), .one (.str (UInt8.ofNat (IntKind.u8.wrap (IntKind.i64.wrap (48 + sizeG (n.tmod 10)))).toNat :: s)), .one (.str g)] [] else False else K (.exit 0) [.one (.str s), .one (.str g)] []) := by kernel_rfl
def exfmt_x0 (k n : Int) (K : AV → List Blk → Prop) : Prop := (
 bif decide ((0 : Int) ≤ k) && decide (k < (4 : Int)) then
 bif k == (0 : Int) then
 ((-9223372036854775808 : Int) ≤ n ∧ n ≤ (9223372036854775807 : Int)) ∧
 bif decide ((5 : Nat) + (itoG n).length ≤ (140737488355328 : Nat)) then
 K (AV.one (SV.str ((112 : UInt8) :: (108 : UInt8) :: (97 : UInt8) :: (121 : UInt8) :: (32 : UInt8) :: itoG n)))
 []
 else False
 else
 bif k == (1 : Int) then
 ((-9223372036854775808 : Int) ≤ n ∧ n ≤ (9223372036854775807 : Int)) ∧
 bif decide ((5 : Nat) + (itoG n).length ≤ (140737488355328 : Nat)) then
 K
 (AV.one
 (SV.str ((115 : UInt8) :: (116 : UInt8) :: (111 : UInt8) :: (112 : UInt8) :: (32 : UInt8) :: itoG n)))
 []
 else False
 else
 bif k == (2 : Int) then
 ((-9223372036854775808 : Int) ≤ n ∧ n ≤ (9223372036854775807 : Int)) ∧
 bif decide ((7 : Nat) + (itoG n).length ≤ (140737488355328 : Nat)) then
 K
 (AV.one
 (SV.str
 ((97 : UInt8) ::
 (110 : UInt8) ::
 (115 : UInt8) :: (119 : UInt8) :: (101 : UInt8) :: (114 : UInt8) :: (32 : UInt8) :: itoG n)))
 []
 else False
 else
 ((-9223372036854775808 : Int) ≤ n ∧ n ≤ (9223372036854775807 : Int)) ∧
 bif decide ((7 : Nat) + (itoG n).length ≤ (140737488355328 : Nat)) then
 K
 (AV.one
 (SV.str
 ((114 : UInt8) ::
 (101 : UInt8) ::
 (112 : UInt8) :: (101 : UInt8) :: (97 : UInt8) :: (116 : UInt8) :: (32 : UInt8) :: itoG n)))
 []
 else False
 else False)
theorem exfmt (k n : Int) (K : AV → List Blk → Prop) : evFn Efmt Tryd.f88 [.agg [.int .i64 k, .int .i64 n]] [] K = ( bif !(decide (0 ≤ k) && decide (k ≤ 3)) then K (.one (.str [])) [] else bif decide (0 ≤ k) && decide (k < 4) then bif k == 0 then exfmt_x0 k n K else bif k == 1 then K (.one (.str [(115 : UInt8), (116 : UInt8), (111 : UInt8), (112 : UInt8)])) [] else bif k == 2 then exfmt_x0 k n K else K (.one (.str [(114 : UInt8), (101 : UInt8), (112 : UInt8), (101 : UInt8), (97 : UInt8), (116 : UInt8)])) [] else False) := by kernel_rfl
def exprs_x0 (s : List UInt8) (K : AV → List Blk → Prop) : Prop := (
 bif
 ![(114 : UInt8), (101 : UInt8), (112 : UInt8), (101 : UInt8), (97 : UInt8), (116 : UInt8)] ==
 bef (32 : UInt8) s then
 K
 (AV.tup
 [TV.agg [SV.int IntKind.i64 (0 : Int), SV.int IntKind.i64 (0 : Int)], TV.one (SV.int IntKind.i64 (7 : Int))])
 []
 else
 bif !false == hasB (32 : UInt8) s then
 K
 (AV.tup
 [TV.agg [SV.int IntKind.i64 (0 : Int), SV.int IntKind.i64 (0 : Int)], TV.one (SV.int IntKind.i64 (7 : Int))])
 []
 else
 bif !hasB (32 : UInt8) s then
 K
 (AV.tup
 [TV.agg [SV.int IntKind.i64 (3 : Int), SV.int IntKind.i64 (0 : Int)], TV.one (SV.int IntKind.i64 (0 : Int))])
 []
 else
 bif (↑(aft (32 : UInt8) s).length : Int) != (1 : Int) then
 K
 (AV.tup
 [TV.agg [SV.int IntKind.i64 (0 : Int), SV.int IntKind.i64 (0 : Int)],
 TV.one (SV.int IntKind.i64 (7 : Int))])
 []
 else
 bif decide ((0 : Int) ≤ (0 : Int)) && decide ((0 : Nat) < (aft (32 : UInt8) s).length) then
 bif decide ((↑((aft (32 : UInt8) s).getD (0 : Nat) (0 : UInt8)).toNat : Int) < (48 : Int)) then
 K
 (AV.tup
 [TV.agg [SV.int IntKind.i64 (0 : Int), SV.int IntKind.i64 (0 : Int)],
 TV.one (SV.int IntKind.i64 (7 : Int))])
 []
 else
 bif decide ((0 : Int) ≤ (0 : Int)) && decide ((0 : Nat) < (aft (32 : UInt8) s).length) then
 bif decide ((↑((aft (32 : UInt8) s).getD (0 : Nat) (0 : UInt8)).toNat : Int) > (57 : Int)) then
 K
 (AV.tup
 [TV.agg [SV.int IntKind.i64 (0 : Int), SV.int IntKind.i64 (0 : Int)],
 TV.one (SV.int IntKind.i64 (7 : Int))])
 []
 else
 bif decide ((0 : Int) ≤ (0 : Int)) && decide ((0 : Nat) < (aft (32 : UInt8) s).length) then
 bif
 decide
 (IntKind.i64.wrap
 (IntKind.u8.wrap
 ((↑((aft (32 : UInt8) s).getD (0 : Nat) (0 : UInt8)).toNat : Int) - (48 : Int))) ≥
 (0 : Int)) then
 K
 (AV.tup
 [TV.agg [SV.int IntKind.i64 (0 : Int), SV.int IntKind.i64 (0 : Int)],
 TV.one (SV.int IntKind.i64 (2 : Int))])
 []
 else
 K
 (AV.tup
 [TV.agg
 [SV.int IntKind.i64 (3 : Int),
 SV.int IntKind.i64
 (IntKind.i64.wrap
 (IntKind.u8.wrap
 ((↑((aft (32 : UInt8) s).getD (0 : Nat) (0 : UInt8)).toNat : Int) - (48 : Int))))],
 TV.one (SV.int IntKind.i64 (0 : Int))])
 []
 else False
 else False
 else False)
def exprs_x1 (s : List UInt8) (K : AV → List Blk → Prop) : Prop := (
 bif
 ![(97 : UInt8), (110 : UInt8), (115 : UInt8), (119 : UInt8), (101 : UInt8), (114 : UInt8)] ==
 bef (32 : UInt8) s then
 exprs_x0 s K
 else
 bif !true == hasB (32 : UInt8) s then exprs_x0 s K
 else
 bif !hasB (32 : UInt8) s then
 K
 (AV.tup
 [TV.agg [SV.int IntKind.i64 (2 : Int), SV.int IntKind.i64 (0 : Int)], TV.one (SV.int IntKind.i64 (0 : Int))])
 []
 else
 bif (↑(aft (32 : UInt8) s).length : Int) != (1 : Int) then
 K
 (AV.tup
 [TV.agg [SV.int IntKind.i64 (0 : Int), SV.int IntKind.i64 (0 : Int)],
 TV.one (SV.int IntKind.i64 (7 : Int))])
 []
 else
 bif decide ((0 : Int) ≤ (0 : Int)) && decide ((0 : Nat) < (aft (32 : UInt8) s).length) then
 bif decide ((↑((aft (32 : UInt8) s).getD (0 : Nat) (0 : UInt8)).toNat : Int) < (48 : Int)) then
 K
 (AV.tup
 [TV.agg [SV.int IntKind.i64 (0 : Int), SV.int IntKind.i64 (0 : Int)],
 TV.one (SV.int IntKind.i64 (7 : Int))])
 []
 else
 bif decide ((0 : Int) ≤ (0 : Int)) && decide ((0 : Nat) < (aft (32 : UInt8) s).length) then
 bif decide ((↑((aft (32 : UInt8) s).getD (0 : Nat) (0 : UInt8)).toNat : Int) > (57 : Int)) then
 K
 (AV.tup
 [TV.agg [SV.int IntKind.i64 (0 : Int), SV.int IntKind.i64 (0 : Int)],
 TV.one (SV.int IntKind.i64 (7 : Int))])
 []
 else
 bif decide ((0 : Int) ≤ (0 : Int)) && decide ((0 : Nat) < (aft (32 : UInt8) s).length) then
 bif
 decide
 (IntKind.i64.wrap
 (IntKind.u8.wrap
 ((↑((aft (32 : UInt8) s).getD (0 : Nat) (0 : UInt8)).toNat : Int) - (48 : Int))) ≥
 (2 : Int)) then
 K
 (AV.tup
 [TV.agg [SV.int IntKind.i64 (0 : Int), SV.int IntKind.i64 (0 : Int)],
 TV.one (SV.int IntKind.i64 (2 : Int))])
 []
 else
 K
 (AV.tup
 [TV.agg
 [SV.int IntKind.i64 (2 : Int),
 SV.int IntKind.i64
 (IntKind.i64.wrap
 (IntKind.u8.wrap
 ((↑((aft (32 : UInt8) s).getD (0 : Nat) (0 : UInt8)).toNat : Int) - (48 : Int))))],
 TV.one (SV.int IntKind.i64 (0 : Int))])
 []
 else False
 else False
 else False)
def exprs_x2 (s : List UInt8) (K : AV → List Blk → Prop) : Prop := (
 bif ![(115 : UInt8), (116 : UInt8), (111 : UInt8), (112 : UInt8)] == bef (32 : UInt8) s then exprs_x1 s K
 else
 bif !false == hasB (32 : UInt8) s then exprs_x1 s K
 else
 bif !hasB (32 : UInt8) s then
 K
 (AV.tup
 [TV.agg [SV.int IntKind.i64 (1 : Int), SV.int IntKind.i64 (0 : Int)], TV.one (SV.int IntKind.i64 (0 : Int))])
 []
 else
 bif (↑(aft (32 : UInt8) s).length : Int) != (1 : Int) then
 K
 (AV.tup
 [TV.agg [SV.int IntKind.i64 (0 : Int), SV.int IntKind.i64 (0 : Int)],
 TV.one (SV.int IntKind.i64 (7 : Int))])
 []
 else
 bif decide ((0 : Int) ≤ (0 : Int)) && decide ((0 : Nat) < (aft (32 : UInt8) s).length) then
 bif decide ((↑((aft (32 : UInt8) s).getD (0 : Nat) (0 : UInt8)).toNat : Int) < (48 : Int)) then
 K
 (AV.tup
 [TV.agg [SV.int IntKind.i64 (0 : Int), SV.int IntKind.i64 (0 : Int)],
 TV.one (SV.int IntKind.i64 (7 : Int))])
 []
 else
 bif decide ((0 : Int) ≤ (0 : Int)) && decide ((0 : Nat) < (aft (32 : UInt8) s).length) then
 bif decide ((↑((aft (32 : UInt8) s).getD (0 : Nat) (0 : UInt8)).toNat : Int) > (57 : Int)) then
 K
 (AV.tup
 [TV.agg [SV.int IntKind.i64 (0 : Int), SV.int IntKind.i64 (0 : Int)],
 TV.one (SV.int IntKind.i64 (7 : Int))])
 []
 else
 bif decide ((0 : Int) ≤ (0 : Int)) && decide ((0 : Nat) < (aft (32 : UInt8) s).length) then
 bif
 decide
 (IntKind.i64.wrap
 (IntKind.u8.wrap
 ((↑((aft (32 : UInt8) s).getD (0 : Nat) (0 : UInt8)).toNat : Int) - (48 : Int))) ≥
 (0 : Int)) then
 K
 (AV.tup
 [TV.agg [SV.int IntKind.i64 (0 : Int), SV.int IntKind.i64 (0 : Int)],
 TV.one (SV.int IntKind.i64 (2 : Int))])
 []
 else
 K
 (AV.tup
 [TV.agg
 [SV.int IntKind.i64 (1 : Int),
 SV.int IntKind.i64
 (IntKind.i64.wrap
 (IntKind.u8.wrap
 ((↑((aft (32 : UInt8) s).getD (0 : Nat) (0 : UInt8)).toNat : Int) - (48 : Int))))],
 TV.one (SV.int IntKind.i64 (0 : Int))])
 []
 else False
 else False
 else False)
theorem exprs (s : List UInt8) (K : AV → List Blk → Prop) : evFn Eprs Tryd.f87 [.one (.str s)] [] K = ( s.length ≤ 1000000 ∧ bif ![(112 : UInt8), (108 : UInt8), (97 : UInt8), (121 : UInt8)] == bef (32 : UInt8) s then exprs_x2 s K else bif !true == hasB (32 : UInt8) s then exprs_x2 s K else bif !hasB (32 : UInt8) s then K (AV.tup [TV.agg [SV.int .i64 0, SV.int .i64 0], .one (.int .i64 0)]) [] else bif (↑(aft (32 : UInt8) s).length : Int) != 1 then K (AV.tup [TV.agg [SV.int .i64 0, SV.int .i64 0], .one (.int .i64 7)]) [] else bif decide ((0 :Int) ≤ (0 :Int)) && decide (0 < (aft (32 : UInt8) s).length) then bif decide ((↑((aft (32 : UInt8) s).getD 0 (0 : UInt8)).toNat : Int) < 48) then K (AV.tup [TV.agg [SV.int .i64 0, SV.int .i64 0], .one (.int .i64 7)]) [] else bif decide ((0 :Int) ≤ (0 :Int)) && decide (0 < (aft (32 : UInt8) s).length) then bif decide ((↑((aft (32 : UInt8) s).getD 0 (0 : UInt8)).toNat : Int) > 57) then K (AV.tup [TV.agg [SV.int .i64 0, SV.int .i64 0], .one (.int .i64 7)]) [] else bif decide ((0 :Int) ≤ (0 :Int)) && decide (0 < (aft (32 : UInt8) s).length) then bif decide (IntKind.i64.wrap (IntKind.u8.wrap ((↑((aft (32 : UInt8) s).getD 0 (0 : UInt8)).toNat : Int) - 48)) ≥ 3) then K (AV.tup [TV.agg [SV.int .i64 0, SV.int .i64 0], .one (.int .i64 2)]) [] else K (AV.tup [TV.agg [SV.int .i64 0, SV.int .i64 (IntKind.i64.wrap (IntKind.u8.wrap ((↑((aft (32 : UInt8) s).getD 0 (0 : UInt8)).toNat : Int) - 48)))], .one (.int .i64 0)]) [] else False else False else False) := by kernel_rfl
end Go.Ev

/-
  Chapter 9: strings of events: the contracts are kept.
-/
namespace Go.Ev
open Go Go.Proofs
attribute [local irreducible] evFn evBody evRound
set_option maxRecDepth 20000
set_option linter.unusedVariables false
set_option linter.unusedSimpArgs false
theorem okito : SpecOK Tryd.prog 138 itoaS := by
  refine SpecOK.lib ⟨_, _, Tryd.func138, rfl, by kernel_rfl⟩ fun args σ K h => ?_
  unfold itoaS at h
  split at h
  rotate_right
  · exact h.elim
  rename_i n
  refine ⟨rfl, fun m vals w hg ha => ?_⟩
  match vals, ha with
  | [v], ha =>
    obtain rfl : v = .int .i64 n := ha.1
    refine (Tryd.strconv_Itoa n h.1.1 h.1.2 w (hg.tabIs (g := 2) (by kernel_rfl) (by decide) (by kernel_rfl))).mono ?_
    rintro e w' ⟨rfl, k, os, rfl⟩
    exact ⟨_, _, rfl, h.2, (Grows.drewN w k).trans (Grows.grow _ os), rfl⟩
theorem okcut : SpecOK Tryd.prog 136 strcutS := by
  refine SpecOK.lib ⟨_, _, Tryd.func136, rfl, by kernel_rfl⟩ fun args σ K h => ?_
  unfold strcutS at h
  split at h
  rotate_right
  · exact h.elim
  rename_i s c
  refine ⟨rfl, fun m vals w hg ha => ?_⟩
  match vals, ha with
  | [v, u], ha =>
    obtain rfl : v = .string ⟨s.toArray⟩ := ha.1
    obtain rfl : u = .string ⟨[c].toArray⟩ := ha.2.1
    obtain ⟨x, hx⟩ := hg.someInt (g := 1) (by kernel_rfl)
    refine (Tryd.strings_Cut ⟨s.toArray⟩ ⟨[c].toArray⟩ x w (by have := h.1; show s.toArray.size < _; rw [List.size_toArray]; omega) hx).mono ?_
    rintro e w' ⟨rfl, n, rfl⟩
    refine ⟨_, _, rfl, h.2, Grows.drewN w n, _, rfl, ?_⟩
    have e1 : Lib.cut (ByteArray.mk s.toArray).data.toList (ByteArray.mk [c].toArray).data.toList = (bef c s, aft c s, hasB c s) := cut_one c s
    rw [e1]
    exact ⟨rfl, rfl, rfl, trivial⟩
theorem itoG_len {n : Int} (h : -9223372036854775808 ≤ n ∧ n ≤ 9223372036854775807) : (itoG n).length ≤ 21 := Lib.itoa_length_le n h.1 h.2
theorem digF_len {n : Int} (h : -9223372036854775808 ≤ n ∧ n ≤ 9223372036854775807) : (digF n).length ≤ 21 := by
  have h1 := Lib.itoa_length_le n h.1 h.2
  rw [itoa_digF] at h1
  by_cases h0 : n = 0
  · subst h0; decide
  · rw [if_neg h0, List.length_append] at h1; omega
theorem lokdec_0 : LoopOK Edec (lb Tryd.f143 0) [0, 3, 4] [3, 4] decL := by
  refine loopOK (.cons ok137 .nil) (noInner (by kernel_rfl)) (fun vs σ => match vs, σ with
    | [.one (.int .i64 n), .one (.str _), .one (.str _)], [] => n.natAbs
    | _, _ => 0) fun vs σ k h => ?_
  unfold decL at h
  split at h
  rotate_right
  · exact h.elim
  · rename_i n s g
    rw [exdecl0a n s g _]
    obtain ⟨⟨h1, h2, h3⟩, h⟩ := h
    by_cases h0 : n = 0
    · subst h0
      rw [show digF 0 = [] from rfl] at h
      exact h
    · have hb : (n != 0) = true := by simpa using h0
      have e : UInt8.ofNat (IntKind.u8.wrap (IntKind.i64.wrap ((48 : Int) + sizeG (n.tmod (10 : Int))))).toNat = UInt8.ofNat (48 + n.natAbs % 10) := by
        have hm : (n.tmod 10).natAbs = n.natAbs % 10 := by rw [Int.natAbs_tmod]; rfl
        have hs : sizeG (n.tmod 10) = ((n.natAbs % 10 : Nat) : Int) := by
          unfold sizeG wi
          rw [wrap_id (by omega) (by omega)]
          split <;> omega
        rw [hs, wrap_id (by omega) (by omega)]
        congr 1
        have e1 : (2 : Int) ^ IntKind.u8.bits = 256 := by decide
        have e3 : IntKind.u8.signed = false := rfl
        unfold IntKind.wrap
        simp only [e1, e3, Bool.false_and, Bool.false_eq_true, if_false]
        omega
      have hq : IntKind.i64.wrap (n.tdiv 10) = n.tdiv 10 := by
        have : (n.tdiv 10).natAbs = n.natAbs / 10 := by rw [Int.natAbs_tdiv]; rfl
        exact wrap_id (by omega) (by omega)
      have hd := digF_step h0 s
      rw [hd] at h h1
      rw [hb, cond_true, e, hq]
      have hlen : s.length ≤ 1000 := by
        rw [List.length_append, List.length_cons] at h1; omega
      rw [decide_eq_true (by simp only [List.length_cons, List.length_nil]; omega), cond_true]
      have ha : (n.tdiv 10).natAbs = n.natAbs / 10 := by rw [Int.natAbs_tdiv]; rfl
      have hmu : (n.tdiv 10).natAbs < n.natAbs := by rw [ha]; omega
      exact ⟨⟨⟨h1, by omega, by omega⟩, h⟩, hmu⟩
theorem okdec : SpecOK Tryd.prog 143 decS := by
  refine specOK (n := 27) (m := 0) (lps := [(6, .spec [0, 3, 4] [3, 4] decL)]) (.cons ok137 .nil) Tryd.func143 (by kernel_rfl) (by kernel_rfl) (theLoops (n := 1) (by kernel_rfl) fun i hi => ?_) fun args σ K h => ?_
  · match i, hi with
    | 0, _ => exact loopHyp_of (key := 6) (by kernel_rfl) rfl lokdec_0
  unfold decS at h
  split at h
  rotate_right
  · exact h.elim
  rename_i n
  rw [exdec n K]
  obtain ⟨h1, h⟩ := h
  have hl := digF_len h1
  have e : itoG n = if n = 0 then [48] else (if n < 0 then [45] else []) ++ digF n := itoa_digF n
  rw [e] at h
  rw [List.append_nil]
  by_cases h0 : n = 0
  · subst h0; exact h
  · rw [if_neg h0] at h
    have hb : (n == 0) = false := by simpa using h0
    rw [hb, cond_false]
    by_cases hn : n < 0
    · rw [if_pos hn] at h
      rw [decide_eq_true hn, cond_true]
      refine And.intro ⟨by omega, h1⟩ ?_
      rw [decide_eq_true (by omega), cond_true]
      exact h
    · rw [if_neg hn] at h
      rw [decide_eq_false hn, cond_false]
      refine And.intro ⟨by omega, h1⟩ ?_
      rw [decide_eq_true (by omega), cond_true]
      exact h
theorem within4 {k : Int} (h : withinG k 0 3 = true) : k = 0 ∨ k = 1 ∨ k = 2 ∨ k = 3 := by
  unfold withinG at h
  simp only [Bool.and_eq_true, decide_eq_true_eq] at h
  omega
theorem okfmt : SpecOK Tryd.prog 88 fmtS := by
  refine specOK (n := 29) (m := 0) (lps := []) (.cons okkds (.cons ok71 (.cons okito .nil))) Tryd.func88 (by kernel_rfl) (by kernel_rfl) (noLoops (by kernel_rfl)) fun args σ K h => ?_
  unfold fmtS at h
  split at h
  rotate_right
  · exact h.elim
  rename_i k n
  rw [exfmt k n K]
  obtain ⟨h1, h⟩ := h
  have hl := itoG_len h1
  have hd5 : decide (5 + (itoG n).length ≤ 140737488355328) = true := decide_eq_true (by omega)
  have hd7 : decide (7 + (itoG n).length ≤ 140737488355328) = true := decide_eq_true (by omega)
  unfold fmtG at h
  cases hw : withinG k 0 3 with
  | false =>
    rw [hw] at h
    have : (decide (0 ≤ k) && decide (k ≤ 3)) = false := hw
    rw [this]
    exact h
  | true =>
    rw [hw] at h
    have : (decide (0 ≤ k) && decide (k ≤ 3)) = true := hw
    rw [this]
    unfold exfmt_x0
    rw [hd5, hd7]
    rcases within4 hw with rfl | rfl | rfl | rfl
    · exact And.intro h1 h
    · exact h
    · exact And.intro h1 h
    · exact h
theorem word5 (w : List UInt8) :
    (w = [112, 108, 97, 121] ∧ ([112, 108, 97, 121] == w) = true ∧ ([115, 116, 111, 112] == w) = false ∧ ([97, 110, 115, 119, 101, 114] == w) = false ∧ ([114, 101, 112, 101, 97, 116] == w) = false ∧ kndG w = 0) ∨
    (w = [115, 116, 111, 112] ∧ ([112, 108, 97, 121] == w) = false ∧ ([115, 116, 111, 112] == w) = true ∧ ([97, 110, 115, 119, 101, 114] == w) = false ∧ ([114, 101, 112, 101, 97, 116] == w) = false ∧ kndG w = 1) ∨
    (w = [97, 110, 115, 119, 101, 114] ∧ ([112, 108, 97, 121] == w) = false ∧ ([115, 116, 111, 112] == w) = false ∧ ([97, 110, 115, 119, 101, 114] == w) = true ∧ ([114, 101, 112, 101, 97, 116] == w) = false ∧ kndG w = 2) ∨
    (w = [114, 101, 112, 101, 97, 116] ∧ ([112, 108, 97, 121] == w) = false ∧ ([115, 116, 111, 112] == w) = false ∧ ([97, 110, 115, 119, 101, 114] == w) = false ∧ ([114, 101, 112, 101, 97, 116] == w) = true ∧ kndG w = 3) ∨
    (([112, 108, 97, 121] == w) = false ∧ ([115, 116, 111, 112] == w) = false ∧ ([97, 110, 115, 119, 101, 114] == w) = false ∧ ([114, 101, 112, 101, 97, 116] == w) = false ∧ kndG w = -1) := by
  cases b0 : ([112, 108, 97, 121] == w) with
  | true =>
    have e := eq_of_beq b0
    subst e
    exact .inl (by decide)
  | false =>
    cases b1 : ([115, 116, 111, 112] == w) with
    | true =>
      have e := eq_of_beq b1
      subst e
      exact .inr (.inl (by decide))
    | false =>
      cases b2 : ([97, 110, 115, 119, 101, 114] == w) with
      | true =>
        have e := eq_of_beq b2
        subst e
        exact .inr (.inr (.inl (by decide)))
      | false =>
        cases b3 : ([114, 101, 112, 101, 97, 116] == w) with
        | true =>
          have e := eq_of_beq b3
          subst e
          exact .inr (.inr (.inr (.inl (by decide))))
        | false =>
          refine .inr (.inr (.inr (.inr ⟨rfl, rfl, rfl, rfl, ?_⟩)))
          unfold kndG
          rw [b0, b1, b2, b3]; rfl
theorem u8_sub {b : Nat} (h : 48 ≤ b) (h2 : b ≤ 57) : IntKind.i64.wrap (IntKind.u8.wrap ((b : Int) - 48)) = (b : Int) - 48 := by
  have hu : IntKind.u8.wrap ((b : Int) - 48) = (b : Int) - 48 := by
    have e1 : (2 : Int) ^ IntKind.u8.bits = 256 := by decide
    have e3 : IntKind.u8.signed = false := rfl
    unfold IntKind.wrap
    simp only [e1, e3, Bool.false_and, Bool.false_eq_true, if_false]
    omega
  rw [hu]
  exact wrap_id (by omega) (by omega)
theorem par_tail (r : List UInt8) (k nums : Int) (hn : nmsG k = nums) (K : AV → List Blk → Prop) (h : K (.tup [.agg [.int .i64 (parN k r).1, .int .i64 (parN k r).2.1], .one (.int .i64 (parN k r).2.2)]) []) :
    bif (r.length : Int) != 1 then K (.tup [.agg [.int .i64 0, .int .i64 0], .one (.int .i64 7)]) [] else
      bif decide ((0 : Int) ≤ 0) && decide (0 < r.length) then
        bif decide (((r.getD 0 0).toNat : Int) < 48) then K (.tup [.agg [.int .i64 0, .int .i64 0], .one (.int .i64 7)]) [] else
          bif decide ((0 : Int) ≤ 0) && decide (0 < r.length) then
            bif decide (((r.getD 0 0).toNat : Int) > 57) then K (.tup [.agg [.int .i64 0, .int .i64 0], .one (.int .i64 7)]) [] else
              bif decide ((0 : Int) ≤ 0) && decide (0 < r.length) then
                bif decide (IntKind.i64.wrap (IntKind.u8.wrap (((r.getD 0 0).toNat : Int) - 48)) ≥ nums) then K (.tup [.agg [.int .i64 0, .int .i64 0], .one (.int .i64 2)]) [] else
                  K (.tup [.agg [.int .i64 k, .int .i64 (IntKind.i64.wrap (IntKind.u8.wrap (((r.getD 0 0).toNat : Int) - 48)))], .one (.int .i64 0)]) []
              else False
          else False
      else False := by
  match r, h with
  | [], h => exact h
  | x :: y :: l, h =>
    have e : (((x :: y :: l).length : Int) != 1) = true := by
      simp only [bne_iff_ne, List.length_cons]; omega
    rw [e, cond_true]
    exact h
  | [d], h =>
    unfold parN dgG at h
    dsimp only at h
    have e : (([d].length : Int) != 1) = false := rfl
    have e2 : (decide ((0 : Int) ≤ 0) && decide (0 < [d].length)) = true := rfl
    rw [e, e2, cond_false, cond_true, cond_true, cond_true]
    rw [show [d].getD 0 0 = d from rfl]
    by_cases h1 : 48 ≤ d.toNat
    · rw [decide_eq_false (by omega), cond_false]
      by_cases h2 : d.toNat ≤ 57
      · rw [decide_eq_false (by omega), cond_false, u8_sub h1 h2]
        rw [if_pos ⟨h1, h2⟩] at h
        dsimp only at h
        rw [hn] at h
        by_cases h3 : (d.toNat : Int) - 48 < nums
        · rw [if_pos h3] at h
          rw [decide_eq_false (by omega), cond_false]
          exact h
        · rw [if_neg h3] at h
          rw [decide_eq_true (by omega), cond_true]
          exact h
      · rw [if_neg (by omega)] at h
        rw [decide_eq_true (by omega), cond_true]
        exact h
    · rw [if_neg (by omega)] at h
      rw [decide_eq_true (by omega), cond_true]
      exact h
theorem okprs : SpecOK Tryd.prog 87 parS := by
  refine specOK (n := 64) (m := 0) (lps := [(3, .unroll 5)]) (.cons okcut (.cons okkds .nil)) Tryd.func87 (by kernel_rfl) (by kernel_rfl) (theLoops (n := 1) (by kernel_rfl) fun i hi => ?_) fun args σ K h => ?_
  · match i, hi with
    | 0, _ => exact loopHyp_none (key := 3) (n := 5) (by kernel_rfl) rfl
  unfold parS at h
  split at h
  rotate_right
  · exact h.elim
  rename_i s
  rw [exprs s K]
  obtain ⟨h1, h⟩ := h
  refine And.intro h1 ?_
  unfold parG at h
  unfold exprs_x2 exprs_x1 exprs_x0
  have t1 : (!(true == true)) = false := rfl
  have t2 : (!(true == false)) = true := rfl
  have t3 : (!(false == true)) = true := rfl
  have t4 : (!(false == false)) = false := rfl
  rcases word5 (bef 32 s) with ⟨_, b0, b1, b2, b3, hk⟩ | ⟨_, b0, b1, b2, b3, hk⟩ | ⟨_, b0, b1, b2, b3, hk⟩ | ⟨_, b0, b1, b2, b3, hk⟩ | ⟨b0, b1, b2, b3, hk⟩ <;>
    (rw [hk] at h; cases m : hasB 32 s <;> rw [m] at h <;> simp only [b0, b1, b2, b3, t1, t2, t3, t4, Bool.not_true, Bool.not_false, cond_true, cond_false])
  · exact h
  · exact par_tail _ 0 3 rfl K h
  · exact h
  · exact h
  · exact h
  · exact par_tail _ 2 2 rfl K h
  · exact h
  · exact h
  · exact h
  · exact h
end Go.Ev

/-
  Chapter 9: the law of strings of events: the contract is kept.
-/
namespace Go.Ev
open Go Go.Proofs
attribute [local irreducible] evFn evBody evRound
set_option maxRecDepth 20000
set_option linter.unusedVariables false
set_option linter.unusedSimpArgs false
theorem fmtG_len {k n : Int} (h : -9223372036854775808 ≤ n ∧ n ≤ 9223372036854775807) : (fmtG k n).length ≤ 30 := by
  have hl := itoG_len h
  unfold fmtG
  cases hw : withinG k 0 3 with
  | false => simp
  | true =>
    rcases within4 hw with rfl | rfl | rfl | rfl
    · show (([112, 108, 97, 121] ++ [32] : List UInt8) ++ itoG n).length ≤ 30
      rw [List.length_append]; simp only [List.length_append, List.length_cons, List.length_nil]; omega
    · show ([115, 116, 111, 112] : List UInt8).length ≤ 30
      decide
    · show (([97, 110, 115, 119, 101, 114] ++ [32] : List UInt8) ++ itoG n).length ≤ 30
      rw [List.length_append]; simp only [List.length_append, List.length_cons, List.length_nil]; omega
    · show ([114, 101, 112, 101, 97, 116] : List UInt8).length ≤ 30
      decide
theorem itoG_small {i : Nat} (h : i < 10) : itoG (i : Int) = [UInt8.ofNat (48 + i)] := by
  unfold itoG Lib.itoa
  rw [if_neg (by omega), Int.toNat_natCast, Lib.decDigits_one h]
theorem par_fmt {k n : Int} (h : evE k n = 0) : parG (fmtG k n) = (k, n, 0) := by
  unfold evE at h
  cases hw : withinG k 0 3 with
  | false => rw [hw] at h; cases h
  | true =>
    rw [hw] at h
    have i0 : itoG 0 = [48] := itoG_small (i := 0) (by decide)
    have i1 : itoG 1 = [49] := itoG_small (i := 1) (by decide)
    have i2 : itoG 2 = [50] := itoG_small (i := 2) (by decide)
    unfold fmtG
    rw [hw]
    rcases within4 hw with rfl | rfl | rfl | rfl
    · have h2 : withinG n 0 2 = true := by
        cases hn : withinG n 0 2 with
        | true => rfl
        | false => rw [hn] at h; cases h
      unfold withinG at h2
      simp only [Bool.and_eq_true, decide_eq_true_eq] at h2
      show parG (([112, 108, 97, 121] ++ [32] : List UInt8) ++ itoG n) = _
      have : n = 0 ∨ n = 1 ∨ n = 2 := by omega
      rcases this with rfl | rfl | rfl
      · rw [i0]; rfl
      · rw [i1]; rfl
      · rw [i2]; rfl
    · have h2 : n = 0 := by
        cases hn : (n == 0) with
        | true => exact eq_of_beq hn
        | false => rw [show (bif (1 : Int) == 0 then (bif withinG n 0 2 then (0 : Int) else 2) else bif (1 : Int) == 2 then (bif withinG n 0 1 then (0 : Int) else 2) else bif n == 0 then (0 : Int) else 3) = bif n == 0 then 0 else 3 from rfl, hn] at h; cases h
      subst h2; rfl
    · have h2 : withinG n 0 1 = true := by
        cases hn : withinG n 0 1 with
        | true => rfl
        | false => rw [hn] at h; cases h
      unfold withinG at h2
      simp only [Bool.and_eq_true, decide_eq_true_eq] at h2
      show parG (([97, 110, 115, 119, 101, 114] ++ [32] : List UInt8) ++ itoG n) = _
      have : n = 0 ∨ n = 1 := by omega
      rcases this with rfl | rfl
      · rw [i0]; rfl
      · rw [i1]; rfl
    · have h2 : n = 0 := by
        cases hn : (n == 0) with
        | true => exact eq_of_beq hn
        | false => rw [show (bif (3 : Int) == 0 then (bif withinG n 0 2 then (0 : Int) else 2) else bif (3 : Int) == 2 then (bif withinG n 0 1 then (0 : Int) else 2) else bif n == 0 then (0 : Int) else 3) = bif n == 0 then 0 else 3 from rfl, hn] at h; cases h
      subst h2; rfl
end Go.Ev
