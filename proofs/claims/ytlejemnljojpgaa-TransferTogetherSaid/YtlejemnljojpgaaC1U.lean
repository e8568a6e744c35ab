/-
  Chapter 1, contracts: kinds of blocks.
-/
import Derived.Test.YtlejemnljojpgaaC1EL
import Derived.KernelRfl
import Derived.Test.YtlejemnljojpgaaEvFrz
set_option linter.unusedVariables false
set_option linter.unusedSimpArgs false
set_option linter.unusedSectionVars false
namespace Go.Ev
open Go Go.Proofs
set_option maxRecDepth 20000
set_option linter.unusedVariables false

def fewB (n : Int) : Bool := decide (n ≤ 20) || (decide (n > 40) && decide (n ≤ 42))
def fewS : Spec := fun args σ K => match args, σ with
  | [.one (.data (.mat .i64 11 l))], [] => K (.one (.bool (fewB l.length))) []
  | _, _ => False
def copyBS : Spec := fun args σ K => match args, σ with
  | [.one (.data (.mat .i64 11 l))], [] => l.length ≤ 1000 ∧ K (.one (.own 0 11)) [.row 37 (.mat .i64 11 l)]
  | _, _ => False
def copyBDS : Spec := fun args σ K => match args, σ with
  | [.one (.data (.mat .i64 11 l))], [] => l.length ≤ 1000 ∧ K (.one (.data (.mat .i64 11 l))) []
  | _, _ => False
/-- The samples of a block; is its content valid; is its checksum right. -/
def samX (x : List Int) : List Int := [x.getD 2 0, x.getD 3 0, x.getD 4 0, x.getD 5 0, x.getD 6 0, x.getD 7 0, x.getD 8 0, x.getD 9 0]
def conB (x : List Int) : Bool := contentG (x.getD 0 0) (x.getD 1 0) (samX x)
def sumB (x : List Int) : Bool := x.getD 10 0 == sumG (x.getD 0 0) (x.getD 1 0) (samX x)
def okBs (l : List (List Int)) : Prop := l.length ≤ 1000 ∧ l.all len11 = true
def each11L : LSpec := fun vs σ k => match vs, σ with
  | [.one (.func 78 []), .one (.data (.mat .i64 11 l)), .one (.int .i64 n), .one (.int .i64 i)], [] => (okBs l ∧ 0 ≤ i ∧ n = l.length) ∧ bif (l.drop i.toNat).all conB then k (.exit 0) [.any] [] else k .ret [.one (.int .i64 2)] []
  | _, _ => False
def each11S : Spec := fun args σ K => match args, σ with
  | [.one (.data (.mat .i64 11 l)), .one (.func 78 [])], [] => okBs l ∧ K (.one (.int .i64 (bif l.all conB then 0 else 2))) []
  | _, _ => False
def bsE (l : List (List Int)) : Int := bif decide ((l.length : Int) ≤ 40) then (bif l.all conB then 0 else 2) else 8
def bsS : Spec := fun args σ K => match args, σ with
  | [.one (.data (.mat .i64 11 l))], [] => okBs l ∧ K (.one (.int .i64 (bsE l))) []
  | _, _ => False
/-- The kind of a block behind the new ones so far. -/
def sameK (x y : List Int) : Bool := y.getD 1 0 == x.getD 1 0 && y.getD 0 0 == x.getD 0 0
def kdG (N : List (List Int)) (x : List Int) : Int := bif !sumB x then 3 else match N.find? (sameK x) with
  | some y => bif y == x then 1 else 2
  | none => 0
def nxG (N : List (List Int)) (x : List Int) : List (List Int) := bif kdG N x == 0 then N ++ [x] else N
def it2 (k : Int) (x : List Int) : List AV := [.one (.int .i64 k), .agg [.int .i64 (x.getD 0 0), .int .i64 (x.getD 1 0), .int .i64 (x.getD 2 0), .int .i64 (x.getD 3 0), .int .i64 (x.getD 4 0), .int .i64 (x.getD 5 0), .int .i64 (x.getD 6 0), .int .i64 (x.getD 7 0), .int .i64 (x.getD 8 0), .int .i64 (x.getD 9 0), .int .i64 (x.getD 10 0)]]
def kdI : List (List Int) → List (List Int) → List (List AV)
  | _, [] => []
  | N, x :: l => it2 (kdG N x) x :: kdI (nxG N x) l
def kdsG : List (List Int) → List (List Int) → List Int
  | _, [] => []
  | N, x :: l => kdG N x :: kdsG (nxG N x) l
def entX (y : List Int) : List Int × List Int := ([y.getD 1 0, y.getD 0 0], y)
def kdSq : SeqSpec := fun caps lent => match caps, lent with
  | [.one (.ptr 1 1 0 0)], [.cells [.data (.mat .i64 11 l)]] => some (decide (l.length ≤ 1000) && (l.all len11 && l.all conB), kdI [] l)
  | _, _ => none
def kdL : LSpec := fun vs σ k => match vs, σ with
  | [.one (.yld 0), .one (.mapv 2), .one (.data (.mat .i64 11 l)), .one (.int .i64 n), .one (.int .i64 i)], [.ghost P J D (some L), .cells [.data (.mat .i64 11 l')], .map 2 11 M] =>
    (P = Try.prog ∧ n = l.length ∧ okBs l ∧ l.all conB = true ∧ 0 ≤ i ∧ i ≤ n ∧ ∃ N : List (List Int), N.length ≤ i ∧ N.all len11 = true ∧ M = N.map entX ∧ L = kdI N (l.drop i.toNat)) ∧
    ∀ D', k (.exit 0) [] [.ghost P J D' (some []), .cells [.data (.mat .i64 11 l')]] ∧ k .ret [] [.ghost P J D' none, .cells [.data (.mat .i64 11 l')]]
  | _, _ => False
def kindsS : Spec := fun args σ K => match args, σ with
  | [.one (.data (.mat .i64 11 l))], [] => K (.one (.func 134 [0])) [.cells [.data (.mat .i64 11 l)]]
  | _, _ => False
noncomputable abbrev Efw : Env := envOf Try.prog [] [] 16 0
noncomputable abbrev Ecpb : Env := envOf Try.prog [] [] 6 0
noncomputable abbrev Ee11 : Env := envOf Try.prog [(78, contentS)] [(2, .spec [1, 8, 9, 10] [4] each11L)] 21 0
noncomputable abbrev Ebse : Env := envOf Try.prog [(70, unlessS), (133, each11S), (69, firstS)] [] 11 0
noncomputable abbrev Eknd : Env := envOf Try.prog [] [] 4 0
noncomputable abbrev Ekd : Env := envOf Try.prog [(79, sumS)] [(2, .spec [0, 3, 11, 12, 13] [] kdL)] 52 2
end Go.Ev

namespace Go.Ev
open Go Go.Proofs
set_option maxRecDepth 100000
theorem exkd (l : List (List Int)) (P : Program) (J : GJ) (D : Nat → Prop) (L : List (List AV)) (K : AV → List Blk → Prop) : evFn Ekd Try.f134 [.one (.yld 0), .one (.ptr 1 1 0 0)] [.ghost P J D (some L), .cells [.data (.mat .i64 11 l)]] K = (
 (P = Try.prog ∧
 (↑l.length : Int) = (↑l.length : Int) ∧
 okBs l ∧
 l.all conB = true ∧
 (0 : Int) ≤ (0 : Int) ∧
 (0 : Int) ≤ (↑l.length : Int) ∧
 ∃ N, (↑N.length : Int) ≤ (0 : Int) ∧ N.all len11 = true ∧ [] = List.map entX N ∧ L = kdI N l) ∧
 ∀ (D' : Nat → Prop),
 K (AV.tup []) [Blk.ghost P J D' (some []), Blk.cells [SV.data (Row.mat IntKind.i64 (11 : Nat) l)]] ∧
 K (AV.tup []) [Blk.ghost P J D' none, Blk.cells [SV.data (Row.mat IntKind.i64 (11 : Nat) l)]]) := by kernel_rfl
def exkda_x0 (n i : Int) (l l' : List (List Int)) (M : List (List Int × List Int)) (P : Program) (J : GJ) (D : Nat → Prop) (L : List (List AV)) (K : Ex → List AV → List Blk → Prop) : Prop := (
 bif ahas M [(l.getD i.toNat []).getD (1 : Nat) (0 : Int), (l.getD i.toNat []).getD (0 : Nat) (0 : Int)] then
 P = Ekd.P ∧
 (L =
 [AV.one (SV.int IntKind.i64 (2 : Int)),
 AV.agg
 [SV.int IntKind.i64 ((l.getD i.toNat []).getD (0 : Nat) (0 : Int)),
 SV.int IntKind.i64 ((l.getD i.toNat []).getD (1 : Nat) (0 : Int)),
 SV.int IntKind.i64 ((l.getD i.toNat []).getD (2 : Nat) (0 : Int)),
 SV.int IntKind.i64 ((l.getD i.toNat []).getD (3 : Nat) (0 : Int)),
 SV.int IntKind.i64 ((l.getD i.toNat []).getD (4 : Nat) (0 : Int)),
 SV.int IntKind.i64 ((l.getD i.toNat []).getD (5 : Nat) (0 : Int)),
 SV.int IntKind.i64 ((l.getD i.toNat []).getD (6 : Nat) (0 : Int)),
 SV.int IntKind.i64 ((l.getD i.toNat []).getD (7 : Nat) (0 : Int)),
 SV.int IntKind.i64 ((l.getD i.toNat []).getD (8 : Nat) (0 : Int)),
 SV.int IntKind.i64 ((l.getD i.toNat []).getD (9 : Nat) (0 : Int)),
 SV.int IntKind.i64 ((l.getD i.toNat []).getD (10 : Nat) (0 : Int))]] ::
 match L with
 | [] => []
 | head :: tl0 => tl0) ∧
 ∀ (D' : Nat → Prop),
 K Ex.normal
 [AV.one (SV.yld (0 : Nat)), AV.one (SV.mapv (2 : Nat)), AV.one (SV.data (Row.mat IntKind.i64 (11 : Nat) l)),
 AV.one (SV.int IntKind.i64 n), AV.one (SV.int IntKind.i64 (IntKind.i64.wrap (i + (1 : Int))))]
 [Blk.ghost P J D'
 (some
 (match L with
 | [] => []
 | head :: tl0 => tl0)),
 Blk.cells [SV.data (Row.mat IntKind.i64 (11 : Nat) l')], Blk.map (2 : Nat) (11 : Nat) M] ∧
 K Ex.ret [] [Blk.ghost P J D' none, Blk.cells [SV.data (Row.mat IntKind.i64 (11 : Nat) l')]]
 else
 P = Ekd.P ∧
 (L =
 [AV.one (SV.int IntKind.i64 (0 : Int)),
 AV.agg
 [SV.int IntKind.i64 ((l.getD i.toNat []).getD (0 : Nat) (0 : Int)),
 SV.int IntKind.i64 ((l.getD i.toNat []).getD (1 : Nat) (0 : Int)),
 SV.int IntKind.i64 ((l.getD i.toNat []).getD (2 : Nat) (0 : Int)),
 SV.int IntKind.i64 ((l.getD i.toNat []).getD (3 : Nat) (0 : Int)),
 SV.int IntKind.i64 ((l.getD i.toNat []).getD (4 : Nat) (0 : Int)),
 SV.int IntKind.i64 ((l.getD i.toNat []).getD (5 : Nat) (0 : Int)),
 SV.int IntKind.i64 ((l.getD i.toNat []).getD (6 : Nat) (0 : Int)),
 SV.int IntKind.i64 ((l.getD i.toNat []).getD (7 : Nat) (0 : Int)),
 SV.int IntKind.i64 ((l.getD i.toNat []).getD (8 : Nat) (0 : Int)),
 SV.int IntKind.i64 ((l.getD i.toNat []).getD (9 : Nat) (0 : Int)),
 SV.int IntKind.i64 ((l.getD i.toNat []).getD (10 : Nat) (0 : Int))]] ::
 match L with
 | [] => []
 | head :: tl0 => tl0) ∧
 ∀ (D' : Nat → Prop),
 K Ex.normal
 [AV.one (SV.yld (0 : Nat)), AV.one (SV.mapv (2 : Nat)), AV.one (SV.data (Row.mat IntKind.i64 (11 : Nat) l)),
 AV.one (SV.int IntKind.i64 n), AV.one (SV.int IntKind.i64 (IntKind.i64.wrap (i + (1 : Int))))]
 [Blk.ghost P J D'
 (some
 (match L with
 | [] => []
 | head :: tl0 => tl0)),
 Blk.cells [SV.data (Row.mat IntKind.i64 (11 : Nat) l')],
 Blk.map (2 : Nat) (11 : Nat)
 (aset M [(l.getD i.toNat []).getD (1 : Nat) (0 : Int), (l.getD i.toNat []).getD (0 : Nat) (0 : Int)]
 [(l.getD i.toNat []).getD (0 : Nat) (0 : Int), (l.getD i.toNat []).getD (1 : Nat) (0 : Int),
 (l.getD i.toNat []).getD (2 : Nat) (0 : Int), (l.getD i.toNat []).getD (3 : Nat) (0 : Int),
 (l.getD i.toNat []).getD (4 : Nat) (0 : Int), (l.getD i.toNat []).getD (5 : Nat) (0 : Int),
 (l.getD i.toNat []).getD (6 : Nat) (0 : Int), (l.getD i.toNat []).getD (7 : Nat) (0 : Int),
 (l.getD i.toNat []).getD (8 : Nat) (0 : Int), (l.getD i.toNat []).getD (9 : Nat) (0 : Int),
 (l.getD i.toNat []).getD (10 : Nat) (0 : Int)])] ∧
 K Ex.ret [] [Blk.ghost P J D' none, Blk.cells [SV.data (Row.mat IntKind.i64 (11 : Nat) l')]])
theorem exkda (n i : Int) (l l' : List (List Int)) (M : List (List Int × List Int)) (P : Program) (J : GJ) (D : Nat → Prop) (L : List (List AV)) (K : Ex → List AV → List Blk → Prop) : evBody Ekd (lb Try.f134 0) [0, 3, 11, 12, 13] [] [.one (.yld 0), .one (.mapv 2), .one (.data (.mat .i64 11 l)), .one (.int .i64 n), .one (.int .i64 i)] [.ghost P J D (some L), .cells [.data (.mat .i64 11 l')], .map 2 11 M] K = (
 bif decide (i < n) then
 bif decide ((0 : Int) ≤ i) && decide (i < (↑l.length : Int)) then
 bif decide ((10 : Nat) < (11 : Nat)) && decide (i.toNat < l.length) then
 contentG ((l.getD i.toNat []).getD (0 : Nat) (0 : Int)) ((l.getD i.toNat []).getD (1 : Nat) (0 : Int))
 [(l.getD i.toNat []).getD (2 : Nat) (0 : Int), (l.getD i.toNat []).getD (3 : Nat) (0 : Int),
 (l.getD i.toNat []).getD (4 : Nat) (0 : Int), (l.getD i.toNat []).getD (5 : Nat) (0 : Int),
 (l.getD i.toNat []).getD (6 : Nat) (0 : Int), (l.getD i.toNat []).getD (7 : Nat) (0 : Int),
 (l.getD i.toNat []).getD (8 : Nat) (0 : Int), (l.getD i.toNat []).getD (9 : Nat) (0 : Int)] =
 true ∧
 bif
 (l.getD i.toNat []).getD (10 : Nat) (0 : Int) !=
 sumG ((l.getD i.toNat []).getD (0 : Nat) (0 : Int)) ((l.getD i.toNat []).getD (1 : Nat) (0 : Int))
 [(l.getD i.toNat []).getD (2 : Nat) (0 : Int), (l.getD i.toNat []).getD (3 : Nat) (0 : Int),
 (l.getD i.toNat []).getD (4 : Nat) (0 : Int), (l.getD i.toNat []).getD (5 : Nat) (0 : Int),
 (l.getD i.toNat []).getD (6 : Nat) (0 : Int), (l.getD i.toNat []).getD (7 : Nat) (0 : Int),
 (l.getD i.toNat []).getD (8 : Nat) (0 : Int), (l.getD i.toNat []).getD (9 : Nat) (0 : Int)] then
 P = Ekd.P ∧
 (L =
 [AV.one (SV.int IntKind.i64 (3 : Int)),
 AV.agg
 [SV.int IntKind.i64 ((l.getD i.toNat []).getD (0 : Nat) (0 : Int)),
 SV.int IntKind.i64 ((l.getD i.toNat []).getD (1 : Nat) (0 : Int)),
 SV.int IntKind.i64 ((l.getD i.toNat []).getD (2 : Nat) (0 : Int)),
 SV.int IntKind.i64 ((l.getD i.toNat []).getD (3 : Nat) (0 : Int)),
 SV.int IntKind.i64 ((l.getD i.toNat []).getD (4 : Nat) (0 : Int)),
 SV.int IntKind.i64 ((l.getD i.toNat []).getD (5 : Nat) (0 : Int)),
 SV.int IntKind.i64 ((l.getD i.toNat []).getD (6 : Nat) (0 : Int)),
 SV.int IntKind.i64 ((l.getD i.toNat []).getD (7 : Nat) (0 : Int)),
 SV.int IntKind.i64 ((l.getD i.toNat []).getD (8 : Nat) (0 : Int)),
 SV.int IntKind.i64 ((l.getD i.toNat []).getD (9 : Nat) (0 : Int)),
 SV.int IntKind.i64 ((l.getD i.toNat []).getD (10 : Nat) (0 : Int))]] ::
 match L with
 | [] => []
 | head :: tl0 => tl0) ∧
 ∀ (D' : Nat → Prop),
 K Ex.normal
 [AV.one (SV.yld (0 : Nat)), AV.one (SV.mapv (2 : Nat)),
 AV.one (SV.data (Row.mat IntKind.i64 (11 : Nat) l)), AV.one (SV.int IntKind.i64 n),
 AV.one (SV.int IntKind.i64 (IntKind.i64.wrap (i + (1 : Int))))]
 [Blk.ghost P J D'
 (some
 (match L with
 | [] => []
 | head :: tl0 => tl0)),
 Blk.cells [SV.data (Row.mat IntKind.i64 (11 : Nat) l')], Blk.map (2 : Nat) (11 : Nat) M] ∧
 K Ex.ret [] [Blk.ghost P J D' none, Blk.cells [SV.data (Row.mat IntKind.i64 (11 : Nat) l')]]
 else
 bif ahas M [(l.getD i.toNat []).getD (1 : Nat) (0 : Int), (l.getD i.toNat []).getD (0 : Nat) (0 : Int)] then
 bif
 (agetD M
 [(l.getD i.toNat []).getD (1 : Nat) (0 : Int),
 (l.getD i.toNat []).getD (0 : Nat) (0 : Int)]).getD
 (0 : Nat) (0 : Int) ==
 (l.getD i.toNat []).getD (0 : Nat) (0 : Int) &&
 ((agetD M
 [(l.getD i.toNat []).getD (1 : Nat) (0 : Int),
 (l.getD i.toNat []).getD (0 : Nat) (0 : Int)]).getD
 (1 : Nat) (0 : Int) ==
 (l.getD i.toNat []).getD (1 : Nat) (0 : Int) &&
 ((agetD M
 [(l.getD i.toNat []).getD (1 : Nat) (0 : Int),
 (l.getD i.toNat []).getD (0 : Nat) (0 : Int)]).getD
 (2 : Nat) (0 : Int) ==
 (l.getD i.toNat []).getD (2 : Nat) (0 : Int) &&
 ((agetD M
 [(l.getD i.toNat []).getD (1 : Nat) (0 : Int),
 (l.getD i.toNat []).getD (0 : Nat) (0 : Int)]).getD
 (3 : Nat) (0 : Int) ==
 (l.getD i.toNat []).getD (3 : Nat) (0 : Int) &&
 ((agetD M
 [(l.getD i.toNat []).getD (1 : Nat) (0 : Int),
 (l.getD i.toNat []).getD (0 : Nat) (0 : Int)]).getD
 (4 : Nat) (0 : Int) ==
 (l.getD i.toNat []).getD (4 : Nat) (0 : Int) &&
 ((agetD M
 [(l.getD i.toNat []).getD (1 : Nat) (0 : Int),
 (l.getD i.toNat []).getD (0 : Nat) (0 : Int)]).getD
 (5 : Nat) (0 : Int) ==
 (l.getD i.toNat []).getD (5 : Nat) (0 : Int) &&
 ((agetD M
 [(l.getD i.toNat []).getD (1 : Nat) (0 : Int),
 (l.getD i.toNat []).getD (0 : Nat) (0 : Int)]).getD
 (6 : Nat) (0 : Int) ==
 (l.getD i.toNat []).getD (6 : Nat) (0 : Int) &&
 ((agetD M
 [(l.getD i.toNat []).getD (1 : Nat) (0 : Int),
 (l.getD i.toNat []).getD (0 : Nat) (0 : Int)]).getD
 (7 : Nat) (0 : Int) ==
 (l.getD i.toNat []).getD (7 : Nat) (0 : Int) &&
 ((agetD M
 [(l.getD i.toNat []).getD (1 : Nat) (0 : Int),
 (l.getD i.toNat []).getD (0 : Nat) (0 : Int)]).getD
 (8 : Nat) (0 : Int) ==
 (l.getD i.toNat []).getD (8 : Nat) (0 : Int) &&
 (agetD M
 [(l.getD i.toNat []).getD (1 : Nat) (0 : Int),
 (l.getD i.toNat []).getD (0 : Nat) (0 : Int)]).getD
 (9 : Nat) (0 : Int) ==
 (l.getD i.toNat []).getD (9 : Nat) (0 : Int))))))) &&
 (agetD M
 [(l.getD i.toNat []).getD (1 : Nat) (0 : Int),
 (l.getD i.toNat []).getD (0 : Nat) (0 : Int)]).getD
 (10 : Nat) (0 : Int) ==
 (l.getD i.toNat []).getD (10 : Nat) (0 : Int))) then
 P = Ekd.P ∧
 (L =
 [AV.one (SV.int IntKind.i64 (1 : Int)),
 AV.agg
 [SV.int IntKind.i64 ((l.getD i.toNat []).getD (0 : Nat) (0 : Int)),
 SV.int IntKind.i64 ((l.getD i.toNat []).getD (1 : Nat) (0 : Int)),
 SV.int IntKind.i64 ((l.getD i.toNat []).getD (2 : Nat) (0 : Int)),
 SV.int IntKind.i64 ((l.getD i.toNat []).getD (3 : Nat) (0 : Int)),
 SV.int IntKind.i64 ((l.getD i.toNat []).getD (4 : Nat) (0 : Int)),
 SV.int IntKind.i64 ((l.getD i.toNat []).getD (5 : Nat) (0 : Int)),
 SV.int IntKind.i64 ((l.getD i.toNat []).getD (6 : Nat) (0 : Int)),
 SV.int IntKind.i64 ((l.getD i.toNat []).getD (7 : Nat) (0 : Int)),
 SV.int IntKind.i64 ((l.getD i.toNat []).getD (8 : Nat) (0 : Int)),
 SV.int IntKind.i64 ((l.getD i.toNat []).getD (9 : Nat) (0 : Int)),
 SV.int IntKind.i64 ((l.getD i.toNat []).getD (10 : Nat) (0 : Int))]] ::
 match L with
 | [] => []
 | head :: tl0 => tl0) ∧
 ∀ (D' : Nat → Prop),
 K Ex.normal
 [AV.one (SV.yld (0 : Nat)), AV.one (SV.mapv (2 : Nat)),
 AV.one (SV.data (Row.mat IntKind.i64 (11 : Nat) l)), AV.one (SV.int IntKind.i64 n),
 AV.one (SV.int IntKind.i64 (IntKind.i64.wrap (i + (1 : Int))))]
 [Blk.ghost P J D'
 (some
 (match L with
 | [] => []
 | head :: tl0 => tl0)),
 Blk.cells [SV.data (Row.mat IntKind.i64 (11 : Nat) l')], Blk.map (2 : Nat) (11 : Nat) M] ∧
 K Ex.ret [] [Blk.ghost P J D' none, Blk.cells [SV.data (Row.mat IntKind.i64 (11 : Nat) l')]]
 else exkda_x0 n i l l' M P J D L K
 else exkda_x0 n i l l' M P J D L K
 else False
 else False
 else K (Ex.exit (0 : Nat)) [] [Blk.ghost P J D (some L), Blk.cells [SV.data (Row.mat IntKind.i64 (11 : Nat) l')]]) := by kernel_rfl
theorem exfw (l : List (List Int)) (K : AV → List Blk → Prop) : evFn Efw Try.f51 [.one (.data (.mat .i64 11 l))] [] K = (
 bif decide ((↑l.length : Int) ≤ (20 : Int)) then K (AV.one (SV.bool true)) []
 else
 bif decide ((↑l.length : Int) > (40 : Int)) then K (AV.one (SV.bool (decide ((↑l.length : Int) ≤ (42 : Int))))) []
 else K (AV.one (SV.bool false)) []) := by kernel_rfl
theorem excpb (l : List (List Int)) (K : AV → List Blk → Prop) : evFn Ecpb Try.f53 [.one (.data (.mat .i64 11 l))] [] K = (
 bif decide (l.length * (88 : Nat) ≤ (140737488355328 : Nat) ∧ l.length ≤ (140737488355328 : Nat)) then
 K (AV.one (SV.own (0 : Nat) (11 : Nat))) [Blk.row (37 : Nat) (Row.mat IntKind.i64 (11 : Nat) l)]
 else False) := by kernel_rfl
theorem exe11 (l : List (List Int)) (K : AV → List Blk → Prop) : evFn Ee11 Try.f133 [.one (.data (.mat .i64 11 l)), .one (.func 78 [])] [] K = (
 (okBs l ∧ (0 : Int) ≤ (0 : Int) ∧ (↑l.length : Int) = (↑l.length : Int)) ∧
 bif l.all conB then K (AV.one (SV.int IntKind.i64 (0 : Int))) [] else K (AV.one (SV.int IntKind.i64 (2 : Int))) []) := by kernel_rfl
theorem exe11l0a (l : List (List Int)) (n i : Int) (K : Ex → List AV → List Blk → Prop) : evBody Ee11 (lb Try.f133 0) [1, 8, 9, 10] [4] [.one (.func 78 []), .one (.data (.mat .i64 11 l)), .one (.int .i64 n), .one (.int .i64 i)] [] K = (
 bif decide (i < n) then
 bif decide ((0 : Int) ≤ i) && decide (i < (↑l.length : Int)) then
 bif decide ((10 : Nat) < (11 : Nat)) && decide (i.toNat < l.length) then
 bif
 (bif
 contentG ((l.getD i.toNat []).getD (0 : Nat) (0 : Int)) ((l.getD i.toNat []).getD (1 : Nat) (0 : Int))
 [(l.getD i.toNat []).getD (2 : Nat) (0 : Int), (l.getD i.toNat []).getD (3 : Nat) (0 : Int),
 (l.getD i.toNat []).getD (4 : Nat) (0 : Int), (l.getD i.toNat []).getD (5 : Nat) (0 : Int),
 (l.getD i.toNat []).getD (6 : Nat) (0 : Int), (l.getD i.toNat []).getD (7 : Nat) (0 : Int),
 (l.getD i.toNat []).getD (8 : Nat) (0 : Int), (l.getD i.toNat []).getD (9 : Nat) (0 : Int)] then
 (0 : Int)
 else (2 : Int)) !=
 (0 : Int) then
 K Ex.ret
 [AV.one
 (SV.int IntKind.i64
 (bif
 contentG ((l.getD i.toNat []).getD (0 : Nat) (0 : Int))
 ((l.getD i.toNat []).getD (1 : Nat) (0 : Int))
 [(l.getD i.toNat []).getD (2 : Nat) (0 : Int), (l.getD i.toNat []).getD (3 : Nat) (0 : Int),
 (l.getD i.toNat []).getD (4 : Nat) (0 : Int), (l.getD i.toNat []).getD (5 : Nat) (0 : Int),
 (l.getD i.toNat []).getD (6 : Nat) (0 : Int), (l.getD i.toNat []).getD (7 : Nat) (0 : Int),
 (l.getD i.toNat []).getD (8 : Nat) (0 : Int), (l.getD i.toNat []).getD (9 : Nat) (0 : Int)] then
 (0 : Int)
 else (2 : Int)))]
 []
 else
 K Ex.normal
 [AV.one (SV.func (78 : FuncId) []), AV.one (SV.data (Row.mat IntKind.i64 (11 : Nat) l)),
 AV.one (SV.int IntKind.i64 n), AV.one (SV.int IntKind.i64 (IntKind.i64.wrap (i + (1 : Int))))]
 []
 else False
 else False
 else K (Ex.exit (0 : Nat)) [AV.any] []) := by kernel_rfl
theorem exbse (l : List (List Int)) (K : AV → List Blk → Prop) : evFn Ebse Try.f109 [.one (.data (.mat .i64 11 l))] [] K = (
 okBs l ∧
 [bif decide ((↑l.length : Int) ≤ (40 : Int)) then (0 : Int) else (8 : Int),
 bif l.all conB then (0 : Int) else (2 : Int)].length ≤
 (1000 : Nat) ∧
 K
 (AV.one
 (SV.int IntKind.i64
 (firstE
 [bif decide ((↑l.length : Int) ≤ (40 : Int)) then (0 : Int) else (8 : Int),
 bif l.all conB then (0 : Int) else (2 : Int)])))
 []) := by kernel_rfl
theorem exknd (l : List (List Int)) (K : AV → List Blk → Prop) : evFn Eknd Try.f110 [.one (.data (.mat .i64 11 l))] [] K = (
 K (AV.one (SV.func (134 : Nat) [(0 : Nat)])) [Blk.cells [SV.data (Row.mat IntKind.i64 (11 : Nat) l)]]) := by kernel_rfl
end Go.Ev

namespace Go.Ev
open Go Go.Proofs
attribute [local irreducible] evFn evBody evRound
set_option maxRecDepth 20000
set_option linter.unusedVariables false
set_option linter.unusedSimpArgs false

theorem row11 {l : List (List Int)} {n : Nat} (h : n < l.length) (h8 : l.all len11 = true) : ∃ xs, xs.length = 11 ∧ l.drop n = xs :: l.drop (n + 1) ∧ l.getD n [] = xs ∧ xs ∈ l := by
  refine ⟨l[n], ?_, List.drop_eq_getElem_cons h, by simp [List.getD, h], List.getElem_mem h⟩
  have := List.all_eq_true.1 h8 _ (List.getElem_mem h)
  unfold len11 at this
  simpa using this
theorem eta11 {x : List Int} (h : x.length = 11) : [x.getD 0 0, x.getD 1 0, x.getD 2 0, x.getD 3 0, x.getD 4 0, x.getD 5 0, x.getD 6 0, x.getD 7 0, x.getD 8 0, x.getD 9 0, x.getD 10 0] = x := by
  match x, h with
  | [_, _, _, _, _, _, _, _, _, _, _], _ => rfl
theorem aget_ent (x : List Int) : ∀ N : List (List Int), aget (N.map entX) [x.getD 1 0, x.getD 0 0] = N.find? (sameK x)
  | [] => rfl
  | y :: N => by
    rw [List.map_cons, aget, aget_ent x N, List.find?_cons]
    have e : ([x.getD 1 0, x.getD 0 0] == (entX y).1) = sameK x y := by
      unfold entX sameK
      rw [Bool.eq_iff_iff]
      simp only [beq_iff_eq, Bool.and_eq_true, List.cons.injEq, and_true]
      constructor
      · rintro ⟨h1, h2⟩; exact ⟨h1.symm, h2.symm⟩
      · rintro ⟨h1, h2⟩; exact ⟨h1.symm, h2.symm⟩
    rw [e]
    cases sameK x y <;> rfl
theorem aset_ent {x : List Int} : ∀ {N : List (List Int)}, N.find? (sameK x) = none → aset (N.map entX) [x.getD 1 0, x.getD 0 0] x = (N ++ [x]).map entX
  | [], _ => rfl
  | y :: N, h => by
    rw [List.find?_cons] at h
    have e : ([x.getD 1 0, x.getD 0 0] == (entX y).1) = sameK x y := by
      unfold entX sameK
      rw [Bool.eq_iff_iff]
      simp only [beq_iff_eq, Bool.and_eq_true, List.cons.injEq, and_true]
      constructor
      · rintro ⟨h1, h2⟩; exact ⟨h1.symm, h2.symm⟩
      · rintro ⟨h1, h2⟩; exact ⟨h1.symm, h2.symm⟩
    cases hs : sameK x y with
    | true => rw [hs] at h; cases h
    | false =>
      rw [hs] at h
      rw [List.map_cons, aset, e, hs, cond_false, aset_ent h]; rfl
theorem okfw : SpecOK Try.prog 51 fewS := by
  refine specOK (n := 16) (m := 0) (lps := []) .nil Try.func51 (by kernel_rfl) (by kernel_rfl) (noLoops (by kernel_rfl)) fun args σ K h => ?_
  unfold fewS at h
  split at h
  rotate_right
  · exact h.elim
  rename_i l
  rw [exfw l K]
  unfold fewB at h
  cases h1 : decide ((l.length : Int) ≤ 20) with
  | true => rw [h1] at h; exact h
  | false =>
    rw [h1] at h
    cases h2 : decide ((l.length : Int) > 40) <;> rw [h2] at h <;> exact h
theorem okcpb : SpecOK Try.prog 53 copyBS := by
  refine specOK (n := 6) (m := 0) (lps := []) .nil Try.func53 (by kernel_rfl) (by kernel_rfl) (noLoops (by kernel_rfl)) fun args σ K h => ?_
  unfold copyBS at h
  split at h
  rotate_right
  · exact h.elim
  rename_i l
  rw [excpb l K]
  obtain ⟨h1, h⟩ := h
  rw [decide_eq_true (by omega)]
  exact h
theorem okcpbD : SpecOK Try.prog 53 copyBDS := by
  refine okcpb.froze fun args σ K h => ?_
  unfold copyBDS at h
  split at h
  rotate_right
  · exact h.elim
  rename_i l
  refine ⟨rfl, h.1, _, ?_, h.2⟩
  exact ⟨_, _, rfl, rfl, rfl⟩
theorem loke11_0 : LoopOK Ee11 (lb Try.f133 0) [1, 8, 9, 10] [4] each11L := by
  refine loopOK (.cons ok78 .nil) (noInner (by kernel_rfl)) (fun vs σ => match vs, σ with
    | [.one (.func 78 []), .one (.data (.mat .i64 11 l)), .one (.int .i64 _), .one (.int .i64 i)], [] => (l.length - i).toNat
    | _, _ => 0) fun vs σ k h => ?_
  unfold each11L at h
  split at h
  rotate_right
  · exact h.elim
  · rename_i l n i
    rw [exe11l0a l n i _]
    obtain ⟨⟨⟨h1, h2⟩, h3, rfl⟩, h⟩ := h
    by_cases hi : i < (l.length : Int)
    · have hw : IntKind.i64.wrap (i + 1) = i + 1 := wrap_id (by omega) (by omega)
      have hi' : i.toNat < l.length := by omega
      obtain ⟨x, hx, hd, hg, _⟩ := row11 hi' h2
      rw [hd, List.all_cons, show i.toNat + 1 = (i + 1).toNat by omega] at h
      rw [decide_eq_true hi, decide_eq_true h3, decide_eq_true hi', hw, hg]
      have hmu : ((l.length : Int) - (i + 1)).toNat < ((l.length : Int) - i).toNat := by omega
      have e : contentG (x.getD 0 0) (x.getD 1 0) [x.getD 2 0, x.getD 3 0, x.getD 4 0, x.getD 5 0, x.getD 6 0, x.getD 7 0, x.getD 8 0, x.getD 9 0] = conB x := rfl
      rw [e]
      cases hc : conB x with
      | true => rw [hc, Bool.true_and] at h; exact ⟨⟨⟨⟨h1, h2⟩, by omega, rfl⟩, h⟩, hmu⟩
      | false => rw [hc] at h; exact h
    · rw [decide_eq_false hi]
      rw [List.drop_eq_nil_of_le (by omega)] at h
      exact h
theorem oke11 : SpecOK Try.prog 133 each11S := by
  refine specOK (n := 21) (m := 0) (lps := [(2, .spec [1, 8, 9, 10] [4] each11L)]) (.cons ok78 .nil) Try.func133 (by kernel_rfl) (by kernel_rfl) (theLoops (n := 1) (by kernel_rfl) fun i hi => ?_) fun args σ K h => ?_
  · match i, hi with
    | 0, _ => exact loopHyp_of (key := 2) (by kernel_rfl) rfl loke11_0
  unfold each11S at h
  split at h
  rotate_right
  · exact h.elim
  rename_i l
  rw [exe11 l K]
  obtain ⟨h1, h⟩ := h
  refine And.intro ⟨h1, by decide, rfl⟩ ?_
  cases hc : l.all conB <;> rw [hc] at h <;> exact h
theorem okbse : SpecOK Try.prog 109 bsS := by
  refine specOK (n := 11) (m := 0) (lps := []) (.cons ok70 (.cons oke11 (.cons ok69 .nil))) Try.func109 (by kernel_rfl) (by kernel_rfl) (noLoops (by kernel_rfl)) fun args σ K h => ?_
  unfold bsS at h
  split at h
  rotate_right
  · exact h.elim
  rename_i l
  rw [exbse l K]
  obtain ⟨h1, h⟩ := h
  refine And.intro h1 (And.intro (by simp) ?_)
  unfold bsE at h
  cases h2 : decide ((l.length : Int) ≤ 40) <;> cases h3 : l.all conB <;> rw [h2] at h <;> (try rw [h3] at h) <;> exact h
theorem okknd : SpecOK Try.prog 110 kindsS := by
  refine specOK (n := 4) (m := 0) (lps := []) .nil Try.func110 (by kernel_rfl) (by kernel_rfl) (noLoops (by kernel_rfl)) fun args σ K h => ?_
  unfold kindsS at h
  split at h
  rotate_right
  · exact h.elim
  rename_i l
  rw [exknd l K]
  exact h
theorem lokkd : LoopOK Ekd (lb Try.f134 0) [0, 3, 11, 12, 13] [] kdL := by
  refine loopOK (.cons ok79 .nil) (noInner (by kernel_rfl)) (fun vs σ => match vs, σ with
    | [_, _, .one (.data (.mat .i64 11 l)), _, .one (.int .i64 i)], _ => l.length - i.toNat
    | _, _ => 0) fun vs σ k h => ?_
  unfold kdL at h
  split at h
  rotate_right
  · exact h.elim
  rename_i l n i P J D L l' M
  rw [exkda n i l l' M P J D L _]
  obtain ⟨⟨rfl, rfl, ⟨b1, b2⟩, hc, hi0, hin, N, hN, hN11, rfl, hL⟩, h⟩ := h
  by_cases hi : i < (l.length : Int)
  · have hw : IntKind.i64.wrap (i + 1) = i + 1 := wrap_id (by omega) (by omega)
    have hi' : i.toNat < l.length := by omega
    obtain ⟨x, hx, hd, hg, hm⟩ := row11 hi' b2
    have hcx := List.all_eq_true.1 hc _ hm
    rw [hd, show i.toNat + 1 = (i + 1).toNat by omega] at hL
    have hmu : l.length - (i + 1).toNat < l.length - i.toNat := by omega
    rw [decide_eq_true hi, decide_eq_true hi0, decide_eq_true hi', hw, hg]
    simp only [show decide (10 < 11) = true by decide, Bool.and_self, cond_true]
    refine And.intro hcx ?_
    have es : (x.getD 10 0 != sumG (x.getD 0 0) (x.getD 1 0) [x.getD 2 0, x.getD 3 0, x.getD 4 0, x.getD 5 0, x.getD 6 0, x.getD 7 0, x.getD 8 0, x.getD 9 0]) = !sumB x := rfl
    rw [es]
    have eh : ahas (N.map entX) [x.getD 1 0, x.getD 0 0] = (N.find? (sameK x)).isSome := by unfold ahas; rw [aget_ent]
    have eg : agetD (N.map entX) [x.getD 1 0, x.getD 0 0] = (N.find? (sameK x)).getD [] := by unfold agetD; rw [aget_ent]
    subst hL
    cases hs : sumB x with
    | false =>
      have hk : kdG N x = 3 := by unfold kdG; rw [hs]; rfl
      have hn : nxG N x = N := by unfold nxG; rw [hk]; rfl
      refine ⟨rfl, by rw [kdI, hk]; rfl, fun D' => ⟨⟨⟨⟨rfl, rfl, ⟨b1, b2⟩, hc, by omega, by omega, N, by omega, hN11, rfl, by rw [kdI, hn]⟩, h⟩, hmu⟩, (h D').2⟩⟩
    | true =>
      rw [eh, eg, Bool.not_true, cond_false]
      cases hf : N.find? (sameK x) with
      | none =>
        have hk : kdG N x = 0 := by unfold kdG; rw [hs, hf]; rfl
        have hn : nxG N x = N ++ [x] := by unfold nxG; rw [hk]; rfl
        rw [Option.isSome_none, cond_false]
        unfold exkda_x0
        rw [hg, hw, eh, hf, Option.isSome_none, cond_false, eta11 hx, aset_ent hf]
        refine ⟨rfl, by rw [kdI, hk]; rfl, fun D' => ⟨⟨⟨⟨rfl, rfl, ⟨b1, b2⟩, hc, by omega, by omega, N ++ [x], by simp; omega, ?_, rfl, by rw [kdI, hn]⟩, h⟩, hmu⟩, (h D').2⟩⟩
        rw [List.all_append, hN11]
        simp [len11, hx]
      | some y =>
        have hy : y.length = 11 := by
          have := List.all_eq_true.1 hN11 _ (List.mem_of_find?_eq_some hf)
          unfold len11 at this
          simpa using this
        rw [Option.isSome_some, cond_true, Option.getD_some, eq11 hy hx]
        cases hyx : y == x with
        | true =>
          have hk : kdG N x = 1 := by unfold kdG; rw [hs, hf]; show cond (y == x) _ _ = _; rw [hyx]; rfl
          have hn : nxG N x = N := by unfold nxG; rw [hk]; rfl
          refine ⟨rfl, by rw [kdI, hk]; rfl, fun D' => ⟨⟨⟨⟨rfl, rfl, ⟨b1, b2⟩, hc, by omega, by omega, N, by omega, hN11, rfl, by rw [kdI, hn]⟩, h⟩, hmu⟩, (h D').2⟩⟩
        | false =>
          have hk : kdG N x = 2 := by unfold kdG; rw [hs, hf]; show cond (y == x) _ _ = _; rw [hyx]; rfl
          have hn : nxG N x = N := by unfold nxG; rw [hk]; rfl
          rw [cond_false]
          unfold exkda_x0
          rw [hg, hw, eh, hf, Option.isSome_some, cond_true]
          refine ⟨rfl, by rw [kdI, hk]; rfl, fun D' => ⟨⟨⟨⟨rfl, rfl, ⟨b1, b2⟩, hc, by omega, by omega, N, by omega, hN11, rfl, by rw [kdI, hn]⟩, h⟩, hmu⟩, (h D').2⟩⟩
  · have hL' : L = [] := by rw [hL, List.drop_eq_nil_of_le (by omega)]; rfl
    subst hL'
    rw [decide_eq_false hi]
    exact (h D).1
theorem okkd : SpecOK Try.prog 134 (seqSpec Try.prog kdSq) := by
  refine specOK (n := 52) (m := 2) (lps := [(2, .spec [0, 3, 11, 12, 13] [] kdL)]) (.cons ok79 .nil) Try.func134 (by kernel_rfl) (by kernel_rfl) (theLoops (n := 1) (by kernel_rfl) fun i hi => ?_) fun args σ K h => ?_
  · match i, hi with
    | 0, _ => exact loopHyp_of (key := 2) (by kernel_rfl) rfl lokkd
  · unfold seqSpec at h
    split at h
    · rename_i caps P J D L lent
      split at h
      · rename_i c xs hsq
        unfold kdSq at hsq
        split at hsq
        · rename_i l
          simp only [Option.some.injEq, Prod.mk.injEq] at hsq
          obtain ⟨rfl, rfl⟩ := hsq
          have h' : cond (decide (l.length ≤ 1000) && (l.all len11 && l.all conB)) (P = Try.prog ∧ L = kdI [] l ∧ ∀ (D' : Nat → Prop) (lent' : List Blk), K (.tup []) (.ghost Try.prog J D' (some []) :: lent') ∧ K (.tup []) (.ghost Try.prog J D' none :: lent')) False := h
          obtain ⟨hc, h2, h3, h4⟩ := cond_pos h'
          simp only [Bool.and_eq_true, decide_eq_true_eq] at hc
          obtain ⟨c1, c2, c3⟩ := hc
          subst h2; subst h3
          rw [exkd l _ J D _ K]
          exact ⟨⟨rfl, rfl, ⟨c1, c2⟩, c3, by decide, by omega, [], by decide, rfl, rfl, rfl⟩, fun D' => h4 D' _⟩
        · cases hsq
      · exact h.elim
    · exact h.elim
end Go.Ev
