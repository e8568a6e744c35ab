/-
  Chapter 1, contracts: streams, of the program and of the reference.
-/
import Derived.Test.YtlejemnljojpgaaC1V
import Derived.KernelRfl
set_option linter.unusedVariables false
set_option linter.unusedSimpArgs false
set_option linter.unusedSectionVars false
namespace Go.Ev
open Go Go.Proofs
set_option maxRecDepth 20000
set_option linter.unusedVariables false

def cnt (x : List Int) : Int := x.getD 0 0
/-- The blocks of a channel; the new ones of it. -/
def chB (ch : Int) (N : List (List Int)) : List (List Int) := N.filter fun x => x.getD 1 0 == ch
def ownB (l : List (List Int)) (ch : Int) : List (List Int) := chB ch (newsF [] l)
def entS (x : List Int) : List Int × List Int := ([x.getD 0 0], samX x)
def cmin : List (List Int) → Int
  | [] => 0
  | x :: l => l.foldl (fun a y => if cnt y < a then cnt y else a) (cnt x)
def cmax : List (List Int) → Int
  | [] => 0
  | x :: l => l.foldl (fun a y => if cnt y > a then cnt y else a) (cnt x)
def spanE (o : List (List Int)) : Int := bif o.isEmpty then 12 else bif decide (cmax o - cmin o < 60) then 0 else 8
def rcE (l : List (List Int)) (ch : Int) : Int := bif bsE l == 0 then (bif withinG ch 0 3 then spanE (ownB l ch) else 2) else bsE l
def mapE (o : List (List Int)) : List (List Int × List Int) := o.map entS
def rcGL : List (List AV) → LSpec := fun items vs σ k => match vs, σ with
  | [.one (.ptr 0 1 0 0), .one (.ptr 1 1 0 0), .one (.ptr 2 1 0 0)], [.cells [.int .i64 ch], .cells [.any, .int .i64 z, .int .i64 w], .cells [.mapv 3, .int .i64 a, .int .i64 b], .map 0 8 M] => ∃ N l, items = kdI N l ∧ (z = 0 ∧ w = 0 ∧ l.all len11 = true ∧ N.length + l.length ≤ 1000 ∧ l.all conB = true) ∧ M = mapE (chB ch N) ∧ a = cmin (chB ch N) ∧ b = cmax (chB ch N) ∧
      k .normal [.one (.ptr 0 1 0 0), .one (.ptr 1 1 0 0), .one (.ptr 2 1 0 0)] [.cells [.int .i64 ch], .cells [.any, .int .i64 0, .int .i64 0], .cells [.mapv 3, .int .i64 (cmin (chB ch (newsF N l))), .int .i64 (cmax (chB ch (newsF N l)))], .map 0 8 (mapE (chB ch (newsF N l)))]
  | _, _ => False
def recvS : Spec := fun args σ K => match args, σ with
  | [.one (.data (.mat .i64 11 l)), .one (.int .i64 ch)], [] => okBs l ∧ bif rcE l ch == 0 then K (.tup [.agg [.mapv 0, .int .i64 (cmin (ownB l ch)), .int .i64 (cmax (ownB l ch))], .one (.int .i64 0)]) [.map 0 8 (mapE (ownB l ch))]
      else ∀ (a b : Int) (M : List (List Int × List Int)), K (.tup [.agg [.mapv 0, .int .i64 a, .int .i64 b], .one (.int .i64 (rcE l ch))]) [.map 0 8 M]
  | _, _ => False
/-- Which samples a counter has. -/
def lkO (o : List (List Int)) (n : Int) : Option (List Int) := (o.find? fun x => cnt x == n).map samX
def gapG (G : List (List Int)) (at_ : Int) : List (List Int) := bif decide (1 ≤ G.length) && ((G.getD (G.length - 1) []).getD 1 0 == at_ - 1) then G.set (G.length - 1) ((G.getD (G.length - 1) []).set 1 (at_ + 7)) else G ++ [[at_, at_ + 7]]
def zer8 : List Int := [0, 0, 0, 0, 0, 0, 0, 0]
def strG (lk : Int → Option (List Int)) : Nat → Int → List Int × List (List Int) → List Int × List (List Int)
  | 0, _, p => p
  | n + 1, c, p => strG lk n (c + 1) (p.1 ++ (lk c).getD zer8, bif (lk c).isSome then p.2 else gapG p.2 p.1.length)
def misG (lk : Int → Option (List Int)) : Nat → Int → List Int
  | 0, _ => []
  | n + 1, c => bif (lk c).isSome then misG lk n (c + 1) else c :: misG lk n (c + 1)
def strO (o : List (List Int)) : List Int × List (List Int) := strG (lkO o) (cmax o - cmin o + 1).toNat (cmin o) ([], [])
def misO (o : List (List Int)) : List Int := misG (lkO o) (cmax o - cmin o + 1).toNat (cmin o)
/-- The stream behind what was done: nothing yet; samples; gaps too. -/
def putS (a : Int) (p : List Int × List (List Int)) (k : List SV → List Blk → Prop) : Prop :=
  bif p.1.isEmpty then k [.int .i64 a, .nil, .nil] []
  else bif p.2.isEmpty then k [.int .i64 a, .own 3 1, .nil] [.row 3 (.ints .i64 p.1)]
  else k [.int .i64 a, .own 3 1, .own 4 2] [.row 3 (.ints .i64 p.1), .row 99 (.mat .i64 2 p.2)]
def okSt (o : List (List Int)) (a b c : Int) (M : List (List Int × List Int)) : Prop := M = mapE o ∧ o.all len11 = true ∧ (-1000000 ≤ a ∧ a ≤ b ∧ b ≤ 1000000 ∧ b - a < 60 ∧ a ≤ c ∧ c ≤ b + 1)
def len2 (x : List Int) : Bool := x.length == 2
def strL : LSpec := fun vs σ k => match vs, σ with
  | [.one (.ptr 0 1 0 0), .one (.ptr 2 1 0 0), .one (.int .i64 c)], [.cells [.mapv 1, .int .i64 a, .int .i64 b], .map 0 8 M, .cells [.int .i64 f, .nil, .nil]] => ∃ o, (okSt o a b c M ∧ c = a) ∧ putS f (strG (lkO o) (b - c + 1).toNat c ([], [])) fun l σ' => k (.exit 0) [] (.cells [.mapv 1, .int .i64 a, .int .i64 b] :: .map 0 8 M :: .cells l :: σ')
  | [.one (.ptr 0 1 0 0), .one (.ptr 2 1 0 0), .one (.int .i64 c)], [.cells [.mapv 1, .int .i64 a, .int .i64 b], .map 0 8 M, .cells [.int .i64 f, .own 3 1, .nil], .row 3 (.ints .i64 S)] => ∃ o, (okSt o a b c M ∧ a < c ∧ S.length = 8 * (c - a).toNat) ∧ putS f (strG (lkO o) (b - c + 1).toNat c (S, [])) fun l σ' => k (.exit 0) [] (.cells [.mapv 1, .int .i64 a, .int .i64 b] :: .map 0 8 M :: .cells l :: σ')
  | [.one (.ptr 0 1 0 0), .one (.ptr 2 1 0 0), .one (.int .i64 c)], [.cells [.mapv 1, .int .i64 a, .int .i64 b], .map 0 8 M, .cells [.int .i64 f, .own 3 1, .own 4 2], .row 3 (.ints .i64 S), .row 99 (.mat .i64 2 G)] => ∃ o, (okSt o a b c M ∧ a < c ∧ S.length = 8 * (c - a).toNat ∧ G.all len2 = true ∧ 1 ≤ G.length ∧ G.length ≤ (c - a).toNat) ∧ putS f (strG (lkO o) (b - c + 1).toNat c (S, G)) fun l σ' => k (.exit 0) [] (.cells [.mapv 1, .int .i64 a, .int .i64 b] :: .map 0 8 M :: .cells l :: σ')
  | _, _ => False
def strS : Spec := fun args σ K => match args, σ with
  | [.one (.data (.mat .i64 11 l)), .one (.int .i64 ch)], [] => okBs l ∧ bif rcE l ch == 0 then (bif (strO (ownB l ch)).2.isEmpty then K (.tup [.agg [.int .i64 (cmin (ownB l ch)), .own 0 1, .nil], .one (.int .i64 0)]) [.row 3 (.ints .i64 (strO (ownB l ch)).1)]
        else K (.tup [.agg [.int .i64 (cmin (ownB l ch)), .own 0 1, .own 1 2], .one (.int .i64 0)]) [.row 3 (.ints .i64 (strO (ownB l ch)).1), .row 99 (.mat .i64 2 (strO (ownB l ch)).2)])
      else K (.tup [.agg [.int .i64 0, .nil, .nil], .one (.int .i64 (rcE l ch))]) []
  | _, _ => False
def stA (l : List (List Int)) (ch : Int) : Int := bif rcE l ch == 0 then cmin (ownB l ch) else 0
def stS (l : List (List Int)) (ch : Int) : List Int := bif rcE l ch == 0 then (strO (ownB l ch)).1 else []
def stP (l : List (List Int)) (ch : Int) : List (List Int) := bif rcE l ch == 0 then (strO (ownB l ch)).2 else []
def strDS : Spec := fun args σ K => match args, σ with
  | [.one (.data (.mat .i64 11 l)), .one (.int .i64 ch)], [] => okBs l ∧ K (.tup [.agg [.int .i64 (stA l ch), .data (.ints .i64 (stS l ch)), .data (.mat .i64 2 (stP l ch))], .one (.int .i64 (rcE l ch))]) []
  | _, _ => False
def misL : LSpec := fun vs σ k => match vs, σ with
  | [.one (.ptr 0 1 0 0), .one .nil, .one (.int .i64 c)], [.cells [.mapv 1, .int .i64 a, .int .i64 b], .map 0 8 M] => ∃ o, okSt o a b c M ∧ bif (misG (lkO o) (b - c + 1).toNat c).isEmpty then k (.exit 0) [.one .nil] [.cells [.mapv 1, .int .i64 a, .int .i64 b], .map 0 8 M] else k (.exit 0) [.one (.own 2 1)] [.cells [.mapv 1, .int .i64 a, .int .i64 b], .map 0 8 M, .row 3 (.ints .i64 (misG (lkO o) (b - c + 1).toNat c))]
  | [.one (.ptr 0 1 0 0), .one (.own 2 1), .one (.int .i64 c)], [.cells [.mapv 1, .int .i64 a, .int .i64 b], .map 0 8 M, .row 3 (.ints .i64 S)] => ∃ o, (okSt o a b c M ∧ 1 ≤ S.length ∧ S.length ≤ (c - a).toNat) ∧ k (.exit 0) [.one (.own 2 1)] [.cells [.mapv 1, .int .i64 a, .int .i64 b], .map 0 8 M, .row 3 (.ints .i64 (S ++ misG (lkO o) (b - c + 1).toNat c))]
  | _, _ => False
def misS : Spec := fun args σ K => match args, σ with
  | [.one (.data (.mat .i64 11 l)), .one (.int .i64 ch)], [] => okBs l ∧ bif rcE l ch == 0 then (bif (misO (ownB l ch)).isEmpty then K (.tup [.one .nil, .one (.int .i64 0)]) [] else K (.tup [.one (.own 0 1), .one (.int .i64 0)]) [.row 3 (.ints .i64 (misO (ownB l ch)))])
      else K (.tup [.one .nil, .one (.int .i64 (rcE l ch))]) []
  | _, _ => False
def msM (l : List (List Int)) (ch : Int) : List Int := bif rcE l ch == 0 then misO (ownB l ch) else []
def misDS : Spec := fun args σ K => match args, σ with
  | [.one (.data (.mat .i64 11 l)), .one (.int .i64 ch)], [] => okBs l ∧ K (.tup [.one (.data (.ints .i64 (msM l ch))), .one (.int .i64 (rcE l ch))]) []
  | _, _ => False
noncomputable abbrev Ercv : Env := envOf Try.prog [(109, bsS), (93, channelS), (69, firstS), (110, kindsS), (70, unlessS)] [(1000006, .range 134 kdSq [3, 4, 6] rcGL)] 77 0
noncomputable abbrev Estr : Env := envOf Try.prog [(111, recvS)] [(6, .frm 3 [6, 8, 9] [] strL)] 89 0
noncomputable abbrev EstrF3 : Env := envOf Try.prog [(111, recvS)] [(6, .frm 3 [6, 8, 9] [] strL)] 89 3
noncomputable abbrev Emis : Env := envOf Try.prog [(111, recvS)] [(6, .frm 2 [6, 8, 9] [8] misL)] 43 0
noncomputable abbrev EmisF2 : Env := envOf Try.prog [(111, recvS)] [(6, .frm 2 [6, 8, 9] [8] misL)] 43 2
end Go.Ev

namespace Go.Ev
open Go Go.Proofs
set_option maxRecDepth 100000
theorem exrcvr (q y0 y1 y2 y3 y4 y5 y6 y7 y8 y9 y10 ch a b z w : Int) (M : List (List Int × List Int)) (K : Ex → List AV → List Blk → Prop) : evRound Ercv (rangePs (lb Try.f111 0)) (rangeAssign (lb Try.f111 0)) (rangeBody (lb Try.f111 0)) [3, 4, 6] [.one (.ptr 0 1 0 0), .one (.ptr 1 1 0 0), .one (.ptr 2 1 0 0)] [.cells [.int .i64 ch], .cells [.any, .int .i64 z, .int .i64 w], .cells [.mapv 3, .int .i64 a, .int .i64 b], .map 0 8 M] [.one (.int .i64 q), .agg [.int .i64 y0, .int .i64 y1, .int .i64 y2, .int .i64 y3, .int .i64 y4, .int .i64 y5, .int .i64 y6, .int .i64 y7, .int .i64 y8, .int .i64 y9, .int .i64 y10]] K = (
 bif q != (0 : Int) then
 K Ex.normal
 [AV.one (SV.ptr (0 : Nat) (1 : Nat) (0 : Nat) (0 : Nat)), AV.one (SV.ptr (1 : Nat) (1 : Nat) (0 : Nat) (0 : Nat)),
 AV.one (SV.ptr (2 : Nat) (1 : Nat) (0 : Nat) (0 : Nat))]
 [Blk.cells [SV.int IntKind.i64 ch], Blk.cells [SV.any, SV.int IntKind.i64 z, SV.int IntKind.i64 w],
 Blk.cells [SV.mapv (3 : Nat), SV.int IntKind.i64 a, SV.int IntKind.i64 b], Blk.map (0 : Nat) (8 : Nat) M]
 else
 bif y1 != ch then
 K Ex.normal
 [AV.one (SV.ptr (0 : Nat) (1 : Nat) (0 : Nat) (0 : Nat)), AV.one (SV.ptr (1 : Nat) (1 : Nat) (0 : Nat) (0 : Nat)),
 AV.one (SV.ptr (2 : Nat) (1 : Nat) (0 : Nat) (0 : Nat))]
 [Blk.cells [SV.int IntKind.i64 ch], Blk.cells [SV.any, SV.int IntKind.i64 z, SV.int IntKind.i64 w],
 Blk.cells [SV.mapv (3 : Nat), SV.int IntKind.i64 a, SV.int IntKind.i64 b], Blk.map (0 : Nat) (8 : Nat) M]
 else
 bif (↑M.length : Int) == (0 : Int) then
 K Ex.normal
 [AV.one (SV.ptr (0 : Nat) (1 : Nat) (0 : Nat) (0 : Nat)),
 AV.one (SV.ptr (1 : Nat) (1 : Nat) (0 : Nat) (0 : Nat)),
 AV.one (SV.ptr (2 : Nat) (1 : Nat) (0 : Nat) (0 : Nat))]
 [Blk.cells [SV.int IntKind.i64 ch], Blk.cells [SV.any, SV.int IntKind.i64 z, SV.int IntKind.i64 w],
 Blk.cells
 [SV.mapv (3 : Nat), SV.int IntKind.i64 (if y0 < y0 then y0 else y0),
 SV.int IntKind.i64 (if y0 > y0 then y0 else y0)],
 Blk.map (0 : Nat) (8 : Nat) (aset M [y0] [y2, y3, y4, y5, y6, y7, y8, y9])]
 else
 K Ex.normal
 [AV.one (SV.ptr (0 : Nat) (1 : Nat) (0 : Nat) (0 : Nat)),
 AV.one (SV.ptr (1 : Nat) (1 : Nat) (0 : Nat) (0 : Nat)),
 AV.one (SV.ptr (2 : Nat) (1 : Nat) (0 : Nat) (0 : Nat))]
 [Blk.cells [SV.int IntKind.i64 ch], Blk.cells [SV.any, SV.int IntKind.i64 z, SV.int IntKind.i64 w],
 Blk.cells
 [SV.mapv (3 : Nat), SV.int IntKind.i64 (if y0 < a then y0 else a),
 SV.int IntKind.i64 (if y0 > b then y0 else b)],
 Blk.map (0 : Nat) (8 : Nat) (aset M [y0] [y2, y3, y4, y5, y6, y7, y8, y9])]) := by kernel_rfl
theorem exrcv (l : List (List Int)) (ch : Int) (K : AV → List Blk → Prop) : evFn Ercv Try.f111 [.one (.data (.mat .i64 11 l)), .one (.int .i64 ch)] [] K = (
 okBs l ∧
 [bsE l, bif withinG ch (0 : Int) (3 : Int) then (0 : Int) else (2 : Int)].length ≤ (1000 : Nat) ∧
 bif firstE [bsE l, bif withinG ch (0 : Int) (3 : Int) then (0 : Int) else (2 : Int)] != (0 : Int) then
 K
 (AV.tup
 [TV.agg [SV.mapv (0 : Nat), SV.int IntKind.i64 (0 : Int), SV.int IntKind.i64 (0 : Int)],
 TV.one
 (SV.int IntKind.i64 (firstE [bsE l, bif withinG ch (0 : Int) (3 : Int) then (0 : Int) else (2 : Int)]))])
 [Blk.map (0 : Nat) (8 : Nat) []]
 else
 bif decide (l.length ≤ (1000 : Nat)) && (l.all len11 && l.all conB) then
 ∃ N l_1,
 kdI [] l = kdI N l_1 ∧
 ((0 : Int) = (0 : Int) ∧
 (0 : Int) = (0 : Int) ∧
 l_1.all len11 = true ∧ N.length + l_1.length ≤ (1000 : Nat) ∧ l_1.all conB = true) ∧
 [] = mapE (chB ch N) ∧
 (0 : Int) = cmin (chB ch N) ∧
 (0 : Int) = cmax (chB ch N) ∧
 [bif decide ((↑(mapE (chB ch (newsF N l_1))).length : Int) > (0 : Int)) then (0 : Int)
 else (12 : Int),
 bif
 decide
 (IntKind.i64.wrap (cmax (chB ch (newsF N l_1)) - cmin (chB ch (newsF N l_1))) <
 (60 : Int)) then
 (0 : Int)
 else (8 : Int)].length ≤
 (1000 : Nat) ∧
 K
 (AV.tup
 [TV.agg
 [SV.mapv (0 : Nat), SV.int IntKind.i64 (cmin (chB ch (newsF N l_1))),
 SV.int IntKind.i64 (cmax (chB ch (newsF N l_1)))],
 TV.one
 (SV.int IntKind.i64
 (firstE
 [bif decide ((↑(mapE (chB ch (newsF N l_1))).length : Int) > (0 : Int)) then (0 : Int)
 else (12 : Int),
 bif
 decide
 (IntKind.i64.wrap
 (cmax (chB ch (newsF N l_1)) - cmin (chB ch (newsF N l_1))) <
 (60 : Int)) then
 (0 : Int)
 else (8 : Int)]))])
 [Blk.map (0 : Nat) (8 : Nat) (mapE (chB ch (newsF N l_1)))]
 else False) := by kernel_rfl
theorem exstr (l : List (List Int)) (ch : Int) (K : AV → List Blk → Prop) : evFn Estr Try.f54 [.one (.data (.mat .i64 11 l)), .one (.int .i64 ch)] [] K = (
 okBs l ∧
 bif rcE l ch == (0 : Int) then
 ∃ o,
 (okSt o (cmin (ownB l ch)) (cmax (ownB l ch)) (cmin (ownB l ch)) (mapE (ownB l ch)) ∧
 cmin (ownB l ch) = cmin (ownB l ch)) ∧
 bif
 (strG (lkO o) (cmax (ownB l ch) - cmin (ownB l ch) + (1 : Int)).toNat (cmin (ownB l ch))
 ([], [])).1.isEmpty then
 K
 (AV.tup
 [TV.agg [SV.int IntKind.i64 (cmin (ownB l ch)), SV.nil, SV.nil], TV.one (SV.int IntKind.i64 (0 : Int))])
 []
 else
 bif
 (strG (lkO o) (cmax (ownB l ch) - cmin (ownB l ch) + (1 : Int)).toNat (cmin (ownB l ch))
 ([], [])).2.isEmpty then
 K
 (AV.tup
 [TV.agg [SV.int IntKind.i64 (cmin (ownB l ch)), SV.own (0 : Nat) (1 : Nat), SV.nil],
 TV.one (SV.int IntKind.i64 (0 : Int))])
 [Blk.row (3 : TypeId)
 (Row.ints IntKind.i64
 (strG (lkO o) (cmax (ownB l ch) - cmin (ownB l ch) + (1 : Int)).toNat (cmin (ownB l ch))
 ([], [])).1)]
 else
 K
 (AV.tup
 [TV.agg [SV.int IntKind.i64 (cmin (ownB l ch)), SV.own (0 : Nat) (1 : Nat), SV.own (1 : Nat) (2 : Nat)],
 TV.one (SV.int IntKind.i64 (0 : Int))])
 [Blk.row (3 : TypeId)
 (Row.ints IntKind.i64
 (strG (lkO o) (cmax (ownB l ch) - cmin (ownB l ch) + (1 : Int)).toNat (cmin (ownB l ch))
 ([], [])).1),
 Blk.row (99 : TypeId)
 (Row.mat IntKind.i64 (2 : Nat)
 (strG (lkO o) (cmax (ownB l ch) - cmin (ownB l ch) + (1 : Int)).toNat (cmin (ownB l ch))
 ([], [])).2)]
 else
 ∀ (a b : Int) (M : List (List Int × List Int)),
 bif rcE l ch != (0 : Int) then
 K (AV.tup [TV.agg [SV.int IntKind.i64 (0 : Int), SV.nil, SV.nil], TV.one (SV.int IntKind.i64 (rcE l ch))]) []
 else
 ∃ o,
 (okSt o a b a M ∧ a = a) ∧
 bif (strG (lkO o) (b - a + (1 : Int)).toNat a ([], [])).1.isEmpty then
 K (AV.tup [TV.agg [SV.int IntKind.i64 a, SV.nil, SV.nil], TV.one (SV.int IntKind.i64 (0 : Int))]) []
 else
 bif (strG (lkO o) (b - a + (1 : Int)).toNat a ([], [])).2.isEmpty then
 K
 (AV.tup
 [TV.agg [SV.int IntKind.i64 a, SV.own (0 : Nat) (1 : Nat), SV.nil],
 TV.one (SV.int IntKind.i64 (0 : Int))])
 [Blk.row (3 : TypeId) (Row.ints IntKind.i64 (strG (lkO o) (b - a + (1 : Int)).toNat a ([], [])).1)]
 else
 K
 (AV.tup
 [TV.agg [SV.int IntKind.i64 a, SV.own (0 : Nat) (1 : Nat), SV.own (1 : Nat) (2 : Nat)],
 TV.one (SV.int IntKind.i64 (0 : Int))])
 [Blk.row (3 : TypeId) (Row.ints IntKind.i64 (strG (lkO o) (b - a + (1 : Int)).toNat a ([], [])).1),
 Blk.row (99 : TypeId)
 (Row.mat IntKind.i64 (2 : Nat) (strG (lkO o) (b - a + (1 : Int)).toNat a ([], [])).2)]) := by kernel_rfl
theorem exstrl0a (c a b : Int) (M : List (List Int × List Int)) (f : Int) (K : Ex → List AV → List Blk → Prop) : evBody EstrF3 (lb Try.f54 0) [6, 8, 9] [] [.one (.ptr 0 1 0 0), .one (.ptr 2 1 0 0), .one (.int .i64 c)] [.cells [.mapv 1, .int .i64 a, .int .i64 b], .map 0 8 M, .cells [.int .i64 f, .nil, .nil]] K = (
 bif decide (c ≤ b) then
 bif ahas M [c] then
 K Ex.normal
 [AV.one (SV.ptr (0 : Nat) (1 : Nat) (0 : Nat) (0 : Nat)), AV.one (SV.ptr (2 : Nat) (1 : Nat) (0 : Nat) (0 : Nat)),
 AV.one (SV.int IntKind.i64 (IntKind.i64.wrap (c + (1 : Int))))]
 [Blk.cells [SV.mapv (1 : Nat), SV.int IntKind.i64 a, SV.int IntKind.i64 b], Blk.map (0 : Nat) (8 : Nat) M,
 Blk.cells [SV.int IntKind.i64 f, SV.own (3 : Nat) (1 : Nat), SV.nil],
 Blk.row (3 : Nat)
 (Row.ints IntKind.i64
 [(agetD M [c]).getD (0 : Nat) (0 : Int), (agetD M [c]).getD (1 : Nat) (0 : Int),
 (agetD M [c]).getD (2 : Nat) (0 : Int), (agetD M [c]).getD (3 : Nat) (0 : Int),
 (agetD M [c]).getD (4 : Nat) (0 : Int), (agetD M [c]).getD (5 : Nat) (0 : Int),
 (agetD M [c]).getD (6 : Nat) (0 : Int), (agetD M [c]).getD (7 : Nat) (0 : Int)])]
 else
 K Ex.normal
 [AV.one (SV.ptr (0 : Nat) (1 : Nat) (0 : Nat) (0 : Nat)), AV.one (SV.ptr (2 : Nat) (1 : Nat) (0 : Nat) (0 : Nat)),
 AV.one (SV.int IntKind.i64 (IntKind.i64.wrap (c + (1 : Int))))]
 [Blk.cells [SV.mapv (1 : Nat), SV.int IntKind.i64 a, SV.int IntKind.i64 b], Blk.map (0 : Nat) (8 : Nat) M,
 Blk.cells [SV.int IntKind.i64 f, SV.own (3 : Nat) (1 : Nat), SV.own (4 : Nat) (2 : Nat)],
 Blk.row (3 : Nat)
 (Row.ints IntKind.i64
 [(agetD M [c]).getD (0 : Nat) (0 : Int), (agetD M [c]).getD (1 : Nat) (0 : Int),
 (agetD M [c]).getD (2 : Nat) (0 : Int), (agetD M [c]).getD (3 : Nat) (0 : Int),
 (agetD M [c]).getD (4 : Nat) (0 : Int), (agetD M [c]).getD (5 : Nat) (0 : Int),
 (agetD M [c]).getD (6 : Nat) (0 : Int), (agetD M [c]).getD (7 : Nat) (0 : Int)]),
 Blk.row (99 : Nat)
 (Row.mat IntKind.i64 (2 : Nat)
 [[(0 : Int),
 IntKind.i64.wrap
 ((↑[(agetD M [c]).getD (0 : Nat) (0 : Int), (agetD M [c]).getD (1 : Nat) (0 : Int),
 (agetD M [c]).getD (2 : Nat) (0 : Int), (agetD M [c]).getD (3 : Nat) (0 : Int),
 (agetD M [c]).getD (4 : Nat) (0 : Int), (agetD M [c]).getD (5 : Nat) (0 : Int),
 (agetD M [c]).getD (6 : Nat) (0 : Int), (agetD M [c]).getD (7 : Nat) (0 : Int)].length :
 Int) -
 (1 : Int))]])]
 else
 K (Ex.exit (0 : Nat)) []
 [Blk.cells [SV.mapv (1 : Nat), SV.int IntKind.i64 a, SV.int IntKind.i64 b], Blk.map (0 : Nat) (8 : Nat) M,
 Blk.cells [SV.int IntKind.i64 f, SV.nil, SV.nil]]) := by kernel_rfl
theorem exstrl0b (c a b : Int) (M : List (List Int × List Int)) (f : Int) (S : List Int) (K : Ex → List AV → List Blk → Prop) : evBody EstrF3 (lb Try.f54 0) [6, 8, 9] [] [.one (.ptr 0 1 0 0), .one (.ptr 2 1 0 0), .one (.int .i64 c)] [.cells [.mapv 1, .int .i64 a, .int .i64 b], .map 0 8 M, .cells [.int .i64 f, .own 3 1, .nil], .row 3 (.ints .i64 S)] K = (
 bif decide (c ≤ b) then
 bif
 decide
 ((S ++
 [(agetD M [c]).getD (0 : Nat) (0 : Int), (agetD M [c]).getD (1 : Nat) (0 : Int),
 (agetD M [c]).getD (2 : Nat) (0 : Int), (agetD M [c]).getD (3 : Nat) (0 : Int),
 (agetD M [c]).getD (4 : Nat) (0 : Int), (agetD M [c]).getD (5 : Nat) (0 : Int),
 (agetD M [c]).getD (6 : Nat) (0 : Int), (agetD M [c]).getD (7 : Nat) (0 : Int)]).length *
 (8 : Nat) ≤
 (140737488355328 : Nat) ∧
 (S ++
 [(agetD M [c]).getD (0 : Nat) (0 : Int), (agetD M [c]).getD (1 : Nat) (0 : Int),
 (agetD M [c]).getD (2 : Nat) (0 : Int), (agetD M [c]).getD (3 : Nat) (0 : Int),
 (agetD M [c]).getD (4 : Nat) (0 : Int), (agetD M [c]).getD (5 : Nat) (0 : Int),
 (agetD M [c]).getD (6 : Nat) (0 : Int), (agetD M [c]).getD (7 : Nat) (0 : Int)]).length ≤
 (140737488355328 : Nat)) then
 bif ahas M [c] then
 K Ex.normal
 [AV.one (SV.ptr (0 : Nat) (1 : Nat) (0 : Nat) (0 : Nat)),
 AV.one (SV.ptr (2 : Nat) (1 : Nat) (0 : Nat) (0 : Nat)),
 AV.one (SV.int IntKind.i64 (IntKind.i64.wrap (c + (1 : Int))))]
 [Blk.cells [SV.mapv (1 : Nat), SV.int IntKind.i64 a, SV.int IntKind.i64 b], Blk.map (0 : Nat) (8 : Nat) M,
 Blk.cells [SV.int IntKind.i64 f, SV.own (3 : Nat) (1 : Nat), SV.nil],
 Blk.row (3 : Nat)
 (Row.ints IntKind.i64
 (S ++
 [(agetD M [c]).getD (0 : Nat) (0 : Int), (agetD M [c]).getD (1 : Nat) (0 : Int),
 (agetD M [c]).getD (2 : Nat) (0 : Int), (agetD M [c]).getD (3 : Nat) (0 : Int),
 (agetD M [c]).getD (4 : Nat) (0 : Int), (agetD M [c]).getD (5 : Nat) (0 : Int),
 (agetD M [c]).getD (6 : Nat) (0 : Int), (agetD M [c]).getD (7 : Nat) (0 : Int)]))]
 else
 K Ex.normal
 [AV.one (SV.ptr (0 : Nat) (1 : Nat) (0 : Nat) (0 : Nat)),
 AV.one (SV.ptr (2 : Nat) (1 : Nat) (0 : Nat) (0 : Nat)),
 AV.one (SV.int IntKind.i64 (IntKind.i64.wrap (c + (1 : Int))))]
 [Blk.cells [SV.mapv (1 : Nat), SV.int IntKind.i64 a, SV.int IntKind.i64 b], Blk.map (0 : Nat) (8 : Nat) M,
 Blk.cells [SV.int IntKind.i64 f, SV.own (3 : Nat) (1 : Nat), SV.own (4 : Nat) (2 : Nat)],
 Blk.row (3 : Nat)
 (Row.ints IntKind.i64
 (S ++
 [(agetD M [c]).getD (0 : Nat) (0 : Int), (agetD M [c]).getD (1 : Nat) (0 : Int),
 (agetD M [c]).getD (2 : Nat) (0 : Int), (agetD M [c]).getD (3 : Nat) (0 : Int),
 (agetD M [c]).getD (4 : Nat) (0 : Int), (agetD M [c]).getD (5 : Nat) (0 : Int),
 (agetD M [c]).getD (6 : Nat) (0 : Int), (agetD M [c]).getD (7 : Nat) (0 : Int)])),
 Blk.row (99 : Nat)
 (Row.mat IntKind.i64 (2 : Nat)
 [[(↑S.length : Int),
 IntKind.i64.wrap
 ((↑(S ++
 [(agetD M [c]).getD (0 : Nat) (0 : Int), (agetD M [c]).getD (1 : Nat) (0 : Int),
 (agetD M [c]).getD (2 : Nat) (0 : Int), (agetD M [c]).getD (3 : Nat) (0 : Int),
 (agetD M [c]).getD (4 : Nat) (0 : Int), (agetD M [c]).getD (5 : Nat) (0 : Int),
 (agetD M [c]).getD (6 : Nat) (0 : Int),
 (agetD M [c]).getD (7 : Nat) (0 : Int)]).length :
 Int) -
 (1 : Int))]])]
 else False
 else
 K (Ex.exit (0 : Nat)) []
 [Blk.cells [SV.mapv (1 : Nat), SV.int IntKind.i64 a, SV.int IntKind.i64 b], Blk.map (0 : Nat) (8 : Nat) M,
 Blk.cells [SV.int IntKind.i64 f, SV.own (3 : Nat) (1 : Nat), SV.nil],
 Blk.row (3 : TypeId) (Row.ints IntKind.i64 S)]) := by kernel_rfl
def exstrl0c_x0 (c a b : Int) (M : List (List Int × List Int)) (f : Int) (S : List Int) (G : List (List Int)) (K : Ex → List AV → List Blk → Prop) : Prop := (
 bif
 decide
 ((G ++
 [[(↑S.length : Int),
 IntKind.i64.wrap
 ((↑(S ++
 [(agetD M [c]).getD (0 : Nat) (0 : Int), (agetD M [c]).getD (1 : Nat) (0 : Int),
 (agetD M [c]).getD (2 : Nat) (0 : Int), (agetD M [c]).getD (3 : Nat) (0 : Int),
 (agetD M [c]).getD (4 : Nat) (0 : Int), (agetD M [c]).getD (5 : Nat) (0 : Int),
 (agetD M [c]).getD (6 : Nat) (0 : Int),
 (agetD M [c]).getD (7 : Nat) (0 : Int)]).length :
 Int) -
 (1 : Int))]]).length *
 (16 : Nat) ≤
 (140737488355328 : Nat) ∧
 (G ++
 [[(↑S.length : Int),
 IntKind.i64.wrap
 ((↑(S ++
 [(agetD M [c]).getD (0 : Nat) (0 : Int), (agetD M [c]).getD (1 : Nat) (0 : Int),
 (agetD M [c]).getD (2 : Nat) (0 : Int), (agetD M [c]).getD (3 : Nat) (0 : Int),
 (agetD M [c]).getD (4 : Nat) (0 : Int), (agetD M [c]).getD (5 : Nat) (0 : Int),
 (agetD M [c]).getD (6 : Nat) (0 : Int),
 (agetD M [c]).getD (7 : Nat) (0 : Int)]).length :
 Int) -
 (1 : Int))]]).length ≤
 (140737488355328 : Nat)) then
 K Ex.normal
 [AV.one (SV.ptr (0 : Nat) (1 : Nat) (0 : Nat) (0 : Nat)), AV.one (SV.ptr (2 : Nat) (1 : Nat) (0 : Nat) (0 : Nat)),
 AV.one (SV.int IntKind.i64 (IntKind.i64.wrap (c + (1 : Int))))]
 [Blk.cells [SV.mapv (1 : Nat), SV.int IntKind.i64 a, SV.int IntKind.i64 b], Blk.map (0 : Nat) (8 : Nat) M,
 Blk.cells [SV.int IntKind.i64 f, SV.own (3 : Nat) (1 : Nat), SV.own (4 : Nat) (2 : Nat)],
 Blk.row (3 : Nat)
 (Row.ints IntKind.i64
 (S ++
 [(agetD M [c]).getD (0 : Nat) (0 : Int), (agetD M [c]).getD (1 : Nat) (0 : Int),
 (agetD M [c]).getD (2 : Nat) (0 : Int), (agetD M [c]).getD (3 : Nat) (0 : Int),
 (agetD M [c]).getD (4 : Nat) (0 : Int), (agetD M [c]).getD (5 : Nat) (0 : Int),
 (agetD M [c]).getD (6 : Nat) (0 : Int), (agetD M [c]).getD (7 : Nat) (0 : Int)])),
 Blk.row (99 : Nat)
 (Row.mat IntKind.i64 (2 : Nat)
 (G ++
 [[(↑S.length : Int),
 IntKind.i64.wrap
 ((↑(S ++
 [(agetD M [c]).getD (0 : Nat) (0 : Int), (agetD M [c]).getD (1 : Nat) (0 : Int),
 (agetD M [c]).getD (2 : Nat) (0 : Int), (agetD M [c]).getD (3 : Nat) (0 : Int),
 (agetD M [c]).getD (4 : Nat) (0 : Int), (agetD M [c]).getD (5 : Nat) (0 : Int),
 (agetD M [c]).getD (6 : Nat) (0 : Int), (agetD M [c]).getD (7 : Nat) (0 : Int)]).length :
 Int) -
 (1 : Int))]]))]
 else False)
theorem exstrl0c (c a b : Int) (M : List (List Int × List Int)) (f : Int) (S : List Int) (G : List (List Int)) (K : Ex → List AV → List Blk → Prop) : evBody EstrF3 (lb Try.f54 0) [6, 8, 9] [] [.one (.ptr 0 1 0 0), .one (.ptr 2 1 0 0), .one (.int .i64 c)] [.cells [.mapv 1, .int .i64 a, .int .i64 b], .map 0 8 M, .cells [.int .i64 f, .own 3 1, .own 4 2], .row 3 (.ints .i64 S), .row 99 (.mat .i64 2 G)] K = (
 bif decide (c ≤ b) then
 bif
 decide
 ((S ++
 [(agetD M [c]).getD (0 : Nat) (0 : Int), (agetD M [c]).getD (1 : Nat) (0 : Int),
 (agetD M [c]).getD (2 : Nat) (0 : Int), (agetD M [c]).getD (3 : Nat) (0 : Int),
 (agetD M [c]).getD (4 : Nat) (0 : Int), (agetD M [c]).getD (5 : Nat) (0 : Int),
 (agetD M [c]).getD (6 : Nat) (0 : Int), (agetD M [c]).getD (7 : Nat) (0 : Int)]).length *
 (8 : Nat) ≤
 (140737488355328 : Nat) ∧
 (S ++
 [(agetD M [c]).getD (0 : Nat) (0 : Int), (agetD M [c]).getD (1 : Nat) (0 : Int),
 (agetD M [c]).getD (2 : Nat) (0 : Int), (agetD M [c]).getD (3 : Nat) (0 : Int),
 (agetD M [c]).getD (4 : Nat) (0 : Int), (agetD M [c]).getD (5 : Nat) (0 : Int),
 (agetD M [c]).getD (6 : Nat) (0 : Int), (agetD M [c]).getD (7 : Nat) (0 : Int)]).length ≤
 (140737488355328 : Nat)) then
 bif ahas M [c] then
 K Ex.normal
 [AV.one (SV.ptr (0 : Nat) (1 : Nat) (0 : Nat) (0 : Nat)),
 AV.one (SV.ptr (2 : Nat) (1 : Nat) (0 : Nat) (0 : Nat)),
 AV.one (SV.int IntKind.i64 (IntKind.i64.wrap (c + (1 : Int))))]
 [Blk.cells [SV.mapv (1 : Nat), SV.int IntKind.i64 a, SV.int IntKind.i64 b], Blk.map (0 : Nat) (8 : Nat) M,
 Blk.cells [SV.int IntKind.i64 f, SV.own (3 : Nat) (1 : Nat), SV.own (4 : Nat) (2 : Nat)],
 Blk.row (3 : Nat)
 (Row.ints IntKind.i64
 (S ++
 [(agetD M [c]).getD (0 : Nat) (0 : Int), (agetD M [c]).getD (1 : Nat) (0 : Int),
 (agetD M [c]).getD (2 : Nat) (0 : Int), (agetD M [c]).getD (3 : Nat) (0 : Int),
 (agetD M [c]).getD (4 : Nat) (0 : Int), (agetD M [c]).getD (5 : Nat) (0 : Int),
 (agetD M [c]).getD (6 : Nat) (0 : Int), (agetD M [c]).getD (7 : Nat) (0 : Int)])),
 Blk.row (99 : TypeId) (Row.mat IntKind.i64 (2 : Nat) G)]
 else
 bif decide (IntKind.i64.wrap ((↑G.length : Int) - (1 : Int)) ≥ (0 : Int)) then
 bif
 decide ((0 : Int) ≤ IntKind.i64.wrap ((↑G.length : Int) - (1 : Int))) &&
 decide (IntKind.i64.wrap ((↑G.length : Int) - (1 : Int)) < (↑G.length : Int)) then
 bif
 decide ((1 : Nat) < (2 : Nat)) &&
 decide ((IntKind.i64.wrap ((↑G.length : Int) - (1 : Int))).toNat < G.length) then
 bif
 (G.getD (IntKind.i64.wrap ((↑G.length : Int) - (1 : Int))).toNat []).getD (1 : Nat) (0 : Int) ==
 IntKind.i64.wrap ((↑S.length : Int) - (1 : Int)) then
 bif
 decide ((0 : Int) ≤ IntKind.i64.wrap ((↑G.length : Int) - (1 : Int))) &&
 decide (IntKind.i64.wrap ((↑G.length : Int) - (1 : Int)) < (↑G.length : Int)) then
 bif
 decide ((1 : Nat) < (2 : Nat)) &&
 decide ((IntKind.i64.wrap ((↑G.length : Int) - (1 : Int))).toNat < G.length) &&
 decide
 ((G.getD (IntKind.i64.wrap ((↑G.length : Int) - (1 : Int))).toNat []).length = (2 : Nat)) then
 K Ex.normal
 [AV.one (SV.ptr (0 : Nat) (1 : Nat) (0 : Nat) (0 : Nat)),
 AV.one (SV.ptr (2 : Nat) (1 : Nat) (0 : Nat) (0 : Nat)),
 AV.one (SV.int IntKind.i64 (IntKind.i64.wrap (c + (1 : Int))))]
 [Blk.cells [SV.mapv (1 : Nat), SV.int IntKind.i64 a, SV.int IntKind.i64 b],
 Blk.map (0 : Nat) (8 : Nat) M,
 Blk.cells [SV.int IntKind.i64 f, SV.own (3 : Nat) (1 : Nat), SV.own (4 : Nat) (2 : Nat)],
 Blk.row (3 : Nat)
 (Row.ints IntKind.i64
 (S ++
 [(agetD M [c]).getD (0 : Nat) (0 : Int), (agetD M [c]).getD (1 : Nat) (0 : Int),
 (agetD M [c]).getD (2 : Nat) (0 : Int), (agetD M [c]).getD (3 : Nat) (0 : Int),
 (agetD M [c]).getD (4 : Nat) (0 : Int), (agetD M [c]).getD (5 : Nat) (0 : Int),
 (agetD M [c]).getD (6 : Nat) (0 : Int), (agetD M [c]).getD (7 : Nat) (0 : Int)])),
 Blk.row (99 : TypeId)
 (Row.mat IntKind.i64 (2 : Nat)
 (G.set (IntKind.i64.wrap ((↑G.length : Int) - (1 : Int))).toNat
 ((G.getD (IntKind.i64.wrap ((↑G.length : Int) - (1 : Int))).toNat []).set (1 : Nat)
 (IntKind.i64.wrap
 ((↑(S ++
 [(agetD M [c]).getD (0 : Nat) (0 : Int),
 (agetD M [c]).getD (1 : Nat) (0 : Int),
 (agetD M [c]).getD (2 : Nat) (0 : Int),
 (agetD M [c]).getD (3 : Nat) (0 : Int),
 (agetD M [c]).getD (4 : Nat) (0 : Int),
 (agetD M [c]).getD (5 : Nat) (0 : Int),
 (agetD M [c]).getD (6 : Nat) (0 : Int),
 (agetD M [c]).getD (7 : Nat) (0 : Int)]).length :
 Int) -
 (1 : Int))))))]
 else False
 else False
 else exstrl0c_x0 c a b M f S G K
 else False
 else False
 else exstrl0c_x0 c a b M f S G K
 else False
 else
 K (Ex.exit (0 : Nat)) []
 [Blk.cells [SV.mapv (1 : Nat), SV.int IntKind.i64 a, SV.int IntKind.i64 b], Blk.map (0 : Nat) (8 : Nat) M,
 Blk.cells [SV.int IntKind.i64 f, SV.own (3 : Nat) (1 : Nat), SV.own (4 : Nat) (2 : Nat)],
 Blk.row (3 : TypeId) (Row.ints IntKind.i64 S), Blk.row (99 : TypeId) (Row.mat IntKind.i64 (2 : Nat) G)]) := by kernel_rfl
theorem exmis (l : List (List Int)) (ch : Int) (K : AV → List Blk → Prop) : evFn Emis Try.f55 [.one (.data (.mat .i64 11 l)), .one (.int .i64 ch)] [] K = (
 okBs l ∧
 bif rcE l ch == (0 : Int) then
 ∃ o,
 okSt o (cmin (ownB l ch)) (cmax (ownB l ch)) (cmin (ownB l ch)) (mapE (ownB l ch)) ∧
 bif (misG (lkO o) (cmax (ownB l ch) - cmin (ownB l ch) + (1 : Int)).toNat (cmin (ownB l ch))).isEmpty then
 K (AV.tup [TV.one SV.nil, TV.one (SV.int IntKind.i64 (0 : Int))]) []
 else
 K (AV.tup [TV.one (SV.own (0 : Nat) (1 : Nat)), TV.one (SV.int IntKind.i64 (0 : Int))])
 [Blk.row (3 : TypeId)
 (Row.ints IntKind.i64
 (misG (lkO o) (cmax (ownB l ch) - cmin (ownB l ch) + (1 : Int)).toNat (cmin (ownB l ch))))]
 else
 ∀ (a b : Int) (M : List (List Int × List Int)),
 bif rcE l ch != (0 : Int) then K (AV.tup [TV.one SV.nil, TV.one (SV.int IntKind.i64 (rcE l ch))]) []
 else
 ∃ o,
 okSt o a b a M ∧
 bif (misG (lkO o) (b - a + (1 : Int)).toNat a).isEmpty then
 K (AV.tup [TV.one SV.nil, TV.one (SV.int IntKind.i64 (0 : Int))]) []
 else
 K (AV.tup [TV.one (SV.own (0 : Nat) (1 : Nat)), TV.one (SV.int IntKind.i64 (0 : Int))])
 [Blk.row (3 : TypeId) (Row.ints IntKind.i64 (misG (lkO o) (b - a + (1 : Int)).toNat a))]) := by kernel_rfl
theorem exmisl0a (c a b : Int) (M : List (List Int × List Int)) (K : Ex → List AV → List Blk → Prop) : evBody EmisF2 (lb Try.f55 0) [6, 8, 9] [8] [.one (.ptr 0 1 0 0), .one .nil, .one (.int .i64 c)] [.cells [.mapv 1, .int .i64 a, .int .i64 b], .map 0 8 M] K = (
 bif decide (c ≤ b) then
 bif !ahas M [c] then
 K Ex.normal
 [AV.one (SV.ptr (0 : Nat) (1 : Nat) (0 : Nat) (0 : Nat)), AV.one (SV.own (2 : Nat) (1 : Nat)),
 AV.one (SV.int IntKind.i64 (IntKind.i64.wrap (c + (1 : Int))))]
 [Blk.cells [SV.mapv (1 : Nat), SV.int IntKind.i64 a, SV.int IntKind.i64 b], Blk.map (0 : Nat) (8 : Nat) M,
 Blk.row (3 : Nat) (Row.ints IntKind.i64 [c])]
 else
 K Ex.normal
 [AV.one (SV.ptr (0 : Nat) (1 : Nat) (0 : Nat) (0 : Nat)), AV.one SV.nil,
 AV.one (SV.int IntKind.i64 (IntKind.i64.wrap (c + (1 : Int))))]
 [Blk.cells [SV.mapv (1 : Nat), SV.int IntKind.i64 a, SV.int IntKind.i64 b], Blk.map (0 : Nat) (8 : Nat) M]
 else
 K (Ex.exit (0 : Nat)) [AV.one SV.nil]
 [Blk.cells [SV.mapv (1 : Nat), SV.int IntKind.i64 a, SV.int IntKind.i64 b], Blk.map (0 : Nat) (8 : Nat) M]) := by kernel_rfl
theorem exmisl0b (c a b : Int) (M : List (List Int × List Int)) (S : List Int) (K : Ex → List AV → List Blk → Prop) : evBody EmisF2 (lb Try.f55 0) [6, 8, 9] [8] [.one (.ptr 0 1 0 0), .one (.own 2 1), .one (.int .i64 c)] [.cells [.mapv 1, .int .i64 a, .int .i64 b], .map 0 8 M, .row 3 (.ints .i64 S)] K = (
 bif decide (c ≤ b) then
 bif !ahas M [c] then
 bif
 decide
 ((S ++ [c]).length * (8 : Nat) ≤ (140737488355328 : Nat) ∧ (S ++ [c]).length ≤ (140737488355328 : Nat)) then
 K Ex.normal
 [AV.one (SV.ptr (0 : Nat) (1 : Nat) (0 : Nat) (0 : Nat)), AV.one (SV.own (2 : Nat) (1 : Nat)),
 AV.one (SV.int IntKind.i64 (IntKind.i64.wrap (c + (1 : Int))))]
 [Blk.cells [SV.mapv (1 : Nat), SV.int IntKind.i64 a, SV.int IntKind.i64 b], Blk.map (0 : Nat) (8 : Nat) M,
 Blk.row (3 : Nat) (Row.ints IntKind.i64 (S ++ [c]))]
 else False
 else
 K Ex.normal
 [AV.one (SV.ptr (0 : Nat) (1 : Nat) (0 : Nat) (0 : Nat)), AV.one (SV.own (2 : Nat) (1 : Nat)),
 AV.one (SV.int IntKind.i64 (IntKind.i64.wrap (c + (1 : Int))))]
 [Blk.cells [SV.mapv (1 : Nat), SV.int IntKind.i64 a, SV.int IntKind.i64 b], Blk.map (0 : Nat) (8 : Nat) M,
 Blk.row (3 : TypeId) (Row.ints IntKind.i64 S)]
 else
 K (Ex.exit (0 : Nat)) [AV.one (SV.own (2 : Nat) (1 : Nat))]
 [Blk.cells [SV.mapv (1 : Nat), SV.int IntKind.i64 a, SV.int IntKind.i64 b], Blk.map (0 : Nat) (8 : Nat) M,
 Blk.row (3 : TypeId) (Row.ints IntKind.i64 S)]) := by kernel_rfl
end Go.Ev

namespace Go.Ev
open Go Go.Proofs
attribute [local irreducible] evFn evBody evRound
set_option maxRecDepth 20000
set_option linter.unusedVariables false
set_option linter.unusedSimpArgs false

theorem newsF_mem : ∀ (N l : List (List Int)) (x : List Int), x ∈ newsF N l → x ∈ N ∨ x ∈ l
  | _, [], _, h => .inl h
  | N, y :: l, x, h => by
    rcases newsF_mem _ l x h with h | h
    · unfold nxG at h
      cases hk : kdG N y == 0 with
      | true =>
        rw [hk, cond_true, List.mem_append] at h
        exact h.imp_right fun h => by simp at h; simp [h]
      | false => rw [hk, cond_false] at h; exact .inl h
    · exact .inr (List.mem_cons_of_mem _ h)
theorem ownB_mem {l : List (List Int)} {ch : Int} {x : List Int} (h : x ∈ ownB l ch) : x ∈ l ∧ x.getD 1 0 = ch := by
  unfold ownB chB at h
  rw [List.mem_filter] at h
  exact ⟨(newsF_mem _ _ _ h.1).resolve_left (by simp), by simpa using h.2⟩
theorem kd_none {N : List (List Int)} {y : List Int} (h : kdG N y = 0) : N.find? (sameK y) = none ∧ sumB y = true := by
  unfold kdG at h
  cases hs : sumB y with
  | false => rw [hs] at h; cases h
  | true =>
    rw [hs, Bool.not_true, cond_false] at h
    cases hf : N.find? (sameK y) with
    | none => exact ⟨rfl, rfl⟩
    | some z =>
      rw [hf] at h
      dsimp only at h
      cases hz : z == y <;> rw [hz] at h <;> cases h
theorem chB_new {N : List (List Int)} {y : List Int} (h : N.find? (sameK y) = none) : ∀ x ∈ chB (y.getD 1 0) N, cnt x ≠ cnt y := by
  intro x hx e
  unfold chB at hx
  rw [List.mem_filter] at hx
  have := List.find?_eq_none.1 h x hx.1
  unfold sameK at this
  unfold cnt at e
  simp only [Bool.and_eq_true, beq_iff_eq, not_and] at this
  exact this (by simpa using hx.2) e
theorem aget_mapE (n : Int) : ∀ o : List (List Int), aget (mapE o) [n] = lkO o n
  | [] => rfl
  | x :: o => by
    have ih := aget_mapE n o
    unfold mapE at ih ⊢
    unfold lkO at ih ⊢
    rw [List.map_cons, aget, ih, List.find?_cons]
    have e : ([n] == (entS x).1) = (cnt x == n) := by
      unfold entS cnt
      rw [Bool.eq_iff_iff]
      simp only [beq_iff_eq, List.cons.injEq, and_true]
      exact eq_comm
    rw [e]
    cases cnt x == n <;> rfl
theorem aset_mapE {c : Int} {v : List Int} : ∀ {o : List (List Int)}, (∀ x ∈ o, cnt x ≠ c) → aset (mapE o) [c] v = mapE o ++ [([c], v)]
  | [], _ => rfl
  | x :: o, h => by
    have ih := aset_mapE (v := v) (o := o) fun y hy => h y (List.mem_cons_of_mem _ hy)
    unfold mapE at ih ⊢
    rw [List.map_cons, aset, ih]
    have e : ([c] == (entS x).1) = false := by
      have := h x (List.mem_cons_self ..)
      unfold entS
      unfold cnt at this
      rw [beq_eq_false_iff_ne]
      intro e
      simp only [List.cons.injEq, and_true] at e
      exact this e.symm
    rw [e]; rfl
theorem smp8 (o : List (List Int)) (c : Int) : [(agetD (mapE o) [c]).getD 0 0, (agetD (mapE o) [c]).getD 1 0, (agetD (mapE o) [c]).getD 2 0, (agetD (mapE o) [c]).getD 3 0, (agetD (mapE o) [c]).getD 4 0, (agetD (mapE o) [c]).getD 5 0, (agetD (mapE o) [c]).getD 6 0, (agetD (mapE o) [c]).getD 7 0] = (lkO o c).getD zer8 := by
  unfold agetD
  rw [aget_mapE]
  unfold lkO
  cases o.find? (fun x => cnt x == c) <;> rfl
theorem smp_len (o : List (List Int)) (c : Int) : ((lkO o c).getD zer8).length = 8 := by
  unfold lkO
  cases o.find? (fun x => cnt x == c) <;> rfl
theorem ahas_mapE (o : List (List Int)) (c : Int) : ahas (mapE o) [c] = (lkO o c).isSome := by unfold ahas; rw [aget_mapE]
theorem foldmin : ∀ (l : List (List Int)) (a : Int), l.foldl (fun a y => if cnt y < a then cnt y else a) a ≤ a ∧ ∀ x ∈ l, l.foldl (fun a y => if cnt y < a then cnt y else a) a ≤ cnt x
  | [], a => ⟨Int.le_refl _, fun x hx => by simp at hx⟩
  | y :: l, a => by
    obtain ⟨h1, h2⟩ := foldmin l (if cnt y < a then cnt y else a)
    rw [List.foldl_cons]
    have e : (if cnt y < a then cnt y else a) ≤ a ∧ (if cnt y < a then cnt y else a) ≤ cnt y := by constructor <;> split <;> omega
    refine ⟨Int.le_trans h1 e.1, fun x hx => ?_⟩
    rcases List.mem_cons.1 hx with rfl | hx
    · exact Int.le_trans h1 e.2
    · exact h2 x hx
theorem foldmax : ∀ (l : List (List Int)) (a : Int), a ≤ l.foldl (fun a y => if cnt y > a then cnt y else a) a ∧ ∀ x ∈ l, cnt x ≤ l.foldl (fun a y => if cnt y > a then cnt y else a) a
  | [], a => ⟨Int.le_refl _, fun x hx => by simp at hx⟩
  | y :: l, a => by
    obtain ⟨h1, h2⟩ := foldmax l (if cnt y > a then cnt y else a)
    rw [List.foldl_cons]
    have e : a ≤ (if cnt y > a then cnt y else a) ∧ cnt y ≤ (if cnt y > a then cnt y else a) := by constructor <;> split <;> omega
    refine ⟨Int.le_trans e.1 h1, fun x hx => ?_⟩
    rcases List.mem_cons.1 hx with rfl | hx
    · exact Int.le_trans e.2 h1
    · exact h2 x hx
theorem foldmin_mem : ∀ (l : List (List Int)) (a : Int), l.foldl (fun a y => if cnt y < a then cnt y else a) a = a ∨ ∃ x ∈ l, l.foldl (fun a y => if cnt y < a then cnt y else a) a = cnt x
  | [], a => .inl rfl
  | y :: l, a => by
    rw [List.foldl_cons]
    rcases foldmin_mem l (if cnt y < a then cnt y else a) with h | ⟨x, hx, h⟩
    · by_cases hy : cnt y < a
      · rw [if_pos hy] at h ⊢; exact .inr ⟨y, List.mem_cons_self .., h⟩
      · rw [if_neg hy] at h ⊢; exact .inl h
    · exact .inr ⟨x, List.mem_cons_of_mem _ hx, h⟩
theorem foldmax_mem : ∀ (l : List (List Int)) (a : Int), l.foldl (fun a y => if cnt y > a then cnt y else a) a = a ∨ ∃ x ∈ l, l.foldl (fun a y => if cnt y > a then cnt y else a) a = cnt x
  | [], a => .inl rfl
  | y :: l, a => by
    rw [List.foldl_cons]
    rcases foldmax_mem l (if cnt y > a then cnt y else a) with h | ⟨x, hx, h⟩
    · by_cases hy : cnt y > a
      · rw [if_pos hy] at h ⊢; exact .inr ⟨y, List.mem_cons_self .., h⟩
      · rw [if_neg hy] at h ⊢; exact .inl h
    · exact .inr ⟨x, List.mem_cons_of_mem _ hx, h⟩
theorem cmin_le {o : List (List Int)} {x : List Int} (h : x ∈ o) : cmin o ≤ cnt x := by
  cases o with
  | nil => simp at h
  | cons y l =>
    rcases List.mem_cons.1 h with rfl | h
    · exact (foldmin l _).1
    · exact (foldmin l _).2 x h
theorem le_cmax {o : List (List Int)} {x : List Int} (h : x ∈ o) : cnt x ≤ cmax o := by
  cases o with
  | nil => simp at h
  | cons y l =>
    rcases List.mem_cons.1 h with rfl | h
    · exact (foldmax l _).1
    · exact (foldmax l _).2 x h
theorem cmin_mem {o : List (List Int)} (h : o ≠ []) : ∃ x ∈ o, cmin o = cnt x := by
  cases o with
  | nil => exact absurd rfl h
  | cons y l =>
    rcases foldmin_mem l (cnt y) with h | ⟨x, hx, h⟩
    · exact ⟨y, List.mem_cons_self .., h⟩
    · exact ⟨x, List.mem_cons_of_mem _ hx, h⟩
theorem cmax_mem {o : List (List Int)} (h : o ≠ []) : ∃ x ∈ o, cmax o = cnt x := by
  cases o with
  | nil => exact absurd rfl h
  | cons y l =>
    rcases foldmax_mem l (cnt y) with h | ⟨x, hx, h⟩
    · exact ⟨y, List.mem_cons_self .., h⟩
    · exact ⟨x, List.mem_cons_of_mem _ hx, h⟩
theorem cmin_snoc {o : List (List Int)} (h : o ≠ []) (y : List Int) : cmin (o ++ [y]) = if cnt y < cmin o then cnt y else cmin o := by
  cases o with
  | nil => exact absurd rfl h
  | cons x l => show (l ++ [y]).foldl _ (cnt x) = _; rw [List.foldl_append]; rfl
theorem cmax_snoc {o : List (List Int)} (h : o ≠ []) (y : List Int) : cmax (o ++ [y]) = if cnt y > cmax o then cnt y else cmax o := by
  cases o with
  | nil => exact absurd rfl h
  | cons x l => show (l ++ [y]).foldl _ (cnt x) = _; rw [List.foldl_append]; rfl
theorem con_cnt {x : List Int} (h : conB x = true) : 0 ≤ cnt x ∧ cnt x ≤ 65535 := by
  unfold conB contentG withinG at h
  simp only [Bool.and_eq_true, decide_eq_true_eq] at h
  exact h.1.1
theorem chB_snoc (ch : Int) (N : List (List Int)) (y : List Int) : chB ch (N ++ [y]) = bif y.getD 1 0 == ch then chB ch N ++ [y] else chB ch N := by
  unfold chB
  rw [List.filter_append, List.filter_cons]
  cases y.getD 1 0 == ch <;> simp

theorem rokrcv_0 : RangeOK Ercv 134 kdSq (rangePs (lb Try.f111 0)) (rangeAssign (lb Try.f111 0)) (rangeBody (lb Try.f111 0)) [3, 4, 6] rcGL := by
  refine ⟨okkd, fun x rest vs σ k h => ?_, fun vs σ k h => ?_⟩
  · unfold rcGL at h
    split at h
    rotate_right
    · exact h.elim
    rename_i ch z w a b M
    obtain ⟨N, l, h1, ⟨rfl, rfl, b1, b2, b3⟩, rfl, rfl, rfl, h⟩ := h
    obtain ⟨y, l', rfl, rfl, rfl⟩ := kdI_cons h1
    rw [List.all_cons, Bool.and_eq_true] at b1 b3
    simp only [List.length_cons] at b2
    unfold it2
    rw [exrcvr _ _ _ _ _ _ _ _ _ _ _ _ _ _ _ _ _ _ _]
    have same : chB ch (nxG N y) = chB ch N → rcGL (kdI (nxG N y) l') [.one (.ptr 0 1 0 0), .one (.ptr 1 1 0 0), .one (.ptr 2 1 0 0)] [.cells [.int .i64 ch], .cells [.any, .int .i64 0, .int .i64 0], .cells [.mapv 3, .int .i64 (cmin (chB ch N)), .int .i64 (cmax (chB ch N))], .map 0 8 (mapE (chB ch N))] k := by
      intro e
      refine ⟨nxG N y, l', rfl, ⟨rfl, rfl, b1.2, ?_, b3.2⟩, by rw [e], by rw [e], by rw [e], h⟩
      unfold nxG
      cases kdG N y == 0 <;> simp <;> omega
    have hq : (kdG N y != 0) = !(kdG N y == 0) := rfl
    rw [hq]
    cases hk : kdG N y == 0 with
    | false =>
      rw [Bool.not_false, cond_true]
      exact same (by unfold nxG; rw [hk, cond_false])
    | true =>
      rw [Bool.not_true, cond_false]
      have en : nxG N y = N ++ [y] := by unfold nxG; rw [hk, cond_true]
      have hc : (y.getD 1 0 != ch) = !(y.getD 1 0 == ch) := rfl
      rw [hc]
      cases hch : y.getD 1 0 == ch with
      | false =>
        rw [Bool.not_false, cond_true]
        exact same (by rw [en, chB_snoc, hch, cond_false])
      | true =>
        rw [Bool.not_true, cond_false]
        have hch' := beq_iff_eq.1 hch
        subst hch'
        obtain ⟨f1, f2⟩ := kd_none (beq_iff_eq.1 hk)
        have hne := chB_new f1
        have eo : chB (y.getD 1 0) (nxG N y) = chB (y.getD 1 0) N ++ [y] := by rw [en, chB_snoc, beq_self_eq_true, cond_true]
        have em : aset (mapE (chB (y.getD 1 0) N)) [y.getD 0 0] [y.getD 2 0, y.getD 3 0, y.getD 4 0, y.getD 5 0, y.getD 6 0, y.getD 7 0, y.getD 8 0, y.getD 9 0] = mapE (chB (y.getD 1 0) (nxG N y)) := by
          rw [eo, aset_mapE (c := y.getD 0 0) hne]
          unfold mapE
          rw [List.map_append]; rfl
        rw [em]
        have hlen : (mapE (chB (y.getD 1 0) N)).length = (chB (y.getD 1 0) N).length := by simp [mapE]
        rw [hlen]
        have hbd : (nxG N y).length + l'.length ≤ 1000 := by rw [en]; simp; omega
        cases ho : chB (y.getD 1 0) N with
        | nil =>
          rw [ho, List.nil_append] at eo
          simp only [List.length_nil, Int.natCast_zero, beq_self_eq_true, cond_true, ite_self]
          exact ⟨nxG N y, l', rfl, ⟨rfl, rfl, b1.2, hbd, b3.2⟩, rfl, by rw [eo]; rfl, by rw [eo]; rfl, h⟩
        | cons x o =>
          have e0 : ((((x :: o).length : Nat) : Int) == 0) = false := by simp; omega
          rw [e0, cond_false, ← ho]
          refine ⟨nxG N y, l', rfl, ⟨rfl, rfl, b1.2, hbd, b3.2⟩, rfl, ?_, ?_, h⟩
          · rw [eo, cmin_snoc (by rw [ho]; simp)]; rfl
          · rw [eo, cmax_snoc (by rw [ho]; simp)]; rfl
  · unfold rcGL at h
    split at h
    rotate_right
    · exact h.elim
    rename_i ch z w a b M
    obtain ⟨N, l, h1, ⟨rfl, rfl, b1, b2, b3⟩, rfl, rfl, rfl, h⟩ := h
    have := kdI_nil h1.symm
    subst this
    exact h
theorem rcE_zero {l : List (List Int)} {ch : Int} (h1 : okBs l) (h : rcE l ch = 0) : bsE l = 0 ∧ l.all conB = true ∧ withinG ch 0 3 = true ∧ ownB l ch ≠ [] ∧ cmax (ownB l ch) - cmin (ownB l ch) < 60 ∧ okSt (ownB l ch) (cmin (ownB l ch)) (cmax (ownB l ch)) (cmin (ownB l ch)) (mapE (ownB l ch)) := by
  unfold rcE at h
  cases hb : bsE l == 0 with
  | false =>
    rw [hb, cond_false] at h
    rw [h] at hb
    cases hb
  | true =>
    rw [hb, cond_true] at h
    have hall : l.all conB = true := by
      have := beq_iff_eq.1 hb
      unfold bsE at this
      cases hd : decide ((l.length : Int) ≤ 40) with
      | true =>
        rw [hd, cond_true] at this
        cases ha : l.all conB with
        | true => rfl
        | false => rw [ha] at this; cases this
      | false => rw [hd] at this; cases this
    cases hw : withinG ch 0 3 with
    | false => rw [hw] at h; cases h
    | true =>
      rw [hw, cond_true] at h
      unfold spanE at h
      cases ho : (ownB l ch).isEmpty with
      | true => rw [ho] at h; cases h
      | false =>
        rw [ho, cond_false] at h
        have hne : ownB l ch ≠ [] := by intro e; rw [e] at ho; cases ho
        cases hd : decide (cmax (ownB l ch) - cmin (ownB l ch) < 60) with
        | false => rw [hd] at h; cases h
        | true =>
          have hd' := of_decide_eq_true hd
          obtain ⟨x, hx, ex⟩ := cmin_mem hne
          obtain ⟨y, hy, ey⟩ := cmax_mem hne
          have hcx := con_cnt (List.all_eq_true.1 hall x (ownB_mem hx).1)
          have hcy := con_cnt (List.all_eq_true.1 hall y (ownB_mem hy).1)
          have hle := cmin_le hy
          refine ⟨beq_iff_eq.1 hb, hall, rfl, hne, hd', rfl, List.all_eq_true.2 fun z hz => List.all_eq_true.1 h1.2 z (ownB_mem hz).1, by omega, by omega, by omega, hd', Int.le_refl _, by omega⟩
theorem okrcv : SpecOK Try.prog 111 recvS := by
  refine specOK (n := 77) (m := 0) (lps := [(1000006, .range 134 kdSq [3, 4, 6] rcGL)]) (.cons okbse (.cons ok93 (.cons ok69 (.cons okknd (.cons ok70 .nil))))) Try.func111 (by kernel_rfl) (by kernel_rfl) (theLoops (n := 1) (by kernel_rfl) fun i hi => ?_) fun args σ K h => ?_
  · match i, hi with
    | 0, _ => exact loopHyp_range (key := 1000006) (by kernel_rfl) (by kernel_rfl) rfl rokrcv_0
  unfold recvS at h
  split at h
  rotate_right
  · exact h.elim
  rename_i l ch
  rw [exrcv l ch K]
  obtain ⟨h1, h⟩ := h
  have hf : firstE [bsE l, bif withinG ch 0 3 then 0 else 2] = bif bsE l == 0 then (bif withinG ch 0 3 then 0 else 2) else bsE l := by
    simp only [firstE]
    cases hb : bsE l == 0 <;> cases hw : withinG ch 0 3 <;> simp [bne, hb]
  refine And.intro h1 (And.intro (by simp) ?_)
  rw [hf]
  unfold rcE at h
  cases hb : bsE l == 0 with
  | false =>
    rw [hb, cond_false] at h
    rw [cond_false, bne, hb, Bool.not_false, cond_true]
    rw [hb, cond_false] at h
    exact h 0 0 []
  | true =>
    rw [hb, cond_true] at h
    rw [cond_true]
    cases hw : withinG ch 0 3 with
    | false =>
      rw [hw, cond_false] at h
      exact h 0 0 []
    | true =>
      rw [hw, cond_true] at h
      have hall : l.all conB = true := by
        have := beq_iff_eq.1 hb
        unfold bsE at this
        cases hd : decide ((l.length : Int) ≤ 40) with
        | true =>
          rw [hd, cond_true] at this
          cases ha : l.all conB with
          | true => rfl
          | false => rw [ha] at this; cases this
        | false => rw [hd] at this; cases this
      show cond (decide (l.length ≤ 1000) && (l.all len11 && l.all conB)) _ False
      rw [decide_eq_true h1.1, h1.2, hall]
      refine ⟨[], l, rfl, ⟨rfl, rfl, h1.2, by simp; exact h1.1, hall⟩, rfl, rfl, rfl, by simp, ?_⟩
      have eo : chB ch (newsF [] l) = ownB l ch := rfl
      rw [eo]
      have hlen : (mapE (ownB l ch)).length = (ownB l ch).length := by simp [mapE]
      rw [hlen]
      unfold spanE at h
      cases ho : ownB l ch with
      | nil =>
        rw [ho] at h
        exact h 0 0 []
      | cons x o =>
        have hne : ownB l ch ≠ [] := by rw [ho]; simp
        obtain ⟨x', hx, ex⟩ := cmin_mem hne
        obtain ⟨y, hy, ey⟩ := cmax_mem hne
        have hcx := con_cnt (List.all_eq_true.1 hall x' (ownB_mem hx).1)
        have hcy := con_cnt (List.all_eq_true.1 hall y (ownB_mem hy).1)
        rw [ho] at ex ey h
        have hw2 : IntKind.i64.wrap (cmax (x :: o) - cmin (x :: o)) = cmax (x :: o) - cmin (x :: o) := wrap_id (by omega) (by omega)
        rw [hw2]
        have hpos : decide ((((x :: o).length : Nat) : Int) > 0) = true := decide_eq_true (by simp only [List.length_cons]; omega)
        rw [hpos, cond_true]
        rw [List.isEmpty_cons, cond_false] at h
        cases hd : decide (cmax (x :: o) - cmin (x :: o) < 60) with
        | true => rw [hd] at h; exact h
        | false => rw [hd] at h; exact h _ _ _
theorem putS_one {a : Int} {S : List Int} (h : 1 ≤ S.length) (k : List SV → List Blk → Prop) : putS a (S, []) k = k [.int .i64 a, .own 3 1, .nil] [.row 3 (.ints .i64 S)] := by
  cases S with
  | nil => simp at h
  | cons x S => rfl
theorem putS_two {a : Int} {S : List Int} {G : List (List Int)} (h : 1 ≤ S.length) (hG : 1 ≤ G.length) (k : List SV → List Blk → Prop) : putS a (S, G) k = k [.int .i64 a, .own 3 1, .own 4 2] [.row 3 (.ints .i64 S), .row 99 (.mat .i64 2 G)] := by
  cases S with
  | nil => simp at h
  | cons x S =>
    cases G with
    | nil => simp at hG
    | cons g G => rfl
theorem okSt_next {o : List (List Int)} {a b c : Int} {M : List (List Int × List Int)} (h : okSt o a b c M) (hc : c ≤ b) : okSt o a b (c + 1) M ∧ IntKind.i64.wrap (c + 1) = c + 1 ∧ (b - c + 1).toNat = (b - (c + 1) + 1).toNat + 1 ∧ (b + 1 - (c + 1)).toNat < (b + 1 - c).toNat := by
  obtain ⟨h1, h2, h3, h4, h5, h6, h7, h8⟩ := h
  exact ⟨⟨h1, h2, h3, h4, h5, h6, by omega, by omega⟩, wrap_id (by omega) (by omega), by omega, by omega⟩
theorem gapG_len {G : List (List Int)} (at_ : Int) (h : G.all len2 = true) : (gapG G at_).all len2 = true ∧ 1 ≤ (gapG G at_).length ∧ (gapG G at_).length ≤ G.length + 1 := by
  unfold gapG
  cases hc : decide (1 ≤ G.length) && ((G.getD (G.length - 1) []).getD 1 0 == at_ - 1) with
  | true =>
    rw [cond_true]
    simp only [Bool.and_eq_true, decide_eq_true_eq] at hc
    refine ⟨List.all_eq_true.2 fun x hx => ?_, by rw [List.length_set]; omega, by rw [List.length_set]; omega⟩
    rcases List.mem_or_eq_of_mem_set hx with hx | rfl
    · exact List.all_eq_true.1 h x hx
    · have hl : G.length - 1 < G.length := by omega
      have := List.all_eq_true.1 h _ (List.getElem_mem hl)
      rw [List.getD_eq_getElem?_getD, List.getElem?_eq_getElem hl]
      unfold len2 at this ⊢
      simpa using this
  | false =>
    rw [cond_false]
    refine ⟨?_, by simp, by simp⟩
    rw [List.all_append, h]; rfl
theorem lokstr_0 : LoopOK EstrF3 (lb Try.f54 0) [6, 8, 9] [] strL := by
  refine loopOK (.cons okrcv .nil) (noInner (by kernel_rfl)) (fun vs σ => match vs, σ with
    | [.one (.ptr 0 1 0 0), .one (.ptr 2 1 0 0), .one (.int .i64 c)], [.cells [.mapv 1, .int .i64 _, .int .i64 b], .map 0 8 _, .cells [.int .i64 _, .nil, .nil]] => (b + 1 - c).toNat
    | [.one (.ptr 0 1 0 0), .one (.ptr 2 1 0 0), .one (.int .i64 c)], [.cells [.mapv 1, .int .i64 _, .int .i64 b], .map 0 8 _, .cells [.int .i64 _, .own 3 1, .nil], .row 3 (.ints .i64 _)] => (b + 1 - c).toNat
    | [.one (.ptr 0 1 0 0), .one (.ptr 2 1 0 0), .one (.int .i64 c)], [.cells [.mapv 1, .int .i64 _, .int .i64 b], .map 0 8 _, .cells [.int .i64 _, .own 3 1, .own 4 2], .row 3 (.ints .i64 _), .row 99 (.mat .i64 2 _)] => (b + 1 - c).toNat
    | _, _ => 0) fun vs σ k h => ?_
  unfold strL at h
  split at h
  rotate_right
  · exact h.elim
  · rename_i c a b M f
    rw [exstrl0a c a b M f _]
    obtain ⟨o, ⟨hok, rfl⟩, h⟩ := h
    obtain ⟨h1, h2, h3⟩ := id hok
    subst h1
    rw [decide_eq_true (by omega), cond_true, ahas_mapE, smp8]
    obtain ⟨n1, n2, n3, n4⟩ := okSt_next hok (by omega)
    rw [n2]
    rw [n3, strG, List.nil_append] at h
    have hT := smp_len o c
    cases hs : (lkO o c).isSome with
    | true =>
      rw [hs, cond_true] at h
      exact ⟨⟨o, ⟨n1, by omega, by rw [hT]; omega⟩, h⟩, n4⟩
    | false =>
      rw [hs, cond_false] at h
      rw [cond_false, hT]
      exact ⟨⟨o, ⟨n1, by omega, by rw [hT]; omega, rfl, by simp, by simp; omega⟩, h⟩, n4⟩
  · rename_i c a b M f S
    rw [exstrl0b c a b M f S _]
    obtain ⟨o, ⟨hok, ha, hS⟩, h⟩ := h
    obtain ⟨h1, h2, h3, h4, h5, h6, h7, h8⟩ := id hok
    subst h1
    by_cases hc : c ≤ b
    · rw [decide_eq_true hc, cond_true, ahas_mapE, smp8]
      obtain ⟨n1, n2, n3, n4⟩ := okSt_next hok hc
      rw [n2]
      rw [n3, strG] at h
      have hT := smp_len o c
      have hl : (S ++ (lkO o c).getD zer8).length = S.length + 8 := by rw [List.length_append, hT]
      rw [hl, decide_eq_true (by omega), cond_true]
      cases hs : (lkO o c).isSome with
      | true =>
        rw [hs, cond_true] at h
        exact ⟨⟨o, ⟨n1, by omega, by rw [hl]; omega⟩, h⟩, n4⟩
      | false =>
        rw [hs, cond_false] at h
        rw [cond_false]
        have hw : IntKind.i64.wrap (((S.length + 8 : Nat) : Int) - 1) = S.length + 7 := by rw [wrap_id (by omega) (by omega)]; omega
        rw [hw]
        exact ⟨⟨o, ⟨n1, by omega, by rw [hl]; omega, rfl, by simp, by simp; omega⟩, h⟩, n4⟩
    · rw [decide_eq_false hc, cond_false]
      have : (b - c + 1).toNat = 0 := by omega
      rw [this, strG, putS_one (by omega)] at h
      exact h
  · rename_i c a b M f S G
    rw [exstrl0c c a b M f S G _]
    obtain ⟨o, ⟨hok, ha, hS, hG1, hG2, hG3⟩, h⟩ := h
    obtain ⟨h1, h2, h3, h4, h5, h6, h7, h8⟩ := id hok
    subst h1
    by_cases hc : c ≤ b
    · unfold exstrl0c_x0
      rw [decide_eq_true hc, cond_true, ahas_mapE, smp8]
      obtain ⟨n1, n2, n3, n4⟩ := okSt_next hok hc
      rw [n2]
      rw [n3, strG] at h
      have hT := smp_len o c
      have hl : (S ++ (lkO o c).getD zer8).length = S.length + 8 := by rw [List.length_append, hT]
      rw [hl, decide_eq_true (by omega), cond_true]
      cases hs : (lkO o c).isSome with
      | true =>
        rw [hs, cond_true] at h
        exact ⟨⟨o, ⟨n1, by omega, by rw [hl]; omega, hG1, hG2, by omega⟩, h⟩, n4⟩
      | false =>
        rw [hs, cond_false] at h
        rw [cond_false]
        obtain ⟨g1, g2, g3⟩ := gapG_len (S.length : Int) hG1
        have hw : IntKind.i64.wrap (((S.length + 8 : Nat) : Int) - 1) = S.length + 7 := by rw [wrap_id (by omega) (by omega)]; omega
        have hw2 : IntKind.i64.wrap ((G.length : Int) - 1) = ((G.length - 1 : Nat) : Int) := by rw [wrap_id (by omega) (by omega)]; omega
        have hw3 : IntKind.i64.wrap ((S.length : Int) - 1) = S.length - 1 := wrap_id (by omega) (by omega)
        have hGl : G.length - 1 < G.length := by omega
        have hr : (G.getD (G.length - 1) []).length = 2 := by
          have := List.all_eq_true.1 hG1 _ (List.getElem_mem hGl)
          rw [List.getD_eq_getElem?_getD, List.getElem?_eq_getElem hGl]
          unfold len2 at this
          simpa using this
        rw [hw, hw2, hw3]
        have d1 : decide (((G.length - 1 : Nat) : Int) ≥ 0) = true := decide_eq_true (by omega)
        have d2 : decide (0 ≤ ((G.length - 1 : Nat) : Int)) = true := decide_eq_true (by omega)
        have d3 : decide (((G.length - 1 : Nat) : Int) < (G.length : Int)) = true := decide_eq_true (by omega)
        have d4 : decide (G.length - 1 < G.length) = true := decide_eq_true hGl
        simp only [Int.toNat_natCast, d1, d2, d3, d4, hr, show decide (1 < 2) = true by decide, show decide (2 = 2) = true by decide, Bool.and_self, cond_true]
        have hgap : gapG G (S.length : Int) = bif (G.getD (G.length - 1) []).getD 1 0 == (S.length : Int) - 1 then G.set (G.length - 1) ((G.getD (G.length - 1) []).set 1 (S.length + 7)) else G ++ [[(S.length : Int), S.length + 7]] := by
          unfold gapG
          rw [decide_eq_true (show 1 ≤ G.length by omega), Bool.true_and]
        cases hg : (G.getD (G.length - 1) []).getD 1 0 == (S.length : Int) - 1 with
        | true =>
          rw [hg, cond_true] at hgap
          rw [cond_true, ← hgap]
          exact ⟨⟨o, ⟨n1, by omega, by rw [hl]; omega, g1, g2, by omega⟩, h⟩, n4⟩
        | false =>
          rw [hg, cond_false] at hgap
          rw [cond_false, ← hgap, decide_eq_true (by omega), cond_true]
          exact ⟨⟨o, ⟨n1, by omega, by rw [hl]; omega, g1, g2, by omega⟩, h⟩, n4⟩
    · rw [decide_eq_false hc, cond_false]
      have : (b - c + 1).toNat = 0 := by omega
      rw [this, strG, putS_two (by omega) hG2] at h
      exact h
theorem strG_len (lk : Int → Option (List Int)) (hlk : ∀ c, ((lk c).getD zer8).length = 8) : ∀ (n : Nat) (c : Int) (p : List Int × List (List Int)), (strG lk n c p).1.length = p.1.length + 8 * n
  | 0, _, _ => rfl
  | n + 1, c, p => by rw [strG, strG_len lk hlk n, List.length_append, hlk]; omega
theorem okstr : SpecOK Try.prog 54 strS := by
  refine specOK (n := 89) (m := 0) (lps := [(6, .frm 3 [6, 8, 9] [] strL)]) (.cons okrcv .nil) Try.func54 (by kernel_rfl) (by kernel_rfl) (theLoops (n := 1) (by kernel_rfl) fun i hi => ?_) fun args σ K h => ?_
  · match i, hi with
    | 0, _ => exact loopHyp_frm (E' := EstrF3) (key := 6) (m := 3) (by kernel_rfl) rfl rfl lokstr_0
  unfold strS at h
  split at h
  rotate_right
  · exact h.elim
  rename_i l ch
  rw [exstr l ch K]
  obtain ⟨h1, h⟩ := h
  refine And.intro h1 ?_
  cases h0 : rcE l ch == 0 with
  | false =>
    rw [h0, cond_false] at h
    rw [cond_false]
    intro a b M
    rw [bne, h0, Bool.not_false, cond_true]
    exact h
  | true =>
    rw [h0, cond_true] at h
    rw [cond_true]
    obtain ⟨_, _, _, _, hsp, hok⟩ := rcE_zero h1 (beq_iff_eq.1 h0)
    refine ⟨ownB l ch, ⟨hok, rfl⟩, ?_⟩
    have hlen := strG_len (lkO (ownB l ch)) (smp_len (ownB l ch)) (cmax (ownB l ch) - cmin (ownB l ch) + 1).toNat (cmin (ownB l ch)) ([], [])
    obtain ⟨_, _, o3, o4, o5, o6, o7, o8⟩ := hok
    have hne : (strG (lkO (ownB l ch)) (cmax (ownB l ch) - cmin (ownB l ch) + 1).toNat (cmin (ownB l ch)) ([], [])).1.isEmpty = false := by
      cases hh : (strG (lkO (ownB l ch)) (cmax (ownB l ch) - cmin (ownB l ch) + 1).toNat (cmin (ownB l ch)) ([], [])).1 with
      | nil => rw [hh] at hlen; simp at hlen; omega
      | cons _ _ => rfl
    rw [hne, cond_false]
    exact h
theorem okstrD : SpecOK Try.prog 54 strDS := by
  refine okstr.froze fun args σ K h => ?_
  unfold strDS at h
  split at h
  rotate_right
  · exact h.elim
  rename_i l ch
  obtain ⟨h1, h⟩ := h
  refine ⟨rfl, h1, ?_⟩
  unfold stA stS stP at h
  cases h0 : rcE l ch == 0 with
  | false =>
    rw [h0] at h
    exact ⟨.tup [.agg [.int .i64 0, .data (.ints .i64 []), .data (.mat .i64 2 [])], .one (.int .i64 (rcE l ch))], ⟨⟨rfl, .inr ⟨.ints .i64 [], rfl, rfl⟩, .inr ⟨.mat .i64 2 [], rfl, rfl⟩, trivial⟩, rfl, trivial⟩, h⟩
  | true =>
    rw [h0] at h
    rw [cond_true]
    have e0 := beq_iff_eq.1 h0
    rw [e0] at h
    cases hg : (strO (ownB l ch)).2 with
    | nil =>
      rw [hg] at h
      exact ⟨.tup [.agg [.int .i64 (cmin (ownB l ch)), .data (.ints .i64 (strO (ownB l ch)).1), .data (.mat .i64 2 [])], .one (.int .i64 0)], ⟨⟨rfl, ⟨_, _, rfl, rfl, rfl⟩, .inr ⟨.mat .i64 2 [], rfl, rfl⟩, trivial⟩, rfl, trivial⟩, h⟩
    | cons g G =>
      rw [hg] at h
      exact ⟨.tup [.agg [.int .i64 (cmin (ownB l ch)), .data (.ints .i64 (strO (ownB l ch)).1), .data (.mat .i64 2 (g :: G))], .one (.int .i64 0)], ⟨⟨rfl, ⟨_, _, rfl, rfl, rfl⟩, ⟨_, _, rfl, rfl, rfl⟩, trivial⟩, rfl, trivial⟩, h⟩
theorem lokmis_0 : LoopOK EmisF2 (lb Try.f55 0) [6, 8, 9] [8] misL := by
  refine loopOK (.cons okrcv .nil) (noInner (by kernel_rfl)) (fun vs σ => match vs, σ with
    | [.one (.ptr 0 1 0 0), .one .nil, .one (.int .i64 c)], [.cells [.mapv 1, .int .i64 _, .int .i64 b], .map 0 8 _] => (b + 1 - c).toNat
    | [.one (.ptr 0 1 0 0), .one (.own 2 1), .one (.int .i64 c)], [.cells [.mapv 1, .int .i64 _, .int .i64 b], .map 0 8 _, .row 3 (.ints .i64 _)] => (b + 1 - c).toNat
    | _, _ => 0) fun vs σ k h => ?_
  unfold misL at h
  split at h
  rotate_right
  · exact h.elim
  · rename_i c a b M
    rw [exmisl0a c a b M _]
    obtain ⟨o, hok, h⟩ := h
    obtain ⟨h1, h2, h3, h4, h5, h6, h7, h8⟩ := id hok
    subst h1
    by_cases hc : c ≤ b
    · rw [decide_eq_true hc, cond_true, ahas_mapE]
      obtain ⟨n1, n2, n3, n4⟩ := okSt_next hok hc
      rw [n2]
      rw [n3, misG] at h
      cases hs : (lkO o c).isSome with
      | true =>
        rw [hs, cond_true] at h
        exact ⟨⟨o, n1, h⟩, n4⟩
      | false =>
        rw [hs, cond_false, List.isEmpty_cons, cond_false] at h
        exact ⟨⟨o, ⟨n1, by simp, by simp; omega⟩, h⟩, n4⟩
    · rw [decide_eq_false hc, cond_false]
      have : (b - c + 1).toNat = 0 := by omega
      rw [this, misG] at h
      exact h
  · rename_i c a b M S
    rw [exmisl0b c a b M S _]
    obtain ⟨o, ⟨hok, hS1, hS2⟩, h⟩ := h
    obtain ⟨h1, h2, h3, h4, h5, h6, h7, h8⟩ := id hok
    subst h1
    by_cases hc : c ≤ b
    · rw [decide_eq_true hc, cond_true, ahas_mapE]
      obtain ⟨n1, n2, n3, n4⟩ := okSt_next hok hc
      rw [n2]
      rw [n3, misG] at h
      cases hs : (lkO o c).isSome with
      | true =>
        rw [hs, cond_true] at h
        exact ⟨⟨o, ⟨n1, hS1, by omega⟩, h⟩, n4⟩
      | false =>
        rw [hs, cond_false] at h
        have hl : (S ++ [c]).length = S.length + 1 := by simp
        rw [Bool.not_false, cond_true, hl, decide_eq_true (by omega), cond_true]
        refine ⟨⟨o, ⟨n1, by rw [hl]; omega, by rw [hl]; omega⟩, ?_⟩, n4⟩
        rw [List.append_assoc]
        exact h
    · rw [decide_eq_false hc, cond_false]
      have : (b - c + 1).toNat = 0 := by omega
      rw [this, misG, List.append_nil] at h
      exact h
theorem okmis : SpecOK Try.prog 55 misS := by
  refine specOK (n := 43) (m := 0) (lps := [(6, .frm 2 [6, 8, 9] [8] misL)]) (.cons okrcv .nil) Try.func55 (by kernel_rfl) (by kernel_rfl) (theLoops (n := 1) (by kernel_rfl) fun i hi => ?_) fun args σ K h => ?_
  · match i, hi with
    | 0, _ => exact loopHyp_frm (E' := EmisF2) (key := 6) (m := 2) (by kernel_rfl) rfl rfl lokmis_0
  unfold misS at h
  split at h
  rotate_right
  · exact h.elim
  rename_i l ch
  rw [exmis l ch K]
  obtain ⟨h1, h⟩ := h
  refine And.intro h1 ?_
  cases h0 : rcE l ch == 0 with
  | false =>
    rw [h0, cond_false] at h
    rw [cond_false]
    intro a b M
    rw [bne, h0, Bool.not_false, cond_true]
    exact h
  | true =>
    rw [h0, cond_true] at h
    rw [cond_true]
    obtain ⟨_, _, _, _, hsp, hok⟩ := rcE_zero h1 (beq_iff_eq.1 h0)
    exact ⟨ownB l ch, hok, h⟩
theorem okmisD : SpecOK Try.prog 55 misDS := by
  refine okmis.froze fun args σ K h => ?_
  unfold misDS at h
  split at h
  rotate_right
  · exact h.elim
  rename_i l ch
  obtain ⟨h1, h⟩ := h
  refine ⟨rfl, h1, ?_⟩
  unfold msM at h
  cases h0 : rcE l ch == 0 with
  | false =>
    rw [h0] at h
    exact ⟨.tup [.one (.data (.ints .i64 [])), .one (.int .i64 (rcE l ch))], ⟨.inr ⟨.ints .i64 [], rfl, rfl⟩, rfl, trivial⟩, h⟩
  | true =>
    rw [h0] at h
    rw [cond_true]
    have e0 := beq_iff_eq.1 h0
    rw [e0] at h
    cases hg : misO (ownB l ch) with
    | nil =>
      rw [hg] at h
      exact ⟨.tup [.one (.data (.ints .i64 [])), .one (.int .i64 0)], ⟨.inr ⟨.ints .i64 [], rfl, rfl⟩, rfl, trivial⟩, h⟩
    | cons g G =>
      rw [hg] at h
      exact ⟨.tup [.one (.data (.ints .i64 (g :: G))), .one (.int .i64 0)], ⟨⟨_, _, rfl, rfl, rfl⟩, rfl, trivial⟩, h⟩
end Go.Ev
