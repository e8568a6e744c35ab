/-
  Chapter 1, contracts: the blocks of a signal.
-/
import Derived.Test.YtlejemnljojpgaaC1R
import Derived.KernelRfl
set_option linter.unusedVariables false
set_option linter.unusedSimpArgs false
namespace Go.Ev
open Go Go.Proofs
set_option maxRecDepth 20000

def chunkC (l : List Int) : Nat → List (List Int)
  | 0 => []
  | c + 1 => l.take 8 :: chunkC (l.drop 8) c
def countN (l : List Int) : Nat := (l.length + 7) / 8
def item1 (c : List Int) : List AV := [.one (.data (.ints .i64 c))]
def chunkI (l : List Int) : List (List AV) := (chunkC l (countN l)).map item1
def chunkSq : SeqSpec := fun caps lent => match caps, lent with
  | [.one (.ptr 1 1 0 0), .one (.ptr 2 1 0 0)], [.cells [.data (.ints .i64 l)], .cells [.int .i64 n]] => some (decide (n = 8) && decide (l.length ≤ 1000000), chunkI l)
  | _, _ => none
def chunkL : LSpec := fun vs σ k => match vs, σ with
  | [.one (.yld 0), .one (.ptr 1 1 0 0), .one (.ptr 2 1 0 0), .one (.int .i64 i)], [.ghost P J D (some L), .cells [.data (.ints .i64 l)], .cells [.int .i64 n]] =>
    (P = Try.prog ∧ n = 8 ∧ l.length ≤ 1000000 ∧ 0 ≤ i ∧ i ≤ l.length + 8 ∧ L = chunkI (l.drop i.toNat)) ∧
    ∀ D', k (.exit 0) [] [.ghost P J D' (some []), .cells [.data (.ints .i64 l)], .cells [.int .i64 n]] ∧ k .ret [] [.ghost P J D' none, .cells [.data (.ints .i64 l)], .cells [.int .i64 n]]
  | _, _ => False
def chunkS : Spec := fun args σ K => match args, σ with
  | [.one (.data (.ints .i64 l)), .one (.int .i64 n)], [] => n = 8 ∧ K (.one (.func 128 [0, 1])) [.cells [.data (.ints .i64 l)], .cells [.int .i64 n]]
  | _, _ => False
def floorS : Spec := fun args σ K => match args, σ with
  | [.one (.int .i64 n), .one (.int .i64 b)], [] => (b = 8 ∧ -1000000000 ≤ n ∧ n ≤ 1000000000) ∧ K (.one (.int .i64 (n / 8))) []
  | _, _ => False
def ceilS : Spec := fun args σ K => match args, σ with
  | [.one (.int .i64 n), .one (.int .i64 b)], [] => (b = 8 ∧ 0 ≤ n ∧ n ≤ 1000000000) ∧ K (.one (.int .i64 ((n + 7) / 8))) []
  | _, _ => False
def countS : Spec := fun args σ K => match args, σ with
  | [.one (.data (.ints .i64 l))], [] => l.length ≤ 1000000000 ∧ K (.one (.int .i64 ((countN l : Nat) : Int))) []
  | _, _ => False
/-- Eight samples, noughts behind the last one. -/
def pad8 (p : List Int) : List Int := [p.getD 0 0, p.getD 1 0, p.getD 2 0, p.getD 3 0, p.getD 4 0, p.getD 5 0, p.getD 6 0, p.getD 7 0]
def blkRow (c ch : Int) (p : List Int) : List Int := [c, ch, p.getD 0 0, p.getD 1 0, p.getD 2 0, p.getD 3 0, p.getD 4 0, p.getD 5 0, p.getD 6 0, p.getD 7 0, sumG c ch (pad8 p)]
def blkRows (ch : Int) : Int → List (List Int) → List (List Int)
  | _, [] => []
  | c, p :: l => blkRow c ch p :: blkRows ch (c + 1) l
def okCut (ch c : Int) (n : Nat) (cs : List (List Int)) : Prop := (0 ≤ ch ∧ ch ≤ 3) ∧ (0 ≤ c ∧ c + n + cs.length ≤ 65536) ∧ ∀ p ∈ cs, p.all sampleG = true ∧ p.length ≤ 8
def cutGL : List (List AV) → LSpec := fun items vs σ k => match vs, σ with
  | [.one (.ptr 0 1 0 0), .one (.ptr 1 1 0 0)], [.cells [.int .i64 ch, .int .i64 c], .cells [.nil]] =>
    ∃ cs, items = cs.map item1 ∧ okCut ch c 0 cs ∧ cs.length ≤ 1000 ∧ (bif cs.isEmpty then k .normal [.one (.ptr 0 1 0 0), .one (.ptr 1 1 0 0)] [.cells [.int .i64 ch, .int .i64 c], .cells [.nil]]
      else k .normal [.one (.ptr 0 1 0 0), .one (.ptr 1 1 0 0)] [.cells [.int .i64 ch, .int .i64 c], .cells [.own 2 11], .row 37 (.mat .i64 11 (blkRows ch c cs))])
  | [.one (.ptr 0 1 0 0), .one (.ptr 1 1 0 0)], [.cells [.int .i64 ch, .int .i64 c], .cells [.own 2 11], .row 37 (.mat .i64 11 rows)] =>
    ∃ cs, items = cs.map item1 ∧ okCut ch c rows.length cs ∧ rows.length + cs.length ≤ 1000 ∧
      k .normal [.one (.ptr 0 1 0 0), .one (.ptr 1 1 0 0)] [.cells [.int .i64 ch, .int .i64 c], .cells [.own 2 11], .row 37 (.mat .i64 11 (rows ++ blkRows ch (c + rows.length) cs))]
  | _, _ => False
def cutE (x : List Int) (ch c : Int) : Int := bif decide ((countN x : Int) ≤ 40) then (bif x.all sampleG && (withinG ch 0 3 && (withinG c 0 65535 && decide (c + max 0 ((countN x : Int) - 1) ≤ 65535))) then 0 else 2) else 8
def cutRows (x : List Int) (ch c : Int) : List (List Int) := blkRows ch c (chunkC x (countN x))
def blocksOfS : Spec := fun args σ K => match args, σ with
  | [.one (.data (.ints .i64 x)), .agg [.int .i64 ch, .int .i64 c]], [] => x.length ≤ 1000000 ∧
    bif cutE x ch c == 0 then (bif x.isEmpty then K (.tup [.one .nil, .one (.int .i64 0)]) [] else K (.tup [.one (.own 0 11), .one (.int .i64 0)]) [.row 37 (.mat .i64 11 (cutRows x ch c))])
    else K (.tup [.one .nil, .one (.int .i64 (cutE x ch c))]) []
  | _, _ => False
def cutErrS : Spec := fun args σ K => match args, σ with
  | [.one (.data (.ints .i64 x)), .agg [.int .i64 ch, .int .i64 c]], [] => x.length ≤ 1000000 ∧ K (.one (.int .i64 (cutE x ch c))) []
  | _, _ => False
def len11 (xs : List Int) : Bool := xs.length == 11
def sameBlocksL : LSpec := fun vs σ k => match vs, σ with
  | [.one (.data (.mat .i64 11 a)), .one (.data (.mat .i64 11 b)), .one (.int .i64 i)], [] =>
    (a.length ≤ 1000000000 ∧ a.length = b.length ∧ 0 ≤ i ∧ a.all len11 = true ∧ b.all len11 = true) ∧ bif a.drop i.toNat == b.drop i.toNat then k (.exit 0) [.any] [] else k .ret [.one (.bool false)] []
  | _, _ => False
def sameBlocksS : Spec := fun args σ K => match args, σ with
  | [.one (.data (.mat .i64 11 a)), .one (.data (.mat .i64 11 b))], [] => (a.length ≤ 1000000000 ∧ a.all len11 = true ∧ b.all len11 = true) ∧ K (.one (.bool (a == b))) []
  | _, _ => False
def okCutR (x : List Int) (ch c i : Int) : Prop := x.length ≤ 320 ∧ x.all sampleG = true ∧ (0 ≤ ch ∧ ch ≤ 3) ∧ (0 ≤ c ∧ c + countN x ≤ 65536) ∧ 0 ≤ i ∧ i ≤ countN x
def refCutL : LSpec := fun vs σ k => match vs, σ with
  | [.one (.data (.ints .i64 x)), .one (.ptr 0 1 0 0), .one .nil, .one (.int .i64 i)], [.cells [.int .i64 ch, .int .i64 c]] =>
    (okCutR x ch c i ∧ i = 0) ∧ bif x.isEmpty then k (.exit 0) [.one .nil] [] else k (.exit 0) [.one (.own 0 11)] [.row 37 (.mat .i64 11 (cutRows x ch c))]
  | [.one (.data (.ints .i64 x)), .one (.ptr 0 1 0 0), .one (.own 1 11), .one (.int .i64 i)], [.cells [.int .i64 ch, .int .i64 c], .row 37 (.mat .i64 11 rows)] =>
    (okCutR x ch c i ∧ rows.length = i) ∧ k (.exit 0) [.one (.own 0 11)] [.row 37 (.mat .i64 11 (rows ++ blkRows ch (c + i) (chunkC (x.drop (8 * i.toNat)) (countN x - i.toNat))))]
  | _, _ => False
def refBlocksOfS : Spec := fun args σ K => match args, σ with
  | [.one (.data (.ints .i64 x)), .agg [.int .i64 ch, .int .i64 c]], [] => cutE x ch c = 0 ∧ bif x.isEmpty then K (.one .nil) [] else K (.one (.own 0 11)) [.row 37 (.mat .i64 11 (cutRows x ch c))]
  | _, _ => False
noncomputable abbrev E128 : Env := envOf Try.prog [] [(1, .spec [0, 1, 2, 4] [] chunkL)] 31 3
noncomputable abbrev E95 : Env := envOf Try.prog [] [] 9 0
noncomputable abbrev E140 : Env := envOf Try.prog [] [] 16 0
noncomputable abbrev E129 : Env := envOf Try.prog [(140, floorS)] [] 10 0
noncomputable abbrev E96 : Env := envOf Try.prog [(129, ceilS)] [] 6 0
noncomputable abbrev E34 : Env := envOf Try.prog [(70, unlessS), (91, eachS), (93, channelS), (69, firstS), (94, counterS), (95, chunkS), (79, sumS)] [(1000009, .range 128 chunkSq [3, 8] cutGL)] 69 0
noncomputable abbrev E36 : Env := envOf Try.prog [(96, countS), (81, areS), (80, channelS), (25, withinS)] [] 32 0
noncomputable abbrev E37 : Env := envOf Try.prog [] [(4, .spec [0, 1, 5] [4] sameBlocksL)] 26 0
noncomputable abbrev E38 : Env := envOf Try.prog [(96, countS), (24, sumS)] [(3, .spec [0, 3, 5, 6] [5] refCutL), (7, .unroll 9)] 53 0
noncomputable abbrev E7 : Env := envOf Try.prog [(15, trueS), (35, copyIntsS), (34, blocksOfS), (36, cutErrS), (38, refBlocksOfS), (37, sameBlocksS)] [] 42 0
end Go.Ev

namespace Go.Ev
open Go Go.Proofs
set_option maxRecDepth 100000
theorem ex128 (l : List Int) (n : Int) (P : Program) (J : GJ) (D : Nat → Prop) (L : List (List AV)) (K : AV → List Blk → Prop) : evFn E128 Try.f128 [.one (.yld 0), .one (.ptr 1 1 0 0), .one (.ptr 2 1 0 0)] [.ghost P J D (some L), .cells [.data (.ints .i64 l)], .cells [.int .i64 n]] K = (
 (P = Try.prog ∧
 n = (8 : Int) ∧
 l.length ≤ (1000000 : Nat) ∧ (0 : Int) ≤ (0 : Int) ∧ (0 : Int) ≤ (↑l.length : Int) + (8 : Int) ∧ L = chunkI l) ∧
 ∀ (D' : Nat → Prop),
 K (AV.tup [])
 [Blk.ghost P J D' (some []), Blk.cells [SV.data (Row.ints IntKind.i64 l)], Blk.cells [SV.int IntKind.i64 n]] ∧
 K (AV.tup [])
 [Blk.ghost P J D' none, Blk.cells [SV.data (Row.ints IntKind.i64 l)], Blk.cells [SV.int IntKind.i64 n]]) := by kernel_rfl
theorem ex128a (l : List Int) (n i : Int) (P : Program) (J : GJ) (D : Nat → Prop) (L : List (List AV)) (K : Ex → List AV → List Blk → Prop) : evBody E128 (lb Try.f128 0) [0, 1, 2, 4] [] [.one (.yld 0), .one (.ptr 1 1 0 0), .one (.ptr 2 1 0 0), .one (.int .i64 i)] [.ghost P J D (some L), .cells [.data (.ints .i64 l)], .cells [.int .i64 n]] K = (
 bif decide (i < (↑l.length : Int)) then
 bif decide ((0 : Int) ≤ i) && (decide (l.length ≤ l.length) && decide (i.toNat ≤ l.length)) then
 bif
 decide ((0 : Int) ≤ i) &&
 (decide
 ((0 : Int) ≤
 IntKind.i64.wrap
 (i +
 if (↑(List.take (l.length - i.toNat) (List.drop i.toNat l)).length : Int) < n then
 (↑(List.take (l.length - i.toNat) (List.drop i.toNat l)).length : Int)
 else n)) &&
 (decide
 ((0 : Int) ≤
 IntKind.i64.wrap
 (i +
 if (↑(List.take (l.length - i.toNat) (List.drop i.toNat l)).length : Int) < n then
 (↑(List.take (l.length - i.toNat) (List.drop i.toNat l)).length : Int)
 else n)) &&
 (decide
 ((IntKind.i64.wrap
 (i +
 if (↑(List.take (l.length - i.toNat) (List.drop i.toNat l)).length : Int) < n then
 (↑(List.take (l.length - i.toNat) (List.drop i.toNat l)).length : Int)
 else n)).toNat ≤
 (IntKind.i64.wrap
 (i +
 if (↑(List.take (l.length - i.toNat) (List.drop i.toNat l)).length : Int) < n then
 (↑(List.take (l.length - i.toNat) (List.drop i.toNat l)).length : Int)
 else n)).toNat) &&
 (decide
 ((IntKind.i64.wrap
 (i +
 if (↑(List.take (l.length - i.toNat) (List.drop i.toNat l)).length : Int) < n then
 (↑(List.take (l.length - i.toNat) (List.drop i.toNat l)).length : Int)
 else n)).toNat ≤
 l.length) &&
 decide
 (i.toNat ≤
 (IntKind.i64.wrap
 (i +
 if (↑(List.take (l.length - i.toNat) (List.drop i.toNat l)).length : Int) < n then
 (↑(List.take (l.length - i.toNat) (List.drop i.toNat l)).length : Int)
 else n)).toNat))))) then
 P = E128.P ∧
 (L =
 [AV.one
 (SV.data
 (Row.ints IntKind.i64
 (List.take
 ((IntKind.i64.wrap
 (i +
 if (↑(List.take (l.length - i.toNat) (List.drop i.toNat l)).length : Int) < n then
 (↑(List.take (l.length - i.toNat) (List.drop i.toNat l)).length : Int)
 else n)).toNat -
 i.toNat)
 (List.drop i.toNat l))))] ::
 match L with
 | [] => []
 | head :: tl0 => tl0) ∧
 ∀ (D' : Nat → Prop),
 K Ex.normal
 [AV.one (SV.yld (0 : Nat)), AV.one (SV.ptr (1 : Nat) (1 : Nat) (0 : Nat) (0 : Nat)),
 AV.one (SV.ptr (2 : Nat) (1 : Nat) (0 : Nat) (0 : Nat)),
 AV.one (SV.int IntKind.i64 (IntKind.i64.wrap (i + n)))]
 [Blk.ghost P J D'
 (some
 (match L with
 | [] => []
 | head :: tl0 => tl0)),
 Blk.cells [SV.data (Row.ints IntKind.i64 l)], Blk.cells [SV.int IntKind.i64 n]] ∧
 K Ex.ret []
 [Blk.ghost P J D' none, Blk.cells [SV.data (Row.ints IntKind.i64 l)], Blk.cells [SV.int IntKind.i64 n]]
 else False
 else False
 else
 K (Ex.exit (0 : Nat)) []
 [Blk.ghost P J D (some L), Blk.cells [SV.data (Row.ints IntKind.i64 l)], Blk.cells [SV.int IntKind.i64 n]]) := by kernel_rfl
theorem ex95 (l : List Int) (n : Int) (K : AV → List Blk → Prop) : evFn E95 Try.f95 [.one (.data (.ints .i64 l)), .one (.int .i64 n)] [] K = (
 bif decide (n < (1 : Int)) then False
 else
 K (AV.one (SV.func (128 : Nat) [(0 : Nat), (1 : Nat)]))
 [Blk.cells [SV.data (Row.ints IntKind.i64 l)], Blk.cells [SV.int IntKind.i64 n]]) := by kernel_rfl
theorem ex140 (n b : Int) (K : AV → List Blk → Prop) : evFn E140 Try.f140 [.one (.int .i64 n), .one (.int .i64 b)] [] K = (
 bif !decide (b = (0 : Int)) then
 bif !decide (b = (0 : Int)) then
 bif decide (n.tmod b < (0 : Int)) then
 K (AV.one (SV.int IntKind.i64 (IntKind.i64.wrap (IntKind.i64.wrap (n.tdiv b) - (1 : Int))))) []
 else K (AV.one (SV.int IntKind.i64 (IntKind.i64.wrap (n.tdiv b)))) []
 else False
 else False) := by kernel_rfl
theorem ex129 (n b : Int) (K : AV → List Blk → Prop) : evFn E129 Try.f129 [.one (.int .i64 n), .one (.int .i64 b)] [] K = (
 (b = (8 : Int) ∧
 (-1000000000 : Int) ≤ IntKind.i64.wrap ((0 : Int) - n) ∧ IntKind.i64.wrap ((0 : Int) - n) ≤ (1000000000 : Int)) ∧
 K (AV.one (SV.int IntKind.i64 (IntKind.i64.wrap ((0 : Int) - IntKind.i64.wrap ((0 : Int) - n) / (8 : Int))))) []) := by kernel_rfl
theorem ex96 (l : List Int) (K : AV → List Blk → Prop) : evFn E96 Try.f96 [.one (.data (.ints .i64 l))] [] K = (
 ((8 : Int) = (8 : Int) ∧ (0 : Int) ≤ (↑l.length : Int) ∧ (↑l.length : Int) ≤ (1000000000 : Int)) ∧
 K (AV.one (SV.int IntKind.i64 (((↑l.length : Int) + (7 : Int)) / (8 : Int)))) []) := by kernel_rfl
theorem ex34 (x : List Int) (ch c : Int) (K : AV → List Blk → Prop) : evFn E34 Try.f34 [.one (.data (.ints .i64 x)), .agg [.int .i64 ch, .int .i64 c]] [] K = (
 x.length ≤ (1000000000 : Nat) ∧
 [bif
 decide
 (IntKind.i64.wrap
 ((IntKind.i64.wrap (IntKind.i64.wrap ((↑x.length : Int) + (8 : Int)) - (1 : Int))).tdiv (8 : Int)) ≤
 (40 : Int)) then
 (0 : Int)
 else (8 : Int),
 bif x.all sampleG then (0 : Int) else (2 : Int),
 bif withinG ch (0 : Int) (3 : Int) then (0 : Int) else (2 : Int)].length ≤
 (1000 : Nat) ∧
 bif
 firstE
 [bif
 decide
 (IntKind.i64.wrap
 ((IntKind.i64.wrap (IntKind.i64.wrap ((↑x.length : Int) + (8 : Int)) - (1 : Int))).tdiv
 (8 : Int)) ≤
 (40 : Int)) then
 (0 : Int)
 else (8 : Int),
 bif x.all sampleG then (0 : Int) else (2 : Int),
 bif withinG ch (0 : Int) (3 : Int) then (0 : Int) else (2 : Int)] !=
 (0 : Int) then
 K
 (AV.tup
 [TV.one SV.nil,
 TV.one
 (SV.int IntKind.i64
 (firstE
 [bif
 decide
 (IntKind.i64.wrap
 ((IntKind.i64.wrap (IntKind.i64.wrap ((↑x.length : Int) + (8 : Int)) - (1 : Int))).tdiv
 (8 : Int)) ≤
 (40 : Int)) then
 (0 : Int)
 else (8 : Int),
 bif x.all sampleG then (0 : Int) else (2 : Int),
 bif withinG ch (0 : Int) (3 : Int) then (0 : Int) else (2 : Int)]))])
 []
 else
 bif !withinG c (0 : Int) (65535 : Int) then K (AV.tup [TV.one SV.nil, TV.one (SV.int IntKind.i64 (2 : Int))]) []
 else
 bif
 decide
 (IntKind.i64.wrap
 ((IntKind.i64.wrap (IntKind.i64.wrap ((↑x.length : Int) + (8 : Int)) - (1 : Int))).tdiv (8 : Int)) >
 (0 : Int)) then
 bif
 !withinG
 (IntKind.i64.wrap
 (IntKind.i64.wrap
 (c +
 IntKind.i64.wrap
 ((IntKind.i64.wrap (IntKind.i64.wrap ((↑x.length : Int) + (8 : Int)) - (1 : Int))).tdiv
 (8 : Int))) -
 (1 : Int)))
 (0 : Int) (65535 : Int) then
 K (AV.tup [TV.one SV.nil, TV.one (SV.int IntKind.i64 (2 : Int))]) []
 else
 (8 : Int) = (8 : Int) ∧
 bif decide ((8 : Int) = (8 : Int)) && decide (x.length ≤ (1000000 : Nat)) then
 ∃ cs,
 chunkI x = List.map item1 cs ∧
 (((0 : Int) ≤ ch ∧ ch ≤ (3 : Int)) ∧
 ((0 : Int) ≤ c ∧ c + (0 : Int) + (↑cs.length : Int) ≤ (65536 : Int)) ∧
 ∀ (p : List Int), p ∈ cs → p.all sampleG = true ∧ p.length ≤ (8 : Nat)) ∧
 cs.length ≤ (1000 : Nat) ∧
 bif cs.isEmpty then K (AV.tup [TV.one SV.nil, TV.one (SV.int IntKind.i64 (0 : Int))]) []
 else
 K (AV.tup [TV.one (SV.own (0 : Nat) (11 : Nat)), TV.one (SV.int IntKind.i64 (0 : Int))])
 [Blk.row (37 : TypeId) (Row.mat IntKind.i64 (11 : Nat) (blkRows ch c cs))]
 else False
 else
 (8 : Int) = (8 : Int) ∧
 bif decide ((8 : Int) = (8 : Int)) && decide (x.length ≤ (1000000 : Nat)) then
 ∃ cs,
 chunkI x = List.map item1 cs ∧
 (((0 : Int) ≤ ch ∧ ch ≤ (3 : Int)) ∧
 ((0 : Int) ≤ c ∧ c + (0 : Int) + (↑cs.length : Int) ≤ (65536 : Int)) ∧
 ∀ (p : List Int), p ∈ cs → p.all sampleG = true ∧ p.length ≤ (8 : Nat)) ∧
 cs.length ≤ (1000 : Nat) ∧
 bif cs.isEmpty then K (AV.tup [TV.one SV.nil, TV.one (SV.int IntKind.i64 (0 : Int))]) []
 else
 K (AV.tup [TV.one (SV.own (0 : Nat) (11 : Nat)), TV.one (SV.int IntKind.i64 (0 : Int))])
 [Blk.row (37 : TypeId) (Row.mat IntKind.i64 (11 : Nat) (blkRows ch c cs))]
 else False) := by kernel_rfl
theorem ex34a (p : List Int) (ch c : Int) (K : Ex → List AV → List Blk → Prop) : evRound E34 (rangePs (lb Try.f34 0)) (rangeAssign (lb Try.f34 0)) (rangeBody (lb Try.f34 0)) [3, 8] [.one (.ptr 0 1 0 0), .one (.ptr 1 1 0 0)] [.cells [.int .i64 ch, .int .i64 c], .cells [.nil]] [.one (.data (.ints .i64 p))] K = (
 contentG (IntKind.i64.wrap (c + (0 : Int))) ch
 [bif decide ((0 : Nat) < p.length) then p.getD (0 : Nat) (0 : Int) else (0 : Int),
 bif decide ((1 : Nat) < p.length) then p.getD (1 : Nat) (0 : Int) else (0 : Int),
 bif decide ((2 : Nat) < p.length) then p.getD (2 : Nat) (0 : Int) else (0 : Int),
 bif decide ((3 : Nat) < p.length) then p.getD (3 : Nat) (0 : Int) else (0 : Int),
 bif decide ((4 : Nat) < p.length) then p.getD (4 : Nat) (0 : Int) else (0 : Int),
 bif decide ((5 : Nat) < p.length) then p.getD (5 : Nat) (0 : Int) else (0 : Int),
 bif decide ((6 : Nat) < p.length) then p.getD (6 : Nat) (0 : Int) else (0 : Int),
 bif decide ((7 : Nat) < p.length) then p.getD (7 : Nat) (0 : Int) else (0 : Int)] =
 true ∧
 K Ex.normal
 [AV.one (SV.ptr (0 : Nat) (1 : Nat) (0 : Nat) (0 : Nat)), AV.one (SV.ptr (1 : Nat) (1 : Nat) (0 : Nat) (0 : Nat))]
 [Blk.cells [SV.int IntKind.i64 ch, SV.int IntKind.i64 c], Blk.cells [SV.own (2 : Nat) (11 : Nat)],
 Blk.row (37 : Nat)
 (Row.mat IntKind.i64 (11 : Nat)
 [[IntKind.i64.wrap (c + (0 : Int)), ch,
 bif decide ((0 : Nat) < p.length) then p.getD (0 : Nat) (0 : Int) else (0 : Int),
 bif decide ((1 : Nat) < p.length) then p.getD (1 : Nat) (0 : Int) else (0 : Int),
 bif decide ((2 : Nat) < p.length) then p.getD (2 : Nat) (0 : Int) else (0 : Int),
 bif decide ((3 : Nat) < p.length) then p.getD (3 : Nat) (0 : Int) else (0 : Int),
 bif decide ((4 : Nat) < p.length) then p.getD (4 : Nat) (0 : Int) else (0 : Int),
 bif decide ((5 : Nat) < p.length) then p.getD (5 : Nat) (0 : Int) else (0 : Int),
 bif decide ((6 : Nat) < p.length) then p.getD (6 : Nat) (0 : Int) else (0 : Int),
 bif decide ((7 : Nat) < p.length) then p.getD (7 : Nat) (0 : Int) else (0 : Int),
 sumG (IntKind.i64.wrap (c + (0 : Int))) ch
 [bif decide ((0 : Nat) < p.length) then p.getD (0 : Nat) (0 : Int) else (0 : Int),
 bif decide ((1 : Nat) < p.length) then p.getD (1 : Nat) (0 : Int) else (0 : Int),
 bif decide ((2 : Nat) < p.length) then p.getD (2 : Nat) (0 : Int) else (0 : Int),
 bif decide ((3 : Nat) < p.length) then p.getD (3 : Nat) (0 : Int) else (0 : Int),
 bif decide ((4 : Nat) < p.length) then p.getD (4 : Nat) (0 : Int) else (0 : Int),
 bif decide ((5 : Nat) < p.length) then p.getD (5 : Nat) (0 : Int) else (0 : Int),
 bif decide ((6 : Nat) < p.length) then p.getD (6 : Nat) (0 : Int) else (0 : Int),
 bif decide ((7 : Nat) < p.length) then p.getD (7 : Nat) (0 : Int) else (0 : Int)]]])]) := by kernel_rfl
theorem ex34b (p : List Int) (rows : List (List Int)) (ch c : Int) (K : Ex → List AV → List Blk → Prop) : evRound E34 (rangePs (lb Try.f34 0)) (rangeAssign (lb Try.f34 0)) (rangeBody (lb Try.f34 0)) [3, 8] [.one (.ptr 0 1 0 0), .one (.ptr 1 1 0 0)] [.cells [.int .i64 ch, .int .i64 c], .cells [.own 2 11], .row 37 (.mat .i64 11 rows)] [.one (.data (.ints .i64 p))] K = (
 contentG (IntKind.i64.wrap (c + (↑rows.length : Int))) ch
 [bif decide ((0 : Nat) < p.length) then p.getD (0 : Nat) (0 : Int) else (0 : Int),
 bif decide ((1 : Nat) < p.length) then p.getD (1 : Nat) (0 : Int) else (0 : Int),
 bif decide ((2 : Nat) < p.length) then p.getD (2 : Nat) (0 : Int) else (0 : Int),
 bif decide ((3 : Nat) < p.length) then p.getD (3 : Nat) (0 : Int) else (0 : Int),
 bif decide ((4 : Nat) < p.length) then p.getD (4 : Nat) (0 : Int) else (0 : Int),
 bif decide ((5 : Nat) < p.length) then p.getD (5 : Nat) (0 : Int) else (0 : Int),
 bif decide ((6 : Nat) < p.length) then p.getD (6 : Nat) (0 : Int) else (0 : Int),
 bif decide ((7 : Nat) < p.length) then p.getD (7 : Nat) (0 : Int) else (0 : Int)] =
 true ∧
 bif
 decide
 ((rows ++
 [[IntKind.i64.wrap (c + (↑rows.length : Int)), ch,
 bif decide ((0 : Nat) < p.length) then p.getD (0 : Nat) (0 : Int) else (0 : Int),
 bif decide ((1 : Nat) < p.length) then p.getD (1 : Nat) (0 : Int) else (0 : Int),
 bif decide ((2 : Nat) < p.length) then p.getD (2 : Nat) (0 : Int) else (0 : Int),
 bif decide ((3 : Nat) < p.length) then p.getD (3 : Nat) (0 : Int) else (0 : Int),
 bif decide ((4 : Nat) < p.length) then p.getD (4 : Nat) (0 : Int) else (0 : Int),
 bif decide ((5 : Nat) < p.length) then p.getD (5 : Nat) (0 : Int) else (0 : Int),
 bif decide ((6 : Nat) < p.length) then p.getD (6 : Nat) (0 : Int) else (0 : Int),
 bif decide ((7 : Nat) < p.length) then p.getD (7 : Nat) (0 : Int) else (0 : Int),
 sumG (IntKind.i64.wrap (c + (↑rows.length : Int))) ch
 [bif decide ((0 : Nat) < p.length) then p.getD (0 : Nat) (0 : Int) else (0 : Int),
 bif decide ((1 : Nat) < p.length) then p.getD (1 : Nat) (0 : Int) else (0 : Int),
 bif decide ((2 : Nat) < p.length) then p.getD (2 : Nat) (0 : Int) else (0 : Int),
 bif decide ((3 : Nat) < p.length) then p.getD (3 : Nat) (0 : Int) else (0 : Int),
 bif decide ((4 : Nat) < p.length) then p.getD (4 : Nat) (0 : Int) else (0 : Int),
 bif decide ((5 : Nat) < p.length) then p.getD (5 : Nat) (0 : Int) else (0 : Int),
 bif decide ((6 : Nat) < p.length) then p.getD (6 : Nat) (0 : Int) else (0 : Int),
 bif decide ((7 : Nat) < p.length) then p.getD (7 : Nat) (0 : Int) else (0 : Int)]]]).length *
 (88 : Nat) ≤
 (140737488355328 : Nat) ∧
 (rows ++
 [[IntKind.i64.wrap (c + (↑rows.length : Int)), ch,
 bif decide ((0 : Nat) < p.length) then p.getD (0 : Nat) (0 : Int) else (0 : Int),
 bif decide ((1 : Nat) < p.length) then p.getD (1 : Nat) (0 : Int) else (0 : Int),
 bif decide ((2 : Nat) < p.length) then p.getD (2 : Nat) (0 : Int) else (0 : Int),
 bif decide ((3 : Nat) < p.length) then p.getD (3 : Nat) (0 : Int) else (0 : Int),
 bif decide ((4 : Nat) < p.length) then p.getD (4 : Nat) (0 : Int) else (0 : Int),
 bif decide ((5 : Nat) < p.length) then p.getD (5 : Nat) (0 : Int) else (0 : Int),
 bif decide ((6 : Nat) < p.length) then p.getD (6 : Nat) (0 : Int) else (0 : Int),
 bif decide ((7 : Nat) < p.length) then p.getD (7 : Nat) (0 : Int) else (0 : Int),
 sumG (IntKind.i64.wrap (c + (↑rows.length : Int))) ch
 [bif decide ((0 : Nat) < p.length) then p.getD (0 : Nat) (0 : Int) else (0 : Int),
 bif decide ((1 : Nat) < p.length) then p.getD (1 : Nat) (0 : Int) else (0 : Int),
 bif decide ((2 : Nat) < p.length) then p.getD (2 : Nat) (0 : Int) else (0 : Int),
 bif decide ((3 : Nat) < p.length) then p.getD (3 : Nat) (0 : Int) else (0 : Int),
 bif decide ((4 : Nat) < p.length) then p.getD (4 : Nat) (0 : Int) else (0 : Int),
 bif decide ((5 : Nat) < p.length) then p.getD (5 : Nat) (0 : Int) else (0 : Int),
 bif decide ((6 : Nat) < p.length) then p.getD (6 : Nat) (0 : Int) else (0 : Int),
 bif decide ((7 : Nat) < p.length) then p.getD (7 : Nat) (0 : Int) else (0 : Int)]]]).length ≤
 (140737488355328 : Nat)) then
 K Ex.normal
 [AV.one (SV.ptr (0 : Nat) (1 : Nat) (0 : Nat) (0 : Nat)), AV.one (SV.ptr (1 : Nat) (1 : Nat) (0 : Nat) (0 : Nat))]
 [Blk.cells [SV.int IntKind.i64 ch, SV.int IntKind.i64 c], Blk.cells [SV.own (2 : Nat) (11 : Nat)],
 Blk.row (37 : Nat)
 (Row.mat IntKind.i64 (11 : Nat)
 (rows ++
 [[IntKind.i64.wrap (c + (↑rows.length : Int)), ch,
 bif decide ((0 : Nat) < p.length) then p.getD (0 : Nat) (0 : Int) else (0 : Int),
 bif decide ((1 : Nat) < p.length) then p.getD (1 : Nat) (0 : Int) else (0 : Int),
 bif decide ((2 : Nat) < p.length) then p.getD (2 : Nat) (0 : Int) else (0 : Int),
 bif decide ((3 : Nat) < p.length) then p.getD (3 : Nat) (0 : Int) else (0 : Int),
 bif decide ((4 : Nat) < p.length) then p.getD (4 : Nat) (0 : Int) else (0 : Int),
 bif decide ((5 : Nat) < p.length) then p.getD (5 : Nat) (0 : Int) else (0 : Int),
 bif decide ((6 : Nat) < p.length) then p.getD (6 : Nat) (0 : Int) else (0 : Int),
 bif decide ((7 : Nat) < p.length) then p.getD (7 : Nat) (0 : Int) else (0 : Int),
 sumG (IntKind.i64.wrap (c + (↑rows.length : Int))) ch
 [bif decide ((0 : Nat) < p.length) then p.getD (0 : Nat) (0 : Int) else (0 : Int),
 bif decide ((1 : Nat) < p.length) then p.getD (1 : Nat) (0 : Int) else (0 : Int),
 bif decide ((2 : Nat) < p.length) then p.getD (2 : Nat) (0 : Int) else (0 : Int),
 bif decide ((3 : Nat) < p.length) then p.getD (3 : Nat) (0 : Int) else (0 : Int),
 bif decide ((4 : Nat) < p.length) then p.getD (4 : Nat) (0 : Int) else (0 : Int),
 bif decide ((5 : Nat) < p.length) then p.getD (5 : Nat) (0 : Int) else (0 : Int),
 bif decide ((6 : Nat) < p.length) then p.getD (6 : Nat) (0 : Int) else (0 : Int),
 bif decide ((7 : Nat) < p.length) then p.getD (7 : Nat) (0 : Int) else (0 : Int)]]]))]
 else False) := by kernel_rfl
theorem ex36 (x : List Int) (ch c : Int) (K : AV → List Blk → Prop) : evFn E36 Try.f36 [.one (.data (.ints .i64 x)), .agg [.int .i64 ch, .int .i64 c]] [] K = (
 x.length ≤ (1000000000 : Nat) ∧
 bif decide ((↑(countN x) : Int) > (40 : Int)) then K (AV.one (SV.int IntKind.i64 (8 : Int))) []
 else
 x.length ≤ (1000000000 : Nat) ∧
 bif !x.all sampleG then K (AV.one (SV.int IntKind.i64 (2 : Int))) []
 else
 bif (bif withinG ch (0 : Int) (3 : Int) then (0 : Int) else (2 : Int)) != (0 : Int) then
 K (AV.one (SV.int IntKind.i64 (bif withinG ch (0 : Int) (3 : Int) then (0 : Int) else (2 : Int)))) []
 else
 bif !(decide ((0 : Int) ≤ c) && decide (c ≤ (65535 : Int))) then K (AV.one (SV.int IntKind.i64 (2 : Int))) []
 else
 x.length ≤ (1000000000 : Nat) ∧
 bif
 decide
 (IntKind.i64.wrap
 (c +
 if IntKind.i64.wrap ((↑(countN x) : Int) - (1 : Int)) > (0 : Int) then
 IntKind.i64.wrap ((↑(countN x) : Int) - (1 : Int))
 else (0 : Int)) >
 (65535 : Int)) then
 K (AV.one (SV.int IntKind.i64 (2 : Int))) []
 else K (AV.one (SV.int IntKind.i64 (0 : Int))) []) := by kernel_rfl
theorem ex37 (a b : List (List Int)) (K : AV → List Blk → Prop) : evFn E37 Try.f37 [.one (.data (.mat .i64 11 a)), .one (.data (.mat .i64 11 b))] [] K = (
 bif (↑a.length : Int) != (↑b.length : Int) then K (AV.one (SV.bool false)) []
 else
 (a.length ≤ (1000000000 : Nat) ∧
 a.length = b.length ∧ (0 : Int) ≤ (0 : Int) ∧ a.all len11 = true ∧ b.all len11 = true) ∧
 bif a == b then K (AV.one (SV.bool true)) [] else K (AV.one (SV.bool false)) []) := by kernel_rfl
theorem ex37a (a b : List (List Int)) (i : Int) (K : Ex → List AV → List Blk → Prop) : evBody E37 (lb Try.f37 0) [0, 1, 5] [4] [.one (.data (.mat .i64 11 a)), .one (.data (.mat .i64 11 b)), .one (.int .i64 i)] [] K = (
 bif decide (i < (↑a.length : Int)) then
 bif decide ((0 : Int) ≤ i) && decide (i < (↑a.length : Int)) then
 bif decide ((10 : Nat) < (11 : Nat)) && decide (i.toNat < a.length) then
 bif decide ((0 : Int) ≤ i) && decide (i < (↑b.length : Int)) then
 bif decide ((10 : Nat) < (11 : Nat)) && decide (i.toNat < b.length) then
 bif
 !((match a[i.toNat]? with
 | some x => x
 | none => []).getD
 (0 : Nat) (0 : Int) ==
 (match b[i.toNat]? with
 | some x => x
 | none => []).getD
 (0 : Nat) (0 : Int) &&
 ((match a[i.toNat]? with
 | some x => x
 | none => []).getD
 (1 : Nat) (0 : Int) ==
 (match b[i.toNat]? with
 | some x => x
 | none => []).getD
 (1 : Nat) (0 : Int) &&
 ((match a[i.toNat]? with
 | some x => x
 | none => []).getD
 (2 : Nat) (0 : Int) ==
 (match b[i.toNat]? with
 | some x => x
 | none => []).getD
 (2 : Nat) (0 : Int) &&
 ((match a[i.toNat]? with
 | some x => x
 | none => []).getD
 (3 : Nat) (0 : Int) ==
 (match b[i.toNat]? with
 | some x => x
 | none => []).getD
 (3 : Nat) (0 : Int) &&
 ((match a[i.toNat]? with
 | some x => x
 | none => []).getD
 (4 : Nat) (0 : Int) ==
 (match b[i.toNat]? with
 | some x => x
 | none => []).getD
 (4 : Nat) (0 : Int) &&
 ((match a[i.toNat]? with
 | some x => x
 | none => []).getD
 (5 : Nat) (0 : Int) ==
 (match b[i.toNat]? with
 | some x => x
 | none => []).getD
 (5 : Nat) (0 : Int) &&
 ((match a[i.toNat]? with
 | some x => x
 | none => []).getD
 (6 : Nat) (0 : Int) ==
 (match b[i.toNat]? with
 | some x => x
 | none => []).getD
 (6 : Nat) (0 : Int) &&
 ((match a[i.toNat]? with
 | some x => x
 | none => []).getD
 (7 : Nat) (0 : Int) ==
 (match b[i.toNat]? with
 | some x => x
 | none => []).getD
 (7 : Nat) (0 : Int) &&
 ((match a[i.toNat]? with
 | some x => x
 | none => []).getD
 (8 : Nat) (0 : Int) ==
 (match b[i.toNat]? with
 | some x => x
 | none => []).getD
 (8 : Nat) (0 : Int) &&
 (match a[i.toNat]? with
 | some x => x
 | none => []).getD
 (9 : Nat) (0 : Int) ==
 (match b[i.toNat]? with
 | some x => x
 | none => []).getD
 (9 : Nat) (0 : Int))))))) &&
 (match a[i.toNat]? with
 | some x => x
 | none => []).getD
 (10 : Nat) (0 : Int) ==
 (match b[i.toNat]? with
 | some x => x
 | none => []).getD
 (10 : Nat) (0 : Int)))) then
 K Ex.ret [AV.one (SV.bool false)] []
 else
 K Ex.normal
 [AV.one (SV.data (Row.mat IntKind.i64 (11 : Nat) a)), AV.one (SV.data (Row.mat IntKind.i64 (11 : Nat) b)),
 AV.one (SV.int IntKind.i64 (IntKind.i64.wrap (i + (1 : Int))))]
 []
 else False
 else False
 else False
 else False
 else K (Ex.exit (0 : Nat)) [AV.any] []) := by kernel_rfl
theorem ex38 (x : List Int) (ch c : Int) (K : AV → List Blk → Prop) : evFn E38 Try.f38 [.one (.data (.ints .i64 x)), .agg [.int .i64 ch, .int .i64 c]] [] K = (
 ((x.length ≤ (320 : Nat) ∧
 x.all sampleG = true ∧
 ((0 : Int) ≤ ch ∧ ch ≤ (3 : Int)) ∧
 ((0 : Int) ≤ c ∧ c + (↑(countN x) : Int) ≤ (65536 : Int)) ∧
 (0 : Int) ≤ (0 : Int) ∧ (0 : Int) ≤ (↑(countN x) : Int)) ∧
 (0 : Int) = (0 : Int)) ∧
 bif x.isEmpty then K (AV.one SV.nil) []
 else
 K (AV.one (SV.own (0 : Nat) (11 : Nat))) [Blk.row (37 : TypeId) (Row.mat IntKind.i64 (11 : Nat) (cutRows x ch c))]) := by kernel_rfl
theorem ex38a (x : List Int) (ch c i : Int) (K : Ex → List AV → List Blk → Prop) : evBody E38 (lb Try.f38 0) [0, 3, 5, 6] [5] [.one (.data (.ints .i64 x)), .one (.ptr 0 1 0 0), .one .nil, .one (.int .i64 i)] [.cells [.int .i64 ch, .int .i64 c]] K = (
 x.length ≤ (1000000000 : Nat) ∧
 bif decide (i < (↑(countN x) : Int)) then
 bif decide (IntKind.i64.wrap (IntKind.i64.wrap (i * (8 : Int)) + (0 : Int)) < (↑x.length : Int)) then
 bif
 decide ((0 : Int) ≤ IntKind.i64.wrap (IntKind.i64.wrap (i * (8 : Int)) + (0 : Int))) &&
 decide (IntKind.i64.wrap (IntKind.i64.wrap (i * (8 : Int)) + (0 : Int)) < (↑x.length : Int)) then
 bif decide ((IntKind.i64.wrap (IntKind.i64.wrap (i * (8 : Int)) + (0 : Int))).toNat + (0 : Nat) < x.length) then
 bif decide (IntKind.i64.wrap (IntKind.i64.wrap (i * (8 : Int)) + (1 : Int)) < (↑x.length : Int)) then
 bif
 decide ((0 : Int) ≤ IntKind.i64.wrap (IntKind.i64.wrap (i * (8 : Int)) + (1 : Int))) &&
 decide (IntKind.i64.wrap (IntKind.i64.wrap (i * (8 : Int)) + (1 : Int)) < (↑x.length : Int)) then
 bif
 decide
 ((IntKind.i64.wrap (IntKind.i64.wrap (i * (8 : Int)) + (1 : Int))).toNat + (0 : Nat) <
 x.length) then
 bif decide (IntKind.i64.wrap (IntKind.i64.wrap (i * (8 : Int)) + (2 : Int)) < (↑x.length : Int)) then
 bif
 decide ((0 : Int) ≤ IntKind.i64.wrap (IntKind.i64.wrap (i * (8 : Int)) + (2 : Int))) &&
 decide
 (IntKind.i64.wrap (IntKind.i64.wrap (i * (8 : Int)) + (2 : Int)) < (↑x.length : Int)) then
 bif
 decide
 ((IntKind.i64.wrap (IntKind.i64.wrap (i * (8 : Int)) + (2 : Int))).toNat + (0 : Nat) <
 x.length) then
 bif
 decide
 (IntKind.i64.wrap (IntKind.i64.wrap (i * (8 : Int)) + (3 : Int)) < (↑x.length : Int)) then
 bif
 decide ((0 : Int) ≤ IntKind.i64.wrap (IntKind.i64.wrap (i * (8 : Int)) + (3 : Int))) &&
 decide
 (IntKind.i64.wrap (IntKind.i64.wrap (i * (8 : Int)) + (3 : Int)) <
 (↑x.length : Int)) then
 bif
 decide
 ((IntKind.i64.wrap (IntKind.i64.wrap (i * (8 : Int)) + (3 : Int))).toNat + (0 : Nat) <
 x.length) then
 bif
 decide
 (IntKind.i64.wrap (IntKind.i64.wrap (i * (8 : Int)) + (4 : Int)) <
 (↑x.length : Int)) then
 bif
 decide
 ((0 : Int) ≤ IntKind.i64.wrap (IntKind.i64.wrap (i * (8 : Int)) + (4 : Int))) &&
 decide
 (IntKind.i64.wrap (IntKind.i64.wrap (i * (8 : Int)) + (4 : Int)) <
 (↑x.length : Int)) then
 bif
 decide
 ((IntKind.i64.wrap (IntKind.i64.wrap (i * (8 : Int)) + (4 : Int))).toNat +
 (0 : Nat) <
 x.length) then
 bif
 decide
 (IntKind.i64.wrap (IntKind.i64.wrap (i * (8 : Int)) + (5 : Int)) <
 (↑x.length : Int)) then
 bif
 decide
 ((0 : Int) ≤
 IntKind.i64.wrap (IntKind.i64.wrap (i * (8 : Int)) + (5 : Int))) &&
 decide
 (IntKind.i64.wrap (IntKind.i64.wrap (i * (8 : Int)) + (5 : Int)) <
 (↑x.length : Int)) then
 bif
 decide
 ((IntKind.i64.wrap (IntKind.i64.wrap (i * (8 : Int)) + (5 : Int))).toNat +
 (0 : Nat) <
 x.length) then
 bif
 decide
 (IntKind.i64.wrap (IntKind.i64.wrap (i * (8 : Int)) + (6 : Int)) <
 (↑x.length : Int)) then
 bif
 decide
 ((0 : Int) ≤
 IntKind.i64.wrap (IntKind.i64.wrap (i * (8 : Int)) + (6 : Int))) &&
 decide
 (IntKind.i64.wrap (IntKind.i64.wrap (i * (8 : Int)) + (6 : Int)) <
 (↑x.length : Int)) then
 bif
 decide
 ((IntKind.i64.wrap
 (IntKind.i64.wrap (i * (8 : Int)) + (6 : Int))).toNat +
 (0 : Nat) <
 x.length) then
 bif
 decide
 (IntKind.i64.wrap (IntKind.i64.wrap (i * (8 : Int)) + (7 : Int)) <
 (↑x.length : Int)) then
 bif
 decide
 ((0 : Int) ≤
 IntKind.i64.wrap
 (IntKind.i64.wrap (i * (8 : Int)) + (7 : Int))) &&
 decide
 (IntKind.i64.wrap
 (IntKind.i64.wrap (i * (8 : Int)) + (7 : Int)) <
 (↑x.length : Int)) then
 bif
 decide
 ((IntKind.i64.wrap
 (IntKind.i64.wrap (i * (8 : Int)) + (7 : Int))).toNat +
 (0 : Nat) <
 x.length) then
 contentG (IntKind.i64.wrap (c + i)) ch
 [x.getD
 ((IntKind.i64.wrap
 (IntKind.i64.wrap (i * (8 : Int)) +
 (0 : Int))).toNat +
 (0 : Nat))
 (0 : Int),
 x.getD
 ((IntKind.i64.wrap
 (IntKind.i64.wrap (i * (8 : Int)) +
 (1 : Int))).toNat +
 (0 : Nat))
 (0 : Int),
 x.getD
 ((IntKind.i64.wrap
 (IntKind.i64.wrap (i * (8 : Int)) +
 (2 : Int))).toNat +
 (0 : Nat))
 (0 : Int),
 x.getD
 ((IntKind.i64.wrap
 (IntKind.i64.wrap (i * (8 : Int)) +
 (3 : Int))).toNat +
 (0 : Nat))
 (0 : Int),
 x.getD
 ((IntKind.i64.wrap
 (IntKind.i64.wrap (i * (8 : Int)) +
 (4 : Int))).toNat +
 (0 : Nat))
 (0 : Int),
 x.getD
 ((IntKind.i64.wrap
 (IntKind.i64.wrap (i * (8 : Int)) +
 (5 : Int))).toNat +
 (0 : Nat))
 (0 : Int),
 x.getD
 ((IntKind.i64.wrap
 (IntKind.i64.wrap (i * (8 : Int)) +
 (6 : Int))).toNat +
 (0 : Nat))
 (0 : Int),
 x.getD
 ((IntKind.i64.wrap
 (IntKind.i64.wrap (i * (8 : Int)) +
 (7 : Int))).toNat +
 (0 : Nat))
 (0 : Int)] =
 true ∧
 K Ex.normal
 [AV.one (SV.data (Row.ints IntKind.i64 x)),
 AV.one (SV.ptr (0 : Nat) (1 : Nat) (0 : Nat) (0 : Nat)),
 AV.one (SV.own (1 : Nat) (11 : Nat)),
 AV.one
 (SV.int IntKind.i64 (IntKind.i64.wrap (i + (1 : Int))))]
 [Blk.cells [SV.int IntKind.i64 ch, SV.int IntKind.i64 c],
 Blk.row (37 : Nat)
 (Row.mat IntKind.i64 (11 : Nat)
 [[IntKind.i64.wrap (c + i), ch,
 x.getD
 ((IntKind.i64.wrap
 (IntKind.i64.wrap (i * (8 : Int)) +
 (0 : Int))).toNat +
 (0 : Nat))
 (0 : Int),
 x.getD
 ((IntKind.i64.wrap
 (IntKind.i64.wrap (i * (8 : Int)) +
 (1 : Int))).toNat +
 (0 : Nat))
 (0 : Int),
 x.getD
 ((IntKind.i64.wrap
 (IntKind.i64.wrap (i * (8 : Int)) +
 (2 : Int))).toNat +
 (0 : Nat))
 (0 : Int),
 x.getD
 ((IntKind.i64.wrap
 (IntKind.i64.wrap (i * (8 : Int)) +
 (3 : Int))).toNat +
 (0 : Nat))
 (0 : Int),
 x.getD
 ((IntKind.i64.wrap
 (IntKind.i64.wrap (i * (8 : Int)) +
 (4 : Int))).toNat +
 (0 : Nat))
 (0 : Int),
 x.getD
 ((IntKind.i64.wrap
 (IntKind.i64.wrap (i * (8 : Int)) +
 (5 : Int))).toNat +
 (0 : Nat))
 (0 : Int),
 x.getD
 ((IntKind.i64.wrap
 (IntKind.i64.wrap (i * (8 : Int)) +
 (6 : Int))).toNat +
 (0 : Nat))
 (0 : Int),
 x.getD
 ((IntKind.i64.wrap
 (IntKind.i64.wrap (i * (8 : Int)) +
 (7 : Int))).toNat +
 (0 : Nat))
 (0 : Int),
 sumG (IntKind.i64.wrap (c + i)) ch
 [x.getD
 ((IntKind.i64.wrap
 (IntKind.i64.wrap (i * (8 : Int)) +
 (0 : Int))).toNat +
 (0 : Nat))
 (0 : Int),
 x.getD
 ((IntKind.i64.wrap
 (IntKind.i64.wrap (i * (8 : Int)) +
 (1 : Int))).toNat +
 (0 : Nat))
 (0 : Int),
 x.getD
 ((IntKind.i64.wrap
 (IntKind.i64.wrap (i * (8 : Int)) +
 (2 : Int))).toNat +
 (0 : Nat))
 (0 : Int),
 x.getD
 ((IntKind.i64.wrap
 (IntKind.i64.wrap (i * (8 : Int)) +
 (3 : Int))).toNat +
 (0 : Nat))
 (0 : Int),
 x.getD
 ((IntKind.i64.wrap
 (IntKind.i64.wrap (i * (8 : Int)) +
 (4 : Int))).toNat +
 (0 : Nat))
 (0 : Int),
 x.getD
 ((IntKind.i64.wrap
 (IntKind.i64.wrap (i * (8 : Int)) +
 (5 : Int))).toNat +
 (0 : Nat))
 (0 : Int),
 x.getD
 ((IntKind.i64.wrap
 (IntKind.i64.wrap (i * (8 : Int)) +
 (6 : Int))).toNat +
 (0 : Nat))
 (0 : Int),
 x.getD
 ((IntKind.i64.wrap
 (IntKind.i64.wrap (i * (8 : Int)) +
 (7 : Int))).toNat +
 (0 : Nat))
 (0 : Int)]]])]
 else False
 else False
 else
 contentG (IntKind.i64.wrap (c + i)) ch
 [x.getD
 ((IntKind.i64.wrap
 (IntKind.i64.wrap (i * (8 : Int)) + (0 : Int))).toNat +
 (0 : Nat))
 (0 : Int),
 x.getD
 ((IntKind.i64.wrap
 (IntKind.i64.wrap (i * (8 : Int)) + (1 : Int))).toNat +
 (0 : Nat))
 (0 : Int),
 x.getD
 ((IntKind.i64.wrap
 (IntKind.i64.wrap (i * (8 : Int)) + (2 : Int))).toNat +
 (0 : Nat))
 (0 : Int),
 x.getD
 ((IntKind.i64.wrap
 (IntKind.i64.wrap (i * (8 : Int)) + (3 : Int))).toNat +
 (0 : Nat))
 (0 : Int),
 x.getD
 ((IntKind.i64.wrap
 (IntKind.i64.wrap (i * (8 : Int)) + (4 : Int))).toNat +
 (0 : Nat))
 (0 : Int),
 x.getD
 ((IntKind.i64.wrap
 (IntKind.i64.wrap (i * (8 : Int)) + (5 : Int))).toNat +
 (0 : Nat))
 (0 : Int),
 x.getD
 ((IntKind.i64.wrap
 (IntKind.i64.wrap (i * (8 : Int)) + (6 : Int))).toNat +
 (0 : Nat))
 (0 : Int),
 (0 : Int)] =
 true ∧
 K Ex.normal
 [AV.one (SV.data (Row.ints IntKind.i64 x)),
 AV.one (SV.ptr (0 : Nat) (1 : Nat) (0 : Nat) (0 : Nat)),
 AV.one (SV.own (1 : Nat) (11 : Nat)),
 AV.one (SV.int IntKind.i64 (IntKind.i64.wrap (i + (1 : Int))))]
 [Blk.cells [SV.int IntKind.i64 ch, SV.int IntKind.i64 c],
 Blk.row (37 : Nat)
 (Row.mat IntKind.i64 (11 : Nat)
 [[IntKind.i64.wrap (c + i), ch,
 x.getD
 ((IntKind.i64.wrap
 (IntKind.i64.wrap (i * (8 : Int)) +
 (0 : Int))).toNat +
 (0 : Nat))
 (0 : Int),
 x.getD
 ((IntKind.i64.wrap
 (IntKind.i64.wrap (i * (8 : Int)) +
 (1 : Int))).toNat +
 (0 : Nat))
 (0 : Int),
 x.getD
 ((IntKind.i64.wrap
 (IntKind.i64.wrap (i * (8 : Int)) +
 (2 : Int))).toNat +
 (0 : Nat))
 (0 : Int),
 x.getD
 ((IntKind.i64.wrap
 (IntKind.i64.wrap (i * (8 : Int)) +
 (3 : Int))).toNat +
 (0 : Nat))
 (0 : Int),
 x.getD
 ((IntKind.i64.wrap
 (IntKind.i64.wrap (i * (8 : Int)) +
 (4 : Int))).toNat +
 (0 : Nat))
 (0 : Int),
 x.getD
 ((IntKind.i64.wrap
 (IntKind.i64.wrap (i * (8 : Int)) +
 (5 : Int))).toNat +
 (0 : Nat))
 (0 : Int),
 x.getD
 ((IntKind.i64.wrap
 (IntKind.i64.wrap (i * (8 : Int)) +
 (6 : Int))).toNat +
 (0 : Nat))
 (0 : Int),
 (0 : Int),
 sumG (IntKind.i64.wrap (c + i)) ch
 [x.getD
 ((IntKind.i64.wrap
 (IntKind.i64.wrap (i * (8 : Int)) +
 (0 : Int))).toNat +
 (0 : Nat))
 (0 : Int),
 x.getD
 ((IntKind.i64.wrap
 (IntKind.i64.wrap (i * (8 : Int)) +
 (1 : Int))).toNat +
 (0 : Nat))
 (0 : Int),
 x.getD
 ((IntKind.i64.wrap
 (IntKind.i64.wrap (i * (8 : Int)) +
 (2 : Int))).toNat +
 (0 : Nat))
 (0 : Int),
 x.getD
 ((IntKind.i64.wrap
 (IntKind.i64.wrap (i * (8 : Int)) +
 (3 : Int))).toNat +
 (0 : Nat))
 (0 : Int),
 x.getD
 ((IntKind.i64.wrap
 (IntKind.i64.wrap (i * (8 : Int)) +
 (4 : Int))).toNat +
 (0 : Nat))
 (0 : Int),
 x.getD
 ((IntKind.i64.wrap
 (IntKind.i64.wrap (i * (8 : Int)) +
 (5 : Int))).toNat +
 (0 : Nat))
 (0 : Int),
 x.getD
 ((IntKind.i64.wrap
 (IntKind.i64.wrap (i * (8 : Int)) +
 (6 : Int))).toNat +
 (0 : Nat))
 (0 : Int),
 (0 : Int)]]])]
 else False
 else False
 else
 contentG (IntKind.i64.wrap (c + i)) ch
 [x.getD
 ((IntKind.i64.wrap
 (IntKind.i64.wrap (i * (8 : Int)) + (0 : Int))).toNat +
 (0 : Nat))
 (0 : Int),
 x.getD
 ((IntKind.i64.wrap
 (IntKind.i64.wrap (i * (8 : Int)) + (1 : Int))).toNat +
 (0 : Nat))
 (0 : Int),
 x.getD
 ((IntKind.i64.wrap
 (IntKind.i64.wrap (i * (8 : Int)) + (2 : Int))).toNat +
 (0 : Nat))
 (0 : Int),
 x.getD
 ((IntKind.i64.wrap
 (IntKind.i64.wrap (i * (8 : Int)) + (3 : Int))).toNat +
 (0 : Nat))
 (0 : Int),
 x.getD
 ((IntKind.i64.wrap
 (IntKind.i64.wrap (i * (8 : Int)) + (4 : Int))).toNat +
 (0 : Nat))
 (0 : Int),
 x.getD
 ((IntKind.i64.wrap
 (IntKind.i64.wrap (i * (8 : Int)) + (5 : Int))).toNat +
 (0 : Nat))
 (0 : Int),
 (0 : Int), (0 : Int)] =
 true ∧
 K Ex.normal
 [AV.one (SV.data (Row.ints IntKind.i64 x)),
 AV.one (SV.ptr (0 : Nat) (1 : Nat) (0 : Nat) (0 : Nat)),
 AV.one (SV.own (1 : Nat) (11 : Nat)),
 AV.one (SV.int IntKind.i64 (IntKind.i64.wrap (i + (1 : Int))))]
 [Blk.cells [SV.int IntKind.i64 ch, SV.int IntKind.i64 c],
 Blk.row (37 : Nat)
 (Row.mat IntKind.i64 (11 : Nat)
 [[IntKind.i64.wrap (c + i), ch,
 x.getD
 ((IntKind.i64.wrap
 (IntKind.i64.wrap (i * (8 : Int)) + (0 : Int))).toNat +
 (0 : Nat))
 (0 : Int),
 x.getD
 ((IntKind.i64.wrap
 (IntKind.i64.wrap (i * (8 : Int)) + (1 : Int))).toNat +
 (0 : Nat))
 (0 : Int),
 x.getD
 ((IntKind.i64.wrap
 (IntKind.i64.wrap (i * (8 : Int)) + (2 : Int))).toNat +
 (0 : Nat))
 (0 : Int),
 x.getD
 ((IntKind.i64.wrap
 (IntKind.i64.wrap (i * (8 : Int)) + (3 : Int))).toNat +
 (0 : Nat))
 (0 : Int),
 x.getD
 ((IntKind.i64.wrap
 (IntKind.i64.wrap (i * (8 : Int)) + (4 : Int))).toNat +
 (0 : Nat))
 (0 : Int),
 x.getD
 ((IntKind.i64.wrap
 (IntKind.i64.wrap (i * (8 : Int)) + (5 : Int))).toNat +
 (0 : Nat))
 (0 : Int),
 (0 : Int), (0 : Int),
 sumG (IntKind.i64.wrap (c + i)) ch
 [x.getD
 ((IntKind.i64.wrap
 (IntKind.i64.wrap (i * (8 : Int)) +
 (0 : Int))).toNat +
 (0 : Nat))
 (0 : Int),
 x.getD
 ((IntKind.i64.wrap
 (IntKind.i64.wrap (i * (8 : Int)) +
 (1 : Int))).toNat +
 (0 : Nat))
 (0 : Int),
 x.getD
 ((IntKind.i64.wrap
 (IntKind.i64.wrap (i * (8 : Int)) +
 (2 : Int))).toNat +
 (0 : Nat))
 (0 : Int),
 x.getD
 ((IntKind.i64.wrap
 (IntKind.i64.wrap (i * (8 : Int)) +
 (3 : Int))).toNat +
 (0 : Nat))
 (0 : Int),
 x.getD
 ((IntKind.i64.wrap
 (IntKind.i64.wrap (i * (8 : Int)) +
 (4 : Int))).toNat +
 (0 : Nat))
 (0 : Int),
 x.getD
 ((IntKind.i64.wrap
 (IntKind.i64.wrap (i * (8 : Int)) +
 (5 : Int))).toNat +
 (0 : Nat))
 (0 : Int),
 (0 : Int), (0 : Int)]]])]
 else False
 else False
 else
 contentG (IntKind.i64.wrap (c + i)) ch
 [x.getD
 ((IntKind.i64.wrap (IntKind.i64.wrap (i * (8 : Int)) + (0 : Int))).toNat +
 (0 : Nat))
 (0 : Int),
 x.getD
 ((IntKind.i64.wrap (IntKind.i64.wrap (i * (8 : Int)) + (1 : Int))).toNat +
 (0 : Nat))
 (0 : Int),
 x.getD
 ((IntKind.i64.wrap (IntKind.i64.wrap (i * (8 : Int)) + (2 : Int))).toNat +
 (0 : Nat))
 (0 : Int),
 x.getD
 ((IntKind.i64.wrap (IntKind.i64.wrap (i * (8 : Int)) + (3 : Int))).toNat +
 (0 : Nat))
 (0 : Int),
 x.getD
 ((IntKind.i64.wrap (IntKind.i64.wrap (i * (8 : Int)) + (4 : Int))).toNat +
 (0 : Nat))
 (0 : Int),
 (0 : Int), (0 : Int), (0 : Int)] =
 true ∧
 K Ex.normal
 [AV.one (SV.data (Row.ints IntKind.i64 x)),
 AV.one (SV.ptr (0 : Nat) (1 : Nat) (0 : Nat) (0 : Nat)),
 AV.one (SV.own (1 : Nat) (11 : Nat)),
 AV.one (SV.int IntKind.i64 (IntKind.i64.wrap (i + (1 : Int))))]
 [Blk.cells [SV.int IntKind.i64 ch, SV.int IntKind.i64 c],
 Blk.row (37 : Nat)
 (Row.mat IntKind.i64 (11 : Nat)
 [[IntKind.i64.wrap (c + i), ch,
 x.getD
 ((IntKind.i64.wrap
 (IntKind.i64.wrap (i * (8 : Int)) + (0 : Int))).toNat +
 (0 : Nat))
 (0 : Int),
 x.getD
 ((IntKind.i64.wrap
 (IntKind.i64.wrap (i * (8 : Int)) + (1 : Int))).toNat +
 (0 : Nat))
 (0 : Int),
 x.getD
 ((IntKind.i64.wrap
 (IntKind.i64.wrap (i * (8 : Int)) + (2 : Int))).toNat +
 (0 : Nat))
 (0 : Int),
 x.getD
 ((IntKind.i64.wrap
 (IntKind.i64.wrap (i * (8 : Int)) + (3 : Int))).toNat +
 (0 : Nat))
 (0 : Int),
 x.getD
 ((IntKind.i64.wrap
 (IntKind.i64.wrap (i * (8 : Int)) + (4 : Int))).toNat +
 (0 : Nat))
 (0 : Int),
 (0 : Int), (0 : Int), (0 : Int),
 sumG (IntKind.i64.wrap (c + i)) ch
 [x.getD
 ((IntKind.i64.wrap
 (IntKind.i64.wrap (i * (8 : Int)) + (0 : Int))).toNat +
 (0 : Nat))
 (0 : Int),
 x.getD
 ((IntKind.i64.wrap
 (IntKind.i64.wrap (i * (8 : Int)) + (1 : Int))).toNat +
 (0 : Nat))
 (0 : Int),
 x.getD
 ((IntKind.i64.wrap
 (IntKind.i64.wrap (i * (8 : Int)) + (2 : Int))).toNat +
 (0 : Nat))
 (0 : Int),
 x.getD
 ((IntKind.i64.wrap
 (IntKind.i64.wrap (i * (8 : Int)) + (3 : Int))).toNat +
 (0 : Nat))
 (0 : Int),
 x.getD
 ((IntKind.i64.wrap
 (IntKind.i64.wrap (i * (8 : Int)) + (4 : Int))).toNat +
 (0 : Nat))
 (0 : Int),
 (0 : Int), (0 : Int), (0 : Int)]]])]
 else False
 else False
 else
 contentG (IntKind.i64.wrap (c + i)) ch
 [x.getD
 ((IntKind.i64.wrap (IntKind.i64.wrap (i * (8 : Int)) + (0 : Int))).toNat +
 (0 : Nat))
 (0 : Int),
 x.getD
 ((IntKind.i64.wrap (IntKind.i64.wrap (i * (8 : Int)) + (1 : Int))).toNat +
 (0 : Nat))
 (0 : Int),
 x.getD
 ((IntKind.i64.wrap (IntKind.i64.wrap (i * (8 : Int)) + (2 : Int))).toNat +
 (0 : Nat))
 (0 : Int),
 x.getD
 ((IntKind.i64.wrap (IntKind.i64.wrap (i * (8 : Int)) + (3 : Int))).toNat +
 (0 : Nat))
 (0 : Int),
 (0 : Int), (0 : Int), (0 : Int), (0 : Int)] =
 true ∧
 K Ex.normal
 [AV.one (SV.data (Row.ints IntKind.i64 x)),
 AV.one (SV.ptr (0 : Nat) (1 : Nat) (0 : Nat) (0 : Nat)),
 AV.one (SV.own (1 : Nat) (11 : Nat)),
 AV.one (SV.int IntKind.i64 (IntKind.i64.wrap (i + (1 : Int))))]
 [Blk.cells [SV.int IntKind.i64 ch, SV.int IntKind.i64 c],
 Blk.row (37 : Nat)
 (Row.mat IntKind.i64 (11 : Nat)
 [[IntKind.i64.wrap (c + i), ch,
 x.getD
 ((IntKind.i64.wrap (IntKind.i64.wrap (i * (8 : Int)) + (0 : Int))).toNat +
 (0 : Nat))
 (0 : Int),
 x.getD
 ((IntKind.i64.wrap (IntKind.i64.wrap (i * (8 : Int)) + (1 : Int))).toNat +
 (0 : Nat))
 (0 : Int),
 x.getD
 ((IntKind.i64.wrap (IntKind.i64.wrap (i * (8 : Int)) + (2 : Int))).toNat +
 (0 : Nat))
 (0 : Int),
 x.getD
 ((IntKind.i64.wrap (IntKind.i64.wrap (i * (8 : Int)) + (3 : Int))).toNat +
 (0 : Nat))
 (0 : Int),
 (0 : Int), (0 : Int), (0 : Int), (0 : Int),
 sumG (IntKind.i64.wrap (c + i)) ch
 [x.getD
 ((IntKind.i64.wrap
 (IntKind.i64.wrap (i * (8 : Int)) + (0 : Int))).toNat +
 (0 : Nat))
 (0 : Int),
 x.getD
 ((IntKind.i64.wrap
 (IntKind.i64.wrap (i * (8 : Int)) + (1 : Int))).toNat +
 (0 : Nat))
 (0 : Int),
 x.getD
 ((IntKind.i64.wrap
 (IntKind.i64.wrap (i * (8 : Int)) + (2 : Int))).toNat +
 (0 : Nat))
 (0 : Int),
 x.getD
 ((IntKind.i64.wrap
 (IntKind.i64.wrap (i * (8 : Int)) + (3 : Int))).toNat +
 (0 : Nat))
 (0 : Int),
 (0 : Int), (0 : Int), (0 : Int), (0 : Int)]]])]
 else False
 else False
 else
 contentG (IntKind.i64.wrap (c + i)) ch
 [x.getD
 ((IntKind.i64.wrap (IntKind.i64.wrap (i * (8 : Int)) + (0 : Int))).toNat + (0 : Nat))
 (0 : Int),
 x.getD
 ((IntKind.i64.wrap (IntKind.i64.wrap (i * (8 : Int)) + (1 : Int))).toNat + (0 : Nat))
 (0 : Int),
 x.getD
 ((IntKind.i64.wrap (IntKind.i64.wrap (i * (8 : Int)) + (2 : Int))).toNat + (0 : Nat))
 (0 : Int),
 (0 : Int), (0 : Int), (0 : Int), (0 : Int), (0 : Int)] =
 true ∧
 K Ex.normal
 [AV.one (SV.data (Row.ints IntKind.i64 x)),
 AV.one (SV.ptr (0 : Nat) (1 : Nat) (0 : Nat) (0 : Nat)),
 AV.one (SV.own (1 : Nat) (11 : Nat)),
 AV.one (SV.int IntKind.i64 (IntKind.i64.wrap (i + (1 : Int))))]
 [Blk.cells [SV.int IntKind.i64 ch, SV.int IntKind.i64 c],
 Blk.row (37 : Nat)
 (Row.mat IntKind.i64 (11 : Nat)
 [[IntKind.i64.wrap (c + i), ch,
 x.getD
 ((IntKind.i64.wrap (IntKind.i64.wrap (i * (8 : Int)) + (0 : Int))).toNat +
 (0 : Nat))
 (0 : Int),
 x.getD
 ((IntKind.i64.wrap (IntKind.i64.wrap (i * (8 : Int)) + (1 : Int))).toNat +
 (0 : Nat))
 (0 : Int),
 x.getD
 ((IntKind.i64.wrap (IntKind.i64.wrap (i * (8 : Int)) + (2 : Int))).toNat +
 (0 : Nat))
 (0 : Int),
 (0 : Int), (0 : Int), (0 : Int), (0 : Int), (0 : Int),
 sumG (IntKind.i64.wrap (c + i)) ch
 [x.getD
 ((IntKind.i64.wrap (IntKind.i64.wrap (i * (8 : Int)) + (0 : Int))).toNat +
 (0 : Nat))
 (0 : Int),
 x.getD
 ((IntKind.i64.wrap (IntKind.i64.wrap (i * (8 : Int)) + (1 : Int))).toNat +
 (0 : Nat))
 (0 : Int),
 x.getD
 ((IntKind.i64.wrap (IntKind.i64.wrap (i * (8 : Int)) + (2 : Int))).toNat +
 (0 : Nat))
 (0 : Int),
 (0 : Int), (0 : Int), (0 : Int), (0 : Int), (0 : Int)]]])]
 else False
 else False
 else
 contentG (IntKind.i64.wrap (c + i)) ch
 [x.getD ((IntKind.i64.wrap (IntKind.i64.wrap (i * (8 : Int)) + (0 : Int))).toNat + (0 : Nat))
 (0 : Int),
 x.getD ((IntKind.i64.wrap (IntKind.i64.wrap (i * (8 : Int)) + (1 : Int))).toNat + (0 : Nat))
 (0 : Int),
 (0 : Int), (0 : Int), (0 : Int), (0 : Int), (0 : Int), (0 : Int)] =
 true ∧
 K Ex.normal
 [AV.one (SV.data (Row.ints IntKind.i64 x)),
 AV.one (SV.ptr (0 : Nat) (1 : Nat) (0 : Nat) (0 : Nat)), AV.one (SV.own (1 : Nat) (11 : Nat)),
 AV.one (SV.int IntKind.i64 (IntKind.i64.wrap (i + (1 : Int))))]
 [Blk.cells [SV.int IntKind.i64 ch, SV.int IntKind.i64 c],
 Blk.row (37 : Nat)
 (Row.mat IntKind.i64 (11 : Nat)
 [[IntKind.i64.wrap (c + i), ch,
 x.getD
 ((IntKind.i64.wrap (IntKind.i64.wrap (i * (8 : Int)) + (0 : Int))).toNat + (0 : Nat))
 (0 : Int),
 x.getD
 ((IntKind.i64.wrap (IntKind.i64.wrap (i * (8 : Int)) + (1 : Int))).toNat + (0 : Nat))
 (0 : Int),
 (0 : Int), (0 : Int), (0 : Int), (0 : Int), (0 : Int), (0 : Int),
 sumG (IntKind.i64.wrap (c + i)) ch
 [x.getD
 ((IntKind.i64.wrap (IntKind.i64.wrap (i * (8 : Int)) + (0 : Int))).toNat +
 (0 : Nat))
 (0 : Int),
 x.getD
 ((IntKind.i64.wrap (IntKind.i64.wrap (i * (8 : Int)) + (1 : Int))).toNat +
 (0 : Nat))
 (0 : Int),
 (0 : Int), (0 : Int), (0 : Int), (0 : Int), (0 : Int), (0 : Int)]]])]
 else False
 else False
 else
 contentG (IntKind.i64.wrap (c + i)) ch
 [x.getD ((IntKind.i64.wrap (IntKind.i64.wrap (i * (8 : Int)) + (0 : Int))).toNat + (0 : Nat))
 (0 : Int),
 (0 : Int), (0 : Int), (0 : Int), (0 : Int), (0 : Int), (0 : Int), (0 : Int)] =
 true ∧
 K Ex.normal
 [AV.one (SV.data (Row.ints IntKind.i64 x)), AV.one (SV.ptr (0 : Nat) (1 : Nat) (0 : Nat) (0 : Nat)),
 AV.one (SV.own (1 : Nat) (11 : Nat)), AV.one (SV.int IntKind.i64 (IntKind.i64.wrap (i + (1 : Int))))]
 [Blk.cells [SV.int IntKind.i64 ch, SV.int IntKind.i64 c],
 Blk.row (37 : Nat)
 (Row.mat IntKind.i64 (11 : Nat)
 [[IntKind.i64.wrap (c + i), ch,
 x.getD ((IntKind.i64.wrap (IntKind.i64.wrap (i * (8 : Int)) + (0 : Int))).toNat + (0 : Nat))
 (0 : Int),
 (0 : Int), (0 : Int), (0 : Int), (0 : Int), (0 : Int), (0 : Int), (0 : Int),
 sumG (IntKind.i64.wrap (c + i)) ch
 [x.getD
 ((IntKind.i64.wrap (IntKind.i64.wrap (i * (8 : Int)) + (0 : Int))).toNat + (0 : Nat))
 (0 : Int),
 (0 : Int), (0 : Int), (0 : Int), (0 : Int), (0 : Int), (0 : Int), (0 : Int)]]])]
 else False
 else False
 else
 contentG (IntKind.i64.wrap (c + i)) ch
 [(0 : Int), (0 : Int), (0 : Int), (0 : Int), (0 : Int), (0 : Int), (0 : Int), (0 : Int)] =
 true ∧
 K Ex.normal
 [AV.one (SV.data (Row.ints IntKind.i64 x)), AV.one (SV.ptr (0 : Nat) (1 : Nat) (0 : Nat) (0 : Nat)),
 AV.one (SV.own (1 : Nat) (11 : Nat)), AV.one (SV.int IntKind.i64 (IntKind.i64.wrap (i + (1 : Int))))]
 [Blk.cells [SV.int IntKind.i64 ch, SV.int IntKind.i64 c],
 Blk.row (37 : Nat)
 (Row.mat IntKind.i64 (11 : Nat)
 [[IntKind.i64.wrap (c + i), ch, (0 : Int), (0 : Int), (0 : Int), (0 : Int), (0 : Int), (0 : Int),
 (0 : Int), (0 : Int),
 sumG (IntKind.i64.wrap (c + i)) ch
 [(0 : Int), (0 : Int), (0 : Int), (0 : Int), (0 : Int), (0 : Int), (0 : Int), (0 : Int)]]])]
 else K (Ex.exit (0 : Nat)) [AV.one SV.nil] []) := by kernel_rfl
theorem ex38b (x : List Int) (rows : List (List Int)) (ch c i : Int) (K : Ex → List AV → List Blk → Prop) : evBody E38 (lb Try.f38 0) [0, 3, 5, 6] [5] [.one (.data (.ints .i64 x)), .one (.ptr 0 1 0 0), .one (.own 1 11), .one (.int .i64 i)] [.cells [.int .i64 ch, .int .i64 c], .row 37 (.mat .i64 11 rows)] K = (
 x.length ≤ (1000000000 : Nat) ∧
 bif decide (i < (↑(countN x) : Int)) then
 bif decide (IntKind.i64.wrap (IntKind.i64.wrap (i * (8 : Int)) + (0 : Int)) < (↑x.length : Int)) then
 bif
 decide ((0 : Int) ≤ IntKind.i64.wrap (IntKind.i64.wrap (i * (8 : Int)) + (0 : Int))) &&
 decide (IntKind.i64.wrap (IntKind.i64.wrap (i * (8 : Int)) + (0 : Int)) < (↑x.length : Int)) then
 bif decide ((IntKind.i64.wrap (IntKind.i64.wrap (i * (8 : Int)) + (0 : Int))).toNat + (0 : Nat) < x.length) then
 bif decide (IntKind.i64.wrap (IntKind.i64.wrap (i * (8 : Int)) + (1 : Int)) < (↑x.length : Int)) then
 bif
 decide ((0 : Int) ≤ IntKind.i64.wrap (IntKind.i64.wrap (i * (8 : Int)) + (1 : Int))) &&
 decide (IntKind.i64.wrap (IntKind.i64.wrap (i * (8 : Int)) + (1 : Int)) < (↑x.length : Int)) then
 bif
 decide
 ((IntKind.i64.wrap (IntKind.i64.wrap (i * (8 : Int)) + (1 : Int))).toNat + (0 : Nat) <
 x.length) then
 bif decide (IntKind.i64.wrap (IntKind.i64.wrap (i * (8 : Int)) + (2 : Int)) < (↑x.length : Int)) then
 bif
 decide ((0 : Int) ≤ IntKind.i64.wrap (IntKind.i64.wrap (i * (8 : Int)) + (2 : Int))) &&
 decide
 (IntKind.i64.wrap (IntKind.i64.wrap (i * (8 : Int)) + (2 : Int)) < (↑x.length : Int)) then
 bif
 decide
 ((IntKind.i64.wrap (IntKind.i64.wrap (i * (8 : Int)) + (2 : Int))).toNat + (0 : Nat) <
 x.length) then
 bif
 decide
 (IntKind.i64.wrap (IntKind.i64.wrap (i * (8 : Int)) + (3 : Int)) < (↑x.length : Int)) then
 bif
 decide ((0 : Int) ≤ IntKind.i64.wrap (IntKind.i64.wrap (i * (8 : Int)) + (3 : Int))) &&
 decide
 (IntKind.i64.wrap (IntKind.i64.wrap (i * (8 : Int)) + (3 : Int)) <
 (↑x.length : Int)) then
 bif
 decide
 ((IntKind.i64.wrap (IntKind.i64.wrap (i * (8 : Int)) + (3 : Int))).toNat + (0 : Nat) <
 x.length) then
 bif
 decide
 (IntKind.i64.wrap (IntKind.i64.wrap (i * (8 : Int)) + (4 : Int)) <
 (↑x.length : Int)) then
 bif
 decide
 ((0 : Int) ≤ IntKind.i64.wrap (IntKind.i64.wrap (i * (8 : Int)) + (4 : Int))) &&
 decide
 (IntKind.i64.wrap (IntKind.i64.wrap (i * (8 : Int)) + (4 : Int)) <
 (↑x.length : Int)) then
 bif
 decide
 ((IntKind.i64.wrap (IntKind.i64.wrap (i * (8 : Int)) + (4 : Int))).toNat +
 (0 : Nat) <
 x.length) then
 bif
 decide
 (IntKind.i64.wrap (IntKind.i64.wrap (i * (8 : Int)) + (5 : Int)) <
 (↑x.length : Int)) then
 bif
 decide
 ((0 : Int) ≤
 IntKind.i64.wrap (IntKind.i64.wrap (i * (8 : Int)) + (5 : Int))) &&
 decide
 (IntKind.i64.wrap (IntKind.i64.wrap (i * (8 : Int)) + (5 : Int)) <
 (↑x.length : Int)) then
 bif
 decide
 ((IntKind.i64.wrap (IntKind.i64.wrap (i * (8 : Int)) + (5 : Int))).toNat +
 (0 : Nat) <
 x.length) then
 bif
 decide
 (IntKind.i64.wrap (IntKind.i64.wrap (i * (8 : Int)) + (6 : Int)) <
 (↑x.length : Int)) then
 bif
 decide
 ((0 : Int) ≤
 IntKind.i64.wrap (IntKind.i64.wrap (i * (8 : Int)) + (6 : Int))) &&
 decide
 (IntKind.i64.wrap (IntKind.i64.wrap (i * (8 : Int)) + (6 : Int)) <
 (↑x.length : Int)) then
 bif
 decide
 ((IntKind.i64.wrap
 (IntKind.i64.wrap (i * (8 : Int)) + (6 : Int))).toNat +
 (0 : Nat) <
 x.length) then
 bif
 decide
 (IntKind.i64.wrap (IntKind.i64.wrap (i * (8 : Int)) + (7 : Int)) <
 (↑x.length : Int)) then
 bif
 decide
 ((0 : Int) ≤
 IntKind.i64.wrap
 (IntKind.i64.wrap (i * (8 : Int)) + (7 : Int))) &&
 decide
 (IntKind.i64.wrap
 (IntKind.i64.wrap (i * (8 : Int)) + (7 : Int)) <
 (↑x.length : Int)) then
 bif
 decide
 ((IntKind.i64.wrap
 (IntKind.i64.wrap (i * (8 : Int)) + (7 : Int))).toNat +
 (0 : Nat) <
 x.length) then
 contentG (IntKind.i64.wrap (c + i)) ch
 [x.getD
 ((IntKind.i64.wrap
 (IntKind.i64.wrap (i * (8 : Int)) +
 (0 : Int))).toNat +
 (0 : Nat))
 (0 : Int),
 x.getD
 ((IntKind.i64.wrap
 (IntKind.i64.wrap (i * (8 : Int)) +
 (1 : Int))).toNat +
 (0 : Nat))
 (0 : Int),
 x.getD
 ((IntKind.i64.wrap
 (IntKind.i64.wrap (i * (8 : Int)) +
 (2 : Int))).toNat +
 (0 : Nat))
 (0 : Int),
 x.getD
 ((IntKind.i64.wrap
 (IntKind.i64.wrap (i * (8 : Int)) +
 (3 : Int))).toNat +
 (0 : Nat))
 (0 : Int),
 x.getD
 ((IntKind.i64.wrap
 (IntKind.i64.wrap (i * (8 : Int)) +
 (4 : Int))).toNat +
 (0 : Nat))
 (0 : Int),
 x.getD
 ((IntKind.i64.wrap
 (IntKind.i64.wrap (i * (8 : Int)) +
 (5 : Int))).toNat +
 (0 : Nat))
 (0 : Int),
 x.getD
 ((IntKind.i64.wrap
 (IntKind.i64.wrap (i * (8 : Int)) +
 (6 : Int))).toNat +
 (0 : Nat))
 (0 : Int),
 x.getD
 ((IntKind.i64.wrap
 (IntKind.i64.wrap (i * (8 : Int)) +
 (7 : Int))).toNat +
 (0 : Nat))
 (0 : Int)] =
 true ∧
 bif
 decide
 ((rows ++
 [[IntKind.i64.wrap (c + i), ch,
 x.getD
 ((IntKind.i64.wrap
 (IntKind.i64.wrap (i * (8 : Int)) +
 (0 : Int))).toNat +
 (0 : Nat))
 (0 : Int),
 x.getD
 ((IntKind.i64.wrap
 (IntKind.i64.wrap (i * (8 : Int)) +
 (1 : Int))).toNat +
 (0 : Nat))
 (0 : Int),
 x.getD
 ((IntKind.i64.wrap
 (IntKind.i64.wrap (i * (8 : Int)) +
 (2 : Int))).toNat +
 (0 : Nat))
 (0 : Int),
 x.getD
 ((IntKind.i64.wrap
 (IntKind.i64.wrap (i * (8 : Int)) +
 (3 : Int))).toNat +
 (0 : Nat))
 (0 : Int),
 x.getD
 ((IntKind.i64.wrap
 (IntKind.i64.wrap (i * (8 : Int)) +
 (4 : Int))).toNat +
 (0 : Nat))
 (0 : Int),
 x.getD
 ((IntKind.i64.wrap
 (IntKind.i64.wrap (i * (8 : Int)) +
 (5 : Int))).toNat +
 (0 : Nat))
 (0 : Int),
 x.getD
 ((IntKind.i64.wrap
 (IntKind.i64.wrap (i * (8 : Int)) +
 (6 : Int))).toNat +
 (0 : Nat))
 (0 : Int),
 x.getD
 ((IntKind.i64.wrap
 (IntKind.i64.wrap (i * (8 : Int)) +
 (7 : Int))).toNat +
 (0 : Nat))
 (0 : Int),
 sumG (IntKind.i64.wrap (c + i)) ch
 [x.getD
 ((IntKind.i64.wrap
 (IntKind.i64.wrap
 (i * (8 : Int)) +
 (0 : Int))).toNat +
 (0 : Nat))
 (0 : Int),
 x.getD
 ((IntKind.i64.wrap
 (IntKind.i64.wrap
 (i * (8 : Int)) +
 (1 : Int))).toNat +
 (0 : Nat))
 (0 : Int),
 x.getD
 ((IntKind.i64.wrap
 (IntKind.i64.wrap
 (i * (8 : Int)) +
 (2 : Int))).toNat +
 (0 : Nat))
 (0 : Int),
 x.getD
 ((IntKind.i64.wrap
 (IntKind.i64.wrap
 (i * (8 : Int)) +
 (3 : Int))).toNat +
 (0 : Nat))
 (0 : Int),
 x.getD
 ((IntKind.i64.wrap
 (IntKind.i64.wrap
 (i * (8 : Int)) +
 (4 : Int))).toNat +
 (0 : Nat))
 (0 : Int),
 x.getD
 ((IntKind.i64.wrap
 (IntKind.i64.wrap
 (i * (8 : Int)) +
 (5 : Int))).toNat +
 (0 : Nat))
 (0 : Int),
 x.getD
 ((IntKind.i64.wrap
 (IntKind.i64.wrap
 (i * (8 : Int)) +
 (6 : Int))).toNat +
 (0 : Nat))
 (0 : Int),
 x.getD
 ((IntKind.i64.wrap
 (IntKind.i64.wrap
 (i * (8 : Int)) +
 (7 : Int))).toNat +
 (0 : Nat))
 (0 : Int)]]]).length *
 (88 : Nat) ≤
 (140737488355328 : Nat) ∧
 (rows ++
 [[IntKind.i64.wrap (c + i), ch,
 x.getD
 ((IntKind.i64.wrap
 (IntKind.i64.wrap (i * (8 : Int)) +
 (0 : Int))).toNat +
 (0 : Nat))
 (0 : Int),
 x.getD
 ((IntKind.i64.wrap
 (IntKind.i64.wrap (i * (8 : Int)) +
 (1 : Int))).toNat +
 (0 : Nat))
 (0 : Int),
 x.getD
 ((IntKind.i64.wrap
 (IntKind.i64.wrap (i * (8 : Int)) +
 (2 : Int))).toNat +
 (0 : Nat))
 (0 : Int),
 x.getD
 ((IntKind.i64.wrap
 (IntKind.i64.wrap (i * (8 : Int)) +
 (3 : Int))).toNat +
 (0 : Nat))
 (0 : Int),
 x.getD
 ((IntKind.i64.wrap
 (IntKind.i64.wrap (i * (8 : Int)) +
 (4 : Int))).toNat +
 (0 : Nat))
 (0 : Int),
 x.getD
 ((IntKind.i64.wrap
 (IntKind.i64.wrap (i * (8 : Int)) +
 (5 : Int))).toNat +
 (0 : Nat))
 (0 : Int),
 x.getD
 ((IntKind.i64.wrap
 (IntKind.i64.wrap (i * (8 : Int)) +
 (6 : Int))).toNat +
 (0 : Nat))
 (0 : Int),
 x.getD
 ((IntKind.i64.wrap
 (IntKind.i64.wrap (i * (8 : Int)) +
 (7 : Int))).toNat +
 (0 : Nat))
 (0 : Int),
 sumG (IntKind.i64.wrap (c + i)) ch
 [x.getD
 ((IntKind.i64.wrap
 (IntKind.i64.wrap (i * (8 : Int)) +
 (0 : Int))).toNat +
 (0 : Nat))
 (0 : Int),
 x.getD
 ((IntKind.i64.wrap
 (IntKind.i64.wrap (i * (8 : Int)) +
 (1 : Int))).toNat +
 (0 : Nat))
 (0 : Int),
 x.getD
 ((IntKind.i64.wrap
 (IntKind.i64.wrap (i * (8 : Int)) +
 (2 : Int))).toNat +
 (0 : Nat))
 (0 : Int),
 x.getD
 ((IntKind.i64.wrap
 (IntKind.i64.wrap (i * (8 : Int)) +
 (3 : Int))).toNat +
 (0 : Nat))
 (0 : Int),
 x.getD
 ((IntKind.i64.wrap
 (IntKind.i64.wrap (i * (8 : Int)) +
 (4 : Int))).toNat +
 (0 : Nat))
 (0 : Int),
 x.getD
 ((IntKind.i64.wrap
 (IntKind.i64.wrap (i * (8 : Int)) +
 (5 : Int))).toNat +
 (0 : Nat))
 (0 : Int),
 x.getD
 ((IntKind.i64.wrap
 (IntKind.i64.wrap (i * (8 : Int)) +
 (6 : Int))).toNat +
 (0 : Nat))
 (0 : Int),
 x.getD
 ((IntKind.i64.wrap
 (IntKind.i64.wrap (i * (8 : Int)) +
 (7 : Int))).toNat +
 (0 : Nat))
 (0 : Int)]]]).length ≤
 (140737488355328 : Nat)) then
 K Ex.normal
 [AV.one (SV.data (Row.ints IntKind.i64 x)),
 AV.one (SV.ptr (0 : Nat) (1 : Nat) (0 : Nat) (0 : Nat)),
 AV.one (SV.own (1 : Nat) (11 : Nat)),
 AV.one
 (SV.int IntKind.i64 (IntKind.i64.wrap (i + (1 : Int))))]
 [Blk.cells [SV.int IntKind.i64 ch, SV.int IntKind.i64 c],
 Blk.row (37 : Nat)
 (Row.mat IntKind.i64 (11 : Nat)
 (rows ++
 [[IntKind.i64.wrap (c + i), ch,
 x.getD
 ((IntKind.i64.wrap
 (IntKind.i64.wrap (i * (8 : Int)) +
 (0 : Int))).toNat +
 (0 : Nat))
 (0 : Int),
 x.getD
 ((IntKind.i64.wrap
 (IntKind.i64.wrap (i * (8 : Int)) +
 (1 : Int))).toNat +
 (0 : Nat))
 (0 : Int),
 x.getD
 ((IntKind.i64.wrap
 (IntKind.i64.wrap (i * (8 : Int)) +
 (2 : Int))).toNat +
 (0 : Nat))
 (0 : Int),
 x.getD
 ((IntKind.i64.wrap
 (IntKind.i64.wrap (i * (8 : Int)) +
 (3 : Int))).toNat +
 (0 : Nat))
 (0 : Int),
 x.getD
 ((IntKind.i64.wrap
 (IntKind.i64.wrap (i * (8 : Int)) +
 (4 : Int))).toNat +
 (0 : Nat))
 (0 : Int),
 x.getD
 ((IntKind.i64.wrap
 (IntKind.i64.wrap (i * (8 : Int)) +
 (5 : Int))).toNat +
 (0 : Nat))
 (0 : Int),
 x.getD
 ((IntKind.i64.wrap
 (IntKind.i64.wrap (i * (8 : Int)) +
 (6 : Int))).toNat +
 (0 : Nat))
 (0 : Int),
 x.getD
 ((IntKind.i64.wrap
 (IntKind.i64.wrap (i * (8 : Int)) +
 (7 : Int))).toNat +
 (0 : Nat))
 (0 : Int),
 sumG (IntKind.i64.wrap (c + i)) ch
 [x.getD
 ((IntKind.i64.wrap
 (IntKind.i64.wrap (i * (8 : Int)) +
 (0 : Int))).toNat +
 (0 : Nat))
 (0 : Int),
 x.getD
 ((IntKind.i64.wrap
 (IntKind.i64.wrap (i * (8 : Int)) +
 (1 : Int))).toNat +
 (0 : Nat))
 (0 : Int),
 x.getD
 ((IntKind.i64.wrap
 (IntKind.i64.wrap (i * (8 : Int)) +
 (2 : Int))).toNat +
 (0 : Nat))
 (0 : Int),
 x.getD
 ((IntKind.i64.wrap
 (IntKind.i64.wrap (i * (8 : Int)) +
 (3 : Int))).toNat +
 (0 : Nat))
 (0 : Int),
 x.getD
 ((IntKind.i64.wrap
 (IntKind.i64.wrap (i * (8 : Int)) +
 (4 : Int))).toNat +
 (0 : Nat))
 (0 : Int),
 x.getD
 ((IntKind.i64.wrap
 (IntKind.i64.wrap (i * (8 : Int)) +
 (5 : Int))).toNat +
 (0 : Nat))
 (0 : Int),
 x.getD
 ((IntKind.i64.wrap
 (IntKind.i64.wrap (i * (8 : Int)) +
 (6 : Int))).toNat +
 (0 : Nat))
 (0 : Int),
 x.getD
 ((IntKind.i64.wrap
 (IntKind.i64.wrap (i * (8 : Int)) +
 (7 : Int))).toNat +
 (0 : Nat))
 (0 : Int)]]]))]
 else False
 else False
 else False
 else
 contentG (IntKind.i64.wrap (c + i)) ch
 [x.getD
 ((IntKind.i64.wrap
 (IntKind.i64.wrap (i * (8 : Int)) + (0 : Int))).toNat +
 (0 : Nat))
 (0 : Int),
 x.getD
 ((IntKind.i64.wrap
 (IntKind.i64.wrap (i * (8 : Int)) + (1 : Int))).toNat +
 (0 : Nat))
 (0 : Int),
 x.getD
 ((IntKind.i64.wrap
 (IntKind.i64.wrap (i * (8 : Int)) + (2 : Int))).toNat +
 (0 : Nat))
 (0 : Int),
 x.getD
 ((IntKind.i64.wrap
 (IntKind.i64.wrap (i * (8 : Int)) + (3 : Int))).toNat +
 (0 : Nat))
 (0 : Int),
 x.getD
 ((IntKind.i64.wrap
 (IntKind.i64.wrap (i * (8 : Int)) + (4 : Int))).toNat +
 (0 : Nat))
 (0 : Int),
 x.getD
 ((IntKind.i64.wrap
 (IntKind.i64.wrap (i * (8 : Int)) + (5 : Int))).toNat +
 (0 : Nat))
 (0 : Int),
 x.getD
 ((IntKind.i64.wrap
 (IntKind.i64.wrap (i * (8 : Int)) + (6 : Int))).toNat +
 (0 : Nat))
 (0 : Int),
 (0 : Int)] =
 true ∧
 bif
 decide
 ((rows ++
 [[IntKind.i64.wrap (c + i), ch,
 x.getD
 ((IntKind.i64.wrap
 (IntKind.i64.wrap (i * (8 : Int)) +
 (0 : Int))).toNat +
 (0 : Nat))
 (0 : Int),
 x.getD
 ((IntKind.i64.wrap
 (IntKind.i64.wrap (i * (8 : Int)) +
 (1 : Int))).toNat +
 (0 : Nat))
 (0 : Int),
 x.getD
 ((IntKind.i64.wrap
 (IntKind.i64.wrap (i * (8 : Int)) +
 (2 : Int))).toNat +
 (0 : Nat))
 (0 : Int),
 x.getD
 ((IntKind.i64.wrap
 (IntKind.i64.wrap (i * (8 : Int)) +
 (3 : Int))).toNat +
 (0 : Nat))
 (0 : Int),
 x.getD
 ((IntKind.i64.wrap
 (IntKind.i64.wrap (i * (8 : Int)) +
 (4 : Int))).toNat +
 (0 : Nat))
 (0 : Int),
 x.getD
 ((IntKind.i64.wrap
 (IntKind.i64.wrap (i * (8 : Int)) +
 (5 : Int))).toNat +
 (0 : Nat))
 (0 : Int),
 x.getD
 ((IntKind.i64.wrap
 (IntKind.i64.wrap (i * (8 : Int)) +
 (6 : Int))).toNat +
 (0 : Nat))
 (0 : Int),
 (0 : Int),
 sumG (IntKind.i64.wrap (c + i)) ch
 [x.getD
 ((IntKind.i64.wrap
 (IntKind.i64.wrap (i * (8 : Int)) +
 (0 : Int))).toNat +
 (0 : Nat))
 (0 : Int),
 x.getD
 ((IntKind.i64.wrap
 (IntKind.i64.wrap (i * (8 : Int)) +
 (1 : Int))).toNat +
 (0 : Nat))
 (0 : Int),
 x.getD
 ((IntKind.i64.wrap
 (IntKind.i64.wrap (i * (8 : Int)) +
 (2 : Int))).toNat +
 (0 : Nat))
 (0 : Int),
 x.getD
 ((IntKind.i64.wrap
 (IntKind.i64.wrap (i * (8 : Int)) +
 (3 : Int))).toNat +
 (0 : Nat))
 (0 : Int),
 x.getD
 ((IntKind.i64.wrap
 (IntKind.i64.wrap (i * (8 : Int)) +
 (4 : Int))).toNat +
 (0 : Nat))
 (0 : Int),
 x.getD
 ((IntKind.i64.wrap
 (IntKind.i64.wrap (i * (8 : Int)) +
 (5 : Int))).toNat +
 (0 : Nat))
 (0 : Int),
 x.getD
 ((IntKind.i64.wrap
 (IntKind.i64.wrap (i * (8 : Int)) +
 (6 : Int))).toNat +
 (0 : Nat))
 (0 : Int),
 (0 : Int)]]]).length *
 (88 : Nat) ≤
 (140737488355328 : Nat) ∧
 (rows ++
 [[IntKind.i64.wrap (c + i), ch,
 x.getD
 ((IntKind.i64.wrap
 (IntKind.i64.wrap (i * (8 : Int)) +
 (0 : Int))).toNat +
 (0 : Nat))
 (0 : Int),
 x.getD
 ((IntKind.i64.wrap
 (IntKind.i64.wrap (i * (8 : Int)) +
 (1 : Int))).toNat +
 (0 : Nat))
 (0 : Int),
 x.getD
 ((IntKind.i64.wrap
 (IntKind.i64.wrap (i * (8 : Int)) +
 (2 : Int))).toNat +
 (0 : Nat))
 (0 : Int),
 x.getD
 ((IntKind.i64.wrap
 (IntKind.i64.wrap (i * (8 : Int)) +
 (3 : Int))).toNat +
 (0 : Nat))
 (0 : Int),
 x.getD
 ((IntKind.i64.wrap
 (IntKind.i64.wrap (i * (8 : Int)) +
 (4 : Int))).toNat +
 (0 : Nat))
 (0 : Int),
 x.getD
 ((IntKind.i64.wrap
 (IntKind.i64.wrap (i * (8 : Int)) +
 (5 : Int))).toNat +
 (0 : Nat))
 (0 : Int),
 x.getD
 ((IntKind.i64.wrap
 (IntKind.i64.wrap (i * (8 : Int)) +
 (6 : Int))).toNat +
 (0 : Nat))
 (0 : Int),
 (0 : Int),
 sumG (IntKind.i64.wrap (c + i)) ch
 [x.getD
 ((IntKind.i64.wrap
 (IntKind.i64.wrap (i * (8 : Int)) +
 (0 : Int))).toNat +
 (0 : Nat))
 (0 : Int),
 x.getD
 ((IntKind.i64.wrap
 (IntKind.i64.wrap (i * (8 : Int)) +
 (1 : Int))).toNat +
 (0 : Nat))
 (0 : Int),
 x.getD
 ((IntKind.i64.wrap
 (IntKind.i64.wrap (i * (8 : Int)) +
 (2 : Int))).toNat +
 (0 : Nat))
 (0 : Int),
 x.getD
 ((IntKind.i64.wrap
 (IntKind.i64.wrap (i * (8 : Int)) +
 (3 : Int))).toNat +
 (0 : Nat))
 (0 : Int),
 x.getD
 ((IntKind.i64.wrap
 (IntKind.i64.wrap (i * (8 : Int)) +
 (4 : Int))).toNat +
 (0 : Nat))
 (0 : Int),
 x.getD
 ((IntKind.i64.wrap
 (IntKind.i64.wrap (i * (8 : Int)) +
 (5 : Int))).toNat +
 (0 : Nat))
 (0 : Int),
 x.getD
 ((IntKind.i64.wrap
 (IntKind.i64.wrap (i * (8 : Int)) +
 (6 : Int))).toNat +
 (0 : Nat))
 (0 : Int),
 (0 : Int)]]]).length ≤
 (140737488355328 : Nat)) then
 K Ex.normal
 [AV.one (SV.data (Row.ints IntKind.i64 x)),
 AV.one (SV.ptr (0 : Nat) (1 : Nat) (0 : Nat) (0 : Nat)),
 AV.one (SV.own (1 : Nat) (11 : Nat)),
 AV.one (SV.int IntKind.i64 (IntKind.i64.wrap (i + (1 : Int))))]
 [Blk.cells [SV.int IntKind.i64 ch, SV.int IntKind.i64 c],
 Blk.row (37 : Nat)
 (Row.mat IntKind.i64 (11 : Nat)
 (rows ++
 [[IntKind.i64.wrap (c + i), ch,
 x.getD
 ((IntKind.i64.wrap
 (IntKind.i64.wrap (i * (8 : Int)) +
 (0 : Int))).toNat +
 (0 : Nat))
 (0 : Int),
 x.getD
 ((IntKind.i64.wrap
 (IntKind.i64.wrap (i * (8 : Int)) +
 (1 : Int))).toNat +
 (0 : Nat))
 (0 : Int),
 x.getD
 ((IntKind.i64.wrap
 (IntKind.i64.wrap (i * (8 : Int)) +
 (2 : Int))).toNat +
 (0 : Nat))
 (0 : Int),
 x.getD
 ((IntKind.i64.wrap
 (IntKind.i64.wrap (i * (8 : Int)) +
 (3 : Int))).toNat +
 (0 : Nat))
 (0 : Int),
 x.getD
 ((IntKind.i64.wrap
 (IntKind.i64.wrap (i * (8 : Int)) +
 (4 : Int))).toNat +
 (0 : Nat))
 (0 : Int),
 x.getD
 ((IntKind.i64.wrap
 (IntKind.i64.wrap (i * (8 : Int)) +
 (5 : Int))).toNat +
 (0 : Nat))
 (0 : Int),
 x.getD
 ((IntKind.i64.wrap
 (IntKind.i64.wrap (i * (8 : Int)) +
 (6 : Int))).toNat +
 (0 : Nat))
 (0 : Int),
 (0 : Int),
 sumG (IntKind.i64.wrap (c + i)) ch
 [x.getD
 ((IntKind.i64.wrap
 (IntKind.i64.wrap (i * (8 : Int)) +
 (0 : Int))).toNat +
 (0 : Nat))
 (0 : Int),
 x.getD
 ((IntKind.i64.wrap
 (IntKind.i64.wrap (i * (8 : Int)) +
 (1 : Int))).toNat +
 (0 : Nat))
 (0 : Int),
 x.getD
 ((IntKind.i64.wrap
 (IntKind.i64.wrap (i * (8 : Int)) +
 (2 : Int))).toNat +
 (0 : Nat))
 (0 : Int),
 x.getD
 ((IntKind.i64.wrap
 (IntKind.i64.wrap (i * (8 : Int)) +
 (3 : Int))).toNat +
 (0 : Nat))
 (0 : Int),
 x.getD
 ((IntKind.i64.wrap
 (IntKind.i64.wrap (i * (8 : Int)) +
 (4 : Int))).toNat +
 (0 : Nat))
 (0 : Int),
 x.getD
 ((IntKind.i64.wrap
 (IntKind.i64.wrap (i * (8 : Int)) +
 (5 : Int))).toNat +
 (0 : Nat))
 (0 : Int),
 x.getD
 ((IntKind.i64.wrap
 (IntKind.i64.wrap (i * (8 : Int)) +
 (6 : Int))).toNat +
 (0 : Nat))
 (0 : Int),
 (0 : Int)]]]))]
 else False
 else False
 else False
 else
 contentG (IntKind.i64.wrap (c + i)) ch
 [x.getD
 ((IntKind.i64.wrap
 (IntKind.i64.wrap (i * (8 : Int)) + (0 : Int))).toNat +
 (0 : Nat))
 (0 : Int),
 x.getD
 ((IntKind.i64.wrap
 (IntKind.i64.wrap (i * (8 : Int)) + (1 : Int))).toNat +
 (0 : Nat))
 (0 : Int),
 x.getD
 ((IntKind.i64.wrap
 (IntKind.i64.wrap (i * (8 : Int)) + (2 : Int))).toNat +
 (0 : Nat))
 (0 : Int),
 x.getD
 ((IntKind.i64.wrap
 (IntKind.i64.wrap (i * (8 : Int)) + (3 : Int))).toNat +
 (0 : Nat))
 (0 : Int),
 x.getD
 ((IntKind.i64.wrap
 (IntKind.i64.wrap (i * (8 : Int)) + (4 : Int))).toNat +
 (0 : Nat))
 (0 : Int),
 x.getD
 ((IntKind.i64.wrap
 (IntKind.i64.wrap (i * (8 : Int)) + (5 : Int))).toNat +
 (0 : Nat))
 (0 : Int),
 (0 : Int), (0 : Int)] =
 true ∧
 bif
 decide
 ((rows ++
 [[IntKind.i64.wrap (c + i), ch,
 x.getD
 ((IntKind.i64.wrap
 (IntKind.i64.wrap (i * (8 : Int)) +
 (0 : Int))).toNat +
 (0 : Nat))
 (0 : Int),
 x.getD
 ((IntKind.i64.wrap
 (IntKind.i64.wrap (i * (8 : Int)) +
 (1 : Int))).toNat +
 (0 : Nat))
 (0 : Int),
 x.getD
 ((IntKind.i64.wrap
 (IntKind.i64.wrap (i * (8 : Int)) +
 (2 : Int))).toNat +
 (0 : Nat))
 (0 : Int),
 x.getD
 ((IntKind.i64.wrap
 (IntKind.i64.wrap (i * (8 : Int)) +
 (3 : Int))).toNat +
 (0 : Nat))
 (0 : Int),
 x.getD
 ((IntKind.i64.wrap
 (IntKind.i64.wrap (i * (8 : Int)) +
 (4 : Int))).toNat +
 (0 : Nat))
 (0 : Int),
 x.getD
 ((IntKind.i64.wrap
 (IntKind.i64.wrap (i * (8 : Int)) +
 (5 : Int))).toNat +
 (0 : Nat))
 (0 : Int),
 (0 : Int), (0 : Int),
 sumG (IntKind.i64.wrap (c + i)) ch
 [x.getD
 ((IntKind.i64.wrap
 (IntKind.i64.wrap (i * (8 : Int)) +
 (0 : Int))).toNat +
 (0 : Nat))
 (0 : Int),
 x.getD
 ((IntKind.i64.wrap
 (IntKind.i64.wrap (i * (8 : Int)) +
 (1 : Int))).toNat +
 (0 : Nat))
 (0 : Int),
 x.getD
 ((IntKind.i64.wrap
 (IntKind.i64.wrap (i * (8 : Int)) +
 (2 : Int))).toNat +
 (0 : Nat))
 (0 : Int),
 x.getD
 ((IntKind.i64.wrap
 (IntKind.i64.wrap (i * (8 : Int)) +
 (3 : Int))).toNat +
 (0 : Nat))
 (0 : Int),
 x.getD
 ((IntKind.i64.wrap
 (IntKind.i64.wrap (i * (8 : Int)) +
 (4 : Int))).toNat +
 (0 : Nat))
 (0 : Int),
 x.getD
 ((IntKind.i64.wrap
 (IntKind.i64.wrap (i * (8 : Int)) +
 (5 : Int))).toNat +
 (0 : Nat))
 (0 : Int),
 (0 : Int), (0 : Int)]]]).length *
 (88 : Nat) ≤
 (140737488355328 : Nat) ∧
 (rows ++
 [[IntKind.i64.wrap (c + i), ch,
 x.getD
 ((IntKind.i64.wrap
 (IntKind.i64.wrap (i * (8 : Int)) +
 (0 : Int))).toNat +
 (0 : Nat))
 (0 : Int),
 x.getD
 ((IntKind.i64.wrap
 (IntKind.i64.wrap (i * (8 : Int)) +
 (1 : Int))).toNat +
 (0 : Nat))
 (0 : Int),
 x.getD
 ((IntKind.i64.wrap
 (IntKind.i64.wrap (i * (8 : Int)) +
 (2 : Int))).toNat +
 (0 : Nat))
 (0 : Int),
 x.getD
 ((IntKind.i64.wrap
 (IntKind.i64.wrap (i * (8 : Int)) +
 (3 : Int))).toNat +
 (0 : Nat))
 (0 : Int),
 x.getD
 ((IntKind.i64.wrap
 (IntKind.i64.wrap (i * (8 : Int)) +
 (4 : Int))).toNat +
 (0 : Nat))
 (0 : Int),
 x.getD
 ((IntKind.i64.wrap
 (IntKind.i64.wrap (i * (8 : Int)) +
 (5 : Int))).toNat +
 (0 : Nat))
 (0 : Int),
 (0 : Int), (0 : Int),
 sumG (IntKind.i64.wrap (c + i)) ch
 [x.getD
 ((IntKind.i64.wrap
 (IntKind.i64.wrap (i * (8 : Int)) +
 (0 : Int))).toNat +
 (0 : Nat))
 (0 : Int),
 x.getD
 ((IntKind.i64.wrap
 (IntKind.i64.wrap (i * (8 : Int)) +
 (1 : Int))).toNat +
 (0 : Nat))
 (0 : Int),
 x.getD
 ((IntKind.i64.wrap
 (IntKind.i64.wrap (i * (8 : Int)) +
 (2 : Int))).toNat +
 (0 : Nat))
 (0 : Int),
 x.getD
 ((IntKind.i64.wrap
 (IntKind.i64.wrap (i * (8 : Int)) +
 (3 : Int))).toNat +
 (0 : Nat))
 (0 : Int),
 x.getD
 ((IntKind.i64.wrap
 (IntKind.i64.wrap (i * (8 : Int)) +
 (4 : Int))).toNat +
 (0 : Nat))
 (0 : Int),
 x.getD
 ((IntKind.i64.wrap
 (IntKind.i64.wrap (i * (8 : Int)) +
 (5 : Int))).toNat +
 (0 : Nat))
 (0 : Int),
 (0 : Int), (0 : Int)]]]).length ≤
 (140737488355328 : Nat)) then
 K Ex.normal
 [AV.one (SV.data (Row.ints IntKind.i64 x)),
 AV.one (SV.ptr (0 : Nat) (1 : Nat) (0 : Nat) (0 : Nat)),
 AV.one (SV.own (1 : Nat) (11 : Nat)),
 AV.one (SV.int IntKind.i64 (IntKind.i64.wrap (i + (1 : Int))))]
 [Blk.cells [SV.int IntKind.i64 ch, SV.int IntKind.i64 c],
 Blk.row (37 : Nat)
 (Row.mat IntKind.i64 (11 : Nat)
 (rows ++
 [[IntKind.i64.wrap (c + i), ch,
 x.getD
 ((IntKind.i64.wrap
 (IntKind.i64.wrap (i * (8 : Int)) +
 (0 : Int))).toNat +
 (0 : Nat))
 (0 : Int),
 x.getD
 ((IntKind.i64.wrap
 (IntKind.i64.wrap (i * (8 : Int)) +
 (1 : Int))).toNat +
 (0 : Nat))
 (0 : Int),
 x.getD
 ((IntKind.i64.wrap
 (IntKind.i64.wrap (i * (8 : Int)) +
 (2 : Int))).toNat +
 (0 : Nat))
 (0 : Int),
 x.getD
 ((IntKind.i64.wrap
 (IntKind.i64.wrap (i * (8 : Int)) +
 (3 : Int))).toNat +
 (0 : Nat))
 (0 : Int),
 x.getD
 ((IntKind.i64.wrap
 (IntKind.i64.wrap (i * (8 : Int)) +
 (4 : Int))).toNat +
 (0 : Nat))
 (0 : Int),
 x.getD
 ((IntKind.i64.wrap
 (IntKind.i64.wrap (i * (8 : Int)) +
 (5 : Int))).toNat +
 (0 : Nat))
 (0 : Int),
 (0 : Int), (0 : Int),
 sumG (IntKind.i64.wrap (c + i)) ch
 [x.getD
 ((IntKind.i64.wrap
 (IntKind.i64.wrap (i * (8 : Int)) +
 (0 : Int))).toNat +
 (0 : Nat))
 (0 : Int),
 x.getD
 ((IntKind.i64.wrap
 (IntKind.i64.wrap (i * (8 : Int)) +
 (1 : Int))).toNat +
 (0 : Nat))
 (0 : Int),
 x.getD
 ((IntKind.i64.wrap
 (IntKind.i64.wrap (i * (8 : Int)) +
 (2 : Int))).toNat +
 (0 : Nat))
 (0 : Int),
 x.getD
 ((IntKind.i64.wrap
 (IntKind.i64.wrap (i * (8 : Int)) +
 (3 : Int))).toNat +
 (0 : Nat))
 (0 : Int),
 x.getD
 ((IntKind.i64.wrap
 (IntKind.i64.wrap (i * (8 : Int)) +
 (4 : Int))).toNat +
 (0 : Nat))
 (0 : Int),
 x.getD
 ((IntKind.i64.wrap
 (IntKind.i64.wrap (i * (8 : Int)) +
 (5 : Int))).toNat +
 (0 : Nat))
 (0 : Int),
 (0 : Int), (0 : Int)]]]))]
 else False
 else False
 else False
 else
 contentG (IntKind.i64.wrap (c + i)) ch
 [x.getD
 ((IntKind.i64.wrap (IntKind.i64.wrap (i * (8 : Int)) + (0 : Int))).toNat +
 (0 : Nat))
 (0 : Int),
 x.getD
 ((IntKind.i64.wrap (IntKind.i64.wrap (i * (8 : Int)) + (1 : Int))).toNat +
 (0 : Nat))
 (0 : Int),
 x.getD
 ((IntKind.i64.wrap (IntKind.i64.wrap (i * (8 : Int)) + (2 : Int))).toNat +
 (0 : Nat))
 (0 : Int),
 x.getD
 ((IntKind.i64.wrap (IntKind.i64.wrap (i * (8 : Int)) + (3 : Int))).toNat +
 (0 : Nat))
 (0 : Int),
 x.getD
 ((IntKind.i64.wrap (IntKind.i64.wrap (i * (8 : Int)) + (4 : Int))).toNat +
 (0 : Nat))
 (0 : Int),
 (0 : Int), (0 : Int), (0 : Int)] =
 true ∧
 bif
 decide
 ((rows ++
 [[IntKind.i64.wrap (c + i), ch,
 x.getD
 ((IntKind.i64.wrap
 (IntKind.i64.wrap (i * (8 : Int)) +
 (0 : Int))).toNat +
 (0 : Nat))
 (0 : Int),
 x.getD
 ((IntKind.i64.wrap
 (IntKind.i64.wrap (i * (8 : Int)) +
 (1 : Int))).toNat +
 (0 : Nat))
 (0 : Int),
 x.getD
 ((IntKind.i64.wrap
 (IntKind.i64.wrap (i * (8 : Int)) +
 (2 : Int))).toNat +
 (0 : Nat))
 (0 : Int),
 x.getD
 ((IntKind.i64.wrap
 (IntKind.i64.wrap (i * (8 : Int)) +
 (3 : Int))).toNat +
 (0 : Nat))
 (0 : Int),
 x.getD
 ((IntKind.i64.wrap
 (IntKind.i64.wrap (i * (8 : Int)) +
 (4 : Int))).toNat +
 (0 : Nat))
 (0 : Int),
 (0 : Int), (0 : Int), (0 : Int),
 sumG (IntKind.i64.wrap (c + i)) ch
 [x.getD
 ((IntKind.i64.wrap
 (IntKind.i64.wrap (i * (8 : Int)) +
 (0 : Int))).toNat +
 (0 : Nat))
 (0 : Int),
 x.getD
 ((IntKind.i64.wrap
 (IntKind.i64.wrap (i * (8 : Int)) +
 (1 : Int))).toNat +
 (0 : Nat))
 (0 : Int),
 x.getD
 ((IntKind.i64.wrap
 (IntKind.i64.wrap (i * (8 : Int)) +
 (2 : Int))).toNat +
 (0 : Nat))
 (0 : Int),
 x.getD
 ((IntKind.i64.wrap
 (IntKind.i64.wrap (i * (8 : Int)) +
 (3 : Int))).toNat +
 (0 : Nat))
 (0 : Int),
 x.getD
 ((IntKind.i64.wrap
 (IntKind.i64.wrap (i * (8 : Int)) +
 (4 : Int))).toNat +
 (0 : Nat))
 (0 : Int),
 (0 : Int), (0 : Int), (0 : Int)]]]).length *
 (88 : Nat) ≤
 (140737488355328 : Nat) ∧
 (rows ++
 [[IntKind.i64.wrap (c + i), ch,
 x.getD
 ((IntKind.i64.wrap
 (IntKind.i64.wrap (i * (8 : Int)) + (0 : Int))).toNat +
 (0 : Nat))
 (0 : Int),
 x.getD
 ((IntKind.i64.wrap
 (IntKind.i64.wrap (i * (8 : Int)) + (1 : Int))).toNat +
 (0 : Nat))
 (0 : Int),
 x.getD
 ((IntKind.i64.wrap
 (IntKind.i64.wrap (i * (8 : Int)) + (2 : Int))).toNat +
 (0 : Nat))
 (0 : Int),
 x.getD
 ((IntKind.i64.wrap
 (IntKind.i64.wrap (i * (8 : Int)) + (3 : Int))).toNat +
 (0 : Nat))
 (0 : Int),
 x.getD
 ((IntKind.i64.wrap
 (IntKind.i64.wrap (i * (8 : Int)) + (4 : Int))).toNat +
 (0 : Nat))
 (0 : Int),
 (0 : Int), (0 : Int), (0 : Int),
 sumG (IntKind.i64.wrap (c + i)) ch
 [x.getD
 ((IntKind.i64.wrap
 (IntKind.i64.wrap (i * (8 : Int)) +
 (0 : Int))).toNat +
 (0 : Nat))
 (0 : Int),
 x.getD
 ((IntKind.i64.wrap
 (IntKind.i64.wrap (i * (8 : Int)) +
 (1 : Int))).toNat +
 (0 : Nat))
 (0 : Int),
 x.getD
 ((IntKind.i64.wrap
 (IntKind.i64.wrap (i * (8 : Int)) +
 (2 : Int))).toNat +
 (0 : Nat))
 (0 : Int),
 x.getD
 ((IntKind.i64.wrap
 (IntKind.i64.wrap (i * (8 : Int)) +
 (3 : Int))).toNat +
 (0 : Nat))
 (0 : Int),
 x.getD
 ((IntKind.i64.wrap
 (IntKind.i64.wrap (i * (8 : Int)) +
 (4 : Int))).toNat +
 (0 : Nat))
 (0 : Int),
 (0 : Int), (0 : Int), (0 : Int)]]]).length ≤
 (140737488355328 : Nat)) then
 K Ex.normal
 [AV.one (SV.data (Row.ints IntKind.i64 x)),
 AV.one (SV.ptr (0 : Nat) (1 : Nat) (0 : Nat) (0 : Nat)),
 AV.one (SV.own (1 : Nat) (11 : Nat)),
 AV.one (SV.int IntKind.i64 (IntKind.i64.wrap (i + (1 : Int))))]
 [Blk.cells [SV.int IntKind.i64 ch, SV.int IntKind.i64 c],
 Blk.row (37 : Nat)
 (Row.mat IntKind.i64 (11 : Nat)
 (rows ++
 [[IntKind.i64.wrap (c + i), ch,
 x.getD
 ((IntKind.i64.wrap
 (IntKind.i64.wrap (i * (8 : Int)) + (0 : Int))).toNat +
 (0 : Nat))
 (0 : Int),
 x.getD
 ((IntKind.i64.wrap
 (IntKind.i64.wrap (i * (8 : Int)) + (1 : Int))).toNat +
 (0 : Nat))
 (0 : Int),
 x.getD
 ((IntKind.i64.wrap
 (IntKind.i64.wrap (i * (8 : Int)) + (2 : Int))).toNat +
 (0 : Nat))
 (0 : Int),
 x.getD
 ((IntKind.i64.wrap
 (IntKind.i64.wrap (i * (8 : Int)) + (3 : Int))).toNat +
 (0 : Nat))
 (0 : Int),
 x.getD
 ((IntKind.i64.wrap
 (IntKind.i64.wrap (i * (8 : Int)) + (4 : Int))).toNat +
 (0 : Nat))
 (0 : Int),
 (0 : Int), (0 : Int), (0 : Int),
 sumG (IntKind.i64.wrap (c + i)) ch
 [x.getD
 ((IntKind.i64.wrap
 (IntKind.i64.wrap (i * (8 : Int)) +
 (0 : Int))).toNat +
 (0 : Nat))
 (0 : Int),
 x.getD
 ((IntKind.i64.wrap
 (IntKind.i64.wrap (i * (8 : Int)) +
 (1 : Int))).toNat +
 (0 : Nat))
 (0 : Int),
 x.getD
 ((IntKind.i64.wrap
 (IntKind.i64.wrap (i * (8 : Int)) +
 (2 : Int))).toNat +
 (0 : Nat))
 (0 : Int),
 x.getD
 ((IntKind.i64.wrap
 (IntKind.i64.wrap (i * (8 : Int)) +
 (3 : Int))).toNat +
 (0 : Nat))
 (0 : Int),
 x.getD
 ((IntKind.i64.wrap
 (IntKind.i64.wrap (i * (8 : Int)) +
 (4 : Int))).toNat +
 (0 : Nat))
 (0 : Int),
 (0 : Int), (0 : Int), (0 : Int)]]]))]
 else False
 else False
 else False
 else
 contentG (IntKind.i64.wrap (c + i)) ch
 [x.getD
 ((IntKind.i64.wrap (IntKind.i64.wrap (i * (8 : Int)) + (0 : Int))).toNat +
 (0 : Nat))
 (0 : Int),
 x.getD
 ((IntKind.i64.wrap (IntKind.i64.wrap (i * (8 : Int)) + (1 : Int))).toNat +
 (0 : Nat))
 (0 : Int),
 x.getD
 ((IntKind.i64.wrap (IntKind.i64.wrap (i * (8 : Int)) + (2 : Int))).toNat +
 (0 : Nat))
 (0 : Int),
 x.getD
 ((IntKind.i64.wrap (IntKind.i64.wrap (i * (8 : Int)) + (3 : Int))).toNat +
 (0 : Nat))
 (0 : Int),
 (0 : Int), (0 : Int), (0 : Int), (0 : Int)] =
 true ∧
 bif
 decide
 ((rows ++
 [[IntKind.i64.wrap (c + i), ch,
 x.getD
 ((IntKind.i64.wrap
 (IntKind.i64.wrap (i * (8 : Int)) + (0 : Int))).toNat +
 (0 : Nat))
 (0 : Int),
 x.getD
 ((IntKind.i64.wrap
 (IntKind.i64.wrap (i * (8 : Int)) + (1 : Int))).toNat +
 (0 : Nat))
 (0 : Int),
 x.getD
 ((IntKind.i64.wrap
 (IntKind.i64.wrap (i * (8 : Int)) + (2 : Int))).toNat +
 (0 : Nat))
 (0 : Int),
 x.getD
 ((IntKind.i64.wrap
 (IntKind.i64.wrap (i * (8 : Int)) + (3 : Int))).toNat +
 (0 : Nat))
 (0 : Int),
 (0 : Int), (0 : Int), (0 : Int), (0 : Int),
 sumG (IntKind.i64.wrap (c + i)) ch
 [x.getD
 ((IntKind.i64.wrap
 (IntKind.i64.wrap (i * (8 : Int)) + (0 : Int))).toNat +
 (0 : Nat))
 (0 : Int),
 x.getD
 ((IntKind.i64.wrap
 (IntKind.i64.wrap (i * (8 : Int)) + (1 : Int))).toNat +
 (0 : Nat))
 (0 : Int),
 x.getD
 ((IntKind.i64.wrap
 (IntKind.i64.wrap (i * (8 : Int)) + (2 : Int))).toNat +
 (0 : Nat))
 (0 : Int),
 x.getD
 ((IntKind.i64.wrap
 (IntKind.i64.wrap (i * (8 : Int)) + (3 : Int))).toNat +
 (0 : Nat))
 (0 : Int),
 (0 : Int), (0 : Int), (0 : Int), (0 : Int)]]]).length *
 (88 : Nat) ≤
 (140737488355328 : Nat) ∧
 (rows ++
 [[IntKind.i64.wrap (c + i), ch,
 x.getD
 ((IntKind.i64.wrap
 (IntKind.i64.wrap (i * (8 : Int)) + (0 : Int))).toNat +
 (0 : Nat))
 (0 : Int),
 x.getD
 ((IntKind.i64.wrap
 (IntKind.i64.wrap (i * (8 : Int)) + (1 : Int))).toNat +
 (0 : Nat))
 (0 : Int),
 x.getD
 ((IntKind.i64.wrap
 (IntKind.i64.wrap (i * (8 : Int)) + (2 : Int))).toNat +
 (0 : Nat))
 (0 : Int),
 x.getD
 ((IntKind.i64.wrap
 (IntKind.i64.wrap (i * (8 : Int)) + (3 : Int))).toNat +
 (0 : Nat))
 (0 : Int),
 (0 : Int), (0 : Int), (0 : Int), (0 : Int),
 sumG (IntKind.i64.wrap (c + i)) ch
 [x.getD
 ((IntKind.i64.wrap
 (IntKind.i64.wrap (i * (8 : Int)) + (0 : Int))).toNat +
 (0 : Nat))
 (0 : Int),
 x.getD
 ((IntKind.i64.wrap
 (IntKind.i64.wrap (i * (8 : Int)) + (1 : Int))).toNat +
 (0 : Nat))
 (0 : Int),
 x.getD
 ((IntKind.i64.wrap
 (IntKind.i64.wrap (i * (8 : Int)) + (2 : Int))).toNat +
 (0 : Nat))
 (0 : Int),
 x.getD
 ((IntKind.i64.wrap
 (IntKind.i64.wrap (i * (8 : Int)) + (3 : Int))).toNat +
 (0 : Nat))
 (0 : Int),
 (0 : Int), (0 : Int), (0 : Int), (0 : Int)]]]).length ≤
 (140737488355328 : Nat)) then
 K Ex.normal
 [AV.one (SV.data (Row.ints IntKind.i64 x)),
 AV.one (SV.ptr (0 : Nat) (1 : Nat) (0 : Nat) (0 : Nat)),
 AV.one (SV.own (1 : Nat) (11 : Nat)),
 AV.one (SV.int IntKind.i64 (IntKind.i64.wrap (i + (1 : Int))))]
 [Blk.cells [SV.int IntKind.i64 ch, SV.int IntKind.i64 c],
 Blk.row (37 : Nat)
 (Row.mat IntKind.i64 (11 : Nat)
 (rows ++
 [[IntKind.i64.wrap (c + i), ch,
 x.getD
 ((IntKind.i64.wrap
 (IntKind.i64.wrap (i * (8 : Int)) + (0 : Int))).toNat +
 (0 : Nat))
 (0 : Int),
 x.getD
 ((IntKind.i64.wrap
 (IntKind.i64.wrap (i * (8 : Int)) + (1 : Int))).toNat +
 (0 : Nat))
 (0 : Int),
 x.getD
 ((IntKind.i64.wrap
 (IntKind.i64.wrap (i * (8 : Int)) + (2 : Int))).toNat +
 (0 : Nat))
 (0 : Int),
 x.getD
 ((IntKind.i64.wrap
 (IntKind.i64.wrap (i * (8 : Int)) + (3 : Int))).toNat +
 (0 : Nat))
 (0 : Int),
 (0 : Int), (0 : Int), (0 : Int), (0 : Int),
 sumG (IntKind.i64.wrap (c + i)) ch
 [x.getD
 ((IntKind.i64.wrap
 (IntKind.i64.wrap (i * (8 : Int)) + (0 : Int))).toNat +
 (0 : Nat))
 (0 : Int),
 x.getD
 ((IntKind.i64.wrap
 (IntKind.i64.wrap (i * (8 : Int)) + (1 : Int))).toNat +
 (0 : Nat))
 (0 : Int),
 x.getD
 ((IntKind.i64.wrap
 (IntKind.i64.wrap (i * (8 : Int)) + (2 : Int))).toNat +
 (0 : Nat))
 (0 : Int),
 x.getD
 ((IntKind.i64.wrap
 (IntKind.i64.wrap (i * (8 : Int)) + (3 : Int))).toNat +
 (0 : Nat))
 (0 : Int),
 (0 : Int), (0 : Int), (0 : Int), (0 : Int)]]]))]
 else False
 else False
 else False
 else
 contentG (IntKind.i64.wrap (c + i)) ch
 [x.getD
 ((IntKind.i64.wrap (IntKind.i64.wrap (i * (8 : Int)) + (0 : Int))).toNat + (0 : Nat))
 (0 : Int),
 x.getD
 ((IntKind.i64.wrap (IntKind.i64.wrap (i * (8 : Int)) + (1 : Int))).toNat + (0 : Nat))
 (0 : Int),
 x.getD
 ((IntKind.i64.wrap (IntKind.i64.wrap (i * (8 : Int)) + (2 : Int))).toNat + (0 : Nat))
 (0 : Int),
 (0 : Int), (0 : Int), (0 : Int), (0 : Int), (0 : Int)] =
 true ∧
 bif
 decide
 ((rows ++
 [[IntKind.i64.wrap (c + i), ch,
 x.getD
 ((IntKind.i64.wrap
 (IntKind.i64.wrap (i * (8 : Int)) + (0 : Int))).toNat +
 (0 : Nat))
 (0 : Int),
 x.getD
 ((IntKind.i64.wrap
 (IntKind.i64.wrap (i * (8 : Int)) + (1 : Int))).toNat +
 (0 : Nat))
 (0 : Int),
 x.getD
 ((IntKind.i64.wrap
 (IntKind.i64.wrap (i * (8 : Int)) + (2 : Int))).toNat +
 (0 : Nat))
 (0 : Int),
 (0 : Int), (0 : Int), (0 : Int), (0 : Int), (0 : Int),
 sumG (IntKind.i64.wrap (c + i)) ch
 [x.getD
 ((IntKind.i64.wrap
 (IntKind.i64.wrap (i * (8 : Int)) + (0 : Int))).toNat +
 (0 : Nat))
 (0 : Int),
 x.getD
 ((IntKind.i64.wrap
 (IntKind.i64.wrap (i * (8 : Int)) + (1 : Int))).toNat +
 (0 : Nat))
 (0 : Int),
 x.getD
 ((IntKind.i64.wrap
 (IntKind.i64.wrap (i * (8 : Int)) + (2 : Int))).toNat +
 (0 : Nat))
 (0 : Int),
 (0 : Int), (0 : Int), (0 : Int), (0 : Int), (0 : Int)]]]).length *
 (88 : Nat) ≤
 (140737488355328 : Nat) ∧
 (rows ++
 [[IntKind.i64.wrap (c + i), ch,
 x.getD
 ((IntKind.i64.wrap (IntKind.i64.wrap (i * (8 : Int)) + (0 : Int))).toNat +
 (0 : Nat))
 (0 : Int),
 x.getD
 ((IntKind.i64.wrap (IntKind.i64.wrap (i * (8 : Int)) + (1 : Int))).toNat +
 (0 : Nat))
 (0 : Int),
 x.getD
 ((IntKind.i64.wrap (IntKind.i64.wrap (i * (8 : Int)) + (2 : Int))).toNat +
 (0 : Nat))
 (0 : Int),
 (0 : Int), (0 : Int), (0 : Int), (0 : Int), (0 : Int),
 sumG (IntKind.i64.wrap (c + i)) ch
 [x.getD
 ((IntKind.i64.wrap
 (IntKind.i64.wrap (i * (8 : Int)) + (0 : Int))).toNat +
 (0 : Nat))
 (0 : Int),
 x.getD
 ((IntKind.i64.wrap
 (IntKind.i64.wrap (i * (8 : Int)) + (1 : Int))).toNat +
 (0 : Nat))
 (0 : Int),
 x.getD
 ((IntKind.i64.wrap
 (IntKind.i64.wrap (i * (8 : Int)) + (2 : Int))).toNat +
 (0 : Nat))
 (0 : Int),
 (0 : Int), (0 : Int), (0 : Int), (0 : Int), (0 : Int)]]]).length ≤
 (140737488355328 : Nat)) then
 K Ex.normal
 [AV.one (SV.data (Row.ints IntKind.i64 x)),
 AV.one (SV.ptr (0 : Nat) (1 : Nat) (0 : Nat) (0 : Nat)),
 AV.one (SV.own (1 : Nat) (11 : Nat)),
 AV.one (SV.int IntKind.i64 (IntKind.i64.wrap (i + (1 : Int))))]
 [Blk.cells [SV.int IntKind.i64 ch, SV.int IntKind.i64 c],
 Blk.row (37 : Nat)
 (Row.mat IntKind.i64 (11 : Nat)
 (rows ++
 [[IntKind.i64.wrap (c + i), ch,
 x.getD
 ((IntKind.i64.wrap (IntKind.i64.wrap (i * (8 : Int)) + (0 : Int))).toNat +
 (0 : Nat))
 (0 : Int),
 x.getD
 ((IntKind.i64.wrap (IntKind.i64.wrap (i * (8 : Int)) + (1 : Int))).toNat +
 (0 : Nat))
 (0 : Int),
 x.getD
 ((IntKind.i64.wrap (IntKind.i64.wrap (i * (8 : Int)) + (2 : Int))).toNat +
 (0 : Nat))
 (0 : Int),
 (0 : Int), (0 : Int), (0 : Int), (0 : Int), (0 : Int),
 sumG (IntKind.i64.wrap (c + i)) ch
 [x.getD
 ((IntKind.i64.wrap
 (IntKind.i64.wrap (i * (8 : Int)) + (0 : Int))).toNat +
 (0 : Nat))
 (0 : Int),
 x.getD
 ((IntKind.i64.wrap
 (IntKind.i64.wrap (i * (8 : Int)) + (1 : Int))).toNat +
 (0 : Nat))
 (0 : Int),
 x.getD
 ((IntKind.i64.wrap
 (IntKind.i64.wrap (i * (8 : Int)) + (2 : Int))).toNat +
 (0 : Nat))
 (0 : Int),
 (0 : Int), (0 : Int), (0 : Int), (0 : Int), (0 : Int)]]]))]
 else False
 else False
 else False
 else
 contentG (IntKind.i64.wrap (c + i)) ch
 [x.getD ((IntKind.i64.wrap (IntKind.i64.wrap (i * (8 : Int)) + (0 : Int))).toNat + (0 : Nat))
 (0 : Int),
 x.getD ((IntKind.i64.wrap (IntKind.i64.wrap (i * (8 : Int)) + (1 : Int))).toNat + (0 : Nat))
 (0 : Int),
 (0 : Int), (0 : Int), (0 : Int), (0 : Int), (0 : Int), (0 : Int)] =
 true ∧
 bif
 decide
 ((rows ++
 [[IntKind.i64.wrap (c + i), ch,
 x.getD
 ((IntKind.i64.wrap (IntKind.i64.wrap (i * (8 : Int)) + (0 : Int))).toNat +
 (0 : Nat))
 (0 : Int),
 x.getD
 ((IntKind.i64.wrap (IntKind.i64.wrap (i * (8 : Int)) + (1 : Int))).toNat +
 (0 : Nat))
 (0 : Int),
 (0 : Int), (0 : Int), (0 : Int), (0 : Int), (0 : Int), (0 : Int),
 sumG (IntKind.i64.wrap (c + i)) ch
 [x.getD
 ((IntKind.i64.wrap (IntKind.i64.wrap (i * (8 : Int)) + (0 : Int))).toNat +
 (0 : Nat))
 (0 : Int),
 x.getD
 ((IntKind.i64.wrap (IntKind.i64.wrap (i * (8 : Int)) + (1 : Int))).toNat +
 (0 : Nat))
 (0 : Int),
 (0 : Int), (0 : Int), (0 : Int), (0 : Int), (0 : Int),
 (0 : Int)]]]).length *
 (88 : Nat) ≤
 (140737488355328 : Nat) ∧
 (rows ++
 [[IntKind.i64.wrap (c + i), ch,
 x.getD
 ((IntKind.i64.wrap (IntKind.i64.wrap (i * (8 : Int)) + (0 : Int))).toNat +
 (0 : Nat))
 (0 : Int),
 x.getD
 ((IntKind.i64.wrap (IntKind.i64.wrap (i * (8 : Int)) + (1 : Int))).toNat +
 (0 : Nat))
 (0 : Int),
 (0 : Int), (0 : Int), (0 : Int), (0 : Int), (0 : Int), (0 : Int),
 sumG (IntKind.i64.wrap (c + i)) ch
 [x.getD
 ((IntKind.i64.wrap (IntKind.i64.wrap (i * (8 : Int)) + (0 : Int))).toNat +
 (0 : Nat))
 (0 : Int),
 x.getD
 ((IntKind.i64.wrap (IntKind.i64.wrap (i * (8 : Int)) + (1 : Int))).toNat +
 (0 : Nat))
 (0 : Int),
 (0 : Int), (0 : Int), (0 : Int), (0 : Int), (0 : Int), (0 : Int)]]]).length ≤
 (140737488355328 : Nat)) then
 K Ex.normal
 [AV.one (SV.data (Row.ints IntKind.i64 x)),
 AV.one (SV.ptr (0 : Nat) (1 : Nat) (0 : Nat) (0 : Nat)), AV.one (SV.own (1 : Nat) (11 : Nat)),
 AV.one (SV.int IntKind.i64 (IntKind.i64.wrap (i + (1 : Int))))]
 [Blk.cells [SV.int IntKind.i64 ch, SV.int IntKind.i64 c],
 Blk.row (37 : Nat)
 (Row.mat IntKind.i64 (11 : Nat)
 (rows ++
 [[IntKind.i64.wrap (c + i), ch,
 x.getD
 ((IntKind.i64.wrap (IntKind.i64.wrap (i * (8 : Int)) + (0 : Int))).toNat +
 (0 : Nat))
 (0 : Int),
 x.getD
 ((IntKind.i64.wrap (IntKind.i64.wrap (i * (8 : Int)) + (1 : Int))).toNat +
 (0 : Nat))
 (0 : Int),
 (0 : Int), (0 : Int), (0 : Int), (0 : Int), (0 : Int), (0 : Int),
 sumG (IntKind.i64.wrap (c + i)) ch
 [x.getD
 ((IntKind.i64.wrap (IntKind.i64.wrap (i * (8 : Int)) + (0 : Int))).toNat +
 (0 : Nat))
 (0 : Int),
 x.getD
 ((IntKind.i64.wrap (IntKind.i64.wrap (i * (8 : Int)) + (1 : Int))).toNat +
 (0 : Nat))
 (0 : Int),
 (0 : Int), (0 : Int), (0 : Int), (0 : Int), (0 : Int), (0 : Int)]]]))]
 else False
 else False
 else False
 else
 contentG (IntKind.i64.wrap (c + i)) ch
 [x.getD ((IntKind.i64.wrap (IntKind.i64.wrap (i * (8 : Int)) + (0 : Int))).toNat + (0 : Nat))
 (0 : Int),
 (0 : Int), (0 : Int), (0 : Int), (0 : Int), (0 : Int), (0 : Int), (0 : Int)] =
 true ∧
 bif
 decide
 ((rows ++
 [[IntKind.i64.wrap (c + i), ch,
 x.getD
 ((IntKind.i64.wrap (IntKind.i64.wrap (i * (8 : Int)) + (0 : Int))).toNat +
 (0 : Nat))
 (0 : Int),
 (0 : Int), (0 : Int), (0 : Int), (0 : Int), (0 : Int), (0 : Int), (0 : Int),
 sumG (IntKind.i64.wrap (c + i)) ch
 [x.getD
 ((IntKind.i64.wrap (IntKind.i64.wrap (i * (8 : Int)) + (0 : Int))).toNat +
 (0 : Nat))
 (0 : Int),
 (0 : Int), (0 : Int), (0 : Int), (0 : Int), (0 : Int), (0 : Int),
 (0 : Int)]]]).length *
 (88 : Nat) ≤
 (140737488355328 : Nat) ∧
 (rows ++
 [[IntKind.i64.wrap (c + i), ch,
 x.getD
 ((IntKind.i64.wrap (IntKind.i64.wrap (i * (8 : Int)) + (0 : Int))).toNat + (0 : Nat))
 (0 : Int),
 (0 : Int), (0 : Int), (0 : Int), (0 : Int), (0 : Int), (0 : Int), (0 : Int),
 sumG (IntKind.i64.wrap (c + i)) ch
 [x.getD
 ((IntKind.i64.wrap (IntKind.i64.wrap (i * (8 : Int)) + (0 : Int))).toNat +
 (0 : Nat))
 (0 : Int),
 (0 : Int), (0 : Int), (0 : Int), (0 : Int), (0 : Int), (0 : Int),
 (0 : Int)]]]).length ≤
 (140737488355328 : Nat)) then
 K Ex.normal
 [AV.one (SV.data (Row.ints IntKind.i64 x)), AV.one (SV.ptr (0 : Nat) (1 : Nat) (0 : Nat) (0 : Nat)),
 AV.one (SV.own (1 : Nat) (11 : Nat)),
 AV.one (SV.int IntKind.i64 (IntKind.i64.wrap (i + (1 : Int))))]
 [Blk.cells [SV.int IntKind.i64 ch, SV.int IntKind.i64 c],
 Blk.row (37 : Nat)
 (Row.mat IntKind.i64 (11 : Nat)
 (rows ++
 [[IntKind.i64.wrap (c + i), ch,
 x.getD
 ((IntKind.i64.wrap (IntKind.i64.wrap (i * (8 : Int)) + (0 : Int))).toNat + (0 : Nat))
 (0 : Int),
 (0 : Int), (0 : Int), (0 : Int), (0 : Int), (0 : Int), (0 : Int), (0 : Int),
 sumG (IntKind.i64.wrap (c + i)) ch
 [x.getD
 ((IntKind.i64.wrap (IntKind.i64.wrap (i * (8 : Int)) + (0 : Int))).toNat +
 (0 : Nat))
 (0 : Int),
 (0 : Int), (0 : Int), (0 : Int), (0 : Int), (0 : Int), (0 : Int), (0 : Int)]]]))]
 else False
 else False
 else False
 else
 contentG (IntKind.i64.wrap (c + i)) ch
 [(0 : Int), (0 : Int), (0 : Int), (0 : Int), (0 : Int), (0 : Int), (0 : Int), (0 : Int)] =
 true ∧
 bif
 decide
 ((rows ++
 [[IntKind.i64.wrap (c + i), ch, (0 : Int), (0 : Int), (0 : Int), (0 : Int), (0 : Int),
 (0 : Int), (0 : Int), (0 : Int),
 sumG (IntKind.i64.wrap (c + i)) ch
 [(0 : Int), (0 : Int), (0 : Int), (0 : Int), (0 : Int), (0 : Int), (0 : Int),
 (0 : Int)]]]).length *
 (88 : Nat) ≤
 (140737488355328 : Nat) ∧
 (rows ++
 [[IntKind.i64.wrap (c + i), ch, (0 : Int), (0 : Int), (0 : Int), (0 : Int), (0 : Int), (0 : Int),
 (0 : Int), (0 : Int),
 sumG (IntKind.i64.wrap (c + i)) ch
 [(0 : Int), (0 : Int), (0 : Int), (0 : Int), (0 : Int), (0 : Int), (0 : Int),
 (0 : Int)]]]).length ≤
 (140737488355328 : Nat)) then
 K Ex.normal
 [AV.one (SV.data (Row.ints IntKind.i64 x)), AV.one (SV.ptr (0 : Nat) (1 : Nat) (0 : Nat) (0 : Nat)),
 AV.one (SV.own (1 : Nat) (11 : Nat)), AV.one (SV.int IntKind.i64 (IntKind.i64.wrap (i + (1 : Int))))]
 [Blk.cells [SV.int IntKind.i64 ch, SV.int IntKind.i64 c],
 Blk.row (37 : Nat)
 (Row.mat IntKind.i64 (11 : Nat)
 (rows ++
 [[IntKind.i64.wrap (c + i), ch, (0 : Int), (0 : Int), (0 : Int), (0 : Int), (0 : Int), (0 : Int),
 (0 : Int), (0 : Int),
 sumG (IntKind.i64.wrap (c + i)) ch
 [(0 : Int), (0 : Int), (0 : Int), (0 : Int), (0 : Int), (0 : Int), (0 : Int), (0 : Int)]]]))]
 else False
 else
 K (Ex.exit (0 : Nat)) [AV.one (SV.own (0 : Nat) (11 : Nat))]
 [Blk.row (37 : TypeId) (Row.mat IntKind.i64 (11 : Nat) rows)]) := by kernel_rfl
theorem ex7 (x : List Int) (ch c : Int) (K : AV → List Blk → Prop) : evFn E7 Try.f7 [.one (.data (.ints .i64 x)), .agg [.int .i64 ch, .int .i64 c]] [] K = (
 bif decide ((↑x.length : Int) > (330 : Int)) then K (AV.one (SV.bool true)) []
 else
 x.length ≤ (1000000000000 : Nat) ∧
 x.length ≤ (1000000 : Nat) ∧
 bif cutE x ch c == (0 : Int) then
 bif x.isEmpty then
 x.length ≤ (1000000 : Nat) ∧
 bif cutE x ch c != (0 : Int) then
 bif (0 : Int) == cutE x ch c then K (AV.one (SV.bool true)) [] else K (AV.one (SV.bool false)) []
 else
 cutE x ch c = (0 : Int) ∧
 bif x.isEmpty then
 ((0 : Nat) ≤ (1000000000 : Nat) ∧ true = true ∧ true = true) ∧ K (AV.one (SV.bool true)) []
 else
 ((0 : Nat) ≤ (1000000000 : Nat) ∧ true = true ∧ (cutRows x ch c).all len11 = true) ∧
 K (AV.one (SV.bool ([] == cutRows x ch c))) []
 else
 x.length ≤ (1000000 : Nat) ∧
 bif cutE x ch c != (0 : Int) then
 bif (0 : Int) == cutE x ch c then K (AV.one (SV.bool ((↑(cutRows x ch c).length : Int) == (0 : Int)))) []
 else K (AV.one (SV.bool false)) []
 else
 cutE x ch c = (0 : Int) ∧
 bif x.isEmpty then
 ((cutRows x ch c).length ≤ (1000000000 : Nat) ∧ (cutRows x ch c).all len11 = true ∧ true = true) ∧
 K (AV.one (SV.bool (cutRows x ch c == []))) []
 else
 ((cutRows x ch c).length ≤ (1000000000 : Nat) ∧
 (cutRows x ch c).all len11 = true ∧ (cutRows x ch c).all len11 = true) ∧
 K (AV.one (SV.bool (cutRows x ch c == cutRows x ch c))) []
 else
 x.length ≤ (1000000 : Nat) ∧
 bif cutE x ch c != (0 : Int) then
 bif cutE x ch c == cutE x ch c then K (AV.one (SV.bool true)) [] else K (AV.one (SV.bool false)) []
 else
 bif cutE x ch c == (0 : Int) then
 cutE x ch c = (0 : Int) ∧
 bif x.isEmpty then
 ((0 : Nat) ≤ (1000000000 : Nat) ∧ true = true ∧ true = true) ∧ K (AV.one (SV.bool true)) []
 else
 ((0 : Nat) ≤ (1000000000 : Nat) ∧ true = true ∧ (cutRows x ch c).all len11 = true) ∧
 K (AV.one (SV.bool ([] == cutRows x ch c))) []
 else K (AV.one (SV.bool false)) []) := by kernel_rfl
end Go.Ev

namespace Go.Ev
open Go Go.Proofs
attribute [local irreducible] evFn evBody evRound
set_option maxRecDepth 20000

/-! ### Parts of eight -/
theorem chunkI_nil : chunkI [] = [] := rfl
theorem countN_step {l : List Int} (h : 0 < l.length) : countN l = countN (l.drop 8) + 1 := by
  unfold countN
  rw [List.length_drop]
  omega
theorem chunkI_step {l : List Int} (h : 0 < l.length) : chunkI l = item1 (l.take 8) :: chunkI (l.drop 8) := by
  unfold chunkI
  rw [countN_step h]
  rfl
theorem lok128 : LoopOK E128 (lb Try.f128 0) [0, 1, 2, 4] [] chunkL := by
  refine loopOK .nil (noInner (by kernel_rfl)) (fun vs σ => match vs, σ with
    | [_, _, _, .one (.int .i64 i)], [_, .cells [.data (.ints .i64 l)], _] => l.length - i.toNat
    | _, _ => 0) fun vs σ k h => ?_
  unfold chunkL at h
  split at h
  · rename_i i P J D L l n
    rw [ex128a l n i P J D L _]
    obtain ⟨⟨h1, rfl, h3, h4, h5, h6⟩, h⟩ := h
    by_cases hi : i < l.length
    · have hi' : i.toNat ≤ l.length := by omega
      have hd : (l.take l.length).drop i.toNat = l.drop i.toNat := by rw [List.take_length]
      have e1 : List.take (l.length - i.toNat) (List.drop i.toNat l) = List.drop i.toNat l := List.take_of_length_le (by rw [List.length_drop]; omega)
      have hdl : (List.drop i.toNat l).length = l.length - i.toNat := List.length_drop
      rw [chunkI_step (by rw [hdl]; omega), List.drop_drop] at h6
      subst h6
      rw [e1]
      have hw : IntKind.i64.wrap (i + 8) = i + 8 := wrap_id (by omega) (by omega)
      generalize hm : (if ((List.drop i.toNat l).length : Int) < 8 then ((List.drop i.toNat l).length : Int) else 8) = m
      have hm2 : m = ((min 8 (l.length - i.toNat) : Nat) : Int) := by
        rw [← hm, hdl]
        split <;> omega
      have hwm : IntKind.i64.wrap (i + m) = i + m := wrap_id (by omega) (by omega)
      have e2 : (i + m).toNat - i.toNat = min 8 (l.length - i.toNat) := by omega
      have e3 : List.take (min 8 (l.length - i.toNat)) (List.drop i.toNat l) = List.take 8 (List.drop i.toNat l) := by
        rw [← hdl, ← List.take_take, List.take_length]
      have c1 : (0 : Int) ≤ i + m := by omega
      have c2 : (i + m).toNat ≤ l.length := by omega
      have c3 : i.toNat ≤ (i + m).toNat := by omega
      simp only [hwm, e2, e3, hi, h4, hi', c1, c2, c3, hw, Nat.le_refl, decide_true, Bool.and_self, cond_true]
      refine ⟨h1, rfl, fun D' => ⟨⟨⟨⟨h1, rfl, h3, by omega, by omega, ?_⟩, h⟩, by omega⟩, (h D').2⟩⟩
      rw [show (i + 8).toNat = i.toNat + 8 by omega]
    · rw [List.drop_eq_nil_of_le (by omega), chunkI_nil] at h6
      subst h6
      simp only [hi, decide_false, cond_false]
      exact (h D).1
  · exact h.elim
theorem ok128 : SpecOK Try.prog 128 (seqSpec Try.prog chunkSq) := by
  refine specOK (n := 31) (m := 3) (lps := [(1, .spec [0, 1, 2, 4] [] chunkL)]) .nil Try.func128 (by kernel_rfl) (by kernel_rfl) (theLoops (n := 1) (by kernel_rfl) fun i hi => ?_) fun args σ K h => ?_
  · match i, hi with
    | 0, _ => exact loopHyp_of (key := 1) (by kernel_rfl) rfl lok128
  · unfold seqSpec at h
    split at h
    · rename_i caps P J D L lent
      split at h
      · rename_i c xs hsq
        unfold chunkSq at hsq
        split at hsq
        · rename_i l n
          simp only [Option.some.injEq, Prod.mk.injEq] at hsq
          obtain ⟨rfl, rfl⟩ := hsq
          have h' : cond (decide (n = 8) && decide (l.length ≤ 1000000)) (P = Try.prog ∧ L = chunkI l ∧ ∀ (D' : Nat → Prop) (lent' : List Blk), K (.tup []) (.ghost Try.prog J D' (some []) :: lent') ∧ K (.tup []) (.ghost Try.prog J D' none :: lent')) False := h
          obtain ⟨hc, h2, h3, h4⟩ := cond_pos h'
          simp only [Bool.and_eq_true, decide_eq_true_eq] at hc
          obtain ⟨rfl, hl⟩ := hc
          subst h2; subst h3
          rw [ex128 l 8 _ J D _ K]
          exact ⟨⟨rfl, rfl, hl, by decide, by omega, rfl⟩, fun D' => h4 D' _⟩
        · cases hsq
      · exact h.elim
    · exact h.elim
theorem ok95 : SpecOK Try.prog 95 chunkS := by
  refine specOK (n := 9) (m := 0) (lps := []) .nil Try.func95 (by kernel_rfl) (by kernel_rfl) (noLoops (by kernel_rfl)) fun args σ K h => ?_
  unfold chunkS at h
  split at h
  · rename_i l n
    rw [ex95 l n K]
    obtain ⟨rfl, h⟩ := h
    exact h
  · exact h.elim

/-! ### Counts -/
theorem floor8 {n : Int} (h : -1000000000 ≤ n ∧ n ≤ 1000000000) : (bif decide (n.tmod 8 < 0) then n.tdiv 8 - 1 else n.tdiv 8) = n / 8 := by
  by_cases h0 : 0 ≤ n
  · rw [Int.tmod_eq_emod_of_nonneg h0, Int.tdiv_eq_ediv_of_nonneg h0, decide_eq_false (by omega)]
    rfl
  · have e1 : n.tmod 8 = -((-n) % 8) := by
      have e : n.tmod 8 = -((-n).tmod 8) := by rw [Int.neg_tmod, Int.neg_neg]
      rw [e, Int.tmod_eq_emod_of_nonneg (by omega)]
    have e2 : n.tdiv 8 = -((-n) / 8) := by
      have e : n.tdiv 8 = -((-n).tdiv 8) := by rw [Int.neg_tdiv, Int.neg_neg]
      rw [e, Int.tdiv_eq_ediv_of_nonneg (by omega)]
    rw [e1, e2]
    by_cases h1 : -((-n) % 8) < 0
    · rw [decide_eq_true h1, cond_true]; omega
    · rw [decide_eq_false h1, cond_false]; omega
theorem tdiv8_range {n : Int} (h : -1000000000 ≤ n ∧ n ≤ 1000000000) : -1000000000 ≤ n.tdiv 8 ∧ n.tdiv 8 ≤ 1000000000 := by
  by_cases h0 : 0 ≤ n
  · rw [Int.tdiv_eq_ediv_of_nonneg h0]; omega
  · have e2 : n.tdiv 8 = -((-n) / 8) := by
      have e : n.tdiv 8 = -((-n).tdiv 8) := by rw [Int.neg_tdiv, Int.neg_neg]
      rw [e, Int.tdiv_eq_ediv_of_nonneg (by omega)]
    rw [e2]; omega
theorem ok140 : SpecOK Try.prog 140 floorS := by
  refine specOK (n := 16) (m := 0) (lps := []) .nil Try.func140 (by kernel_rfl) (by kernel_rfl) (noLoops (by kernel_rfl)) fun args σ K h => ?_
  unfold floorS at h
  split at h
  · rename_i n b
    rw [ex140 n b K]
    obtain ⟨⟨rfl, h1⟩, h⟩ := h
    have hr := tdiv8_range h1
    have hf := floor8 h1
    rw [wrap_id (n := n.tdiv 8) (by omega) (by omega), wrap_id (n := n.tdiv 8 - 1) (by omega) (by omega)]
    rw [← hf] at h
    simp only [show (decide ((8 : Int) = 0)) = false by decide, Bool.not_false, cond_true]
    cases hb : decide (n.tmod 8 < 0) <;> rw [hb] at h <;> exact h
  · exact h.elim
theorem ok129 : SpecOK Try.prog 129 ceilS := by
  refine specOK (n := 10) (m := 0) (lps := []) (.cons ok140 .nil) Try.func129 (by kernel_rfl) (by kernel_rfl) (noLoops (by kernel_rfl)) fun args σ K h => ?_
  unfold ceilS at h
  split at h
  · rename_i n b
    rw [ex129 n b K]
    obtain ⟨⟨rfl, h1, h2⟩, h⟩ := h
    rw [wrap_id (n := 0 - n) (by omega) (by omega), wrap_id (n := 0 - (0 - n) / 8) (by omega) (by omega)]
    rw [show (n + 7) / 8 = 0 - (0 - n) / 8 by omega] at h
    exact ⟨⟨rfl, by omega, by omega⟩, h⟩
  · exact h.elim
theorem ok96 : SpecOK Try.prog 96 countS := by
  refine specOK (n := 6) (m := 0) (lps := []) (.cons ok129 .nil) Try.func96 (by kernel_rfl) (by kernel_rfl) (noLoops (by kernel_rfl)) fun args σ K h => ?_
  unfold countS at h
  split at h
  · rename_i l
    rw [ex96 l K]
    obtain ⟨h1, h⟩ := h
    have e : ((countN l : Nat) : Int) = ((l.length : Int) + 7) / 8 := by unfold countN; omega
    rw [e] at h
    exact ⟨⟨rfl, by omega, by omega⟩, h⟩
  · exact h.elim

/-! ### The program's blocks -/
theorem padc (p : List Int) (j : Nat) : (bif decide (j < p.length) then p.getD j 0 else 0) = p.getD j 0 := by
  by_cases h : j < p.length
  · rw [decide_eq_true h]; rfl
  · rw [decide_eq_false h, List.getD, List.getElem?_eq_none (by omega)]; rfl
theorem pad_ok {p : List Int} (h : p.all sampleG = true) : (pad8 p).all sampleG = true := by
  have : ∀ j, sampleG (p.getD j 0) = true := fun j => by
    by_cases hj : j < p.length
    · rw [getD_of_lt hj]; exact List.all_eq_true.1 h _ (List.getElem_mem hj)
    · rw [List.getD, List.getElem?_eq_none (by omega)]; rfl
  simp only [pad8, List.all_cons, this, List.all_nil, Bool.and_self]
theorem cut_content {ch c : Int} {p : List Int} (h1 : 0 ≤ ch ∧ ch ≤ 3) (h2 : 0 ≤ c ∧ c ≤ 65535) (h : p.all sampleG = true) : contentG c ch (pad8 p) = true := by
  unfold contentG withinG
  rw [pad_ok h]
  simp only [h1, h2, decide_true, Bool.and_self]
theorem okCut_cons {ch c : Int} {n : Nat} {p : List Int} {cs : List (List Int)} (h : okCut ch c n (p :: cs)) : p.all sampleG = true ∧ p.length ≤ 8 ∧ okCut ch c (n + 1) cs := by
  obtain ⟨h1, h2, h3⟩ := h
  have := h3 p (by simp)
  simp only [List.length_cons] at h2
  exact ⟨this.1, this.2, h1, ⟨h2.1, by omega⟩, fun q hq => h3 q (List.mem_cons_of_mem p hq)⟩
theorem ok34L : AllOK Try.prog [(70, unlessS), (91, eachS), (93, channelS), (69, firstS), (94, counterS), (95, chunkS), (79, sumS)] := .cons ok70 (.cons ok91 (.cons ok93 (.cons ok69 (.cons ok94 (.cons ok95 (.cons ok79 .nil))))))
theorem rok34 : RangeOK E34 128 chunkSq (rangePs (lb Try.f34 0)) (rangeAssign (lb Try.f34 0)) (rangeBody (lb Try.f34 0)) [3, 8] cutGL := by
  refine ⟨ok128, fun x rest vs σ k h => ?_, fun vs σ k h => ?_⟩
  · unfold cutGL at h
    split at h
    · rename_i ch c
      obtain ⟨cs, hcs, hok, hl, h⟩ := h
      cases cs with
      | nil => simp at hcs
      | cons p cs =>
        simp only [List.map_cons, List.cons.injEq] at hcs
        obtain ⟨rfl, rfl⟩ := hcs
        obtain ⟨k1, k2, k3⟩ := okCut_cons hok
        obtain ⟨k4, ⟨k5, k6⟩, k7⟩ := k3
        have hw : IntKind.i64.wrap (c + 0) = c := by rw [Int.add_zero]; exact wrap_id (by omega) (by omega)
        unfold item1
        rw [ex34a p ch c _]
        simp only [padc, hw]
        refine ⟨cut_content k4 ⟨k5, by omega⟩ k1, cs, rfl, ⟨k4, ⟨k5, by simpa using k6⟩, k7⟩, by simp only [List.length_cons] at hl ⊢; simp only [List.length_nil]; omega, ?_⟩
        exact h
    · rename_i ch c rows
      obtain ⟨cs, hcs, hok, hl, h⟩ := h
      cases cs with
      | nil => simp at hcs
      | cons p cs =>
        simp only [List.map_cons, List.cons.injEq] at hcs
        obtain ⟨rfl, rfl⟩ := hcs
        obtain ⟨k1, k2, k3⟩ := okCut_cons hok
        obtain ⟨k4, ⟨k5, k6⟩, k7⟩ := k3
        simp only [List.length_cons] at hl
        have hw : IntKind.i64.wrap (c + (rows.length : Int)) = c + rows.length := wrap_id (by omega) (by omega)
        unfold item1
        rw [ex34b p rows ch c _]
        simp only [padc, hw]
        have hlen : ∀ r : List Int, (rows ++ [r]).length = rows.length + 1 := fun r => by simp
        refine ⟨cut_content k4 ⟨by omega, by omega⟩ k1, ?_⟩
        rw [hlen, decide_eq_true (by omega), cond_true]
        refine ⟨cs, rfl, ⟨k4, ⟨k5, by rw [hlen]; omega⟩, k7⟩, by rw [hlen]; omega, ?_⟩
        rw [hlen, List.append_assoc]
        have e : c + ((rows.length + 1 : Nat) : Int) = c + (rows.length : Int) + 1 := by omega
        rw [e]
        exact h
    · exact h.elim
  · unfold cutGL at h
    split at h
    · obtain ⟨cs, hcs, _, _, h⟩ := h
      cases cs with
      | nil => exact h
      | cons p cs => simp at hcs
    · obtain ⟨cs, hcs, _, _, h⟩ := h
      cases cs with
      | nil => simp only [blkRows, List.append_nil] at h; exact h
      | cons p cs => simp at hcs
    · exact h.elim
theorem chunk_facts : ∀ (n : Nat) (x : List Int), x.length ≤ 8 * n → ((chunkC x (countN x)).length = countN x) ∧ (x.all sampleG = true → ∀ p ∈ chunkC x (countN x), p.all sampleG = true ∧ p.length ≤ 8)
  | 0, x, h => by
    have : x = [] := List.length_eq_zero_iff.1 (by omega)
    subst this
    exact ⟨rfl, fun _ p hp => by simp [chunkC, countN] at hp⟩
  | n + 1, x, h => by
    by_cases hx : 0 < x.length
    · rw [countN_step hx]
      obtain ⟨i1, i2⟩ := chunk_facts n (x.drop 8) (by rw [List.length_drop]; omega)
      refine ⟨by simp only [chunkC, List.length_cons, i1], fun ha p hp => ?_⟩
      simp only [chunkC, List.mem_cons] at hp
      rcases hp with rfl | hp
      · exact ⟨List.all_eq_true.2 fun y hy => List.all_eq_true.1 ha y (List.mem_of_mem_take hy), by rw [List.length_take]; omega⟩
      · exact i2 (List.all_eq_true.2 fun y hy => List.all_eq_true.1 ha y (List.mem_of_mem_drop hy)) p hp
    · have : x = [] := List.length_eq_zero_iff.1 (by omega)
      subst this
      exact ⟨rfl, fun _ p hp => by simp [chunkC, countN] at hp⟩
theorem chunk_empty (x : List Int) : (chunkC x (countN x)).isEmpty = x.isEmpty := by
  cases x with
  | nil => rfl
  | cons y ys =>
    rw [countN_step (by simp)]
    rfl
theorem prog_count {x : List Int} (h : x.length ≤ 1000000) : IntKind.i64.wrap ((IntKind.i64.wrap (IntKind.i64.wrap ((x.length : Int) + 8) - 1)).tdiv 8) = (countN x : Int) := by
  rw [wrap_id (n := (x.length : Int) + 8) (by omega) (by omega), wrap_id (n := (x.length : Int) + 8 - 1) (by omega) (by omega), Int.tdiv_eq_ediv_of_nonneg (by omega), wrap_id (by omega) (by omega)]
  unfold countN
  omega
theorem ok34 : SpecOK Try.prog 34 blocksOfS := by
  refine specOK (n := 69) (m := 0) (lps := [(1000009, .range 128 chunkSq [3, 8] cutGL)]) ok34L Try.func34 (by kernel_rfl) (by kernel_rfl) (theLoops (n := 1) (by kernel_rfl) fun i hi => ?_) fun args σ K h => ?_
  · match i, hi with
    | 0, _ => exact loopHyp_range (key := 1000009) (by kernel_rfl) (by kernel_rfl) rfl rok34
  · unfold blocksOfS at h
    split at h
    · rename_i x ch c
      rw [ex34 x ch c K]
      obtain ⟨hl, h⟩ := h
      simp only [prog_count hl]
      refine ⟨by omega, (by decide : (3 : Nat) ≤ 1000), ?_⟩
      unfold cutE at h
      obtain ⟨f1, f2⟩ := chunk_facts x.length x (by omega)
      by_cases c1 : (countN x : Int) ≤ 40
      · rw [decide_eq_true c1] at h ⊢
        cases ha : x.all sampleG with
        | false => rw [ha] at h; exact h
        | true =>
          have f3 := f2 ha
          cases hb : withinG ch 0 3 with
          | false => rw [ha, hb] at h; exact h
          | true =>
            cases hc : withinG c 0 65535 with
            | false => rw [ha, hb, hc] at h; exact h
            | true =>
              rw [ha, hb, hc] at h
              have e0 : (firstE [bif true then 0 else 8, bif true then 0 else 2, bif true then 0 else 2] != 0) = false := rfl
              rw [e0]
              have hch : 0 ≤ ch ∧ ch ≤ 3 := by
                unfold withinG at hb
                simp only [Bool.and_eq_true, decide_eq_true_eq] at hb
                exact hb
              have hcc : 0 ≤ c ∧ c ≤ 65535 := by
                unfold withinG at hc
                simp only [Bool.and_eq_true, decide_eq_true_eq] at hc
                exact hc
              have hw1 : IntKind.i64.wrap (c + (countN x : Int)) = c + countN x := wrap_id (by omega) (by omega)
              have hw2 : IntKind.i64.wrap (c + (countN x : Int) - 1) = c + countN x - 1 := wrap_id (by omega) (by omega)
              have hemp := chunk_empty x
              have fin : c + countN x ≤ 65536 → (bif x.isEmpty then K (.tup [.one .nil, .one (.int .i64 0)]) [] else K (.tup [.one (.own 0 11), .one (.int .i64 0)]) [.row 37 (.mat .i64 11 (cutRows x ch c))]) →
                  (∃ cs, chunkI x = List.map item1 cs ∧ ((0 ≤ ch ∧ ch ≤ 3) ∧ (0 ≤ c ∧ c + 0 + (cs.length : Int) ≤ 65536) ∧ ∀ p : List Int, p ∈ cs → p.all sampleG = true ∧ p.length ≤ 8) ∧ cs.length ≤ 1000 ∧
                    bif cs.isEmpty then K (.tup [.one .nil, .one (.int .i64 0)]) [] else K (.tup [.one (.own 0 11), .one (.int .i64 0)]) [.row 37 (.mat .i64 11 (blkRows ch c cs))]) := by
                intro hle hK
                refine ⟨chunkC x (countN x), rfl, ⟨hch, ⟨hcc.1, by rw [f1]; omega⟩, f3⟩, by rw [f1]; omega, ?_⟩
                rw [hemp]
                exact hK
              simp only [cond_false, Bool.not_true, hw1, hw2]
              by_cases h0 : (countN x : Int) > 0
              · rw [decide_eq_true h0]
                simp only [cond_true]
                by_cases h1 : c + (countN x : Int) - 1 ≤ 65535
                · have e1 : withinG (c + (countN x : Int) - 1) 0 65535 = true := by
                    unfold withinG
                    rw [decide_eq_true (by omega), decide_eq_true h1]; rfl
                  have e2 : decide (c + max 0 ((countN x : Int) - 1) ≤ 65535) = true := decide_eq_true (by omega)
                  rw [e2] at h
                  rw [e1]
                  refine ⟨trivial, ?_⟩
                  rw [decide_eq_true hl]
                  exact fin (by omega) h
                · have e1 : withinG (c + (countN x : Int) - 1) 0 65535 = false := by
                    unfold withinG
                    rw [decide_eq_false h1, Bool.and_false]
                  have e2 : decide (c + max 0 ((countN x : Int) - 1) ≤ 65535) = false := decide_eq_false (by omega)
                  rw [e2] at h
                  rw [e1]
                  exact h
              · rw [decide_eq_false h0]
                simp only [cond_false]
                have e2 : decide (c + max 0 ((countN x : Int) - 1) ≤ 65535) = true := decide_eq_true (by omega)
                rw [e2] at h
                refine ⟨trivial, ?_⟩
                rw [decide_eq_true hl]
                exact fin (by omega) h
      · rw [decide_eq_false c1] at h ⊢
        exact h
    · exact h.elim

/-! ### The reference's blocks -/
theorem ok36 : SpecOK Try.prog 36 cutErrS := by
  refine specOK (n := 32) (m := 0) (lps := []) (.cons ok96 (.cons ok81 (.cons ok80 (.cons ok25 .nil)))) Try.func36 (by kernel_rfl) (by kernel_rfl) (noLoops (by kernel_rfl)) fun args σ K h => ?_
  unfold cutErrS at h
  split at h
  · rename_i x ch c
    rw [ex36 x ch c K]
    obtain ⟨hl, h⟩ := h
    have g : x.length ≤ 1000000000 := by omega
    refine ⟨g, ?_⟩
    unfold cutE at h
    have hcn : countN x ≤ 1000000 := by unfold countN; omega
    by_cases c1 : (countN x : Int) ≤ 40
    · have c1' : ¬ (countN x : Int) > 40 := by omega
      rw [decide_eq_true c1] at h
      rw [decide_eq_false c1']
      refine ⟨g, ?_⟩
      cases ha : x.all sampleG with
      | false => rw [ha] at h; exact h
      | true =>
        cases hb : withinG ch 0 3 with
        | false => rw [ha, hb] at h; exact h
        | true =>
          have e3 : (decide (0 ≤ c) && decide (c ≤ 65535)) = withinG c 0 65535 := rfl
          rw [e3]
          cases hc : withinG c 0 65535 with
          | false => rw [ha, hb, hc] at h; exact h
          | true =>
            rw [ha, hb, hc] at h
            have hcc : 0 ≤ c ∧ c ≤ 65535 := by
              unfold withinG at hc
              simp only [Bool.and_eq_true, decide_eq_true_eq] at hc
              exact hc
            refine ⟨g, ?_⟩
            rw [wrap_id (n := (countN x : Int) - 1) (by omega) (by omega)]
            have e4 : (if (countN x : Int) - 1 > 0 then (countN x : Int) - 1 else 0) = max 0 ((countN x : Int) - 1) := by split <;> omega
            rw [e4, wrap_id (by omega) (by omega)]
            by_cases h1 : c + max 0 ((countN x : Int) - 1) ≤ 65535
            · have h1' : ¬ c + max 0 ((countN x : Int) - 1) > 65535 := by omega
              rw [decide_eq_true h1] at h
              rw [decide_eq_false h1']
              exact h
            · have h1' : c + max 0 ((countN x : Int) - 1) > 65535 := by omega
              rw [decide_eq_false h1] at h
              rw [decide_eq_true h1']
              exact h
    · have c1' : (countN x : Int) > 40 := by omega
      rw [decide_eq_false c1] at h
      rw [decide_eq_true c1']
      exact h
  · exact h.elim
theorem row_some11 {l : List (List Int)} {n : Nat} (h : n < l.length) (h8 : l.all len11 = true) : ∃ xs, l[n]? = some xs ∧ xs.length = 11 ∧ l.drop n = xs :: l.drop (n + 1) := by
  refine ⟨l[n], List.getElem?_eq_getElem h, ?_, List.drop_eq_getElem_cons h⟩
  have := List.all_eq_true.1 h8 _ (List.getElem_mem h)
  unfold len11 at this
  simpa using this
theorem eq11 {xs ys : List Int} (h1 : xs.length = 11) (h2 : ys.length = 11) : (xs.getD 0 0 == ys.getD 0 0 && (xs.getD 1 0 == ys.getD 1 0 && ((xs.getD 2 0 == ys.getD 2 0 && (xs.getD 3 0 == ys.getD 3 0 && (xs.getD 4 0 == ys.getD 4 0 && (xs.getD 5 0 == ys.getD 5 0 && (xs.getD 6 0 == ys.getD 6 0 && (xs.getD 7 0 == ys.getD 7 0 && (xs.getD 8 0 == ys.getD 8 0 && xs.getD 9 0 == ys.getD 9 0))))))) && xs.getD 10 0 == ys.getD 10 0))) = (xs == ys) := by
  match xs, ys, h1, h2 with
  | [a0, a1, a2, a3, a4, a5, a6, a7, a8, a9, a10], [b0, b1, b2, b3, b4, b5, b6, b7, b8, b9, b10], _, _ => simp [List.cons_beq_cons, Bool.and_assoc]
theorem lok37 : LoopOK E37 (lb Try.f37 0) [0, 1, 5] [4] sameBlocksL := by
  refine loopOK .nil (noInner (by kernel_rfl)) (fun vs _ => match vs with
    | [.one (.data (.mat .i64 11 l)), _, .one (.int .i64 i)] => l.length - i.toNat
    | _ => 0) fun vs σ k h => ?_
  unfold sameBlocksL at h
  split at h
  · rename_i a b i
    rw [ex37a a b i _]
    obtain ⟨⟨h1, h2, h3, h8, h8'⟩, h⟩ := h
    by_cases hi : i < a.length
    · have hw : IntKind.i64.wrap (i + 1) = i + 1 := wrap_id (by omega) (by omega)
      have hi' : i.toNat < a.length := by omega
      have hj : i < b.length := by omega
      have hj' : i.toNat < b.length := by omega
      have hmu : a.length - (i + 1).toNat < a.length - i.toNat := by omega
      obtain ⟨xs, hxs, hx8, hd⟩ := row_some11 hi' h8
      obtain ⟨ys, hys, hy8, hd'⟩ := row_some11 hj' h8'
      rw [hd, hd', show i.toNat + 1 = (i + 1).toNat by omega, List.cons_beq_cons] at h
      simp only [hxs, hys, eq11 hx8 hy8]
      simp only [hi, hi', hj, hj', h3, hw, decide_true, Bool.and_self, cond_true, show decide (10 < 11) = true by decide]
      cases hs : xs == ys with
      | true =>
        rw [hs, Bool.true_and] at h
        exact ⟨⟨⟨h1, h2, by omega, h8, h8'⟩, h⟩, hmu⟩
      | false => rw [hs] at h; exact h
    · rw [List.drop_eq_nil_of_le (by omega), List.drop_eq_nil_of_le (by omega)] at h
      simp only [hi, decide_false, cond_false]
      exact h
  · exact h.elim
theorem ok37 : SpecOK Try.prog 37 sameBlocksS := by
  refine specOK (n := 26) (m := 0) (lps := [(4, .spec [0, 1, 5] [4] sameBlocksL)]) .nil Try.func37 (by kernel_rfl) (by kernel_rfl) (theLoops (n := 1) (by kernel_rfl) fun i hi => ?_) fun args σ K h => ?_
  · match i, hi with
    | 0, _ => exact loopHyp_of (key := 4) (by kernel_rfl) rfl lok37
  · unfold sameBlocksS at h
    split at h
    · rename_i a b
      rw [ex37 a b K]
      obtain ⟨⟨h1, h8, h8'⟩, h⟩ := h
      by_cases hl : a.length = b.length
      · have e : ((a.length : Int) != (b.length : Int)) = false := by simp [hl]
        rw [e]
        refine ⟨⟨h1, hl, by decide, h8, h8'⟩, ?_⟩
        cases hs : a == b <;> rw [hs] at h <;> exact h
      · have e : ((a.length : Int) != (b.length : Int)) = true := by simp; omega
        have e2 : (a == b) = false := beq_eq_false_iff_ne.2 fun hh => hl (by rw [hh])
        rw [e2] at h
        rw [e]
        exact h
    · exact h.elim

theorem pget_in {x p : List Int} {nn k : Nat} (hp : (x.drop nn).take 8 = p) (hk : k < 8) (h : nn + k < x.length) : p.getD k 0 = x.getD (nn + k) 0 := by
  subst hp
  simp only [List.getD, List.getElem?_take_of_lt hk, List.getElem?_drop]
theorem pget_out {x p : List Int} {nn k : Nat} (hp : (x.drop nn).take 8 = p) (h : x.length ≤ nn + k) : p.getD k 0 = 0 := by
  subst hp
  rw [List.getD, List.getElem?_eq_none (by rw [List.length_take, List.length_drop]; omega)]
  rfl
theorem cut_step (x : List Int) {n : Nat} (hn : n < countN x) (ch c : Int) : blkRows ch (c + n) (chunkC (x.drop (8 * n)) (countN x - n)) =
    blkRow (c + n) ch ((x.drop (8 * n)).take 8) :: blkRows ch (c + n + 1) (chunkC (x.drop (8 * (n + 1))) (countN x - (n + 1))) := by
  rw [show countN x - n = (countN x - (n + 1)) + 1 by omega]
  simp only [chunkC, blkRows, List.drop_drop]
  rw [show 8 * n + 8 = 8 * (n + 1) by omega]
theorem ok38L : AllOK Try.prog [(96, countS), (24, sumS)] := .cons ok96 (.cons ok24 .nil)
theorem part_ok {x p : List Int} {nn : Nat} (hp : (x.drop nn).take 8 = p) (h : x.all sampleG = true) : p.all sampleG = true := by
  subst hp
  exact List.all_eq_true.2 fun y hy => List.all_eq_true.1 h y (List.mem_of_mem_drop (List.mem_of_mem_take hy))
theorem inner38 : ∀ b' ∈ loopsOf (lb Try.f38 0), LoopHyp E38 b' := by
  have hl : loopsOf (lb Try.f38 0) = [lb Try.f38 1] := by kernel_rfl
  rw [hl]
  intro b' hb
  rw [List.mem_singleton] at hb
  subst hb
  exact loopHyp_none (key := 7) (by kernel_rfl) rfl
theorem lok38 : LoopOK E38 (lb Try.f38 0) [0, 3, 5, 6] [5] refCutL := by
  refine loopOK ok38L inner38 (fun vs _ => match vs with
    | [.one (.data (.ints .i64 x)), _, _, .one (.int .i64 i)] => (countN x - i.toNat)
    | _ => 0) fun vs σ k h => ?_
  unfold refCutL at h
  split at h
  · rename_i x i ch c
    obtain ⟨⟨⟨k1, k2, k3, k4, k5, k6⟩, hi0⟩, h⟩ := h
    rw [ex38a x ch c i _]
    have g0 : x.length ≤ 1000000000 := by omega
    refine ⟨g0, ?_⟩
    by_cases hi : i < (countN x : Int)
    · obtain ⟨n, rfl⟩ := Int.eq_ofNat_of_zero_le k5
      have hn : n < countN x := by omega
      have hcn : countN x = (x.length + 7) / 8 := rfl
      have hr : 8 * n < x.length := by omega
      obtain ⟨nn, hnn⟩ : ∃ nn, nn = 8 * n := ⟨_, rfl⟩
      have hs := cut_step x hn ch c
      rw [← hnn] at hs hr
      obtain ⟨p, hp⟩ : ∃ p, (x.drop nn).take 8 = p := ⟨_, rfl⟩
      rw [hp] at hs
      have hc : contentG (c + (n : Int)) ch (pad8 p) = true := cut_content k3 ⟨by omega, by omega⟩ (part_ok hp k2)
      have wi1 : IntKind.i64.wrap ((n : Int) + 1) = ((n + 1 : Nat) : Int) := by rw [wrap_id (by omega) (by omega)]; omega
      have wci : IntKind.i64.wrap (c + (n : Int)) = c + n := wrap_id (by omega) (by omega)
      have w0 : IntKind.i64.wrap (IntKind.i64.wrap ((n : Int) * 8) + 0) = ((nn : Nat) : Int) := by rw [wrap_id (n := (n : Int) * 8) (by omega) (by omega), wrap_id (by omega) (by omega)]; omega
      have w1 : IntKind.i64.wrap (IntKind.i64.wrap ((n : Int) * 8) + 1) = ((nn + 1 : Nat) : Int) := by rw [wrap_id (n := (n : Int) * 8) (by omega) (by omega), wrap_id (by omega) (by omega)]; omega
      have w2 : IntKind.i64.wrap (IntKind.i64.wrap ((n : Int) * 8) + 2) = ((nn + 2 : Nat) : Int) := by rw [wrap_id (n := (n : Int) * 8) (by omega) (by omega), wrap_id (by omega) (by omega)]; omega
      have w3 : IntKind.i64.wrap (IntKind.i64.wrap ((n : Int) * 8) + 3) = ((nn + 3 : Nat) : Int) := by rw [wrap_id (n := (n : Int) * 8) (by omega) (by omega), wrap_id (by omega) (by omega)]; omega
      have w4 : IntKind.i64.wrap (IntKind.i64.wrap ((n : Int) * 8) + 4) = ((nn + 4 : Nat) : Int) := by rw [wrap_id (n := (n : Int) * 8) (by omega) (by omega), wrap_id (by omega) (by omega)]; omega
      have w5 : IntKind.i64.wrap (IntKind.i64.wrap ((n : Int) * 8) + 5) = ((nn + 5 : Nat) : Int) := by rw [wrap_id (n := (n : Int) * 8) (by omega) (by omega), wrap_id (by omega) (by omega)]; omega
      have w6 : IntKind.i64.wrap (IntKind.i64.wrap ((n : Int) * 8) + 6) = ((nn + 6 : Nat) : Int) := by rw [wrap_id (n := (n : Int) * 8) (by omega) (by omega), wrap_id (by omega) (by omega)]; omega
      have w7 : IntKind.i64.wrap (IntKind.i64.wrap ((n : Int) * 8) + 7) = ((nn + 7 : Nat) : Int) := by rw [wrap_id (n := (n : Int) * 8) (by omega) (by omega), wrap_id (by omega) (by omega)]; omega
      have hn0 : n = 0 := by omega
      have hxe : x.isEmpty = false := by
        cases x with
        | nil => simp at hr
        | cons y ys => rfl
      rw [hxe] at h
      have e0 : cutRows x ch c = blkRow (c + n) ch p :: blkRows ch (c + ((n + 1 : Nat) : Int)) (chunkC (x.drop (8 * (n + 1))) (countN x - (n + 1))) := by
        rw [show c + ((n + 1 : Nat) : Int) = c + n + 1 by omega, ← hs, hnn, hn0]
        simp [cutRows]
      rw [e0] at h
      have hokS : okCutR x ch c ((n + 1 : Nat) : Int) := ⟨k1, k2, k3, k4, by omega, by omega⟩
      have hmu : countN x - ((n + 1 : Nat) : Int).toNat < countN x - ((n : Nat) : Int).toNat := by omega
      have hi' : decide ((n : Int) < (countN x : Int)) = true := decide_eq_true hi
      rw [hi', cond_true]
      unfold blkRow pad8 at h
      unfold pad8 at hc
      subst hn0
      rcases (by omega : x.length = nn + 1 ∨ x.length = nn + 2 ∨ x.length = nn + 3 ∨ x.length = nn + 4 ∨ x.length = nn + 5 ∨ x.length = nn + 6 ∨ x.length = nn + 7 ∨ nn + 8 ≤ x.length) with hm | hm | hm | hm | hm | hm | hm | hm
      · have t0 : decide (((nn : Nat) : Int) < (x.length : Int)) = true := decide_eq_true (by omega)
        have n0 : decide (nn < x.length) = true := decide_eq_true (by omega)
        have z0 : decide ((0 : Int) ≤ ((nn : Nat) : Int)) = true := decide_eq_true (by omega)
        have g0 : p.getD 0 0 = x.getD (nn) 0 := pget_in (k := 0) hp (by omega) (by omega)
        have f1 : decide (((nn + 1 : Nat) : Int) < (x.length : Int)) = false := decide_eq_false (by omega)
        have g1 : p.getD 1 0 = 0 := pget_out hp (by omega)
        have g2 : p.getD 2 0 = 0 := pget_out hp (by omega)
        have g3 : p.getD 3 0 = 0 := pget_out hp (by omega)
        have g4 : p.getD 4 0 = 0 := pget_out hp (by omega)
        have g5 : p.getD 5 0 = 0 := pget_out hp (by omega)
        have g6 : p.getD 6 0 = 0 := pget_out hp (by omega)
        have g7 : p.getD 7 0 = 0 := pget_out hp (by omega)
        simp only [g0, g1, g2, g3, g4, g5, g6, g7] at h hc
        simp only [w0, w1, w2, w3, w4, w5, w6, w7, wi1, wci, Int.toNat_natCast, Nat.add_zero, t0, n0, z0, f1, cond_true, cond_false, Bool.and_self]
        exact ⟨hc, ⟨⟨hokS, rfl⟩, h⟩, hmu⟩
      · have t0 : decide (((nn : Nat) : Int) < (x.length : Int)) = true := decide_eq_true (by omega)
        have n0 : decide (nn < x.length) = true := decide_eq_true (by omega)
        have z0 : decide ((0 : Int) ≤ ((nn : Nat) : Int)) = true := decide_eq_true (by omega)
        have g0 : p.getD 0 0 = x.getD (nn) 0 := pget_in (k := 0) hp (by omega) (by omega)
        have t1 : decide (((nn + 1 : Nat) : Int) < (x.length : Int)) = true := decide_eq_true (by omega)
        have n1 : decide (nn + 1 < x.length) = true := decide_eq_true (by omega)
        have z1 : decide ((0 : Int) ≤ ((nn + 1 : Nat) : Int)) = true := decide_eq_true (by omega)
        have g1 : p.getD 1 0 = x.getD (nn + 1) 0 := pget_in (k := 1) hp (by omega) (by omega)
        have f2 : decide (((nn + 2 : Nat) : Int) < (x.length : Int)) = false := decide_eq_false (by omega)
        have g2 : p.getD 2 0 = 0 := pget_out hp (by omega)
        have g3 : p.getD 3 0 = 0 := pget_out hp (by omega)
        have g4 : p.getD 4 0 = 0 := pget_out hp (by omega)
        have g5 : p.getD 5 0 = 0 := pget_out hp (by omega)
        have g6 : p.getD 6 0 = 0 := pget_out hp (by omega)
        have g7 : p.getD 7 0 = 0 := pget_out hp (by omega)
        simp only [g0, g1, g2, g3, g4, g5, g6, g7] at h hc
        simp only [w0, w1, w2, w3, w4, w5, w6, w7, wi1, wci, Int.toNat_natCast, Nat.add_zero, t0, n0, z0, t1, n1, z1, f2, cond_true, cond_false, Bool.and_self]
        exact ⟨hc, ⟨⟨hokS, rfl⟩, h⟩, hmu⟩
      · have t0 : decide (((nn : Nat) : Int) < (x.length : Int)) = true := decide_eq_true (by omega)
        have n0 : decide (nn < x.length) = true := decide_eq_true (by omega)
        have z0 : decide ((0 : Int) ≤ ((nn : Nat) : Int)) = true := decide_eq_true (by omega)
        have g0 : p.getD 0 0 = x.getD (nn) 0 := pget_in (k := 0) hp (by omega) (by omega)
        have t1 : decide (((nn + 1 : Nat) : Int) < (x.length : Int)) = true := decide_eq_true (by omega)
        have n1 : decide (nn + 1 < x.length) = true := decide_eq_true (by omega)
        have z1 : decide ((0 : Int) ≤ ((nn + 1 : Nat) : Int)) = true := decide_eq_true (by omega)
        have g1 : p.getD 1 0 = x.getD (nn + 1) 0 := pget_in (k := 1) hp (by omega) (by omega)
        have t2 : decide (((nn + 2 : Nat) : Int) < (x.length : Int)) = true := decide_eq_true (by omega)
        have n2 : decide (nn + 2 < x.length) = true := decide_eq_true (by omega)
        have z2 : decide ((0 : Int) ≤ ((nn + 2 : Nat) : Int)) = true := decide_eq_true (by omega)
        have g2 : p.getD 2 0 = x.getD (nn + 2) 0 := pget_in (k := 2) hp (by omega) (by omega)
        have f3 : decide (((nn + 3 : Nat) : Int) < (x.length : Int)) = false := decide_eq_false (by omega)
        have g3 : p.getD 3 0 = 0 := pget_out hp (by omega)
        have g4 : p.getD 4 0 = 0 := pget_out hp (by omega)
        have g5 : p.getD 5 0 = 0 := pget_out hp (by omega)
        have g6 : p.getD 6 0 = 0 := pget_out hp (by omega)
        have g7 : p.getD 7 0 = 0 := pget_out hp (by omega)
        simp only [g0, g1, g2, g3, g4, g5, g6, g7] at h hc
        simp only [w0, w1, w2, w3, w4, w5, w6, w7, wi1, wci, Int.toNat_natCast, Nat.add_zero, t0, n0, z0, t1, n1, z1, t2, n2, z2, f3, cond_true, cond_false, Bool.and_self]
        exact ⟨hc, ⟨⟨hokS, rfl⟩, h⟩, hmu⟩
      · have t0 : decide (((nn : Nat) : Int) < (x.length : Int)) = true := decide_eq_true (by omega)
        have n0 : decide (nn < x.length) = true := decide_eq_true (by omega)
        have z0 : decide ((0 : Int) ≤ ((nn : Nat) : Int)) = true := decide_eq_true (by omega)
        have g0 : p.getD 0 0 = x.getD (nn) 0 := pget_in (k := 0) hp (by omega) (by omega)
        have t1 : decide (((nn + 1 : Nat) : Int) < (x.length : Int)) = true := decide_eq_true (by omega)
        have n1 : decide (nn + 1 < x.length) = true := decide_eq_true (by omega)
        have z1 : decide ((0 : Int) ≤ ((nn + 1 : Nat) : Int)) = true := decide_eq_true (by omega)
        have g1 : p.getD 1 0 = x.getD (nn + 1) 0 := pget_in (k := 1) hp (by omega) (by omega)
        have t2 : decide (((nn + 2 : Nat) : Int) < (x.length : Int)) = true := decide_eq_true (by omega)
        have n2 : decide (nn + 2 < x.length) = true := decide_eq_true (by omega)
        have z2 : decide ((0 : Int) ≤ ((nn + 2 : Nat) : Int)) = true := decide_eq_true (by omega)
        have g2 : p.getD 2 0 = x.getD (nn + 2) 0 := pget_in (k := 2) hp (by omega) (by omega)
        have t3 : decide (((nn + 3 : Nat) : Int) < (x.length : Int)) = true := decide_eq_true (by omega)
        have n3 : decide (nn + 3 < x.length) = true := decide_eq_true (by omega)
        have z3 : decide ((0 : Int) ≤ ((nn + 3 : Nat) : Int)) = true := decide_eq_true (by omega)
        have g3 : p.getD 3 0 = x.getD (nn + 3) 0 := pget_in (k := 3) hp (by omega) (by omega)
        have f4 : decide (((nn + 4 : Nat) : Int) < (x.length : Int)) = false := decide_eq_false (by omega)
        have g4 : p.getD 4 0 = 0 := pget_out hp (by omega)
        have g5 : p.getD 5 0 = 0 := pget_out hp (by omega)
        have g6 : p.getD 6 0 = 0 := pget_out hp (by omega)
        have g7 : p.getD 7 0 = 0 := pget_out hp (by omega)
        simp only [g0, g1, g2, g3, g4, g5, g6, g7] at h hc
        simp only [w0, w1, w2, w3, w4, w5, w6, w7, wi1, wci, Int.toNat_natCast, Nat.add_zero, t0, n0, z0, t1, n1, z1, t2, n2, z2, t3, n3, z3, f4, cond_true, cond_false, Bool.and_self]
        exact ⟨hc, ⟨⟨hokS, rfl⟩, h⟩, hmu⟩
      · have t0 : decide (((nn : Nat) : Int) < (x.length : Int)) = true := decide_eq_true (by omega)
        have n0 : decide (nn < x.length) = true := decide_eq_true (by omega)
        have z0 : decide ((0 : Int) ≤ ((nn : Nat) : Int)) = true := decide_eq_true (by omega)
        have g0 : p.getD 0 0 = x.getD (nn) 0 := pget_in (k := 0) hp (by omega) (by omega)
        have t1 : decide (((nn + 1 : Nat) : Int) < (x.length : Int)) = true := decide_eq_true (by omega)
        have n1 : decide (nn + 1 < x.length) = true := decide_eq_true (by omega)
        have z1 : decide ((0 : Int) ≤ ((nn + 1 : Nat) : Int)) = true := decide_eq_true (by omega)
        have g1 : p.getD 1 0 = x.getD (nn + 1) 0 := pget_in (k := 1) hp (by omega) (by omega)
        have t2 : decide (((nn + 2 : Nat) : Int) < (x.length : Int)) = true := decide_eq_true (by omega)
        have n2 : decide (nn + 2 < x.length) = true := decide_eq_true (by omega)
        have z2 : decide ((0 : Int) ≤ ((nn + 2 : Nat) : Int)) = true := decide_eq_true (by omega)
        have g2 : p.getD 2 0 = x.getD (nn + 2) 0 := pget_in (k := 2) hp (by omega) (by omega)
        have t3 : decide (((nn + 3 : Nat) : Int) < (x.length : Int)) = true := decide_eq_true (by omega)
        have n3 : decide (nn + 3 < x.length) = true := decide_eq_true (by omega)
        have z3 : decide ((0 : Int) ≤ ((nn + 3 : Nat) : Int)) = true := decide_eq_true (by omega)
        have g3 : p.getD 3 0 = x.getD (nn + 3) 0 := pget_in (k := 3) hp (by omega) (by omega)
        have t4 : decide (((nn + 4 : Nat) : Int) < (x.length : Int)) = true := decide_eq_true (by omega)
        have n4 : decide (nn + 4 < x.length) = true := decide_eq_true (by omega)
        have z4 : decide ((0 : Int) ≤ ((nn + 4 : Nat) : Int)) = true := decide_eq_true (by omega)
        have g4 : p.getD 4 0 = x.getD (nn + 4) 0 := pget_in (k := 4) hp (by omega) (by omega)
        have f5 : decide (((nn + 5 : Nat) : Int) < (x.length : Int)) = false := decide_eq_false (by omega)
        have g5 : p.getD 5 0 = 0 := pget_out hp (by omega)
        have g6 : p.getD 6 0 = 0 := pget_out hp (by omega)
        have g7 : p.getD 7 0 = 0 := pget_out hp (by omega)
        simp only [g0, g1, g2, g3, g4, g5, g6, g7] at h hc
        simp only [w0, w1, w2, w3, w4, w5, w6, w7, wi1, wci, Int.toNat_natCast, Nat.add_zero, t0, n0, z0, t1, n1, z1, t2, n2, z2, t3, n3, z3, t4, n4, z4, f5, cond_true, cond_false, Bool.and_self]
        exact ⟨hc, ⟨⟨hokS, rfl⟩, h⟩, hmu⟩
      · have t0 : decide (((nn : Nat) : Int) < (x.length : Int)) = true := decide_eq_true (by omega)
        have n0 : decide (nn < x.length) = true := decide_eq_true (by omega)
        have z0 : decide ((0 : Int) ≤ ((nn : Nat) : Int)) = true := decide_eq_true (by omega)
        have g0 : p.getD 0 0 = x.getD (nn) 0 := pget_in (k := 0) hp (by omega) (by omega)
        have t1 : decide (((nn + 1 : Nat) : Int) < (x.length : Int)) = true := decide_eq_true (by omega)
        have n1 : decide (nn + 1 < x.length) = true := decide_eq_true (by omega)
        have z1 : decide ((0 : Int) ≤ ((nn + 1 : Nat) : Int)) = true := decide_eq_true (by omega)
        have g1 : p.getD 1 0 = x.getD (nn + 1) 0 := pget_in (k := 1) hp (by omega) (by omega)
        have t2 : decide (((nn + 2 : Nat) : Int) < (x.length : Int)) = true := decide_eq_true (by omega)
        have n2 : decide (nn + 2 < x.length) = true := decide_eq_true (by omega)
        have z2 : decide ((0 : Int) ≤ ((nn + 2 : Nat) : Int)) = true := decide_eq_true (by omega)
        have g2 : p.getD 2 0 = x.getD (nn + 2) 0 := pget_in (k := 2) hp (by omega) (by omega)
        have t3 : decide (((nn + 3 : Nat) : Int) < (x.length : Int)) = true := decide_eq_true (by omega)
        have n3 : decide (nn + 3 < x.length) = true := decide_eq_true (by omega)
        have z3 : decide ((0 : Int) ≤ ((nn + 3 : Nat) : Int)) = true := decide_eq_true (by omega)
        have g3 : p.getD 3 0 = x.getD (nn + 3) 0 := pget_in (k := 3) hp (by omega) (by omega)
        have t4 : decide (((nn + 4 : Nat) : Int) < (x.length : Int)) = true := decide_eq_true (by omega)
        have n4 : decide (nn + 4 < x.length) = true := decide_eq_true (by omega)
        have z4 : decide ((0 : Int) ≤ ((nn + 4 : Nat) : Int)) = true := decide_eq_true (by omega)
        have g4 : p.getD 4 0 = x.getD (nn + 4) 0 := pget_in (k := 4) hp (by omega) (by omega)
        have t5 : decide (((nn + 5 : Nat) : Int) < (x.length : Int)) = true := decide_eq_true (by omega)
        have n5 : decide (nn + 5 < x.length) = true := decide_eq_true (by omega)
        have z5 : decide ((0 : Int) ≤ ((nn + 5 : Nat) : Int)) = true := decide_eq_true (by omega)
        have g5 : p.getD 5 0 = x.getD (nn + 5) 0 := pget_in (k := 5) hp (by omega) (by omega)
        have f6 : decide (((nn + 6 : Nat) : Int) < (x.length : Int)) = false := decide_eq_false (by omega)
        have g6 : p.getD 6 0 = 0 := pget_out hp (by omega)
        have g7 : p.getD 7 0 = 0 := pget_out hp (by omega)
        simp only [g0, g1, g2, g3, g4, g5, g6, g7] at h hc
        simp only [w0, w1, w2, w3, w4, w5, w6, w7, wi1, wci, Int.toNat_natCast, Nat.add_zero, t0, n0, z0, t1, n1, z1, t2, n2, z2, t3, n3, z3, t4, n4, z4, t5, n5, z5, f6, cond_true, cond_false, Bool.and_self]
        exact ⟨hc, ⟨⟨hokS, rfl⟩, h⟩, hmu⟩
      · have t0 : decide (((nn : Nat) : Int) < (x.length : Int)) = true := decide_eq_true (by omega)
        have n0 : decide (nn < x.length) = true := decide_eq_true (by omega)
        have z0 : decide ((0 : Int) ≤ ((nn : Nat) : Int)) = true := decide_eq_true (by omega)
        have g0 : p.getD 0 0 = x.getD (nn) 0 := pget_in (k := 0) hp (by omega) (by omega)
        have t1 : decide (((nn + 1 : Nat) : Int) < (x.length : Int)) = true := decide_eq_true (by omega)
        have n1 : decide (nn + 1 < x.length) = true := decide_eq_true (by omega)
        have z1 : decide ((0 : Int) ≤ ((nn + 1 : Nat) : Int)) = true := decide_eq_true (by omega)
        have g1 : p.getD 1 0 = x.getD (nn + 1) 0 := pget_in (k := 1) hp (by omega) (by omega)
        have t2 : decide (((nn + 2 : Nat) : Int) < (x.length : Int)) = true := decide_eq_true (by omega)
        have n2 : decide (nn + 2 < x.length) = true := decide_eq_true (by omega)
        have z2 : decide ((0 : Int) ≤ ((nn + 2 : Nat) : Int)) = true := decide_eq_true (by omega)
        have g2 : p.getD 2 0 = x.getD (nn + 2) 0 := pget_in (k := 2) hp (by omega) (by omega)
        have t3 : decide (((nn + 3 : Nat) : Int) < (x.length : Int)) = true := decide_eq_true (by omega)
        have n3 : decide (nn + 3 < x.length) = true := decide_eq_true (by omega)
        have z3 : decide ((0 : Int) ≤ ((nn + 3 : Nat) : Int)) = true := decide_eq_true (by omega)
        have g3 : p.getD 3 0 = x.getD (nn + 3) 0 := pget_in (k := 3) hp (by omega) (by omega)
        have t4 : decide (((nn + 4 : Nat) : Int) < (x.length : Int)) = true := decide_eq_true (by omega)
        have n4 : decide (nn + 4 < x.length) = true := decide_eq_true (by omega)
        have z4 : decide ((0 : Int) ≤ ((nn + 4 : Nat) : Int)) = true := decide_eq_true (by omega)
        have g4 : p.getD 4 0 = x.getD (nn + 4) 0 := pget_in (k := 4) hp (by omega) (by omega)
        have t5 : decide (((nn + 5 : Nat) : Int) < (x.length : Int)) = true := decide_eq_true (by omega)
        have n5 : decide (nn + 5 < x.length) = true := decide_eq_true (by omega)
        have z5 : decide ((0 : Int) ≤ ((nn + 5 : Nat) : Int)) = true := decide_eq_true (by omega)
        have g5 : p.getD 5 0 = x.getD (nn + 5) 0 := pget_in (k := 5) hp (by omega) (by omega)
        have t6 : decide (((nn + 6 : Nat) : Int) < (x.length : Int)) = true := decide_eq_true (by omega)
        have n6 : decide (nn + 6 < x.length) = true := decide_eq_true (by omega)
        have z6 : decide ((0 : Int) ≤ ((nn + 6 : Nat) : Int)) = true := decide_eq_true (by omega)
        have g6 : p.getD 6 0 = x.getD (nn + 6) 0 := pget_in (k := 6) hp (by omega) (by omega)
        have f7 : decide (((nn + 7 : Nat) : Int) < (x.length : Int)) = false := decide_eq_false (by omega)
        have g7 : p.getD 7 0 = 0 := pget_out hp (by omega)
        simp only [g0, g1, g2, g3, g4, g5, g6, g7] at h hc
        simp only [w0, w1, w2, w3, w4, w5, w6, w7, wi1, wci, Int.toNat_natCast, Nat.add_zero, t0, n0, z0, t1, n1, z1, t2, n2, z2, t3, n3, z3, t4, n4, z4, t5, n5, z5, t6, n6, z6, f7, cond_true, cond_false, Bool.and_self]
        exact ⟨hc, ⟨⟨hokS, rfl⟩, h⟩, hmu⟩
      · have t0 : decide (((nn : Nat) : Int) < (x.length : Int)) = true := decide_eq_true (by omega)
        have n0 : decide (nn < x.length) = true := decide_eq_true (by omega)
        have z0 : decide ((0 : Int) ≤ ((nn : Nat) : Int)) = true := decide_eq_true (by omega)
        have g0 : p.getD 0 0 = x.getD (nn) 0 := pget_in (k := 0) hp (by omega) (by omega)
        have t1 : decide (((nn + 1 : Nat) : Int) < (x.length : Int)) = true := decide_eq_true (by omega)
        have n1 : decide (nn + 1 < x.length) = true := decide_eq_true (by omega)
        have z1 : decide ((0 : Int) ≤ ((nn + 1 : Nat) : Int)) = true := decide_eq_true (by omega)
        have g1 : p.getD 1 0 = x.getD (nn + 1) 0 := pget_in (k := 1) hp (by omega) (by omega)
        have t2 : decide (((nn + 2 : Nat) : Int) < (x.length : Int)) = true := decide_eq_true (by omega)
        have n2 : decide (nn + 2 < x.length) = true := decide_eq_true (by omega)
        have z2 : decide ((0 : Int) ≤ ((nn + 2 : Nat) : Int)) = true := decide_eq_true (by omega)
        have g2 : p.getD 2 0 = x.getD (nn + 2) 0 := pget_in (k := 2) hp (by omega) (by omega)
        have t3 : decide (((nn + 3 : Nat) : Int) < (x.length : Int)) = true := decide_eq_true (by omega)
        have n3 : decide (nn + 3 < x.length) = true := decide_eq_true (by omega)
        have z3 : decide ((0 : Int) ≤ ((nn + 3 : Nat) : Int)) = true := decide_eq_true (by omega)
        have g3 : p.getD 3 0 = x.getD (nn + 3) 0 := pget_in (k := 3) hp (by omega) (by omega)
        have t4 : decide (((nn + 4 : Nat) : Int) < (x.length : Int)) = true := decide_eq_true (by omega)
        have n4 : decide (nn + 4 < x.length) = true := decide_eq_true (by omega)
        have z4 : decide ((0 : Int) ≤ ((nn + 4 : Nat) : Int)) = true := decide_eq_true (by omega)
        have g4 : p.getD 4 0 = x.getD (nn + 4) 0 := pget_in (k := 4) hp (by omega) (by omega)
        have t5 : decide (((nn + 5 : Nat) : Int) < (x.length : Int)) = true := decide_eq_true (by omega)
        have n5 : decide (nn + 5 < x.length) = true := decide_eq_true (by omega)
        have z5 : decide ((0 : Int) ≤ ((nn + 5 : Nat) : Int)) = true := decide_eq_true (by omega)
        have g5 : p.getD 5 0 = x.getD (nn + 5) 0 := pget_in (k := 5) hp (by omega) (by omega)
        have t6 : decide (((nn + 6 : Nat) : Int) < (x.length : Int)) = true := decide_eq_true (by omega)
        have n6 : decide (nn + 6 < x.length) = true := decide_eq_true (by omega)
        have z6 : decide ((0 : Int) ≤ ((nn + 6 : Nat) : Int)) = true := decide_eq_true (by omega)
        have g6 : p.getD 6 0 = x.getD (nn + 6) 0 := pget_in (k := 6) hp (by omega) (by omega)
        have t7 : decide (((nn + 7 : Nat) : Int) < (x.length : Int)) = true := decide_eq_true (by omega)
        have n7 : decide (nn + 7 < x.length) = true := decide_eq_true (by omega)
        have z7 : decide ((0 : Int) ≤ ((nn + 7 : Nat) : Int)) = true := decide_eq_true (by omega)
        have g7 : p.getD 7 0 = x.getD (nn + 7) 0 := pget_in (k := 7) hp (by omega) (by omega)
        simp only [g0, g1, g2, g3, g4, g5, g6, g7] at h hc
        simp only [w0, w1, w2, w3, w4, w5, w6, w7, wi1, wci, Int.toNat_natCast, Nat.add_zero, t0, n0, z0, t1, n1, z1, t2, n2, z2, t3, n3, z3, t4, n4, z4, t5, n5, z5, t6, n6, z6, t7, n7, z7, cond_true, cond_false, Bool.and_self]
        exact ⟨hc, ⟨⟨hokS, rfl⟩, h⟩, hmu⟩
    · have hx0 : x.isEmpty = true := by
        cases x with
        | nil => rfl
        | cons y ys =>
          exfalso
          have : 0 < countN (y :: ys) := by unfold countN; simp only [List.length_cons]; omega
          omega
      rw [hx0] at h
      rw [decide_eq_false hi]
      exact h
  · rename_i x i ch c rows
    obtain ⟨⟨⟨k1, k2, k3, k4, k5, k6⟩, hi0⟩, h⟩ := h
    rw [ex38b x rows ch c i _]
    have g0 : x.length ≤ 1000000000 := by omega
    refine ⟨g0, ?_⟩
    by_cases hi : i < (countN x : Int)
    · obtain ⟨n, rfl⟩ := Int.eq_ofNat_of_zero_le k5
      have hn : n < countN x := by omega
      have hcn : countN x = (x.length + 7) / 8 := rfl
      have hr : 8 * n < x.length := by omega
      obtain ⟨nn, hnn⟩ : ∃ nn, nn = 8 * n := ⟨_, rfl⟩
      have hs := cut_step x hn ch c
      rw [← hnn] at hs hr
      obtain ⟨p, hp⟩ : ∃ p, (x.drop nn).take 8 = p := ⟨_, rfl⟩
      rw [hp] at hs
      have hc : contentG (c + (n : Int)) ch (pad8 p) = true := cut_content k3 ⟨by omega, by omega⟩ (part_ok hp k2)
      have wi1 : IntKind.i64.wrap ((n : Int) + 1) = ((n + 1 : Nat) : Int) := by rw [wrap_id (by omega) (by omega)]; omega
      have wci : IntKind.i64.wrap (c + (n : Int)) = c + n := wrap_id (by omega) (by omega)
      have w0 : IntKind.i64.wrap (IntKind.i64.wrap ((n : Int) * 8) + 0) = ((nn : Nat) : Int) := by rw [wrap_id (n := (n : Int) * 8) (by omega) (by omega), wrap_id (by omega) (by omega)]; omega
      have w1 : IntKind.i64.wrap (IntKind.i64.wrap ((n : Int) * 8) + 1) = ((nn + 1 : Nat) : Int) := by rw [wrap_id (n := (n : Int) * 8) (by omega) (by omega), wrap_id (by omega) (by omega)]; omega
      have w2 : IntKind.i64.wrap (IntKind.i64.wrap ((n : Int) * 8) + 2) = ((nn + 2 : Nat) : Int) := by rw [wrap_id (n := (n : Int) * 8) (by omega) (by omega), wrap_id (by omega) (by omega)]; omega
      have w3 : IntKind.i64.wrap (IntKind.i64.wrap ((n : Int) * 8) + 3) = ((nn + 3 : Nat) : Int) := by rw [wrap_id (n := (n : Int) * 8) (by omega) (by omega), wrap_id (by omega) (by omega)]; omega
      have w4 : IntKind.i64.wrap (IntKind.i64.wrap ((n : Int) * 8) + 4) = ((nn + 4 : Nat) : Int) := by rw [wrap_id (n := (n : Int) * 8) (by omega) (by omega), wrap_id (by omega) (by omega)]; omega
      have w5 : IntKind.i64.wrap (IntKind.i64.wrap ((n : Int) * 8) + 5) = ((nn + 5 : Nat) : Int) := by rw [wrap_id (n := (n : Int) * 8) (by omega) (by omega), wrap_id (by omega) (by omega)]; omega
      have w6 : IntKind.i64.wrap (IntKind.i64.wrap ((n : Int) * 8) + 6) = ((nn + 6 : Nat) : Int) := by rw [wrap_id (n := (n : Int) * 8) (by omega) (by omega), wrap_id (by omega) (by omega)]; omega
      have w7 : IntKind.i64.wrap (IntKind.i64.wrap ((n : Int) * 8) + 7) = ((nn + 7 : Nat) : Int) := by rw [wrap_id (n := (n : Int) * 8) (by omega) (by omega), wrap_id (by omega) (by omega)]; omega
      have hlen : ∀ r : List Int, (rows ++ [r]).length = rows.length + 1 := fun r => by simp
      have e0 : rows ++ blkRows ch (c + (n : Int)) (chunkC (x.drop (8 * (n : Int).toNat)) (countN x - (n : Int).toNat)) = (rows ++ [blkRow (c + n) ch p]) ++ blkRows ch (c + ((n + 1 : Nat) : Int)) (chunkC (x.drop (8 * (n + 1))) (countN x - (n + 1))) := by
        rw [show c + ((n + 1 : Nat) : Int) = c + n + 1 by omega, Int.toNat_natCast, ← hnn, hs, List.append_assoc]
        rfl
      rw [e0] at h
      have hokS : okCutR x ch c ((n + 1 : Nat) : Int) := ⟨k1, k2, k3, k4, by omega, by omega⟩
      have hmu : countN x - ((n + 1 : Nat) : Int).toNat < countN x - ((n : Nat) : Int).toNat := by omega
      have hi' : decide ((n : Int) < (countN x : Int)) = true := decide_eq_true hi
      rw [hi', cond_true]
      unfold blkRow pad8 at h
      unfold pad8 at hc
      rcases (by omega : x.length = nn + 1 ∨ x.length = nn + 2 ∨ x.length = nn + 3 ∨ x.length = nn + 4 ∨ x.length = nn + 5 ∨ x.length = nn + 6 ∨ x.length = nn + 7 ∨ nn + 8 ≤ x.length) with hm | hm | hm | hm | hm | hm | hm | hm
      · have t0 : decide (((nn : Nat) : Int) < (x.length : Int)) = true := decide_eq_true (by omega)
        have n0 : decide (nn < x.length) = true := decide_eq_true (by omega)
        have z0 : decide ((0 : Int) ≤ ((nn : Nat) : Int)) = true := decide_eq_true (by omega)
        have g0 : p.getD 0 0 = x.getD (nn) 0 := pget_in (k := 0) hp (by omega) (by omega)
        have f1 : decide (((nn + 1 : Nat) : Int) < (x.length : Int)) = false := decide_eq_false (by omega)
        have g1 : p.getD 1 0 = 0 := pget_out hp (by omega)
        have g2 : p.getD 2 0 = 0 := pget_out hp (by omega)
        have g3 : p.getD 3 0 = 0 := pget_out hp (by omega)
        have g4 : p.getD 4 0 = 0 := pget_out hp (by omega)
        have g5 : p.getD 5 0 = 0 := pget_out hp (by omega)
        have g6 : p.getD 6 0 = 0 := pget_out hp (by omega)
        have g7 : p.getD 7 0 = 0 := pget_out hp (by omega)
        simp only [g0, g1, g2, g3, g4, g5, g6, g7] at h hc
        simp only [w0, w1, w2, w3, w4, w5, w6, w7, wi1, wci, Int.toNat_natCast, Nat.add_zero, t0, n0, z0, f1, cond_true, cond_false, Bool.and_self]
        refine ⟨hc, ?_⟩
        rw [hlen, decide_eq_true (by omega), cond_true]
        exact ⟨⟨⟨hokS, by rw [hlen]; omega⟩, h⟩, hmu⟩
      · have t0 : decide (((nn : Nat) : Int) < (x.length : Int)) = true := decide_eq_true (by omega)
        have n0 : decide (nn < x.length) = true := decide_eq_true (by omega)
        have z0 : decide ((0 : Int) ≤ ((nn : Nat) : Int)) = true := decide_eq_true (by omega)
        have g0 : p.getD 0 0 = x.getD (nn) 0 := pget_in (k := 0) hp (by omega) (by omega)
        have t1 : decide (((nn + 1 : Nat) : Int) < (x.length : Int)) = true := decide_eq_true (by omega)
        have n1 : decide (nn + 1 < x.length) = true := decide_eq_true (by omega)
        have z1 : decide ((0 : Int) ≤ ((nn + 1 : Nat) : Int)) = true := decide_eq_true (by omega)
        have g1 : p.getD 1 0 = x.getD (nn + 1) 0 := pget_in (k := 1) hp (by omega) (by omega)
        have f2 : decide (((nn + 2 : Nat) : Int) < (x.length : Int)) = false := decide_eq_false (by omega)
        have g2 : p.getD 2 0 = 0 := pget_out hp (by omega)
        have g3 : p.getD 3 0 = 0 := pget_out hp (by omega)
        have g4 : p.getD 4 0 = 0 := pget_out hp (by omega)
        have g5 : p.getD 5 0 = 0 := pget_out hp (by omega)
        have g6 : p.getD 6 0 = 0 := pget_out hp (by omega)
        have g7 : p.getD 7 0 = 0 := pget_out hp (by omega)
        simp only [g0, g1, g2, g3, g4, g5, g6, g7] at h hc
        simp only [w0, w1, w2, w3, w4, w5, w6, w7, wi1, wci, Int.toNat_natCast, Nat.add_zero, t0, n0, z0, t1, n1, z1, f2, cond_true, cond_false, Bool.and_self]
        refine ⟨hc, ?_⟩
        rw [hlen, decide_eq_true (by omega), cond_true]
        exact ⟨⟨⟨hokS, by rw [hlen]; omega⟩, h⟩, hmu⟩
      · have t0 : decide (((nn : Nat) : Int) < (x.length : Int)) = true := decide_eq_true (by omega)
        have n0 : decide (nn < x.length) = true := decide_eq_true (by omega)
        have z0 : decide ((0 : Int) ≤ ((nn : Nat) : Int)) = true := decide_eq_true (by omega)
        have g0 : p.getD 0 0 = x.getD (nn) 0 := pget_in (k := 0) hp (by omega) (by omega)
        have t1 : decide (((nn + 1 : Nat) : Int) < (x.length : Int)) = true := decide_eq_true (by omega)
        have n1 : decide (nn + 1 < x.length) = true := decide_eq_true (by omega)
        have z1 : decide ((0 : Int) ≤ ((nn + 1 : Nat) : Int)) = true := decide_eq_true (by omega)
        have g1 : p.getD 1 0 = x.getD (nn + 1) 0 := pget_in (k := 1) hp (by omega) (by omega)
        have t2 : decide (((nn + 2 : Nat) : Int) < (x.length : Int)) = true := decide_eq_true (by omega)
        have n2 : decide (nn + 2 < x.length) = true := decide_eq_true (by omega)
        have z2 : decide ((0 : Int) ≤ ((nn + 2 : Nat) : Int)) = true := decide_eq_true (by omega)
        have g2 : p.getD 2 0 = x.getD (nn + 2) 0 := pget_in (k := 2) hp (by omega) (by omega)
        have f3 : decide (((nn + 3 : Nat) : Int) < (x.length : Int)) = false := decide_eq_false (by omega)
        have g3 : p.getD 3 0 = 0 := pget_out hp (by omega)
        have g4 : p.getD 4 0 = 0 := pget_out hp (by omega)
        have g5 : p.getD 5 0 = 0 := pget_out hp (by omega)
        have g6 : p.getD 6 0 = 0 := pget_out hp (by omega)
        have g7 : p.getD 7 0 = 0 := pget_out hp (by omega)
        simp only [g0, g1, g2, g3, g4, g5, g6, g7] at h hc
        simp only [w0, w1, w2, w3, w4, w5, w6, w7, wi1, wci, Int.toNat_natCast, Nat.add_zero, t0, n0, z0, t1, n1, z1, t2, n2, z2, f3, cond_true, cond_false, Bool.and_self]
        refine ⟨hc, ?_⟩
        rw [hlen, decide_eq_true (by omega), cond_true]
        exact ⟨⟨⟨hokS, by rw [hlen]; omega⟩, h⟩, hmu⟩
      · have t0 : decide (((nn : Nat) : Int) < (x.length : Int)) = true := decide_eq_true (by omega)
        have n0 : decide (nn < x.length) = true := decide_eq_true (by omega)
        have z0 : decide ((0 : Int) ≤ ((nn : Nat) : Int)) = true := decide_eq_true (by omega)
        have g0 : p.getD 0 0 = x.getD (nn) 0 := pget_in (k := 0) hp (by omega) (by omega)
        have t1 : decide (((nn + 1 : Nat) : Int) < (x.length : Int)) = true := decide_eq_true (by omega)
        have n1 : decide (nn + 1 < x.length) = true := decide_eq_true (by omega)
        have z1 : decide ((0 : Int) ≤ ((nn + 1 : Nat) : Int)) = true := decide_eq_true (by omega)
        have g1 : p.getD 1 0 = x.getD (nn + 1) 0 := pget_in (k := 1) hp (by omega) (by omega)
        have t2 : decide (((nn + 2 : Nat) : Int) < (x.length : Int)) = true := decide_eq_true (by omega)
        have n2 : decide (nn + 2 < x.length) = true := decide_eq_true (by omega)
        have z2 : decide ((0 : Int) ≤ ((nn + 2 : Nat) : Int)) = true := decide_eq_true (by omega)
        have g2 : p.getD 2 0 = x.getD (nn + 2) 0 := pget_in (k := 2) hp (by omega) (by omega)
        have t3 : decide (((nn + 3 : Nat) : Int) < (x.length : Int)) = true := decide_eq_true (by omega)
        have n3 : decide (nn + 3 < x.length) = true := decide_eq_true (by omega)
        have z3 : decide ((0 : Int) ≤ ((nn + 3 : Nat) : Int)) = true := decide_eq_true (by omega)
        have g3 : p.getD 3 0 = x.getD (nn + 3) 0 := pget_in (k := 3) hp (by omega) (by omega)
        have f4 : decide (((nn + 4 : Nat) : Int) < (x.length : Int)) = false := decide_eq_false (by omega)
        have g4 : p.getD 4 0 = 0 := pget_out hp (by omega)
        have g5 : p.getD 5 0 = 0 := pget_out hp (by omega)
        have g6 : p.getD 6 0 = 0 := pget_out hp (by omega)
        have g7 : p.getD 7 0 = 0 := pget_out hp (by omega)
        simp only [g0, g1, g2, g3, g4, g5, g6, g7] at h hc
        simp only [w0, w1, w2, w3, w4, w5, w6, w7, wi1, wci, Int.toNat_natCast, Nat.add_zero, t0, n0, z0, t1, n1, z1, t2, n2, z2, t3, n3, z3, f4, cond_true, cond_false, Bool.and_self]
        refine ⟨hc, ?_⟩
        rw [hlen, decide_eq_true (by omega), cond_true]
        exact ⟨⟨⟨hokS, by rw [hlen]; omega⟩, h⟩, hmu⟩
      · have t0 : decide (((nn : Nat) : Int) < (x.length : Int)) = true := decide_eq_true (by omega)
        have n0 : decide (nn < x.length) = true := decide_eq_true (by omega)
        have z0 : decide ((0 : Int) ≤ ((nn : Nat) : Int)) = true := decide_eq_true (by omega)
        have g0 : p.getD 0 0 = x.getD (nn) 0 := pget_in (k := 0) hp (by omega) (by omega)
        have t1 : decide (((nn + 1 : Nat) : Int) < (x.length : Int)) = true := decide_eq_true (by omega)
        have n1 : decide (nn + 1 < x.length) = true := decide_eq_true (by omega)
        have z1 : decide ((0 : Int) ≤ ((nn + 1 : Nat) : Int)) = true := decide_eq_true (by omega)
        have g1 : p.getD 1 0 = x.getD (nn + 1) 0 := pget_in (k := 1) hp (by omega) (by omega)
        have t2 : decide (((nn + 2 : Nat) : Int) < (x.length : Int)) = true := decide_eq_true (by omega)
        have n2 : decide (nn + 2 < x.length) = true := decide_eq_true (by omega)
        have z2 : decide ((0 : Int) ≤ ((nn + 2 : Nat) : Int)) = true := decide_eq_true (by omega)
        have g2 : p.getD 2 0 = x.getD (nn + 2) 0 := pget_in (k := 2) hp (by omega) (by omega)
        have t3 : decide (((nn + 3 : Nat) : Int) < (x.length : Int)) = true := decide_eq_true (by omega)
        have n3 : decide (nn + 3 < x.length) = true := decide_eq_true (by omega)
        have z3 : decide ((0 : Int) ≤ ((nn + 3 : Nat) : Int)) = true := decide_eq_true (by omega)
        have g3 : p.getD 3 0 = x.getD (nn + 3) 0 := pget_in (k := 3) hp (by omega) (by omega)
        have t4 : decide (((nn + 4 : Nat) : Int) < (x.length : Int)) = true := decide_eq_true (by omega)
        have n4 : decide (nn + 4 < x.length) = true := decide_eq_true (by omega)
        have z4 : decide ((0 : Int) ≤ ((nn + 4 : Nat) : Int)) = true := decide_eq_true (by omega)
        have g4 : p.getD 4 0 = x.getD (nn + 4) 0 := pget_in (k := 4) hp (by omega) (by omega)
        have f5 : decide (((nn + 5 : Nat) : Int) < (x.length : Int)) = false := decide_eq_false (by omega)
        have g5 : p.getD 5 0 = 0 := pget_out hp (by omega)
        have g6 : p.getD 6 0 = 0 := pget_out hp (by omega)
        have g7 : p.getD 7 0 = 0 := pget_out hp (by omega)
        simp only [g0, g1, g2, g3, g4, g5, g6, g7] at h hc
        simp only [w0, w1, w2, w3, w4, w5, w6, w7, wi1, wci, Int.toNat_natCast, Nat.add_zero, t0, n0, z0, t1, n1, z1, t2, n2, z2, t3, n3, z3, t4, n4, z4, f5, cond_true, cond_false, Bool.and_self]
        refine ⟨hc, ?_⟩
        rw [hlen, decide_eq_true (by omega), cond_true]
        exact ⟨⟨⟨hokS, by rw [hlen]; omega⟩, h⟩, hmu⟩
      · have t0 : decide (((nn : Nat) : Int) < (x.length : Int)) = true := decide_eq_true (by omega)
        have n0 : decide (nn < x.length) = true := decide_eq_true (by omega)
        have z0 : decide ((0 : Int) ≤ ((nn : Nat) : Int)) = true := decide_eq_true (by omega)
        have g0 : p.getD 0 0 = x.getD (nn) 0 := pget_in (k := 0) hp (by omega) (by omega)
        have t1 : decide (((nn + 1 : Nat) : Int) < (x.length : Int)) = true := decide_eq_true (by omega)
        have n1 : decide (nn + 1 < x.length) = true := decide_eq_true (by omega)
        have z1 : decide ((0 : Int) ≤ ((nn + 1 : Nat) : Int)) = true := decide_eq_true (by omega)
        have g1 : p.getD 1 0 = x.getD (nn + 1) 0 := pget_in (k := 1) hp (by omega) (by omega)
        have t2 : decide (((nn + 2 : Nat) : Int) < (x.length : Int)) = true := decide_eq_true (by omega)
        have n2 : decide (nn + 2 < x.length) = true := decide_eq_true (by omega)
        have z2 : decide ((0 : Int) ≤ ((nn + 2 : Nat) : Int)) = true := decide_eq_true (by omega)
        have g2 : p.getD 2 0 = x.getD (nn + 2) 0 := pget_in (k := 2) hp (by omega) (by omega)
        have t3 : decide (((nn + 3 : Nat) : Int) < (x.length : Int)) = true := decide_eq_true (by omega)
        have n3 : decide (nn + 3 < x.length) = true := decide_eq_true (by omega)
        have z3 : decide ((0 : Int) ≤ ((nn + 3 : Nat) : Int)) = true := decide_eq_true (by omega)
        have g3 : p.getD 3 0 = x.getD (nn + 3) 0 := pget_in (k := 3) hp (by omega) (by omega)
        have t4 : decide (((nn + 4 : Nat) : Int) < (x.length : Int)) = true := decide_eq_true (by omega)
        have n4 : decide (nn + 4 < x.length) = true := decide_eq_true (by omega)
        have z4 : decide ((0 : Int) ≤ ((nn + 4 : Nat) : Int)) = true := decide_eq_true (by omega)
        have g4 : p.getD 4 0 = x.getD (nn + 4) 0 := pget_in (k := 4) hp (by omega) (by omega)
        have t5 : decide (((nn + 5 : Nat) : Int) < (x.length : Int)) = true := decide_eq_true (by omega)
        have n5 : decide (nn + 5 < x.length) = true := decide_eq_true (by omega)
        have z5 : decide ((0 : Int) ≤ ((nn + 5 : Nat) : Int)) = true := decide_eq_true (by omega)
        have g5 : p.getD 5 0 = x.getD (nn + 5) 0 := pget_in (k := 5) hp (by omega) (by omega)
        have f6 : decide (((nn + 6 : Nat) : Int) < (x.length : Int)) = false := decide_eq_false (by omega)
        have g6 : p.getD 6 0 = 0 := pget_out hp (by omega)
        have g7 : p.getD 7 0 = 0 := pget_out hp (by omega)
        simp only [g0, g1, g2, g3, g4, g5, g6, g7] at h hc
        simp only [w0, w1, w2, w3, w4, w5, w6, w7, wi1, wci, Int.toNat_natCast, Nat.add_zero, t0, n0, z0, t1, n1, z1, t2, n2, z2, t3, n3, z3, t4, n4, z4, t5, n5, z5, f6, cond_true, cond_false, Bool.and_self]
        refine ⟨hc, ?_⟩
        rw [hlen, decide_eq_true (by omega), cond_true]
        exact ⟨⟨⟨hokS, by rw [hlen]; omega⟩, h⟩, hmu⟩
      · have t0 : decide (((nn : Nat) : Int) < (x.length : Int)) = true := decide_eq_true (by omega)
        have n0 : decide (nn < x.length) = true := decide_eq_true (by omega)
        have z0 : decide ((0 : Int) ≤ ((nn : Nat) : Int)) = true := decide_eq_true (by omega)
        have g0 : p.getD 0 0 = x.getD (nn) 0 := pget_in (k := 0) hp (by omega) (by omega)
        have t1 : decide (((nn + 1 : Nat) : Int) < (x.length : Int)) = true := decide_eq_true (by omega)
        have n1 : decide (nn + 1 < x.length) = true := decide_eq_true (by omega)
        have z1 : decide ((0 : Int) ≤ ((nn + 1 : Nat) : Int)) = true := decide_eq_true (by omega)
        have g1 : p.getD 1 0 = x.getD (nn + 1) 0 := pget_in (k := 1) hp (by omega) (by omega)
        have t2 : decide (((nn + 2 : Nat) : Int) < (x.length : Int)) = true := decide_eq_true (by omega)
        have n2 : decide (nn + 2 < x.length) = true := decide_eq_true (by omega)
        have z2 : decide ((0 : Int) ≤ ((nn + 2 : Nat) : Int)) = true := decide_eq_true (by omega)
        have g2 : p.getD 2 0 = x.getD (nn + 2) 0 := pget_in (k := 2) hp (by omega) (by omega)
        have t3 : decide (((nn + 3 : Nat) : Int) < (x.length : Int)) = true := decide_eq_true (by omega)
        have n3 : decide (nn + 3 < x.length) = true := decide_eq_true (by omega)
        have z3 : decide ((0 : Int) ≤ ((nn + 3 : Nat) : Int)) = true := decide_eq_true (by omega)
        have g3 : p.getD 3 0 = x.getD (nn + 3) 0 := pget_in (k := 3) hp (by omega) (by omega)
        have t4 : decide (((nn + 4 : Nat) : Int) < (x.length : Int)) = true := decide_eq_true (by omega)
        have n4 : decide (nn + 4 < x.length) = true := decide_eq_true (by omega)
        have z4 : decide ((0 : Int) ≤ ((nn + 4 : Nat) : Int)) = true := decide_eq_true (by omega)
        have g4 : p.getD 4 0 = x.getD (nn + 4) 0 := pget_in (k := 4) hp (by omega) (by omega)
        have t5 : decide (((nn + 5 : Nat) : Int) < (x.length : Int)) = true := decide_eq_true (by omega)
        have n5 : decide (nn + 5 < x.length) = true := decide_eq_true (by omega)
        have z5 : decide ((0 : Int) ≤ ((nn + 5 : Nat) : Int)) = true := decide_eq_true (by omega)
        have g5 : p.getD 5 0 = x.getD (nn + 5) 0 := pget_in (k := 5) hp (by omega) (by omega)
        have t6 : decide (((nn + 6 : Nat) : Int) < (x.length : Int)) = true := decide_eq_true (by omega)
        have n6 : decide (nn + 6 < x.length) = true := decide_eq_true (by omega)
        have z6 : decide ((0 : Int) ≤ ((nn + 6 : Nat) : Int)) = true := decide_eq_true (by omega)
        have g6 : p.getD 6 0 = x.getD (nn + 6) 0 := pget_in (k := 6) hp (by omega) (by omega)
        have f7 : decide (((nn + 7 : Nat) : Int) < (x.length : Int)) = false := decide_eq_false (by omega)
        have g7 : p.getD 7 0 = 0 := pget_out hp (by omega)
        simp only [g0, g1, g2, g3, g4, g5, g6, g7] at h hc
        simp only [w0, w1, w2, w3, w4, w5, w6, w7, wi1, wci, Int.toNat_natCast, Nat.add_zero, t0, n0, z0, t1, n1, z1, t2, n2, z2, t3, n3, z3, t4, n4, z4, t5, n5, z5, t6, n6, z6, f7, cond_true, cond_false, Bool.and_self]
        refine ⟨hc, ?_⟩
        rw [hlen, decide_eq_true (by omega), cond_true]
        exact ⟨⟨⟨hokS, by rw [hlen]; omega⟩, h⟩, hmu⟩
      · have t0 : decide (((nn : Nat) : Int) < (x.length : Int)) = true := decide_eq_true (by omega)
        have n0 : decide (nn < x.length) = true := decide_eq_true (by omega)
        have z0 : decide ((0 : Int) ≤ ((nn : Nat) : Int)) = true := decide_eq_true (by omega)
        have g0 : p.getD 0 0 = x.getD (nn) 0 := pget_in (k := 0) hp (by omega) (by omega)
        have t1 : decide (((nn + 1 : Nat) : Int) < (x.length : Int)) = true := decide_eq_true (by omega)
        have n1 : decide (nn + 1 < x.length) = true := decide_eq_true (by omega)
        have z1 : decide ((0 : Int) ≤ ((nn + 1 : Nat) : Int)) = true := decide_eq_true (by omega)
        have g1 : p.getD 1 0 = x.getD (nn + 1) 0 := pget_in (k := 1) hp (by omega) (by omega)
        have t2 : decide (((nn + 2 : Nat) : Int) < (x.length : Int)) = true := decide_eq_true (by omega)
        have n2 : decide (nn + 2 < x.length) = true := decide_eq_true (by omega)
        have z2 : decide ((0 : Int) ≤ ((nn + 2 : Nat) : Int)) = true := decide_eq_true (by omega)
        have g2 : p.getD 2 0 = x.getD (nn + 2) 0 := pget_in (k := 2) hp (by omega) (by omega)
        have t3 : decide (((nn + 3 : Nat) : Int) < (x.length : Int)) = true := decide_eq_true (by omega)
        have n3 : decide (nn + 3 < x.length) = true := decide_eq_true (by omega)
        have z3 : decide ((0 : Int) ≤ ((nn + 3 : Nat) : Int)) = true := decide_eq_true (by omega)
        have g3 : p.getD 3 0 = x.getD (nn + 3) 0 := pget_in (k := 3) hp (by omega) (by omega)
        have t4 : decide (((nn + 4 : Nat) : Int) < (x.length : Int)) = true := decide_eq_true (by omega)
        have n4 : decide (nn + 4 < x.length) = true := decide_eq_true (by omega)
        have z4 : decide ((0 : Int) ≤ ((nn + 4 : Nat) : Int)) = true := decide_eq_true (by omega)
        have g4 : p.getD 4 0 = x.getD (nn + 4) 0 := pget_in (k := 4) hp (by omega) (by omega)
        have t5 : decide (((nn + 5 : Nat) : Int) < (x.length : Int)) = true := decide_eq_true (by omega)
        have n5 : decide (nn + 5 < x.length) = true := decide_eq_true (by omega)
        have z5 : decide ((0 : Int) ≤ ((nn + 5 : Nat) : Int)) = true := decide_eq_true (by omega)
        have g5 : p.getD 5 0 = x.getD (nn + 5) 0 := pget_in (k := 5) hp (by omega) (by omega)
        have t6 : decide (((nn + 6 : Nat) : Int) < (x.length : Int)) = true := decide_eq_true (by omega)
        have n6 : decide (nn + 6 < x.length) = true := decide_eq_true (by omega)
        have z6 : decide ((0 : Int) ≤ ((nn + 6 : Nat) : Int)) = true := decide_eq_true (by omega)
        have g6 : p.getD 6 0 = x.getD (nn + 6) 0 := pget_in (k := 6) hp (by omega) (by omega)
        have t7 : decide (((nn + 7 : Nat) : Int) < (x.length : Int)) = true := decide_eq_true (by omega)
        have n7 : decide (nn + 7 < x.length) = true := decide_eq_true (by omega)
        have z7 : decide ((0 : Int) ≤ ((nn + 7 : Nat) : Int)) = true := decide_eq_true (by omega)
        have g7 : p.getD 7 0 = x.getD (nn + 7) 0 := pget_in (k := 7) hp (by omega) (by omega)
        simp only [g0, g1, g2, g3, g4, g5, g6, g7] at h hc
        simp only [w0, w1, w2, w3, w4, w5, w6, w7, wi1, wci, Int.toNat_natCast, Nat.add_zero, t0, n0, z0, t1, n1, z1, t2, n2, z2, t3, n3, z3, t4, n4, z4, t5, n5, z5, t6, n6, z6, t7, n7, z7, cond_true, cond_false, Bool.and_self]
        refine ⟨hc, ?_⟩
        rw [hlen, decide_eq_true (by omega), cond_true]
        exact ⟨⟨⟨hokS, by rw [hlen]; omega⟩, h⟩, hmu⟩
    · have e : i = (countN x : Int) := by omega
      subst e
      rw [Int.toNat_natCast, Nat.sub_self] at h
      simp only [chunkC, blkRows, List.append_nil] at h
      rw [decide_eq_false hi]
      exact h
  · exact h.elim
theorem cutE_ok {x : List Int} {ch c : Int} (h : cutE x ch c = 0) : x.length ≤ 320 ∧ x.all sampleG = true ∧ (0 ≤ ch ∧ ch ≤ 3) ∧ 0 ≤ c ∧ c + countN x ≤ 65536 := by
  unfold cutE at h
  cases h1 : decide ((countN x : Int) ≤ 40) <;> cases h2 : x.all sampleG <;> cases h3 : withinG ch 0 3 <;> cases h4 : withinG c 0 65535 <;> cases h5 : decide (c + max 0 ((countN x : Int) - 1) ≤ 65535) <;> rw [h1, h2, h3, h4, h5] at h
  all_goals first | exact absurd h (by decide) | skip
  have h1 := of_decide_eq_true h1
  have h5 := of_decide_eq_true h5
  unfold withinG at h3 h4
  simp only [Bool.and_eq_true, decide_eq_true_eq] at h3 h4
  refine ⟨?_, rfl, h3, h4.1, by omega⟩
  unfold countN at h1
  omega
theorem ok38 : SpecOK Try.prog 38 refBlocksOfS := by
  refine specOK (n := 53) (m := 0) (lps := [(3, .spec [0, 3, 5, 6] [5] refCutL), (7, .unroll 9)]) ok38L Try.func38 (by kernel_rfl) (by kernel_rfl) (theLoops (n := 2) (by kernel_rfl) fun i hi => ?_) fun args σ K h => ?_
  · match i, hi with
    | 0, _ => exact loopHyp_of (key := 3) (by kernel_rfl) rfl lok38
    | 1, _ => exact loopHyp_none (key := 7) (by kernel_rfl) rfl
  · unfold refBlocksOfS at h
    split at h
    · rename_i x ch c
      rw [ex38 x ch c K]
      obtain ⟨he, h⟩ := h
      obtain ⟨h1, h2, h3, h4, h5⟩ := cutE_ok he
      exact ⟨⟨⟨h1, h2, h3, ⟨h4, h5⟩, by decide, by omega⟩, rfl⟩, h⟩
    · exact h.elim

/-! ### The law -/
theorem blkRows_len (ch : Int) : ∀ (cs : List (List Int)) (c : Int), (blkRows ch c cs).length = cs.length ∧ (blkRows ch c cs).all len11 = true
  | [], _ => ⟨rfl, rfl⟩
  | p :: cs, c => by
    obtain ⟨h1, h2⟩ := blkRows_len ch cs (c + 1)
    refine ⟨by simp [blkRows, h1], ?_⟩
    simp only [blkRows, List.all_cons, h2, Bool.and_true]
    rfl
def cutsLawS : Spec := fun args σ K => match args, σ with
  | [.one (.data (.ints .i64 _)), .agg [.int .i64 _, .int .i64 _]], [] => K (.one (.bool true)) []
  | _, _ => False
theorem ok7 : SpecOK Try.prog 7 cutsLawS := by
  refine specOK (n := 42) (m := 0) (lps := []) (.cons ok15 (.cons ok35 (.cons ok34 (.cons ok36 (.cons ok38 (.cons ok37 .nil)))))) Try.func7 (by kernel_rfl) (by kernel_rfl) (noLoops (by kernel_rfl)) fun args σ K h => ?_
  unfold cutsLawS at h
  split at h
  · rename_i x ch c
    rw [ex7 x ch c K]
    by_cases hl : (x.length : Int) > 330
    · rw [decide_eq_true hl]; exact h
    · rw [decide_eq_false hl]
      have g1 : x.length ≤ 1000000000000 := by omega
      have g2 : x.length ≤ 1000000 := by omega
      refine ⟨g1, g2, ?_⟩
      obtain ⟨f1, _⟩ := chunk_facts x.length x (by omega)
      obtain ⟨b1, b2⟩ := blkRows_len ch (chunkC x (countN x)) c
      have b3 : (cutRows x ch c).length ≤ 1000000000 := by unfold cutRows; rw [b1, f1]; unfold countN; omega
      have b4 : (cutRows x ch c).all len11 = true := b2
      generalize cutE x ch c = e at *
      cases he : e == 0 with
      | true =>
        have e0 : e = 0 := eq_of_beq he
        subst e0
        cases hx : x.isEmpty with
        | true => exact ⟨g2, rfl, ⟨by decide, rfl, rfl⟩, h⟩
        | false => exact ⟨g2, rfl, ⟨b3, b4, b4⟩, by rw [beq_self_eq_true]; exact h⟩
      | false =>
        have hne : (e != 0) = true := by rw [bne, he]; rfl
        rw [hne]
        refine ⟨g2, ?_⟩
        rw [beq_self_eq_true]
        exact h
  · exact h.elim
end Go.Ev
