/-
  Chapter 1, contracts: checked blocks.
-/
import Derived.Test.YtlejemnljojpgaaC1Hok
namespace Go.Ev
open Go Go.Proofs
set_option maxRecDepth 20000

def isSampleS : Spec := fun args σ K => match args, σ with
  | [.one (.int .i64 n)], [] => K (.one (.bool (sampleG n))) []
  | _, _ => False
def areL : LSpec := fun vs σ k => match vs, σ with
  | [.one (.data (.ints .i64 l)), .one (.int .i64 i)], [] =>
    (l.length ≤ 1000000000 ∧ 0 ≤ i) ∧ bif (l.drop i.toNat).all sampleG then k (.exit 0) [.any] [] else k .ret [.one (.bool false)] []
  | _, _ => False
def areS : Spec := fun args σ K => match args, σ with
  | [.one (.data (.ints .i64 l))], [] => l.length ≤ 1000000000 ∧ K (.one (.bool (l.all sampleG))) []
  | _, _ => False
def modB (n by_ : Int) : Int := bif decide (n.tmod by_ < 0) then wi (n.tmod by_ + by_) else n.tmod by_
def modS : Spec := fun args σ K => match args, σ with
  | [.one (.int .i64 n), .one (.int .i64 b)], [] => b ≠ 0 ∧ K (.one (.int .i64 (modB n b))) []
  | _, _ => False
def mod11S : Spec := fun args σ K => match args, σ with
  | [.one (.int .i64 n), .one (.int .i64 b)], [] => b = 11 ∧ (modB n 11 = 0 → K (.one (.int .i64 0)) []) ∧ (modB n 11 = 1 → K (.one (.int .i64 1)) []) ∧ (modB n 11 = 2 → K (.one (.int .i64 2)) []) ∧ (modB n 11 = 3 → K (.one (.int .i64 3)) []) ∧
    (modB n 11 = 4 → K (.one (.int .i64 4)) []) ∧ (modB n 11 = 5 → K (.one (.int .i64 5)) []) ∧ (modB n 11 = 6 → K (.one (.int .i64 6)) []) ∧ (modB n 11 = 7 → K (.one (.int .i64 7)) []) ∧ (modB n 11 = 8 → K (.one (.int .i64 8)) []) ∧
    (modB n 11 = 9 → K (.one (.int .i64 9)) []) ∧ (modB n 11 = 10 → K (.one (.int .i64 10)) [])
  | _, _ => False
def blockE (c ch : Int) (xs : List Int) (sm : Int) : Int := bif contentG c ch xs then (bif sm != sumG c ch xs then 20 else 0) else 2
def blockS : Spec := fun args σ K => match args, σ with
  | [.agg [.int .i64 c, .int .i64 ch, .int .i64 x0, .int .i64 x1, .int .i64 x2, .int .i64 x3, .int .i64 x4, .int .i64 x5, .int .i64 x6, .int .i64 x7, .int .i64 sm]], [] => K (.one (.int .i64 (blockE c ch [x0, x1, x2, x3, x4, x5, x6, x7] sm))) []
  | _, _ => False
noncomputable abbrev E108 : Env := envOf Try.prog [(25, withinS)] [] 5 0
noncomputable abbrev E81 : Env := envOf Try.prog [(108, isSampleS)] [(2, .spec [0, 3] [2] areL)] 16 0
noncomputable abbrev E80 : Env := envOf Try.prog [(25, withinS)] [] 6 0
noncomputable abbrev E23 : Env := envOf Try.prog [(25, withinS), (80, channelS), (81, areS)] [] 19 0
noncomputable abbrev E26 : Env := envOf Try.prog [] [] 14 0
noncomputable abbrev E24 : Env := envOf Try.prog [(26, modS)] [(3, .unroll 9)] 28 0
noncomputable abbrev E22 : Env := envOf Try.prog [(23, contentS), (24, sumS)] [] 14 0
noncomputable abbrev E21 : Env := envOf Try.prog [(20, sumOfS), (70, unlessS), (69, firstS)] [] 18 0
noncomputable abbrev E4 : Env := envOf Try.prog [(15, trueS), (20, sumOfS), (21, blockS), (22, blockS), (23, contentS), (24, sumS)] [] 37 0
noncomputable abbrev E5 : Env := envOf Try.prog [(15, trueS), (20, sumOfS), (21, blockS), (23, contentS), (25, withinS), (26, mod11S)] [] 78 0
end Go.Ev
