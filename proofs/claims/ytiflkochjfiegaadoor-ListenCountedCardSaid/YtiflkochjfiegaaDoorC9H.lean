/-
  Chapter 9, contracts: the law of loudness, the law of tails.
-/
import Derived.Test.YtiflkochjfiegaaDoorC9G
import Derived.KernelRfl
import Derived.Test.YtiflkochjfiegaaDoorC9Y
set_option linter.unusedVariables false
set_option linter.unusedSimpArgs false
set_option linter.unusedSectionVars false
namespace Go.Ev
open Go Go.Proofs
set_option maxRecDepth 20000

def lawLoudS : Spec := fun args σ K => match args, σ with
  | [.agg [.int .i64 len, .int .i64 hop, .int .i64 gate, .int .i64 pct], .one (.data (.ints .i64 x))], [] => K (.one (.bool true)) []
  | _, _ => False
noncomputable abbrev Elld : Env := envOf Tryd.prog [(19, awakeS), (20, shortS), (22, copyDS), (21, gbDS), (23, loud2S), (24, meterS), (25, meterS), (26, sigS), (27, intsS), (28, rgatDS), (29, rloud2S)] [] 100 0
def lawTailS : Spec := fun args σ K => match args, σ with
  | [.one (.int .i64 t), .one (.int .i64 r), .agg [.int .i64 n, .int .i64 d]], [] => d ≤ 9223372036854775807 ∧ K (.one (.bool true)) []
  | _, _ => False
noncomputable abbrev Eltl : Env := envOf Tryd.prog [(19, awakeS), (39, tail2S), (40, min2S), (41, rtailES), (42, rtailS), (43, trialsS), (44, rlvlS), (45, rmin2S)] [] 100 0
end Go.Ev

namespace Go.Ev
open Go Go.Proofs
set_option maxRecDepth 100000
theorem exlld (len hop gate pct : Int) (x : List Int) (K : AV → List Blk → Prop) : evFn Elld Tryd.f3 [.agg [.int .i64 len, .int .i64 hop, .int .i64 gate, .int .i64 pct], .one (.data (.ints .i64 x))] [] K = (
 bif !shortG x then K (AV.one (SV.bool true)) []
 else
 x.length ≤ (1000000000000 : Nat) ∧
 x.length ≤ (1000000000 : Nat) ∧
 (x.length ≤ (1000000000000 : Nat) ∧
 (x.length ≤ (1000000000 : Nat) ∧
 bif
 (bif meterG len hop gate pct then (0 : Int) else (2 : Int)) !=
 bif meterG len hop gate pct then (0 : Int) else (2 : Int) then
 K (AV.one (SV.bool false)) []
 else
 bif (bif meterG len hop gate pct then (0 : Int) else (2 : Int)) == (0 : Int) then
 x.length ≤ (1000000000 : Nat) ∧
 bif sigE x != (0 : Int) then
 bif meE len hop gate pct x == sigE x then
 bif ldE len hop gate pct x == sigE x then
 bif (↑(gbI len hop gate pct x).length : Int) == (0 : Int) then
 K
 (AV.one
 (SV.bool (ldP len hop gate pct x == (0 : Int) && ldQ len hop gate pct x == (0 : Int))))
 []
 else K (AV.one (SV.bool false)) []
 else K (AV.one (SV.bool false)) []
 else K (AV.one (SV.bool false)) []
 else
 bif meE len hop gate pct x != (0 : Int) then K (AV.one (SV.bool false)) []
 else
 ((x.length ≤ (200 : Nat) ∧
 x.all sampleG = true ∧ (1 : Int) ≤ len ∧ len ≤ (50 : Int) ∧ (1 : Int) ≤ hop ∧ hop ≤ len) ∧
 meterG len hop gate pct = true) ∧
 (gbI len hop gate pct x).length ≤ (1000000000 : Nat) ∧
 bif !gbI len hop gate pct x == ldI len hop gate pct x then K (AV.one (SV.bool false)) []
 else
 ((x.length ≤ (200 : Nat) ∧
 x.all sampleG = true ∧
 (1 : Int) ≤ len ∧ len ≤ (50 : Int) ∧ (1 : Int) ≤ hop ∧ hop ≤ len) ∧
 meterG len hop gate pct = true) ∧
 bif !(ldI len hop gate pct x).isEmpty then
 bif ldE len hop gate pct x == (0 : Int) then
 bif
 ldP len hop gate pct x == rldP len hop gate pct x &&
 ldQ len hop gate pct x == rldQ len hop gate pct x then
 K (AV.one (SV.bool true)) []
 else
 bif !!(ldI len hop gate pct x).isEmpty then
 bif ldE len hop gate pct x == (12 : Int) then
 K
 (AV.one
 (SV.bool
 (ldP len hop gate pct x == (0 : Int) &&
 ldQ len hop gate pct x == (0 : Int))))
 []
 else K (AV.one (SV.bool false)) []
 else K (AV.one (SV.bool false)) []
 else
 bif !!(ldI len hop gate pct x).isEmpty then
 bif ldE len hop gate pct x == (12 : Int) then
 K
 (AV.one
 (SV.bool
 (ldP len hop gate pct x == (0 : Int) &&
 ldQ len hop gate pct x == (0 : Int))))
 []
 else K (AV.one (SV.bool false)) []
 else K (AV.one (SV.bool false)) []
 else
 bif !!(ldI len hop gate pct x).isEmpty then
 bif ldE len hop gate pct x == (12 : Int) then
 K
 (AV.one
 (SV.bool
 (ldP len hop gate pct x == (0 : Int) &&
 ldQ len hop gate pct x == (0 : Int))))
 []
 else K (AV.one (SV.bool false)) []
 else K (AV.one (SV.bool false)) []
 else
 bif (bif meterG len hop gate pct then (0 : Int) else (2 : Int)) != (0 : Int) then
 bif meE len hop gate pct x == bif meterG len hop gate pct then (0 : Int) else (2 : Int) then
 bif ldE len hop gate pct x == bif meterG len hop gate pct then (0 : Int) else (2 : Int) then
 bif (↑(gbI len hop gate pct x).length : Int) == (0 : Int) then
 K
 (AV.one
 (SV.bool (ldP len hop gate pct x == (0 : Int) && ldQ len hop gate pct x == (0 : Int))))
 []
 else K (AV.one (SV.bool false)) []
 else K (AV.one (SV.bool false)) []
 else K (AV.one (SV.bool false)) []
 else
 bif meE len hop gate pct x != (0 : Int) then K (AV.one (SV.bool false)) []
 else
 ((x.length ≤ (200 : Nat) ∧
 x.all sampleG = true ∧ (1 : Int) ≤ len ∧ len ≤ (50 : Int) ∧ (1 : Int) ≤ hop ∧ hop ≤ len) ∧
 meterG len hop gate pct = true) ∧
 (gbI len hop gate pct x).length ≤ (1000000000 : Nat) ∧
 bif !gbI len hop gate pct x == ldI len hop gate pct x then K (AV.one (SV.bool false)) []
 else
 ((x.length ≤ (200 : Nat) ∧
 x.all sampleG = true ∧
 (1 : Int) ≤ len ∧ len ≤ (50 : Int) ∧ (1 : Int) ≤ hop ∧ hop ≤ len) ∧
 meterG len hop gate pct = true) ∧
 bif !(ldI len hop gate pct x).isEmpty then
 bif ldE len hop gate pct x == (0 : Int) then
 bif
 ldP len hop gate pct x == rldP len hop gate pct x &&
 ldQ len hop gate pct x == rldQ len hop gate pct x then
 K (AV.one (SV.bool true)) []
 else
 bif !!(ldI len hop gate pct x).isEmpty then
 bif ldE len hop gate pct x == (12 : Int) then
 K
 (AV.one
 (SV.bool
 (ldP len hop gate pct x == (0 : Int) &&
 ldQ len hop gate pct x == (0 : Int))))
 []
 else K (AV.one (SV.bool false)) []
 else K (AV.one (SV.bool false)) []
 else
 bif !!(ldI len hop gate pct x).isEmpty then
 bif ldE len hop gate pct x == (12 : Int) then
 K
 (AV.one
 (SV.bool
 (ldP len hop gate pct x == (0 : Int) &&
 ldQ len hop gate pct x == (0 : Int))))
 []
 else K (AV.one (SV.bool false)) []
 else K (AV.one (SV.bool false)) []
 else
 bif !!(ldI len hop gate pct x).isEmpty then
 bif ldE len hop gate pct x == (12 : Int) then
 K
 (AV.one
 (SV.bool
 (ldP len hop gate pct x == (0 : Int) && ldQ len hop gate pct x == (0 : Int))))
 []
 else K (AV.one (SV.bool false)) []
 else K (AV.one (SV.bool false)) []) ∧
 x.length ≤ (1000000000 : Nat) ∧
 bif
 (bif meterG len hop gate pct then (0 : Int) else (2 : Int)) !=
 bif meterG len hop gate pct then (0 : Int) else (2 : Int) then
 K (AV.one (SV.bool false)) []
 else
 bif (bif meterG len hop gate pct then (0 : Int) else (2 : Int)) == (0 : Int) then
 x.length ≤ (1000000000 : Nat) ∧
 bif sigE x != (0 : Int) then
 bif meE len hop gate pct x == sigE x then
 bif ldE len hop gate pct x == sigE x then
 bif (↑(gbI len hop gate pct x).length : Int) == (0 : Int) then
 K
 (AV.one
 (SV.bool (ldP len hop gate pct x == (0 : Int) && ldQ len hop gate pct x == (0 : Int))))
 []
 else K (AV.one (SV.bool false)) []
 else K (AV.one (SV.bool false)) []
 else K (AV.one (SV.bool false)) []
 else
 bif meE len hop gate pct x != (0 : Int) then K (AV.one (SV.bool false)) []
 else
 ((x.length ≤ (200 : Nat) ∧
 x.all sampleG = true ∧ (1 : Int) ≤ len ∧ len ≤ (50 : Int) ∧ (1 : Int) ≤ hop ∧ hop ≤ len) ∧
 meterG len hop gate pct = true) ∧
 (gbI len hop gate pct x).length ≤ (1000000000 : Nat) ∧
 bif !gbI len hop gate pct x == ldI len hop gate pct x then K (AV.one (SV.bool false)) []
 else
 ((x.length ≤ (200 : Nat) ∧
 x.all sampleG = true ∧
 (1 : Int) ≤ len ∧ len ≤ (50 : Int) ∧ (1 : Int) ≤ hop ∧ hop ≤ len) ∧
 meterG len hop gate pct = true) ∧
 bif !(ldI len hop gate pct x).isEmpty then
 bif ldE len hop gate pct x == (0 : Int) then
 bif
 ldP len hop gate pct x == rldP len hop gate pct x &&
 ldQ len hop gate pct x == rldQ len hop gate pct x then
 K (AV.one (SV.bool true)) []
 else
 bif !!(ldI len hop gate pct x).isEmpty then
 bif ldE len hop gate pct x == (12 : Int) then
 K
 (AV.one
 (SV.bool
 (ldP len hop gate pct x == (0 : Int) &&
 ldQ len hop gate pct x == (0 : Int))))
 []
 else K (AV.one (SV.bool false)) []
 else K (AV.one (SV.bool false)) []
 else
 bif !!(ldI len hop gate pct x).isEmpty then
 bif ldE len hop gate pct x == (12 : Int) then
 K
 (AV.one
 (SV.bool
 (ldP len hop gate pct x == (0 : Int) &&
 ldQ len hop gate pct x == (0 : Int))))
 []
 else K (AV.one (SV.bool false)) []
 else K (AV.one (SV.bool false)) []
 else
 bif !!(ldI len hop gate pct x).isEmpty then
 bif ldE len hop gate pct x == (12 : Int) then
 K
 (AV.one
 (SV.bool
 (ldP len hop gate pct x == (0 : Int) &&
 ldQ len hop gate pct x == (0 : Int))))
 []
 else K (AV.one (SV.bool false)) []
 else K (AV.one (SV.bool false)) []
 else
 bif (bif meterG len hop gate pct then (0 : Int) else (2 : Int)) != (0 : Int) then
 bif meE len hop gate pct x == bif meterG len hop gate pct then (0 : Int) else (2 : Int) then
 bif ldE len hop gate pct x == bif meterG len hop gate pct then (0 : Int) else (2 : Int) then
 bif (↑(gbI len hop gate pct x).length : Int) == (0 : Int) then
 K
 (AV.one
 (SV.bool (ldP len hop gate pct x == (0 : Int) && ldQ len hop gate pct x == (0 : Int))))
 []
 else K (AV.one (SV.bool false)) []
 else K (AV.one (SV.bool false)) []
 else K (AV.one (SV.bool false)) []
 else
 bif meE len hop gate pct x != (0 : Int) then K (AV.one (SV.bool false)) []
 else
 ((x.length ≤ (200 : Nat) ∧
 x.all sampleG = true ∧ (1 : Int) ≤ len ∧ len ≤ (50 : Int) ∧ (1 : Int) ≤ hop ∧ hop ≤ len) ∧
 meterG len hop gate pct = true) ∧
 (gbI len hop gate pct x).length ≤ (1000000000 : Nat) ∧
 bif !gbI len hop gate pct x == ldI len hop gate pct x then K (AV.one (SV.bool false)) []
 else
 ((x.length ≤ (200 : Nat) ∧
 x.all sampleG = true ∧
 (1 : Int) ≤ len ∧ len ≤ (50 : Int) ∧ (1 : Int) ≤ hop ∧ hop ≤ len) ∧
 meterG len hop gate pct = true) ∧
 bif !(ldI len hop gate pct x).isEmpty then
 bif ldE len hop gate pct x == (0 : Int) then
 bif
 ldP len hop gate pct x == rldP len hop gate pct x &&
 ldQ len hop gate pct x == rldQ len hop gate pct x then
 K (AV.one (SV.bool true)) []
 else
 bif !!(ldI len hop gate pct x).isEmpty then
 bif ldE len hop gate pct x == (12 : Int) then
 K
 (AV.one
 (SV.bool
 (ldP len hop gate pct x == (0 : Int) &&
 ldQ len hop gate pct x == (0 : Int))))
 []
 else K (AV.one (SV.bool false)) []
 else K (AV.one (SV.bool false)) []
 else
 bif !!(ldI len hop gate pct x).isEmpty then
 bif ldE len hop gate pct x == (12 : Int) then
 K
 (AV.one
 (SV.bool
 (ldP len hop gate pct x == (0 : Int) &&
 ldQ len hop gate pct x == (0 : Int))))
 []
 else K (AV.one (SV.bool false)) []
 else K (AV.one (SV.bool false)) []
 else
 bif !!(ldI len hop gate pct x).isEmpty then
 bif ldE len hop gate pct x == (12 : Int) then
 K
 (AV.one
 (SV.bool
 (ldP len hop gate pct x == (0 : Int) && ldQ len hop gate pct x == (0 : Int))))
 []
 else K (AV.one (SV.bool false)) []
 else K (AV.one (SV.bool false)) []) ∧
 x.length ≤ (1000000000000 : Nat) ∧
 x.length ≤ (1000000000 : Nat) ∧
 bif
 (bif meterG len hop gate pct then (0 : Int) else (2 : Int)) !=
 bif meterG len hop gate pct then (0 : Int) else (2 : Int) then
 K (AV.one (SV.bool false)) []
 else
 bif (bif meterG len hop gate pct then (0 : Int) else (2 : Int)) == (0 : Int) then
 x.length ≤ (1000000000 : Nat) ∧
 bif sigE x != (0 : Int) then
 bif meE len hop gate pct x == sigE x then
 bif ldE len hop gate pct x == sigE x then
 bif (↑(gbI len hop gate pct x).length : Int) == (0 : Int) then
 K
 (AV.one
 (SV.bool (ldP len hop gate pct x == (0 : Int) && ldQ len hop gate pct x == (0 : Int))))
 []
 else K (AV.one (SV.bool false)) []
 else K (AV.one (SV.bool false)) []
 else K (AV.one (SV.bool false)) []
 else
 bif meE len hop gate pct x != (0 : Int) then K (AV.one (SV.bool false)) []
 else
 ((x.length ≤ (200 : Nat) ∧
 x.all sampleG = true ∧ (1 : Int) ≤ len ∧ len ≤ (50 : Int) ∧ (1 : Int) ≤ hop ∧ hop ≤ len) ∧
 meterG len hop gate pct = true) ∧
 (gbI len hop gate pct x).length ≤ (1000000000 : Nat) ∧
 bif !gbI len hop gate pct x == ldI len hop gate pct x then K (AV.one (SV.bool false)) []
 else
 ((x.length ≤ (200 : Nat) ∧
 x.all sampleG = true ∧
 (1 : Int) ≤ len ∧ len ≤ (50 : Int) ∧ (1 : Int) ≤ hop ∧ hop ≤ len) ∧
 meterG len hop gate pct = true) ∧
 bif !(ldI len hop gate pct x).isEmpty then
 bif ldE len hop gate pct x == (0 : Int) then
 bif
 ldP len hop gate pct x == rldP len hop gate pct x &&
 ldQ len hop gate pct x == rldQ len hop gate pct x then
 K (AV.one (SV.bool true)) []
 else
 bif !!(ldI len hop gate pct x).isEmpty then
 bif ldE len hop gate pct x == (12 : Int) then
 K
 (AV.one
 (SV.bool
 (ldP len hop gate pct x == (0 : Int) &&
 ldQ len hop gate pct x == (0 : Int))))
 []
 else K (AV.one (SV.bool false)) []
 else K (AV.one (SV.bool false)) []
 else
 bif !!(ldI len hop gate pct x).isEmpty then
 bif ldE len hop gate pct x == (12 : Int) then
 K
 (AV.one
 (SV.bool
 (ldP len hop gate pct x == (0 : Int) &&
 ldQ len hop gate pct x == (0 : Int))))
 []
 else K (AV.one (SV.bool false)) []
 else K (AV.one (SV.bool false)) []
 else
 bif !!(ldI len hop gate pct x).isEmpty then
 bif ldE len hop gate pct x == (12 : Int) then
 K
 (AV.one
 (SV.bool
 (ldP len hop gate pct x == (0 : Int) && ldQ len hop gate pct x == (0 : Int))))
 []
 else K (AV.one (SV.bool false)) []
 else K (AV.one (SV.bool false)) []
 else
 bif (bif meterG len hop gate pct then (0 : Int) else (2 : Int)) != (0 : Int) then
 bif meE len hop gate pct x == bif meterG len hop gate pct then (0 : Int) else (2 : Int) then
 bif ldE len hop gate pct x == bif meterG len hop gate pct then (0 : Int) else (2 : Int) then
 bif (↑(gbI len hop gate pct x).length : Int) == (0 : Int) then
 K
 (AV.one
 (SV.bool (ldP len hop gate pct x == (0 : Int) && ldQ len hop gate pct x == (0 : Int))))
 []
 else K (AV.one (SV.bool false)) []
 else K (AV.one (SV.bool false)) []
 else K (AV.one (SV.bool false)) []
 else
 bif meE len hop gate pct x != (0 : Int) then K (AV.one (SV.bool false)) []
 else
 ((x.length ≤ (200 : Nat) ∧
 x.all sampleG = true ∧ (1 : Int) ≤ len ∧ len ≤ (50 : Int) ∧ (1 : Int) ≤ hop ∧ hop ≤ len) ∧
 meterG len hop gate pct = true) ∧
 (gbI len hop gate pct x).length ≤ (1000000000 : Nat) ∧
 bif !gbI len hop gate pct x == ldI len hop gate pct x then K (AV.one (SV.bool false)) []
 else
 ((x.length ≤ (200 : Nat) ∧
 x.all sampleG = true ∧
 (1 : Int) ≤ len ∧ len ≤ (50 : Int) ∧ (1 : Int) ≤ hop ∧ hop ≤ len) ∧
 meterG len hop gate pct = true) ∧
 bif !(ldI len hop gate pct x).isEmpty then
 bif ldE len hop gate pct x == (0 : Int) then
 bif
 ldP len hop gate pct x == rldP len hop gate pct x &&
 ldQ len hop gate pct x == rldQ len hop gate pct x then
 K (AV.one (SV.bool true)) []
 else
 bif !!(ldI len hop gate pct x).isEmpty then
 bif ldE len hop gate pct x == (12 : Int) then
 K
 (AV.one
 (SV.bool
 (ldP len hop gate pct x == (0 : Int) &&
 ldQ len hop gate pct x == (0 : Int))))
 []
 else K (AV.one (SV.bool false)) []
 else K (AV.one (SV.bool false)) []
 else
 bif !!(ldI len hop gate pct x).isEmpty then
 bif ldE len hop gate pct x == (12 : Int) then
 K
 (AV.one
 (SV.bool
 (ldP len hop gate pct x == (0 : Int) && ldQ len hop gate pct x == (0 : Int))))
 []
 else K (AV.one (SV.bool false)) []
 else K (AV.one (SV.bool false)) []
 else
 bif !!(ldI len hop gate pct x).isEmpty then
 bif ldE len hop gate pct x == (12 : Int) then
 K
 (AV.one
 (SV.bool
 (ldP len hop gate pct x == (0 : Int) && ldQ len hop gate pct x == (0 : Int))))
 []
 else K (AV.one (SV.bool false)) []
 else K (AV.one (SV.bool false)) []) := by kernel_rfl
theorem exltl (t r n d : Int) (K : AV → List Blk → Prop) : evFn Eltl Tryd.f6 [.one (.int .i64 t), .one (.int .i64 r), .agg [.int .i64 n, .int .i64 d]] [] K = (
 bif rtailE t r != (0 : Int) then
 bif tailE t r != rtailE t r then K (AV.one (SV.bool false)) []
 else
 bif !(tlP t r == (0 : Int) && tlQ t r == (0 : Int)) then K (AV.one (SV.bool false)) []
 else
 bif rtailE t r == (0 : Int) then
 bif tailE t r != (0 : Int) then K (AV.one (SV.bool false)) []
 else
 ((0 : Int) ≤ t ∧ t ≤ (29 : Int) ∧ (0 : Int) ≤ r ∧ r ≤ t) ∧
 bif
 !(tlP t r == wi ((rtN t r).tdiv (divG (rtN t r) (rtD t))) &&
 tlQ t r == wi ((rtD t).tdiv (divG (rtN t r) (rtD t)))) then
 K (AV.one (SV.bool false)) []
 else
 bif (bif withinG t (0 : Int) (29 : Int) then (0 : Int) else (2 : Int)) == (0 : Int) then
 bif rlvlE n d != (0 : Int) then
 bif mnE t n d == rlvlE n d then K (AV.one (SV.bool (mnV t n d == (0 : Int)))) []
 else K (AV.one (SV.bool false)) []
 else
 ((0 : Int) ≤ t ∧ t ≤ (29 : Int)) ∧
 bif !decide (rminI t n d (t + (1 : Int)).toNat (0 : Int) < (0 : Int)) then
 bif mnE t n d == (0 : Int) then
 bif mnV t n d == rmV t n d then K (AV.one (SV.bool true)) []
 else
 bif !!decide (rminI t n d (t + (1 : Int)).toNat (0 : Int) < (0 : Int)) then
 bif mnE t n d == (12 : Int) then K (AV.one (SV.bool (mnV t n d == (0 : Int)))) []
 else K (AV.one (SV.bool false)) []
 else K (AV.one (SV.bool false)) []
 else
 bif !!decide (rminI t n d (t + (1 : Int)).toNat (0 : Int) < (0 : Int)) then
 bif mnE t n d == (12 : Int) then K (AV.one (SV.bool (mnV t n d == (0 : Int)))) []
 else K (AV.one (SV.bool false)) []
 else K (AV.one (SV.bool false)) []
 else
 bif !!decide (rminI t n d (t + (1 : Int)).toNat (0 : Int) < (0 : Int)) then
 bif mnE t n d == (12 : Int) then K (AV.one (SV.bool (mnV t n d == (0 : Int)))) []
 else K (AV.one (SV.bool false)) []
 else K (AV.one (SV.bool false)) []
 else
 bif (bif withinG t (0 : Int) (29 : Int) then (0 : Int) else (2 : Int)) != (0 : Int) then
 bif mnE t n d == bif withinG t (0 : Int) (29 : Int) then (0 : Int) else (2 : Int) then
 K (AV.one (SV.bool (mnV t n d == (0 : Int)))) []
 else K (AV.one (SV.bool false)) []
 else
 ((0 : Int) ≤ t ∧ t ≤ (29 : Int)) ∧
 bif !decide (rminI t n d (t + (1 : Int)).toNat (0 : Int) < (0 : Int)) then
 bif mnE t n d == (0 : Int) then
 bif mnV t n d == rmV t n d then K (AV.one (SV.bool true)) []
 else
 bif !!decide (rminI t n d (t + (1 : Int)).toNat (0 : Int) < (0 : Int)) then
 bif mnE t n d == (12 : Int) then K (AV.one (SV.bool (mnV t n d == (0 : Int)))) []
 else K (AV.one (SV.bool false)) []
 else K (AV.one (SV.bool false)) []
 else
 bif !!decide (rminI t n d (t + (1 : Int)).toNat (0 : Int) < (0 : Int)) then
 bif mnE t n d == (12 : Int) then K (AV.one (SV.bool (mnV t n d == (0 : Int)))) []
 else K (AV.one (SV.bool false)) []
 else K (AV.one (SV.bool false)) []
 else
 bif !!decide (rminI t n d (t + (1 : Int)).toNat (0 : Int) < (0 : Int)) then
 bif mnE t n d == (12 : Int) then K (AV.one (SV.bool (mnV t n d == (0 : Int)))) []
 else K (AV.one (SV.bool false)) []
 else K (AV.one (SV.bool false)) []
 else
 bif (bif withinG t (0 : Int) (29 : Int) then (0 : Int) else (2 : Int)) == (0 : Int) then
 bif rlvlE n d != (0 : Int) then
 bif mnE t n d == rlvlE n d then K (AV.one (SV.bool (mnV t n d == (0 : Int)))) []
 else K (AV.one (SV.bool false)) []
 else
 ((0 : Int) ≤ t ∧ t ≤ (29 : Int)) ∧
 bif !decide (rminI t n d (t + (1 : Int)).toNat (0 : Int) < (0 : Int)) then
 bif mnE t n d == (0 : Int) then
 bif mnV t n d == rmV t n d then K (AV.one (SV.bool true)) []
 else
 bif !!decide (rminI t n d (t + (1 : Int)).toNat (0 : Int) < (0 : Int)) then
 bif mnE t n d == (12 : Int) then K (AV.one (SV.bool (mnV t n d == (0 : Int)))) []
 else K (AV.one (SV.bool false)) []
 else K (AV.one (SV.bool false)) []
 else
 bif !!decide (rminI t n d (t + (1 : Int)).toNat (0 : Int) < (0 : Int)) then
 bif mnE t n d == (12 : Int) then K (AV.one (SV.bool (mnV t n d == (0 : Int)))) []
 else K (AV.one (SV.bool false)) []
 else K (AV.one (SV.bool false)) []
 else
 bif !!decide (rminI t n d (t + (1 : Int)).toNat (0 : Int) < (0 : Int)) then
 bif mnE t n d == (12 : Int) then K (AV.one (SV.bool (mnV t n d == (0 : Int)))) []
 else K (AV.one (SV.bool false)) []
 else K (AV.one (SV.bool false)) []
 else
 bif (bif withinG t (0 : Int) (29 : Int) then (0 : Int) else (2 : Int)) != (0 : Int) then
 bif mnE t n d == bif withinG t (0 : Int) (29 : Int) then (0 : Int) else (2 : Int) then
 K (AV.one (SV.bool (mnV t n d == (0 : Int)))) []
 else K (AV.one (SV.bool false)) []
 else
 ((0 : Int) ≤ t ∧ t ≤ (29 : Int)) ∧
 bif !decide (rminI t n d (t + (1 : Int)).toNat (0 : Int) < (0 : Int)) then
 bif mnE t n d == (0 : Int) then
 bif mnV t n d == rmV t n d then K (AV.one (SV.bool true)) []
 else
 bif !!decide (rminI t n d (t + (1 : Int)).toNat (0 : Int) < (0 : Int)) then
 bif mnE t n d == (12 : Int) then K (AV.one (SV.bool (mnV t n d == (0 : Int)))) []
 else K (AV.one (SV.bool false)) []
 else K (AV.one (SV.bool false)) []
 else
 bif !!decide (rminI t n d (t + (1 : Int)).toNat (0 : Int) < (0 : Int)) then
 bif mnE t n d == (12 : Int) then K (AV.one (SV.bool (mnV t n d == (0 : Int)))) []
 else K (AV.one (SV.bool false)) []
 else K (AV.one (SV.bool false)) []
 else
 bif !!decide (rminI t n d (t + (1 : Int)).toNat (0 : Int) < (0 : Int)) then
 bif mnE t n d == (12 : Int) then K (AV.one (SV.bool (mnV t n d == (0 : Int)))) []
 else K (AV.one (SV.bool false)) []
 else K (AV.one (SV.bool false)) []
 else
 bif rtailE t r == (0 : Int) then
 bif tailE t r != (0 : Int) then K (AV.one (SV.bool false)) []
 else
 ((0 : Int) ≤ t ∧ t ≤ (29 : Int) ∧ (0 : Int) ≤ r ∧ r ≤ t) ∧
 bif
 !(tlP t r == wi ((rtN t r).tdiv (divG (rtN t r) (rtD t))) &&
 tlQ t r == wi ((rtD t).tdiv (divG (rtN t r) (rtD t)))) then
 K (AV.one (SV.bool false)) []
 else
 bif (bif withinG t (0 : Int) (29 : Int) then (0 : Int) else (2 : Int)) == (0 : Int) then
 bif rlvlE n d != (0 : Int) then
 bif mnE t n d == rlvlE n d then K (AV.one (SV.bool (mnV t n d == (0 : Int)))) []
 else K (AV.one (SV.bool false)) []
 else
 ((0 : Int) ≤ t ∧ t ≤ (29 : Int)) ∧
 bif !decide (rminI t n d (t + (1 : Int)).toNat (0 : Int) < (0 : Int)) then
 bif mnE t n d == (0 : Int) then
 bif mnV t n d == rmV t n d then K (AV.one (SV.bool true)) []
 else
 bif !!decide (rminI t n d (t + (1 : Int)).toNat (0 : Int) < (0 : Int)) then
 bif mnE t n d == (12 : Int) then K (AV.one (SV.bool (mnV t n d == (0 : Int)))) []
 else K (AV.one (SV.bool false)) []
 else K (AV.one (SV.bool false)) []
 else
 bif !!decide (rminI t n d (t + (1 : Int)).toNat (0 : Int) < (0 : Int)) then
 bif mnE t n d == (12 : Int) then K (AV.one (SV.bool (mnV t n d == (0 : Int)))) []
 else K (AV.one (SV.bool false)) []
 else K (AV.one (SV.bool false)) []
 else
 bif !!decide (rminI t n d (t + (1 : Int)).toNat (0 : Int) < (0 : Int)) then
 bif mnE t n d == (12 : Int) then K (AV.one (SV.bool (mnV t n d == (0 : Int)))) []
 else K (AV.one (SV.bool false)) []
 else K (AV.one (SV.bool false)) []
 else
 bif (bif withinG t (0 : Int) (29 : Int) then (0 : Int) else (2 : Int)) != (0 : Int) then
 bif mnE t n d == bif withinG t (0 : Int) (29 : Int) then (0 : Int) else (2 : Int) then
 K (AV.one (SV.bool (mnV t n d == (0 : Int)))) []
 else K (AV.one (SV.bool false)) []
 else
 ((0 : Int) ≤ t ∧ t ≤ (29 : Int)) ∧
 bif !decide (rminI t n d (t + (1 : Int)).toNat (0 : Int) < (0 : Int)) then
 bif mnE t n d == (0 : Int) then
 bif mnV t n d == rmV t n d then K (AV.one (SV.bool true)) []
 else
 bif !!decide (rminI t n d (t + (1 : Int)).toNat (0 : Int) < (0 : Int)) then
 bif mnE t n d == (12 : Int) then K (AV.one (SV.bool (mnV t n d == (0 : Int)))) []
 else K (AV.one (SV.bool false)) []
 else K (AV.one (SV.bool false)) []
 else
 bif !!decide (rminI t n d (t + (1 : Int)).toNat (0 : Int) < (0 : Int)) then
 bif mnE t n d == (12 : Int) then K (AV.one (SV.bool (mnV t n d == (0 : Int)))) []
 else K (AV.one (SV.bool false)) []
 else K (AV.one (SV.bool false)) []
 else
 bif !!decide (rminI t n d (t + (1 : Int)).toNat (0 : Int) < (0 : Int)) then
 bif mnE t n d == (12 : Int) then K (AV.one (SV.bool (mnV t n d == (0 : Int)))) []
 else K (AV.one (SV.bool false)) []
 else K (AV.one (SV.bool false)) []
 else
 bif (bif withinG t (0 : Int) (29 : Int) then (0 : Int) else (2 : Int)) == (0 : Int) then
 bif rlvlE n d != (0 : Int) then
 bif mnE t n d == rlvlE n d then K (AV.one (SV.bool (mnV t n d == (0 : Int)))) []
 else K (AV.one (SV.bool false)) []
 else
 ((0 : Int) ≤ t ∧ t ≤ (29 : Int)) ∧
 bif !decide (rminI t n d (t + (1 : Int)).toNat (0 : Int) < (0 : Int)) then
 bif mnE t n d == (0 : Int) then
 bif mnV t n d == rmV t n d then K (AV.one (SV.bool true)) []
 else
 bif !!decide (rminI t n d (t + (1 : Int)).toNat (0 : Int) < (0 : Int)) then
 bif mnE t n d == (12 : Int) then K (AV.one (SV.bool (mnV t n d == (0 : Int)))) []
 else K (AV.one (SV.bool false)) []
 else K (AV.one (SV.bool false)) []
 else
 bif !!decide (rminI t n d (t + (1 : Int)).toNat (0 : Int) < (0 : Int)) then
 bif mnE t n d == (12 : Int) then K (AV.one (SV.bool (mnV t n d == (0 : Int)))) []
 else K (AV.one (SV.bool false)) []
 else K (AV.one (SV.bool false)) []
 else
 bif !!decide (rminI t n d (t + (1 : Int)).toNat (0 : Int) < (0 : Int)) then
 bif mnE t n d == (12 : Int) then K (AV.one (SV.bool (mnV t n d == (0 : Int)))) []
 else K (AV.one (SV.bool false)) []
 else K (AV.one (SV.bool false)) []
 else
 bif (bif withinG t (0 : Int) (29 : Int) then (0 : Int) else (2 : Int)) != (0 : Int) then
 bif mnE t n d == bif withinG t (0 : Int) (29 : Int) then (0 : Int) else (2 : Int) then
 K (AV.one (SV.bool (mnV t n d == (0 : Int)))) []
 else K (AV.one (SV.bool false)) []
 else
 ((0 : Int) ≤ t ∧ t ≤ (29 : Int)) ∧
 bif !decide (rminI t n d (t + (1 : Int)).toNat (0 : Int) < (0 : Int)) then
 bif mnE t n d == (0 : Int) then
 bif mnV t n d == rmV t n d then K (AV.one (SV.bool true)) []
 else
 bif !!decide (rminI t n d (t + (1 : Int)).toNat (0 : Int) < (0 : Int)) then
 bif mnE t n d == (12 : Int) then K (AV.one (SV.bool (mnV t n d == (0 : Int)))) []
 else K (AV.one (SV.bool false)) []
 else K (AV.one (SV.bool false)) []
 else
 bif !!decide (rminI t n d (t + (1 : Int)).toNat (0 : Int) < (0 : Int)) then
 bif mnE t n d == (12 : Int) then K (AV.one (SV.bool (mnV t n d == (0 : Int)))) []
 else K (AV.one (SV.bool false)) []
 else K (AV.one (SV.bool false)) []
 else
 bif !!decide (rminI t n d (t + (1 : Int)).toNat (0 : Int) < (0 : Int)) then
 bif mnE t n d == (12 : Int) then K (AV.one (SV.bool (mnV t n d == (0 : Int)))) []
 else K (AV.one (SV.bool false)) []
 else K (AV.one (SV.bool false)) []) := by kernel_rfl
end Go.Ev

namespace Go.Ev
open Go Go.Proofs
attribute [local irreducible] evFn evBody evRound
set_option maxRecDepth 20000

theorem shortG_len {x : List Int} (h : shortG x = true) : x.length ≤ 204 := by
  unfold shortG at h
  simp only [Bool.or_eq_true, Bool.and_eq_true, decide_eq_true_eq] at h
  omega
theorem beq_ff {a b : Int} (h : a ≠ b) : (a == b) = false := beq_eq_false_iff_ne.2 h
theorem bne_tt {a b : Int} (h : a ≠ b) : (a != b) = true := by rw [bne, beq_ff h]; rfl
theorem okLld : SpecOK Tryd.prog 3 lawLoudS := by
  refine specOK (n := 100) (m := 0) (lps := []) (.cons okawk (.cons okshort (.cons okcopyD (.cons okgbD (.cons okloud2 (.cons okrmet (.cons okmet (.cons okrsig (.cons ok30 (.cons okrgatD (.cons okrloud2 .nil))))))))))) Tryd.func3 (by kernel_rfl) (by kernel_rfl) (noLoops (by kernel_rfl)) fun args σ K h => ?_
  unfold lawLoudS at h
  split at h
  rotate_right
  · exact h.elim
  rename_i len hop gate pct x
  rw [exlld len hop gate pct x K]
  cases hs : shortG x with
  | false => exact h
  | true =>
    have hl := shortG_len hs
    have l1 : x.length ≤ 1000000000 := by omega
    have l2 : x.length ≤ 1000000000000 := by omega
    simp only [Bool.not_true, cond_false]
    have z2 : ((2 : Int) == 0) = false := by decide
    have z12 : ((12 : Int) == 0) = false := by decide
    have y2 : ((2 : Int) != 0) = true := by decide
    have y12 : ((12 : Int) != 0) = true := by decide
    cases hm : meterG len hop gate pct with
    | false =>
      have e1 : meE len hop gate pct x = 2 := by unfold meE; rw [hm]; rfl
      have e2 : ldE len hop gate pct x = 2 := by unfold ldE; rw [e1]; rfl
      have e3 : gbI len hop gate pct x = [] := by unfold gbI; rw [e1]; rfl
      have e4 : ldP len hop gate pct x = 0 := by unfold ldP; rw [e2]; rfl
      have e5 : ldQ len hop gate pct x = 0 := by unfold ldQ; rw [e2]; rfl
      simp only [e1, e2, e3, e4, e5, cond_false, cond_true, bne_self_eq_false, z2, y2, beq_self_eq_true, List.length_nil, Int.ofNat_eq_natCast, Int.natCast_zero, Bool.and_self, l1, l2, true_and]
      repeat' first
        | exact h
        | refine And.intro ?_ ?_
    | true =>
      by_cases hz : sigE x = 0
      · have e1 : meE len hop gate pct x = 0 := by unfold meE; rw [hm, hz]; rfl
        have hX := okX_of hm hz
        have hX2 : (okX x len hop ∧ meterG len hop gate pct = true) := ⟨hX, hm⟩
        have e3 : gbI len hop gate pct x = ldI len hop gate pct x := by unfold gbI; rw [e1]; rfl
        have l3 : (ldI len hop gate pct x).length ≤ 1000000000 := by
          have := (okI_ld (gate := gate) (pct := pct) hX).2.1
          omega
        cases hg : (ldI len hop gate pct x).isEmpty with
        | true =>
          have e2 : ldE len hop gate pct x = 12 := by unfold ldE; rw [e1, hg]; rfl
          have e4 : ldP len hop gate pct x = 0 := by unfold ldP; rw [e2]; rfl
          have e5 : ldQ len hop gate pct x = 0 := by unfold ldQ; rw [e2]; rfl
          simp only [hz, e1, e2, e3, e4, e5, cond_false, cond_true, bne_self_eq_false, z12, y12, beq_self_eq_true, Bool.not_true, Bool.not_false, Bool.and_self]
          repeat' first
            | exact h
            | exact hX
            | exact trivial
            | exact hX2
            | exact ⟨hX, rfl⟩
            | exact l1
            | exact l2
            | exact l3
            | refine And.intro ?_ ?_
        | false =>
          have e2 : ldE len hop gate pct x = 0 := by unfold ldE; rw [e1, hg]; rfl
          have e4 : ldP len hop gate pct x = rldP len hop gate pct x := by unfold ldP rldP; rw [e2, hg]; rfl
          have e5 : ldQ len hop gate pct x = rldQ len hop gate pct x := by unfold ldQ rldQ; rw [e2, hg]; rfl
          simp only [hz, e1, e2, e3, e4, e5, cond_false, cond_true, bne_self_eq_false, beq_self_eq_true, Bool.not_true, Bool.not_false, Bool.and_self]
          repeat' first
            | exact h
            | exact hX
            | exact trivial
            | exact hX2
            | exact ⟨hX, rfl⟩
            | exact l1
            | exact l2
            | exact l3
            | refine And.intro ?_ ?_
      · have e1 : meE len hop gate pct x = sigE x := by
          unfold meE
          rw [hm]
          simp only [firstE, cond_true, beq_self_eq_true, beq_ff hz, cond_false]
        have e2 : ldE len hop gate pct x = sigE x := by unfold ldE; rw [e1, beq_ff hz]; rfl
        have e3 : gbI len hop gate pct x = [] := by unfold gbI; rw [e1, beq_ff hz]; rfl
        have e4 : ldP len hop gate pct x = 0 := by unfold ldP; rw [e2, beq_ff hz]; rfl
        have e5 : ldQ len hop gate pct x = 0 := by unfold ldQ; rw [e2, beq_ff hz]; rfl
        simp only [e1, e2, e3, e4, e5, cond_false, cond_true, bne_self_eq_false, bne_tt hz, beq_self_eq_true, List.length_nil, Int.ofNat_eq_natCast, Int.natCast_zero, Bool.and_self]
        repeat' first
          | exact h
          | exact l1
          | exact l2
          | refine And.intro ?_ ?_
theorem okLtl : SpecOK Tryd.prog 6 lawTailS := by
  refine specOK (n := 100) (m := 0) (lps := []) (.cons okawk (.cons oktail2 (.cons okmin2 (.cons okrte (.cons okrt (.cons okrtr (.cons okrlv (.cons okrmin2 .nil)))))))) Tryd.func6 (by kernel_rfl) (by kernel_rfl) (noLoops (by kernel_rfl)) fun args σ K h => ?_
  unfold lawTailS at h
  split at h
  rotate_right
  · exact h.elim
  rename_i t r n d
  obtain ⟨hd, h⟩ := h
  rw [exltl t r n d K, tailE_eq]
  have z2 : ((2 : Int) == 0) = false := by decide
  have y2 : ((2 : Int) != 0) = true := by decide
  have z12 : ((12 : Int) == 0) = false := by decide
  have y12 : ((12 : Int) != 0) = true := by decide
  -- the part on the minimum
  have hmn : ∀ X : Prop, X = X := fun _ => rfl
  have hM : withinG t 0 29 = true → rlvlE n d = 0 → okLv t n d := by
    intro h1 h2
    unfold withinG at h1
    simp only [Bool.and_eq_true, decide_eq_true_eq] at h1
    obtain ⟨_, a1, a2, a3, a4⟩ := rlvlE_zero h2
    exact ⟨h1.1, h1.2, a1, a2, a3, a4⟩
  have hE : minE t n d = firstE [bif withinG t 0 29 then 0 else 2, rlvlE n d] := by unfold minE; rw [lvl_eq n d hd]
  cases ht : withinG t 0 29 with
  | false =>
    have m0 : minE t n d = 2 := by rw [hE, ht]; rfl
    have m1 : mnE t n d = 2 := by unfold mnE; rw [m0]; rfl
    have m2 : mnV t n d = 0 := by unfold mnV; rw [m1]; rfl
    have r0 : rtailE t r = 2 := by unfold rtailE; rw [ht]; rfl
    have p1 : tlP t r = 0 := by unfold tlP; rw [tailE_eq, r0]; rfl
    have p2 : tlQ t r = 0 := by unfold tlQ; rw [tailE_eq, r0]; rfl
    simp only [m1, m2, r0, p1, p2, cond_false, cond_true, bne_self_eq_false, beq_self_eq_true, z2, y2, Bool.and_self, Bool.not_true]
    exact h
  | true =>
    have ht' := ht
    unfold withinG at ht'
    simp only [Bool.and_eq_true, decide_eq_true_eq] at ht'
    -- the first part holds, or its fractions agree
    have hA : rtailE t r = 0 → (0 ≤ t ∧ t ≤ 29 ∧ 0 ≤ r ∧ r ≤ t) ∧ tlP t r = rtA t r ∧ tlQ t r = rtB t r := by
      intro h0
      unfold rtailE at h0
      rw [ht] at h0
      cases hr : withinG r 0 t with
      | false => rw [hr] at h0; exact absurd h0 (by decide)
      | true =>
        unfold withinG at hr
        simp only [Bool.and_eq_true, decide_eq_true_eq] at hr
        exact ⟨⟨ht'.1, ht'.2, hr.1, hr.2⟩, tl_rt ht'.1 ht'.2 hr.1 hr.2⟩
    have hB : rtailE t r ≠ 0 → tlP t r = 0 ∧ tlQ t r = 0 := by
      intro h0
      unfold tlP tlQ
      rw [tailE_eq, beq_ff h0]
      exact ⟨rfl, rfl⟩
    have hC : rlvlE n d ≠ 0 → mnE t n d = rlvlE n d ∧ mnV t n d = 0 := by
      intro h0
      have m0 : minE t n d = rlvlE n d := by
        rw [hE, ht]
        simp only [firstE, cond_true, beq_self_eq_true, beq_ff h0, cond_false]
      have m1 : mnE t n d = rlvlE n d := by unfold mnE; rw [m0, beq_ff h0]; rfl
      exact ⟨m1, by unfold mnV; rw [m1, beq_ff h0]; rfl⟩
    have hD : rlvlE n d = 0 → rminI t n d (t + 1).toNat 0 = minI t n d ∧ mnE t n d = (bif decide (minI t n d < 0) then 12 else 0) ∧ mnV t n d = (bif decide (minI t n d < 0) then 0 else minI t n d) := by
      intro h0
      have hO := hM ht h0
      have m0 : minE t n d = 0 := by rw [hE, ht, h0]; rfl
      have m1 : mnE t n d = (bif decide (minI t n d < 0) then 12 else 0) := by unfold mnE; rw [m0]; rfl
      refine ⟨rmin_min hO, m1, ?_⟩
      unfold mnV
      rw [m1]
      cases decide (minI t n d < 0) <;> rfl
    by_cases hr : rtailE t r = 0
    · obtain ⟨a1, a2, a3⟩ := hA hr
      have a2' : tlP t r = wi ((rtN t r).tdiv (divG (rtN t r) (rtD t))) := a2
      have a3' : tlQ t r = wi ((rtD t).tdiv (divG (rtN t r) (rtD t))) := a3
      simp only [hr, ← a2', ← a3', bne_self_eq_false, cond_false, cond_true, beq_self_eq_true, Bool.and_self, Bool.not_true]
      by_cases hl : rlvlE n d = 0
      · obtain ⟨d1, d2, d3⟩ := hD hl
        have d4 : rmV t n d = (bif decide (minI t n d < 0) then 0 else minI t n d) := by unfold rmV; rw [d1]
        simp only [hl, d1, d2, d3, d4, bne_self_eq_false, cond_false]
        cases decide (minI t n d < 0) with
        | true =>
          simp only [cond_true, cond_false, Bool.not_true, Bool.not_false, beq_self_eq_true]
          exact ⟨a1, ht', h⟩
        | false =>
          simp only [cond_true, cond_false, Bool.not_true, Bool.not_false, beq_self_eq_true]
          exact ⟨a1, ht', h⟩
      · obtain ⟨c1, c2⟩ := hC hl
        simp only [c1, c2, bne_tt hl, cond_true, beq_self_eq_true]
        exact ⟨a1, h⟩
    · obtain ⟨b1, b2⟩ := hB hr
      simp only [b1, b2, bne_tt hr, beq_ff hr, cond_true, cond_false, beq_self_eq_true, bne_self_eq_false, Bool.and_self, Bool.not_true]
      by_cases hl : rlvlE n d = 0
      · obtain ⟨d1, d2, d3⟩ := hD hl
        have d4 : rmV t n d = (bif decide (minI t n d < 0) then 0 else minI t n d) := by unfold rmV; rw [d1]
        simp only [hl, d1, d2, d3, d4, bne_self_eq_false, cond_false]
        cases decide (minI t n d < 0) with
        | true =>
          simp only [cond_true, cond_false, Bool.not_true, Bool.not_false, beq_self_eq_true]
          exact ⟨ht', h⟩
        | false =>
          simp only [cond_true, cond_false, Bool.not_true, Bool.not_false, beq_self_eq_true]
          exact ⟨ht', h⟩
      · obtain ⟨c1, c2⟩ := hC hl
        simp only [c1, c2, bne_tt hl, cond_true, beq_self_eq_true]
        exact h
end Go.Ev
