/-
  Chapter 1, contracts: restored data, of the reference, in stages.
-/
import Derived.Test.YtlejemnljojpgaaC1BF
import Derived.Test.YtlejemnljojpgaaEvCut2
import Derived.KernelRfl
import Derived.Test.YtlejemnljojpgaaC1BE
set_option linter.unusedVariables false
set_option linter.unusedSimpArgs false
set_option linter.unusedSectionVars false
namespace Go.Ev
open Go Go.Proofs
set_option maxRecDepth 20000
set_option linter.unusedVariables false
noncomputable abbrev Erf0a (m : Nat) : Env := ErfM rsZ (.unroll 9) (.unroll 1) (.unroll 1) lrfI m
noncomputable abbrev Erf0b (m : Nat) : Env := ErfM rsZ (.unroll 9) (.unroll 1) (.unroll 1) (.unroll 1) m
end Go.Ev

namespace Go.Ev
open Go Go.Proofs
set_option maxRecDepth 100000
theorem exrfA (S0 : Spec) (l1 l2 l5 l7 : LoopBy) (D P : List (List Int)) (L Q : List Int) (K : AV → List Blk → Prop) (B : St → Prop) : evStage (ErfM S0 l1 l2 l5 l7 0) Try.f67 0 4 (st0 Try.f67 [.agg [.data (.mat .i64 8 D), .data (.mat .i64 8 P), .data (.ints .i64 L), .data (.ints .i64 Q)]] []) K B = ( (okG D P L Q ∧ (0 :Int) ≤ (0 :Int) ∧ 0 ≤ (↑P.length : Int)) ∧ bif (keptJ Q 0 ((↑P.length : Int) - 0).toNat).isEmpty then B { t := [AV.agg [SV.data (Row.mat .i64 8 D), SV.data (Row.mat .i64 8 P), SV.data (Row.ints .i64 L), SV.data (Row.ints .i64 Q)], .one (.ptr ([] : List Int).length 1 0 0), .one .nil, .one (.int .i64 0), .one .nil, AV.any, AV.any, AV.any, AV.any, AV.any, AV.any, AV.any, AV.any, AV.any, AV.any, AV.any, AV.any, AV.any, AV.any, AV.any, AV.any, AV.any, AV.any, AV.any, AV.any, AV.any, AV.any, AV.any, AV.any, AV.any, AV.any, AV.any, AV.any, AV.any, AV.any, AV.any, AV.any, AV.any, AV.any, AV.any, AV.any, AV.any, AV.any, AV.any, AV.any, AV.any, AV.any, AV.any, AV.any, AV.any, AV.any, AV.any, AV.any, AV.any, AV.any, AV.any, AV.any, AV.any, AV.any, AV.any, AV.any, AV.any, AV.any, AV.any, AV.any, AV.any, AV.any, AV.any, AV.any, AV.any, AV.any, AV.any, AV.any, AV.any, AV.any, AV.any, AV.any, AV.any, AV.any, AV.any, AV.any, AV.any, AV.any, AV.any, AV.any, AV.any, AV.any, AV.any, AV.any, AV.any, AV.any, AV.any, AV.any, AV.any, AV.any, AV.any, AV.any, AV.any, AV.any, AV.any, AV.any, AV.any, AV.any, AV.any, AV.any, AV.any, AV.any, AV.any, AV.any, AV.any, AV.any, AV.any, AV.any, AV.any, AV.any, AV.any, AV.any, AV.any, AV.any, AV.any, AV.any, AV.any, AV.any, AV.any, AV.any, AV.any, AV.any, AV.any, AV.any, AV.any, AV.any, AV.any, AV.any, AV.any, AV.any, AV.any, AV.any, AV.any, AV.any, AV.any, AV.any, AV.any, AV.any, AV.any, AV.any, AV.any, AV.any, AV.any, AV.any, AV.any, AV.any, AV.any, AV.any, AV.any, AV.any, AV.any, AV.any, AV.any, AV.any, AV.any, AV.any, AV.any, AV.any, AV.any, AV.any, AV.any, AV.any, AV.any, AV.any, AV.any, AV.any, AV.any, AV.any, AV.any, AV.any, AV.any, AV.any, AV.any, AV.any, AV.any, AV.any, AV.any, AV.any, AV.any, AV.any, AV.any, AV.any, AV.any, AV.any, AV.any, AV.any, AV.any, AV.any], σ := [Blk.cells [SV.data (Row.mat .i64 8 D), SV.data (Row.mat .i64 8 P), SV.data (Row.ints .i64 L), SV.data (Row.ints .i64 Q)]] } else B { t := [AV.agg [SV.data (Row.mat .i64 8 D), SV.data (Row.mat .i64 8 P), SV.data (Row.ints .i64 L), SV.data (Row.ints .i64 Q)], .one (.ptr ([] : List Int).length 1 0 0), .one .nil, .one (.int .i64 0), .one (.own ([Blk.cells [SV.data (Row.mat .i64 8 D), SV.data (Row.mat .i64 8 P), SV.data (Row.ints .i64 L), SV.data (Row.ints .i64 Q)]].length + (1 - (reach [Blk.cells [SV.data (Row.mat .i64 8 D), SV.data (Row.mat .i64 8 P), SV.data (Row.ints .i64 L), SV.data (Row.ints .i64 Q)]] 63 ((match Blk.cells [SV.data (Row.mat .i64 8 D), SV.data (Row.mat .i64 8 P), SV.data (Row.ints .i64 L), SV.data (Row.ints .i64 Q)] with | Blk.cells l => List.flatMap idsS l | x => []) ++ []) [([] : List Int).length]).length)) 1), AV.any, AV.any, AV.any, AV.any, AV.any, AV.any, AV.any, AV.any, AV.any, AV.any, AV.any, AV.any, AV.any, AV.any, AV.any, AV.any, AV.any, AV.any, AV.any, AV.any, AV.any, AV.any, AV.any, AV.any, AV.any, AV.any, AV.any, AV.any, AV.any, AV.any, AV.any, AV.any, AV.any, AV.any, AV.any, AV.any, AV.any, AV.any, AV.any, AV.any, AV.any, AV.any, AV.any, AV.any, AV.any, AV.any, AV.any, AV.any, AV.any, AV.any, AV.any, AV.any, AV.any, AV.any, AV.any, AV.any, AV.any, AV.any, AV.any, AV.any, AV.any, AV.any, AV.any, AV.any, AV.any, AV.any, AV.any, AV.any, AV.any, AV.any, AV.any, AV.any, AV.any, AV.any, AV.any, AV.any, AV.any, AV.any, AV.any, AV.any, AV.any, AV.any, AV.any, AV.any, AV.any, AV.any, AV.any, AV.any, AV.any, AV.any, AV.any, AV.any, AV.any, AV.any, AV.any, AV.any, AV.any, AV.any, AV.any, AV.any, AV.any, AV.any, AV.any, AV.any, AV.any, AV.any, AV.any, AV.any, AV.any, AV.any, AV.any, AV.any, AV.any, AV.any, AV.any, AV.any, AV.any, AV.any, AV.any, AV.any, AV.any, AV.any, AV.any, AV.any, AV.any, AV.any, AV.any, AV.any, AV.any, AV.any, AV.any, AV.any, AV.any, AV.any, AV.any, AV.any, AV.any, AV.any, AV.any, AV.any, AV.any, AV.any, AV.any, AV.any, AV.any, AV.any, AV.any, AV.any, AV.any, AV.any, AV.any, AV.any, AV.any, AV.any, AV.any, AV.any, AV.any, AV.any, AV.any, AV.any, AV.any, AV.any, AV.any, AV.any, AV.any, AV.any, AV.any, AV.any, AV.any, AV.any, AV.any, AV.any, AV.any, AV.any, AV.any, AV.any, AV.any, AV.any, AV.any, AV.any, AV.any, AV.any, AV.any, AV.any, AV.any, AV.any, AV.any, AV.any], σ := [Blk.cells [SV.data (Row.mat .i64 8 D), SV.data (Row.mat .i64 8 P), SV.data (Row.ints .i64 L), SV.data (Row.ints .i64 Q)], Blk.row 3 (Row.ints .i64 (keptJ Q 0 ((↑P.length : Int) - 0).toNat))] }) := by kernel_rfl
theorem exrfN (S0 : Spec) (l1 l2 l5 l7 : LoopBy) (D P : List (List Int)) (L Q : List Int) (a0 a2 a3 a5 a19 a20 a21 a22 a23 a24 a25 a26 a27 a28 a29 a30 a31 a32 a33 a34 : AV) (K : AV → List Blk → Prop) (B : St → Prop) : evStage (ErfM S0 l1 l2 l5 l7 0) Try.f67 4 3 { t := ([a0, AV.one (SV.ptr 0 1 0 0), a2, a3, AV.one SV.nil, a5, AV.any, AV.any, AV.any, AV.any, AV.any, AV.any, AV.any, AV.any, AV.any, AV.any, AV.any, AV.any, AV.any, a19, a20, a21, a22, a23, a24, a25, a26, a27, a28, a29, a30, a31, a32, a33, a34] ++ List.replicate 158 .any), σ := [.cells [.data (.mat .i64 8 D), .data (.mat .i64 8 P), .data (.ints .i64 L), .data (.ints .i64 Q)]] } K B = ( bif decide ((↑L.length : Int) > 0) then K (AV.tup [.one .nil, .one (.int .i64 28)]) [] else B { t := [a0, .one (.ptr 0 1 0 0), a2, a3, .one .nil, a5, .one (.int .i64 (↑L.length : Int)), AV.any, AV.any, AV.any, AV.any, AV.any, AV.any, AV.any, AV.any, AV.any, AV.any, AV.any, AV.any, a19, a20, a21, a22, a23, a24, a25, a26, a27, a28, a29, a30, a31, a32, a33, a34, .one (.ptr 0 1 0 2), .one (.data (Row.ints .i64 L)), .one (.int .i64 (↑L.length : Int)), .one (.int .i64 (↑L.length : Int)), .one .nil, .one (.int .i64 0), .one (.bool false), AV.any, AV.any, AV.any, AV.any, AV.any, AV.any, AV.any, AV.any, AV.any, AV.any, AV.any, AV.any, AV.any, AV.any, AV.any, AV.any, AV.any, AV.any, AV.any, AV.any, AV.any, AV.any, AV.any, AV.any, AV.any, AV.any, AV.any, AV.any, AV.any, AV.any, AV.any, AV.any, AV.any, AV.any, AV.any, AV.any, AV.any, AV.any, AV.any, AV.any, AV.any, AV.any, AV.any, AV.any, AV.any, AV.any, AV.any, AV.any, AV.any, AV.any, AV.any, AV.any, AV.any, AV.any, AV.any, AV.any, AV.any, AV.any, AV.any, AV.any, AV.any, AV.any, AV.any, AV.any, AV.any, AV.any, AV.any, AV.any, AV.any, AV.any, AV.any, AV.any, AV.any, AV.any, AV.any, AV.any, AV.any, AV.any, AV.any, AV.any, AV.any, AV.any, AV.any, AV.any, AV.any, AV.any, AV.any, AV.any, AV.any, AV.any, AV.any, AV.any, AV.any, AV.any, AV.any, AV.any, AV.any, AV.any, AV.any, AV.any, AV.any, AV.any, AV.any, AV.any, AV.any, AV.any, AV.any, AV.any, AV.any, AV.any, AV.any, AV.any, AV.any, AV.any, AV.any, AV.any, AV.any, AV.any, AV.any, AV.any, AV.any, AV.any, AV.any, AV.any, AV.any, AV.any, AV.any, AV.any, AV.any, AV.any, AV.any, AV.any, AV.any, AV.any, AV.any, AV.any, AV.any, AV.any, AV.any, AV.any, AV.any, AV.any, AV.any, AV.any, AV.any, AV.any, AV.any, AV.any, AV.any, AV.any, AV.any], σ := [Blk.cells [SV.data (Row.mat .i64 8 D), SV.data (Row.mat .i64 8 P), SV.data (Row.ints .i64 L), SV.data (Row.ints .i64 Q)]] }) := by kernel_rfl
theorem exrfC0b (D P : List (List Int)) (Q : List Int) (a0 a2 a3 a5 a19 a20 a21 a22 a23 a24 a25 a26 a27 a28 a29 a30 a31 a32 a33 a34 : AV) (K : AV → List Blk → Prop) (B : St → Prop) : evStage (Erf0b 0) Try.f67 4 6 { t := ([a0, AV.one (SV.ptr 0 1 0 0), a2, a3, AV.one SV.nil, a5, AV.any, AV.any, AV.any, AV.any, AV.any, AV.any, AV.any, AV.any, AV.any, AV.any, AV.any, AV.any, AV.any, a19, a20, a21, a22, a23, a24, a25, a26, a27, a28, a29, a30, a31, a32, a33, a34] ++ List.replicate 158 .any), σ := [.cells [.data (.mat .i64 8 D), .data (.mat .i64 8 P), .data (.ints .i64 []), .data (.ints .i64 Q)]] } K B = ( bif decide (D.length * 64 ≤ 140737488355328 ∧ D.length ≤ 140737488355328) then B { t := [a0, .one (.ptr 0 1 0 0), a2, a3, .one .nil, a5, .one (.int .i64 0), .one (.own [Blk.cells [SV.data (Row.mat .i64 8 D), SV.data (Row.mat .i64 8 P), SV.data (Row.ints .i64 []), SV.data (Row.ints .i64 Q)], Blk.row 35 (Row.mat .i64 8 [])].length 8), .one (.int .i64 8), .one .nil, .one (.int .i64 0), AV.any, AV.any, AV.any, .one .nil, .one (.int .i64 0), AV.any, AV.any, AV.any, a19, a20, a21, a22, a23, a24, a25, a26, a27, a28, a29, a30, a31, a32, a33, a34, .one (.ptr 0 1 0 2), .one (.data (Row.ints .i64 [])), .one (.int .i64 0), .one (.int .i64 0), .one .nil, .one (.int .i64 0), .one (.bool false), .one (.own [Blk.cells [SV.data (Row.mat .i64 8 D), SV.data (Row.mat .i64 8 P), SV.data (Row.ints .i64 []), SV.data (Row.ints .i64 Q)]].length 8), .one (.ptr 0 1 0 0), .one (.data (Row.mat .i64 8 D)), .one (.own [Blk.cells [SV.data (Row.mat .i64 8 D), SV.data (Row.mat .i64 8 P), SV.data (Row.ints .i64 []), SV.data (Row.ints .i64 Q)], Blk.row 35 (Row.mat .i64 8 [])].length 8), .one (.int .i64 8), .one (.bool false), .one (.int .i64 7), .one (.int .i64 8), .one (.int .i64 0), .one (.int .i64 0), .one (.bool false), AV.any, AV.any, AV.any, AV.any, AV.any, AV.any, AV.any, AV.any, AV.any, AV.any, AV.any, AV.any, AV.any, AV.any, AV.any, AV.any, AV.any, AV.any, AV.any, AV.any, AV.any, AV.any, AV.any, AV.any, AV.any, AV.any, AV.any, AV.any, AV.any, AV.any, AV.any, AV.any, AV.any, AV.any, AV.any, AV.any, AV.any, AV.any, AV.any, AV.any, AV.any, AV.any, AV.any, AV.any, AV.any, AV.any, AV.any, AV.any, AV.any, AV.any, AV.any, AV.any, AV.any, AV.any, AV.any, AV.any, AV.any, AV.any, AV.any, AV.any, AV.any, AV.any, AV.any, AV.any, AV.any, AV.any, AV.any, AV.any, AV.any, AV.any, AV.any, AV.any, AV.any, AV.any, AV.any, AV.any, .one .nil, .one .nil, .one (.int .i64 0), .one (.int .i64 0), .one (.bool false), AV.any, AV.any, AV.any, AV.any, AV.any, AV.any, AV.any, AV.any, AV.any, AV.any, AV.any, AV.any, AV.any, AV.any, AV.any, AV.any, AV.any, AV.any, AV.any, AV.any, AV.any, AV.any, AV.any, AV.any, AV.any, AV.any, AV.any, AV.any, AV.any, AV.any, AV.any, AV.any, AV.any, AV.any, AV.any, AV.any, AV.any, AV.any, AV.any, AV.any, AV.any, AV.any, AV.any, AV.any, AV.any, AV.any, AV.any, AV.any, AV.any, AV.any, AV.any, AV.any, AV.any, AV.any, AV.any, AV.any, AV.any, AV.any, AV.any], σ := [Blk.cells [SV.data (Row.mat .i64 8 D), SV.data (Row.mat .i64 8 P), SV.data (Row.ints .i64 []), SV.data (Row.ints .i64 Q)], Blk.dead, Blk.row 35 (Row.mat .i64 8 D)] } else False) := by kernel_rfl
theorem exrfC1 (D P : List (List Int)) (L Q T : List Int) (a0 a2 a3 a5 a19 a20 a21 a22 a23 a24 a25 a26 a27 a28 a29 a30 a31 a32 a33 a34 : AV) (K : AV → List Blk → Prop) (B : St → Prop) : evStage (Erf1 0) Try.f67 4 6 { t := ([a0, AV.one (SV.ptr 0 1 0 0), a2, a3, AV.one (SV.own 1 1), a5, AV.any, AV.any, AV.any, AV.any, AV.any, AV.any, AV.any, AV.any, AV.any, AV.any, AV.any, AV.any, AV.any, a19, a20, a21, a22, a23, a24, a25, a26, a27, a28, a29, a30, a31, a32, a33, a34] ++ List.replicate 158 .any), σ := [.cells [.data (.mat .i64 8 D), .data (.mat .i64 8 P), .data (.ints .i64 L), .data (.ints .i64 Q)], .row 3 (.ints .i64 T)] } K B = ( bif decide ((↑L.length : Int) > (↑T.length : Int)) then K (AV.tup [.one .nil, .one (.int .i64 28)]) [] else bif decide (D.length * 64 ≤ 140737488355328 ∧ D.length ≤ 140737488355328) then ((↑L.length : Int) = 1 ∧ okRf 1 D P L T ∧ okOut D D ∧ (0 :Int) ≤ (0 :Int) ∧ (0 :Int) ≤ (8 :Int)) ∧ B { t := [a0, .one (.ptr 0 1 0 0), a2, a3, .one (.own 1 1), a5, .one (.int .i64 (↑L.length : Int)), .one (.own [Blk.cells [SV.data (Row.mat .i64 8 D), SV.data (Row.mat .i64 8 P), SV.data (Row.ints .i64 L), SV.data (Row.ints .i64 Q)], Blk.row 3 (Row.ints .i64 T), Blk.row 35 (Row.mat .i64 8 [])].length 8), AV.any, AV.any, AV.any, AV.any, AV.any, AV.any, AV.any, AV.any, AV.any, AV.any, AV.any, a19, a20, a21, a22, a23, a24, a25, a26, a27, a28, a29, a30, a31, a32, a33, a34, .one (.ptr 0 1 0 2), .one (.data (Row.ints .i64 L)), .one (.int .i64 (↑L.length : Int)), .one (.int .i64 (↑L.length : Int)), .one (.own 1 1), .one (.int .i64 (↑T.length : Int)), .one (.bool false), .one (.own [Blk.cells [SV.data (Row.mat .i64 8 D), SV.data (Row.mat .i64 8 P), SV.data (Row.ints .i64 L), SV.data (Row.ints .i64 Q)], Blk.row 3 (Row.ints .i64 T)].length 8), .one (.ptr 0 1 0 0), .one (.data (Row.mat .i64 8 D)), .one (.own [Blk.cells [SV.data (Row.mat .i64 8 D), SV.data (Row.mat .i64 8 P), SV.data (Row.ints .i64 L), SV.data (Row.ints .i64 Q)], Blk.row 3 (Row.ints .i64 T), Blk.row 35 (Row.mat .i64 8 [])].length 8), AV.any, AV.any, AV.any, AV.any, AV.any, AV.any, AV.any, AV.any, AV.any, AV.any, AV.any, AV.any, AV.any, AV.any, AV.any, AV.any, AV.any, AV.any, AV.any, AV.any, AV.any, AV.any, AV.any, AV.any, AV.any, AV.any, AV.any, AV.any, AV.any, AV.any, AV.any, AV.any, AV.any, AV.any, AV.any, AV.any, AV.any, AV.any, AV.any, AV.any, AV.any, AV.any, AV.any, AV.any, AV.any, AV.any, AV.any, AV.any, AV.any, AV.any, AV.any, AV.any, AV.any, AV.any, AV.any, AV.any, AV.any, AV.any, AV.any, AV.any, AV.any, AV.any, AV.any, AV.any, AV.any, AV.any, AV.any, AV.any, AV.any, AV.any, AV.any, AV.any, AV.any, AV.any, AV.any, AV.any, AV.any, AV.any, AV.any, AV.any, AV.any, AV.any, AV.any, AV.any, AV.any, AV.any, AV.any, AV.any, AV.any, AV.any, AV.any, AV.any, AV.any, AV.any, AV.any, AV.any, AV.any, AV.any, AV.any, AV.any, AV.any, AV.any, AV.any, AV.any, AV.any, AV.any, AV.any, AV.any, AV.any, AV.any, AV.any, AV.any, AV.any, AV.any, AV.any, AV.any, AV.any, AV.any, AV.any, AV.any, AV.any, AV.any, AV.any, AV.any, AV.any, AV.any, AV.any, AV.any, AV.any, AV.any, AV.any, AV.any, AV.any, AV.any, AV.any, AV.any, AV.any, AV.any, AV.any, AV.any, AV.any, AV.any, AV.any, AV.any, AV.any, AV.any, AV.any], σ := [Blk.cells [SV.data (Row.mat .i64 8 D), SV.data (Row.mat .i64 8 P), SV.data (Row.ints .i64 L), SV.data (Row.ints .i64 Q)], Blk.row 3 (Row.ints .i64 T), Blk.dead, Blk.row 35 (Row.mat .i64 8 (resF D P L T 8 0 D))] } else False) := by kernel_rfl
theorem exrfC2 (D P : List (List Int)) (L Q T : List Int) (a0 a2 a3 a5 a19 a20 a21 a22 a23 a24 a25 a26 a27 a28 a29 a30 a31 a32 a33 a34 : AV) (K : AV → List Blk → Prop) (B : St → Prop) : evStage (Erf2 0) Try.f67 4 6 { t := ([a0, AV.one (SV.ptr 0 1 0 0), a2, a3, AV.one (SV.own 1 1), a5, AV.any, AV.any, AV.any, AV.any, AV.any, AV.any, AV.any, AV.any, AV.any, AV.any, AV.any, AV.any, AV.any, a19, a20, a21, a22, a23, a24, a25, a26, a27, a28, a29, a30, a31, a32, a33, a34] ++ List.replicate 158 .any), σ := [.cells [.data (.mat .i64 8 D), .data (.mat .i64 8 P), .data (.ints .i64 L), .data (.ints .i64 Q)], .row 3 (.ints .i64 T)] } K B = ( bif decide ((↑L.length : Int) > (↑T.length : Int)) then K (AV.tup [.one .nil, .one (.int .i64 28)]) [] else bif decide (D.length * 64 ≤ 140737488355328 ∧ D.length ≤ 140737488355328) then ((↑L.length : Int) = 2 ∧ okRf 2 D P L T ∧ okOut D D ∧ (0 :Int) ≤ (0 :Int) ∧ (0 :Int) ≤ (8 :Int)) ∧ B { t := [a0, .one (.ptr 0 1 0 0), a2, a3, .one (.own 1 1), a5, .one (.int .i64 (↑L.length : Int)), .one (.own [Blk.cells [SV.data (Row.mat .i64 8 D), SV.data (Row.mat .i64 8 P), SV.data (Row.ints .i64 L), SV.data (Row.ints .i64 Q)], Blk.row 3 (Row.ints .i64 T), Blk.row 35 (Row.mat .i64 8 [])].length 8), AV.any, AV.any, AV.any, AV.any, AV.any, AV.any, AV.any, AV.any, AV.any, AV.any, AV.any, a19, a20, a21, a22, a23, a24, a25, a26, a27, a28, a29, a30, a31, a32, a33, a34, .one (.ptr 0 1 0 2), .one (.data (Row.ints .i64 L)), .one (.int .i64 (↑L.length : Int)), .one (.int .i64 (↑L.length : Int)), .one (.own 1 1), .one (.int .i64 (↑T.length : Int)), .one (.bool false), .one (.own [Blk.cells [SV.data (Row.mat .i64 8 D), SV.data (Row.mat .i64 8 P), SV.data (Row.ints .i64 L), SV.data (Row.ints .i64 Q)], Blk.row 3 (Row.ints .i64 T)].length 8), .one (.ptr 0 1 0 0), .one (.data (Row.mat .i64 8 D)), .one (.own [Blk.cells [SV.data (Row.mat .i64 8 D), SV.data (Row.mat .i64 8 P), SV.data (Row.ints .i64 L), SV.data (Row.ints .i64 Q)], Blk.row 3 (Row.ints .i64 T), Blk.row 35 (Row.mat .i64 8 [])].length 8), AV.any, AV.any, AV.any, AV.any, AV.any, AV.any, AV.any, AV.any, AV.any, AV.any, AV.any, AV.any, AV.any, AV.any, AV.any, AV.any, AV.any, AV.any, AV.any, AV.any, AV.any, AV.any, AV.any, AV.any, AV.any, AV.any, AV.any, AV.any, AV.any, AV.any, AV.any, AV.any, AV.any, AV.any, AV.any, AV.any, AV.any, AV.any, AV.any, AV.any, AV.any, AV.any, AV.any, AV.any, AV.any, AV.any, AV.any, AV.any, AV.any, AV.any, AV.any, AV.any, AV.any, AV.any, AV.any, AV.any, AV.any, AV.any, AV.any, AV.any, AV.any, AV.any, AV.any, AV.any, AV.any, AV.any, AV.any, AV.any, AV.any, AV.any, AV.any, AV.any, AV.any, AV.any, AV.any, AV.any, AV.any, AV.any, AV.any, AV.any, AV.any, AV.any, AV.any, AV.any, AV.any, AV.any, AV.any, AV.any, AV.any, AV.any, AV.any, AV.any, AV.any, AV.any, AV.any, AV.any, AV.any, AV.any, AV.any, AV.any, AV.any, AV.any, AV.any, AV.any, AV.any, AV.any, AV.any, AV.any, AV.any, AV.any, AV.any, AV.any, AV.any, AV.any, AV.any, AV.any, AV.any, AV.any, AV.any, AV.any, AV.any, AV.any, AV.any, AV.any, AV.any, AV.any, AV.any, AV.any, AV.any, AV.any, AV.any, AV.any, AV.any, AV.any, AV.any, AV.any, AV.any, AV.any, AV.any, AV.any, AV.any, AV.any, AV.any, AV.any, AV.any, AV.any, AV.any], σ := [Blk.cells [SV.data (Row.mat .i64 8 D), SV.data (Row.mat .i64 8 P), SV.data (Row.ints .i64 L), SV.data (Row.ints .i64 Q)], Blk.row 3 (Row.ints .i64 T), Blk.dead, Blk.row 35 (Row.mat .i64 8 (resF D P L T 8 0 D))] } else False) := by kernel_rfl
theorem exrfC3 (D P : List (List Int)) (L Q T : List Int) (a0 a2 a3 a5 a19 a20 a21 a22 a23 a24 a25 a26 a27 a28 a29 a30 a31 a32 a33 a34 : AV) (K : AV → List Blk → Prop) (B : St → Prop) : evStage (Erf3 0) Try.f67 4 6 { t := ([a0, AV.one (SV.ptr 0 1 0 0), a2, a3, AV.one (SV.own 1 1), a5, AV.any, AV.any, AV.any, AV.any, AV.any, AV.any, AV.any, AV.any, AV.any, AV.any, AV.any, AV.any, AV.any, a19, a20, a21, a22, a23, a24, a25, a26, a27, a28, a29, a30, a31, a32, a33, a34] ++ List.replicate 158 .any), σ := [.cells [.data (.mat .i64 8 D), .data (.mat .i64 8 P), .data (.ints .i64 L), .data (.ints .i64 Q)], .row 3 (.ints .i64 T)] } K B = ( bif decide ((↑L.length : Int) > (↑T.length : Int)) then K (AV.tup [.one .nil, .one (.int .i64 28)]) [] else bif decide (D.length * 64 ≤ 140737488355328 ∧ D.length ≤ 140737488355328) then ((↑L.length : Int) = 3 ∧ okRf 3 D P L T ∧ okOut D D ∧ (0 :Int) ≤ (0 :Int) ∧ (0 :Int) ≤ (8 :Int)) ∧ B { t := [a0, .one (.ptr 0 1 0 0), a2, a3, .one (.own 1 1), a5, .one (.int .i64 (↑L.length : Int)), .one (.own [Blk.cells [SV.data (Row.mat .i64 8 D), SV.data (Row.mat .i64 8 P), SV.data (Row.ints .i64 L), SV.data (Row.ints .i64 Q)], Blk.row 3 (Row.ints .i64 T), Blk.row 35 (Row.mat .i64 8 [])].length 8), AV.any, AV.any, AV.any, AV.any, AV.any, AV.any, AV.any, AV.any, AV.any, AV.any, AV.any, a19, a20, a21, a22, a23, a24, a25, a26, a27, a28, a29, a30, a31, a32, a33, a34, .one (.ptr 0 1 0 2), .one (.data (Row.ints .i64 L)), .one (.int .i64 (↑L.length : Int)), .one (.int .i64 (↑L.length : Int)), .one (.own 1 1), .one (.int .i64 (↑T.length : Int)), .one (.bool false), .one (.own [Blk.cells [SV.data (Row.mat .i64 8 D), SV.data (Row.mat .i64 8 P), SV.data (Row.ints .i64 L), SV.data (Row.ints .i64 Q)], Blk.row 3 (Row.ints .i64 T)].length 8), .one (.ptr 0 1 0 0), .one (.data (Row.mat .i64 8 D)), .one (.own [Blk.cells [SV.data (Row.mat .i64 8 D), SV.data (Row.mat .i64 8 P), SV.data (Row.ints .i64 L), SV.data (Row.ints .i64 Q)], Blk.row 3 (Row.ints .i64 T), Blk.row 35 (Row.mat .i64 8 [])].length 8), AV.any, AV.any, AV.any, AV.any, AV.any, AV.any, AV.any, AV.any, AV.any, AV.any, AV.any, AV.any, AV.any, AV.any, AV.any, AV.any, AV.any, AV.any, AV.any, AV.any, AV.any, AV.any, AV.any, AV.any, AV.any, AV.any, AV.any, AV.any, AV.any, AV.any, AV.any, AV.any, AV.any, AV.any, AV.any, AV.any, AV.any, AV.any, AV.any, AV.any, AV.any, AV.any, AV.any, AV.any, AV.any, AV.any, AV.any, AV.any, AV.any, AV.any, AV.any, AV.any, AV.any, AV.any, AV.any, AV.any, AV.any, AV.any, AV.any, AV.any, AV.any, AV.any, AV.any, AV.any, AV.any, AV.any, AV.any, AV.any, AV.any, AV.any, AV.any, AV.any, AV.any, AV.any, AV.any, AV.any, AV.any, AV.any, AV.any, AV.any, AV.any, AV.any, AV.any, AV.any, AV.any, AV.any, AV.any, AV.any, AV.any, AV.any, AV.any, AV.any, AV.any, AV.any, AV.any, AV.any, AV.any, AV.any, AV.any, AV.any, AV.any, AV.any, AV.any, AV.any, AV.any, AV.any, AV.any, AV.any, AV.any, AV.any, AV.any, AV.any, AV.any, AV.any, AV.any, AV.any, AV.any, AV.any, AV.any, AV.any, AV.any, AV.any, AV.any, AV.any, AV.any, AV.any, AV.any, AV.any, AV.any, AV.any, AV.any, AV.any, AV.any, AV.any, AV.any, AV.any, AV.any, AV.any, AV.any, AV.any, AV.any, AV.any, AV.any, AV.any, AV.any, AV.any, AV.any], σ := [Blk.cells [SV.data (Row.mat .i64 8 D), SV.data (Row.mat .i64 8 P), SV.data (Row.ints .i64 L), SV.data (Row.ints .i64 Q)], Blk.row 3 (Row.ints .i64 T), Blk.dead, Blk.row 35 (Row.mat .i64 8 (resF D P L T 8 0 D))] } else False) := by kernel_rfl
theorem exrfC4 (D P : List (List Int)) (L Q T : List Int) (a0 a2 a3 a5 a19 a20 a21 a22 a23 a24 a25 a26 a27 a28 a29 a30 a31 a32 a33 a34 : AV) (K : AV → List Blk → Prop) (B : St → Prop) : evStage (Erf4 0) Try.f67 4 6 { t := ([a0, AV.one (SV.ptr 0 1 0 0), a2, a3, AV.one (SV.own 1 1), a5, AV.any, AV.any, AV.any, AV.any, AV.any, AV.any, AV.any, AV.any, AV.any, AV.any, AV.any, AV.any, AV.any, a19, a20, a21, a22, a23, a24, a25, a26, a27, a28, a29, a30, a31, a32, a33, a34] ++ List.replicate 158 .any), σ := [.cells [.data (.mat .i64 8 D), .data (.mat .i64 8 P), .data (.ints .i64 L), .data (.ints .i64 Q)], .row 3 (.ints .i64 T)] } K B = ( bif decide ((↑L.length : Int) > (↑T.length : Int)) then K (AV.tup [.one .nil, .one (.int .i64 28)]) [] else bif decide (D.length * 64 ≤ 140737488355328 ∧ D.length ≤ 140737488355328) then ((↑L.length : Int) = 4 ∧ okRf 4 D P L T ∧ okOut D D ∧ (0 :Int) ≤ (0 :Int) ∧ (0 :Int) ≤ (8 :Int)) ∧ B { t := [a0, .one (.ptr 0 1 0 0), a2, a3, .one (.own 1 1), a5, .one (.int .i64 (↑L.length : Int)), .one (.own [Blk.cells [SV.data (Row.mat .i64 8 D), SV.data (Row.mat .i64 8 P), SV.data (Row.ints .i64 L), SV.data (Row.ints .i64 Q)], Blk.row 3 (Row.ints .i64 T), Blk.row 35 (Row.mat .i64 8 [])].length 8), AV.any, AV.any, AV.any, AV.any, AV.any, AV.any, AV.any, AV.any, AV.any, AV.any, AV.any, a19, a20, a21, a22, a23, a24, a25, a26, a27, a28, a29, a30, a31, a32, a33, a34, .one (.ptr 0 1 0 2), .one (.data (Row.ints .i64 L)), .one (.int .i64 (↑L.length : Int)), .one (.int .i64 (↑L.length : Int)), .one (.own 1 1), .one (.int .i64 (↑T.length : Int)), .one (.bool false), .one (.own [Blk.cells [SV.data (Row.mat .i64 8 D), SV.data (Row.mat .i64 8 P), SV.data (Row.ints .i64 L), SV.data (Row.ints .i64 Q)], Blk.row 3 (Row.ints .i64 T)].length 8), .one (.ptr 0 1 0 0), .one (.data (Row.mat .i64 8 D)), .one (.own [Blk.cells [SV.data (Row.mat .i64 8 D), SV.data (Row.mat .i64 8 P), SV.data (Row.ints .i64 L), SV.data (Row.ints .i64 Q)], Blk.row 3 (Row.ints .i64 T), Blk.row 35 (Row.mat .i64 8 [])].length 8), AV.any, AV.any, AV.any, AV.any, AV.any, AV.any, AV.any, AV.any, AV.any, AV.any, AV.any, AV.any, AV.any, AV.any, AV.any, AV.any, AV.any, AV.any, AV.any, AV.any, AV.any, AV.any, AV.any, AV.any, AV.any, AV.any, AV.any, AV.any, AV.any, AV.any, AV.any, AV.any, AV.any, AV.any, AV.any, AV.any, AV.any, AV.any, AV.any, AV.any, AV.any, AV.any, AV.any, AV.any, AV.any, AV.any, AV.any, AV.any, AV.any, AV.any, AV.any, AV.any, AV.any, AV.any, AV.any, AV.any, AV.any, AV.any, AV.any, AV.any, AV.any, AV.any, AV.any, AV.any, AV.any, AV.any, AV.any, AV.any, AV.any, AV.any, AV.any, AV.any, AV.any, AV.any, AV.any, AV.any, AV.any, AV.any, AV.any, AV.any, AV.any, AV.any, AV.any, AV.any, AV.any, AV.any, AV.any, AV.any, AV.any, AV.any, AV.any, AV.any, AV.any, AV.any, AV.any, AV.any, AV.any, AV.any, AV.any, AV.any, AV.any, AV.any, AV.any, AV.any, AV.any, AV.any, AV.any, AV.any, AV.any, AV.any, AV.any, AV.any, AV.any, AV.any, AV.any, AV.any, AV.any, AV.any, AV.any, AV.any, AV.any, AV.any, AV.any, AV.any, AV.any, AV.any, AV.any, AV.any, AV.any, AV.any, AV.any, AV.any, AV.any, AV.any, AV.any, AV.any, AV.any, AV.any, AV.any, AV.any, AV.any, AV.any, AV.any, AV.any, AV.any, AV.any, AV.any], σ := [Blk.cells [SV.data (Row.mat .i64 8 D), SV.data (Row.mat .i64 8 P), SV.data (Row.ints .i64 L), SV.data (Row.ints .i64 Q)], Blk.row 3 (Row.ints .i64 T), Blk.dead, Blk.row 35 (Row.mat .i64 8 (resF D P L T 8 0 D))] } else False) := by kernel_rfl
theorem exrfC0a (D P : List (List Int)) (Q T : List Int) (a0 a2 a3 a5 a19 a20 a21 a22 a23 a24 a25 a26 a27 a28 a29 a30 a31 a32 a33 a34 : AV) (K : AV → List Blk → Prop) (B : St → Prop) : evStage (Erf0a 0) Try.f67 4 6 { t := ([a0, AV.one (SV.ptr 0 1 0 0), a2, a3, AV.one (SV.own 1 1), a5, AV.any, AV.any, AV.any, AV.any, AV.any, AV.any, AV.any, AV.any, AV.any, AV.any, AV.any, AV.any, AV.any, a19, a20, a21, a22, a23, a24, a25, a26, a27, a28, a29, a30, a31, a32, a33, a34] ++ List.replicate 158 .any), σ := [.cells [.data (.mat .i64 8 D), .data (.mat .i64 8 P), .data (.ints .i64 []), .data (.ints .i64 Q)], .row 3 (.ints .i64 T)] } K B = ( bif decide (D.length * 64 ≤ 140737488355328 ∧ D.length ≤ 140737488355328) then B { t := [a0, .one (.ptr 0 1 0 0), a2, a3, .one (.own 1 1), a5, .one (.int .i64 0), .one (.own [Blk.cells [SV.data (Row.mat .i64 8 D), SV.data (Row.mat .i64 8 P), SV.data (Row.ints .i64 []), SV.data (Row.ints .i64 Q)], Blk.row 3 (Row.ints .i64 T), Blk.row 35 (Row.mat .i64 8 [])].length 8), .one (.int .i64 8), .one .nil, .one (.int .i64 0), AV.any, AV.any, AV.any, .one .nil, .one (.int .i64 0), AV.any, AV.any, AV.any, a19, a20, a21, a22, a23, a24, a25, a26, a27, a28, a29, a30, a31, a32, a33, a34, .one (.ptr 0 1 0 2), .one (.data (Row.ints .i64 [])), .one (.int .i64 0), .one (.int .i64 0), .one (.own 1 1), .one (.int .i64 (↑T.length : Int)), .one (.bool false), .one (.own [Blk.cells [SV.data (Row.mat .i64 8 D), SV.data (Row.mat .i64 8 P), SV.data (Row.ints .i64 []), SV.data (Row.ints .i64 Q)], Blk.row 3 (Row.ints .i64 T)].length 8), .one (.ptr 0 1 0 0), .one (.data (Row.mat .i64 8 D)), .one (.own [Blk.cells [SV.data (Row.mat .i64 8 D), SV.data (Row.mat .i64 8 P), SV.data (Row.ints .i64 []), SV.data (Row.ints .i64 Q)], Blk.row 3 (Row.ints .i64 T), Blk.row 35 (Row.mat .i64 8 [])].length 8), .one (.int .i64 8), .one (.bool false), .one (.int .i64 7), .one (.int .i64 8), .one (.int .i64 0), .one (.int .i64 0), .one (.bool false), AV.any, AV.any, AV.any, AV.any, AV.any, AV.any, AV.any, AV.any, AV.any, AV.any, AV.any, AV.any, AV.any, AV.any, AV.any, AV.any, AV.any, AV.any, AV.any, AV.any, AV.any, AV.any, AV.any, AV.any, AV.any, AV.any, AV.any, AV.any, AV.any, AV.any, AV.any, AV.any, AV.any, AV.any, AV.any, AV.any, AV.any, AV.any, AV.any, AV.any, AV.any, AV.any, AV.any, AV.any, AV.any, AV.any, AV.any, AV.any, AV.any, AV.any, AV.any, AV.any, AV.any, AV.any, AV.any, AV.any, AV.any, AV.any, AV.any, AV.any, AV.any, AV.any, AV.any, AV.any, AV.any, AV.any, AV.any, AV.any, AV.any, AV.any, AV.any, AV.any, AV.any, AV.any, AV.any, AV.any, .one .nil, .one .nil, .one (.int .i64 0), .one (.int .i64 0), .one (.bool false), AV.any, AV.any, AV.any, AV.any, AV.any, AV.any, AV.any, AV.any, AV.any, AV.any, AV.any, AV.any, AV.any, AV.any, AV.any, AV.any, AV.any, AV.any, AV.any, AV.any, AV.any, AV.any, AV.any, AV.any, AV.any, AV.any, AV.any, AV.any, AV.any, AV.any, AV.any, AV.any, AV.any, AV.any, AV.any, AV.any, AV.any, AV.any, AV.any, AV.any, AV.any, AV.any, AV.any, AV.any, AV.any, AV.any, AV.any, AV.any, AV.any, AV.any, AV.any, AV.any, AV.any, AV.any, AV.any, AV.any, AV.any, AV.any, AV.any], σ := [Blk.cells [SV.data (Row.mat .i64 8 D), SV.data (Row.mat .i64 8 P), SV.data (Row.ints .i64 []), SV.data (Row.ints .i64 Q)], Blk.row 3 (Row.ints .i64 T), Blk.dead, Blk.row 35 (Row.mat .i64 8 D)] } else False) := by kernel_rfl
theorem exrfD (S0 : Spec) (l1 l2 l5 : LoopBy) (D P O : List (List Int)) (L Q T : List Int) (nn : Int) (a0 a2 a3 a5 a8 a9 a10 a11 a12 a13 a14 a15 a19 a20 a21 a22 a23 a24 a25 a26 a27 a28 a29 a30 a31 a32 a33 a34 a35 a36 a37 a38 a39 a40 a41 a42 a43 a44 a45 a46 a47 a48 a49 a50 a51 a52 a53 a54 a55 a56 a57 a58 a59 a60 a61 a62 a63 a64 a65 a66 a67 a68 a69 a70 a71 a72 a73 a74 a75 a76 a77 a78 a79 a80 a81 a82 a83 a84 a85 a86 a87 a88 a89 a90 a91 a92 a93 a94 a95 a96 a97 a98 a99 a100 a101 a102 a103 a104 a105 a106 a107 a108 a109 a110 a111 a112 a113 a114 a115 a116 a117 a118 a119 a120 a121 a122 a123 a124 a125 a126 a127 a128 a129 a130 a131 a132 a133 a134 a135 a136 a137 a138 a139 a140 a141 a142 a143 a144 a145 a146 a147 a148 a149 : AV) (K : AV → List Blk → Prop) : evRest (ErfM S0 l1 l2 l5 lrfI 0) Try.f67 10 { t := ([a0, AV.one (SV.ptr 0 1 0 0), a2, a3, AV.one (SV.own 1 1), a5, AV.one (SV.int .i64 nn), AV.one (SV.own 3 8), a8, a9, a10, a11, a12, a13, a14, a15, AV.any, AV.any, AV.any, a19, a20, a21, a22, a23, a24, a25, a26, a27, a28, a29, a30, a31, a32, a33, a34, a35, a36, a37, a38, a39, a40, a41, a42, a43, a44, a45, a46, a47, a48, a49, a50, a51, a52, a53, a54, a55, a56, a57, a58, a59, a60, a61, a62, a63, a64, a65, a66, a67, a68, a69, a70, a71, a72, a73, a74, a75, a76, a77, a78, a79, a80, a81, a82, a83, a84, a85, a86, a87, a88, a89, a90, a91, a92, a93, a94, a95, a96, a97, a98, a99, a100, a101, a102, a103, a104, a105, a106, a107, a108, a109, a110, a111, a112, a113, a114, a115, a116, a117, a118, a119, a120, a121, a122, a123, a124, a125, a126, a127, a128, a129, a130, a131, a132, a133, a134, a135, a136, a137, a138, a139, a140, a141, a142, a143, a144, a145, a146, a147, a148, a149] ++ List.replicate 43 .any), σ := [.cells [.data (.mat .i64 8 D), .data (.mat .i64 8 P), .data (.ints .i64 L), .data (.ints .i64 Q)], .row 3 (.ints .i64 T), .dead, .row 35 (.mat .i64 8 O)] } K = ( (O.all len8 = true ∧ okIx L O.length ∧ nn = (↑L.length : Int) ∧ nn ≤ 4 ∧ (0 :Int) ≤ (0 :Int)) ∧ bif L.all (rowOk O) then (okData O ∧ 1 ≤ (↑P.length : Int) ∧ (↑P.length : Int) ≤ 4) ∧ ((parM O (↑P.length : Int)).all len8 = true ∧ P.all len8 = true ∧ T.length ≤ 4 ∧ okIx T P.length ∧ okIx T (parM O (↑P.length : Int)).length ∧ (0 :Int) ≤ (0 :Int)) ∧ bif T.all (rowEq (parM O (↑(Row.mat .i64 8 P).count : Int)) P) then K (AV.tup [.one (.own 0 8), .one (.int .i64 0)]) [Blk.row 35 (Row.mat .i64 8 O)] else K (AV.tup [.one .nil, .one (.int .i64 13)]) [] else K (AV.tup [.one .nil, .one (.int .i64 13)]) []) := by kernel_rfl
theorem exrfD0b (D P O : List (List Int)) (Q : List Int) (a0 a2 a3 a5 a8 a9 a10 a11 a12 a13 a14 a15 a19 a20 a21 a22 a23 a24 a25 a26 a27 a28 a29 a30 a31 a32 a33 a34 a35 a36 a37 a38 a39 a40 a41 a42 a43 a44 a45 a46 a47 a48 a49 a50 a51 a52 a53 a54 a55 a56 a57 a58 a59 a60 a61 a62 a63 a64 a65 a66 a67 a68 a69 a70 a71 a72 a73 a74 a75 a76 a77 a78 a79 a80 a81 a82 a83 a84 a85 a86 a87 a88 a89 a90 a91 a92 a93 a94 a95 a96 a97 a98 a99 a100 a101 a102 a103 a104 a105 a106 a107 a108 a109 a110 a111 a112 a113 a114 a115 a116 a117 a118 a119 a120 a121 a122 a123 a124 a125 a126 a127 a128 a129 a130 a131 a132 a133 a134 a135 a136 a137 a138 a139 a140 a141 a142 a143 a144 a145 a146 a147 a148 a149 : AV) (K : AV → List Blk → Prop) : evRest (Erf0b 0) Try.f67 10 { t := ([a0, AV.one (SV.ptr 0 1 0 0), a2, a3, AV.one SV.nil, a5, AV.one (SV.int .i64 0), AV.one (SV.own 2 8), a8, a9, a10, a11, a12, a13, a14, a15, AV.any, AV.any, AV.any, a19, a20, a21, a22, a23, a24, a25, a26, a27, a28, a29, a30, a31, a32, a33, a34, a35, a36, a37, a38, a39, a40, a41, a42, a43, a44, a45, a46, a47, a48, a49, a50, a51, a52, a53, a54, a55, a56, a57, a58, a59, a60, a61, a62, a63, a64, a65, a66, a67, a68, a69, a70, a71, a72, a73, a74, a75, a76, a77, a78, a79, a80, a81, a82, a83, a84, a85, a86, a87, a88, a89, a90, a91, a92, a93, a94, a95, a96, a97, a98, a99, a100, a101, a102, a103, a104, a105, a106, a107, a108, a109, a110, a111, a112, a113, a114, a115, a116, a117, a118, a119, a120, a121, a122, a123, a124, a125, a126, a127, a128, a129, a130, a131, a132, a133, a134, a135, a136, a137, a138, a139, a140, a141, a142, a143, a144, a145, a146, a147, a148, a149] ++ List.replicate 43 .any), σ := [.cells [.data (.mat .i64 8 D), .data (.mat .i64 8 P), .data (.ints .i64 []), .data (.ints .i64 Q)], .dead, .row 35 (.mat .i64 8 O)] } K = ( (O.all len8 = true ∧ okIx [] O.length ∧ (0 :Int) = (0 :Int) ∧ (0 :Int) ≤ (4 :Int) ∧ (0 :Int) ≤ (0 :Int)) ∧ (okData O ∧ 1 ≤ (↑P.length : Int) ∧ (↑P.length : Int) ≤ 4) ∧ K (AV.tup [.one (.own 0 8), .one (.int .i64 0)]) [Blk.row 35 (Row.mat .i64 8 O)]) := by kernel_rfl
end Go.Ev

namespace Go.Ev
open Go Go.Proofs
attribute [local irreducible] evFn evBody evRound
attribute [local irreducible] evStage evRest
set_option maxRecDepth 20000
set_option linter.unusedVariables false
set_option linter.unusedSimpArgs false
theorem g_rows (X : List (List Int)) : ∀ (c : Nat) (j : Int) (k : Nat), k < c → (rowsF X j c).getD k [] = colsF X (j + k) 0 8
  | 0, _, _, h => by omega
  | c + 1, j, 0, _ => by rw [show j + ((0 : Nat) : Int) = j by omega]; rfl
  | c + 1, j, k + 1, h => by
    rw [show j + ((k + 1 : Nat) : Int) = (j + 1) + (k : Int) by omega, ← g_rows X c (j + 1) k (by omega)]
    rfl
theorem g_fr (O : List (List Int)) (P : List (List Int)) (j : Int) (ps : List Int) (hp : P.getD j.toNat [] = ps) : ∀ (f s : Nat), s + f = ps.length → (colsF O j s f == ps.drop s) = parFr O P j f s
  | 0, s, h => by rw [List.drop_eq_nil_of_le (by omega)]; rfl
  | f + 1, s, h => by
    rw [colsF_s, drop_step 0 (by omega : s < ps.length)]
    unfold parFr parAt
    rw [hp, ← g_fr O P j ps hp f (s + 1) (by omega)]
    rfl
theorem rowEq_par {O P : List (List Int)} {j : Int} (p8 : P.all len8 = true) (h0 : 0 ≤ j) (h1 : j < P.length) : rowEq (parM O (P.length : Int)) P j = parOk O P j := by
  unfold rowEq parM parOk
  rw [Int.toNat_natCast, g_rows O P.length 0 j.toNat (by omega), show (0 : Int) + ((j.toNat : Nat) : Int) = j by omega]
  have hl : (P.getD j.toNat []).length = 8 := Pl.row_len p8 (by omega)
  exact g_fr O P j (P.getD j.toNat []) rfl 8 0 (by omega)
theorem all_cg {α : Type} {p q : α → Bool} : ∀ {l : List α}, (∀ x ∈ l, p x = q x) → l.all p = l.all q
  | [], _ => rfl
  | x :: l, h => by
    rw [List.all_cons, List.all_cons, h x (List.mem_cons_self ..), all_cg fun y hy => h y (List.mem_cons_of_mem _ hy)]
theorem okRf_of {n : Nat} {D P : List (List Int)} {L Q : List Int} (h1 : 1 ≤ n ∧ n ≤ 4) (hg : okG D P L Q) (g : Gro D P L Q) (hn : L.length = n) (hk : n ≤ (keptJ Q 0 P.length).length) : okRf n D P L (keptJ Q 0 P.length) where
  rs := okRs_of hg g hn hk
  pv := fun a => by
    have hd1 := g.d1
    have hp1 := g.p1
    have hs := keptJ_lost Q P.length 0 (-1) (by decide) (by decide)
    rw [Int.zero_add] at hs
    refine Pl.piv_ok (L := L) (K := (keptJ Q 0 P.length).take n) h1 (Pl.lost_wider (by omega) g.lL) (Pl.lost_take _ (Pl.lost_wider (by omega) hs)) hn (by rw [List.length_take]; omega) ?_
    unfold eqsF
    rw [hn, List.map_map]
    refine List.map_congr_left fun j _ => ?_
    show (facs L j ++ [_]).take n = facs L j
    rw [← hn, ← facs_len L j]
    exact List.take_left' rfl
  pr := fun j hj => by
    obtain ⟨j0, j1, j2⟩ := keptJ_mem Q P.length 0 j hj
    exact keptR_get g.kr j.toNat (by omega) (by rw [Int.zero_add, show ((j.toNat : Nat) : Int) = j by omega]; exact j2)
theorem rfD_ok {S0 : Spec} {l1 l2 l5 : LoopBy} {D P O : List (List Int)} {L Q T : List Int} {nn : Int} {a0 a2 a3 a5 a8 a9 a10 a11 a12 a13 a14 a15 a19 a20 a21 a22 a23 a24 a25 a26 a27 a28 a29 a30 a31 a32 a33 a34 a35 a36 a37 a38 a39 a40 a41 a42 a43 a44 a45 a46 a47 a48 a49 a50 a51 a52 a53 a54 a55 a56 a57 a58 a59 a60 a61 a62 a63 a64 a65 a66 a67 a68 a69 a70 a71 a72 a73 a74 a75 a76 a77 a78 a79 a80 a81 a82 a83 a84 a85 a86 a87 a88 a89 a90 a91 a92 a93 a94 a95 a96 a97 a98 a99 a100 a101 a102 a103 a104 a105 a106 a107 a108 a109 a110 a111 a112 a113 a114 a115 a116 a117 a118 a119 a120 a121 a122 a123 a124 a125 a126 a127 a128 a129 a130 a131 a132 a133 a134 a135 a136 a137 a138 a139 a140 a141 a142 a143 a144 a145 a146 a147 a148 a149 : AV} {K : AV → List Blk → Prop} (hn : nn = L.length) (ol : O.length ≤ 12) (h8 : O.all len8 = true) (hix : okIx L O.length) (hl : L.length ≤ 4) (hok : L.all (rowOk O) = true → O.all okRow = true) (p8 : P.all len8 = true) (p0 : 1 ≤ P.length) (p4 : P.length ≤ 4) (tix : okIx T P.length) (t4 : T.length ≤ 4)
    (h : bif L.all (rowOk O) && T.all (parOk O P) then K (.tup [.one (.own 0 8), .one (.int .i64 0)]) [.row 35 (.mat .i64 8 O)] else K (.tup [.one .nil, .one (.int .i64 13)]) []) :
    evRest (ErfM S0 l1 l2 l5 lrfI 0) Try.f67 10 { t := ([a0, AV.one (SV.ptr 0 1 0 0), a2, a3, AV.one (SV.own 1 1), a5, AV.one (SV.int .i64 nn), AV.one (SV.own 3 8), a8, a9, a10, a11, a12, a13, a14, a15, AV.any, AV.any, AV.any, a19, a20, a21, a22, a23, a24, a25, a26, a27, a28, a29, a30, a31, a32, a33, a34, a35, a36, a37, a38, a39, a40, a41, a42, a43, a44, a45, a46, a47, a48, a49, a50, a51, a52, a53, a54, a55, a56, a57, a58, a59, a60, a61, a62, a63, a64, a65, a66, a67, a68, a69, a70, a71, a72, a73, a74, a75, a76, a77, a78, a79, a80, a81, a82, a83, a84, a85, a86, a87, a88, a89, a90, a91, a92, a93, a94, a95, a96, a97, a98, a99, a100, a101, a102, a103, a104, a105, a106, a107, a108, a109, a110, a111, a112, a113, a114, a115, a116, a117, a118, a119, a120, a121, a122, a123, a124, a125, a126, a127, a128, a129, a130, a131, a132, a133, a134, a135, a136, a137, a138, a139, a140, a141, a142, a143, a144, a145, a146, a147, a148, a149] ++ List.replicate 43 .any), σ := [.cells [.data (.mat .i64 8 D), .data (.mat .i64 8 P), .data (.ints .i64 L), .data (.ints .i64 Q)], .row 3 (.ints .i64 T), .dead, .row 35 (.mat .i64 8 O)] } K := by
  rw [exrfD]
  refine And.intro ⟨h8, hix, hn, by omega, by decide⟩ ?_
  cases hb : L.all (rowOk O) with
  | true =>
    rw [hb, Bool.true_and] at h
    rw [cond_true]
    have hr := hok hb
    have hl8 : (parM O (P.length : Int)).all len8 = true := rowsF_len8 O _ 0
    have hlen : (parM O (P.length : Int)).length = P.length := by
      have : (parM O (P.length : Int)).length = (P.length : Int).toNat := rowsF_length O _ 0
      omega
    refine And.intro ⟨⟨by omega, h8, kept_all hr 0⟩, by omega, by omega⟩ (And.intro ⟨hl8, p8, t4, tix, by rw [hlen]; exact tix, by decide⟩ ?_)
    have e : T.all (rowEq (parM O ((Row.mat .i64 8 P).count : Int)) P) = T.all (parOk O P) := all_cg fun j hj => by
      have := tix j hj
      exact rowEq_par p8 this.1 this.2
    rw [e]
    exact h
  | false => rw [hb] at h; exact h
theorem rfN_ok {S0 : Spec} {l1 l2 l5 l7 : LoopBy} {D P : List (List Int)} {L Q : List Int} {a0 a2 a3 a5 a19 a20 a21 a22 a23 a24 a25 a26 a27 a28 a29 a30 a31 a32 a33 a34 : AV} {K : AV → List Blk → Prop} {B : St → Prop} (hL : 1 ≤ L.length) (h : K (.tup [.one .nil, .one (.int .i64 28)]) []) :
    evStage (ErfM S0 l1 l2 l5 l7 0) Try.f67 4 3 { t := ([a0, AV.one (SV.ptr 0 1 0 0), a2, a3, AV.one SV.nil, a5, AV.any, AV.any, AV.any, AV.any, AV.any, AV.any, AV.any, AV.any, AV.any, AV.any, AV.any, AV.any, AV.any, a19, a20, a21, a22, a23, a24, a25, a26, a27, a28, a29, a30, a31, a32, a33, a34] ++ List.replicate 158 .any), σ := [.cells [.data (.mat .i64 8 D), .data (.mat .i64 8 P), .data (.ints .i64 L), .data (.ints .i64 Q)]] } K B := by
  rw [exrfN]
  rw [decide_eq_true (by omega)]
  exact h
theorem rfD0b_ok {D P O : List (List Int)} {Q : List Int} {a0 a2 a3 a5 a8 a9 a10 a11 a12 a13 a14 a15 a19 a20 a21 a22 a23 a24 a25 a26 a27 a28 a29 a30 a31 a32 a33 a34 a35 a36 a37 a38 a39 a40 a41 a42 a43 a44 a45 a46 a47 a48 a49 a50 a51 a52 a53 a54 a55 a56 a57 a58 a59 a60 a61 a62 a63 a64 a65 a66 a67 a68 a69 a70 a71 a72 a73 a74 a75 a76 a77 a78 a79 a80 a81 a82 a83 a84 a85 a86 a87 a88 a89 a90 a91 a92 a93 a94 a95 a96 a97 a98 a99 a100 a101 a102 a103 a104 a105 a106 a107 a108 a109 a110 a111 a112 a113 a114 a115 a116 a117 a118 a119 a120 a121 a122 a123 a124 a125 a126 a127 a128 a129 a130 a131 a132 a133 a134 a135 a136 a137 a138 a139 a140 a141 a142 a143 a144 a145 a146 a147 a148 a149 : AV} {K : AV → List Blk → Prop} (ol : O.length ≤ 12) (h8 : O.all len8 = true) (hok : O.all okRow = true) (p0 : 1 ≤ P.length) (p4 : P.length ≤ 4) (h : K (.tup [.one (.own 0 8), .one (.int .i64 0)]) [.row 35 (.mat .i64 8 O)]) :
    evRest (Erf0b 0) Try.f67 10 { t := ([a0, AV.one (SV.ptr 0 1 0 0), a2, a3, AV.one SV.nil, a5, AV.one (SV.int .i64 0), AV.one (SV.own 2 8), a8, a9, a10, a11, a12, a13, a14, a15, AV.any, AV.any, AV.any, a19, a20, a21, a22, a23, a24, a25, a26, a27, a28, a29, a30, a31, a32, a33, a34, a35, a36, a37, a38, a39, a40, a41, a42, a43, a44, a45, a46, a47, a48, a49, a50, a51, a52, a53, a54, a55, a56, a57, a58, a59, a60, a61, a62, a63, a64, a65, a66, a67, a68, a69, a70, a71, a72, a73, a74, a75, a76, a77, a78, a79, a80, a81, a82, a83, a84, a85, a86, a87, a88, a89, a90, a91, a92, a93, a94, a95, a96, a97, a98, a99, a100, a101, a102, a103, a104, a105, a106, a107, a108, a109, a110, a111, a112, a113, a114, a115, a116, a117, a118, a119, a120, a121, a122, a123, a124, a125, a126, a127, a128, a129, a130, a131, a132, a133, a134, a135, a136, a137, a138, a139, a140, a141, a142, a143, a144, a145, a146, a147, a148, a149] ++ List.replicate 43 .any), σ := [.cells [.data (.mat .i64 8 D), .data (.mat .i64 8 P), .data (.ints .i64 []), .data (.ints .i64 Q)], .dead, .row 35 (.mat .i64 8 O)] } K := by
  rw [exrfD0b]
  refine And.intro ⟨h8, (fun x (hx : x ∈ ([] : List Int)) => by cases hx), rfl, by decide, by decide⟩ ?_
  exact And.intro ⟨⟨by omega, h8, kept_all hok 0⟩, by omega, by omega⟩ h
theorem rfC1_ok {D P : List (List Int)} {L Q T : List Int} {a0 a2 a3 a5 a19 a20 a21 a22 a23 a24 a25 a26 a27 a28 a29 a30 a31 a32 a33 a34 : AV} {K : AV → List Blk → Prop} {B : St → Prop} (hL : L.length = 1) (hg : okG D P L Q) (g : Gro D P L Q) (hT : T = keptJ Q 0 P.length) (hB : B = fun s => evRest (Erf1 0) Try.f67 10 s K) (h : rfX D P L Q K) :
    evStage (Erf1 0) Try.f67 4 6 { t := ([a0, AV.one (SV.ptr 0 1 0 0), a2, a3, AV.one (SV.own 1 1), a5, AV.any, AV.any, AV.any, AV.any, AV.any, AV.any, AV.any, AV.any, AV.any, AV.any, AV.any, AV.any, AV.any, a19, a20, a21, a22, a23, a24, a25, a26, a27, a28, a29, a30, a31, a32, a33, a34] ++ List.replicate 158 .any), σ := [.cells [.data (.mat .i64 8 D), .data (.mat .i64 8 P), .data (.ints .i64 L), .data (.ints .i64 Q)], .row 3 (.ints .i64 T)] } K B := by
  rw [exrfC1]
  unfold rfX at h
  subst hT
  by_cases hlt : (keptJ Q 0 P.length).length < L.length
  · rw [decide_eq_true hlt] at h
    rw [decide_eq_true (show (L.length : Int) > ((keptJ Q 0 P.length).length : Int) by omega)]
    exact h
  · have hk1 := keptJ_len Q P.length 0
    have hp0 := g.p0
    have hp1 := g.p1
    have hd0 := g.d0
    have hd1 := g.d1
    rw [decide_eq_false hlt, cond_false] at h
    rw [decide_eq_false (show ¬ ((L.length : Int) > ((keptJ Q 0 P.length).length : Int)) by omega), cond_false, decide_eq_true (by omega), cond_true]
    have r := okRf_of (n := 1) (by decide) hg g (by omega) (by omega)
    refine And.intro ⟨by omega, r, ⟨rfl, r.rs.d8⟩, by decide, by decide⟩ ?_
    have ho := out_ok r.rs
    subst hB
    exact rfD_ok rfl (by rw [ho.1]; exact hd1) ho.2 (by rw [ho.1]; exact r.rs.li) (by omega) (all_rows (Pl.resF_out 8 0 D r.rs.li) r.rs.kb) r.rs.p8 hp0 hp1 r.rs.ki r.rs.k1 h
def rfT1 : Spec := fun args σ K => match args, σ with
  | [.agg [.data (.mat .i64 8 D), .data (.mat .i64 8 P), .data (.ints .i64 L), .data (.ints .i64 Q)]], [] => (okG D P L Q ∧ L.length = 1 ∧ groE D P L Q = 0) ∧ rfX D P L Q K
  | _, _ => False
theorem okrf1 : SpecOK Try.prog 67 rfT1 := by
  refine specOKc (n := 193) (m := 0) (lps := lrf lrfB1 lrfC1 lrfG lrfI) [] [47] (allrf okrs1) Try.func67 (by kernel_rfl) (by kernel_rfl) (theLoops (n := 8) (by kernel_rfl) fun i hi => ?_) fun args σ K h => ?_
  · match i, hi with
    | 0, _ => exact loopHyp_frm (E' := Erf1 1) (key := 3) (m := 1) (by kernel_rfl) rfl rfl (lokrf_0 okrs1)
    | 1, _ => exact loopHyp_frm (E' := Erf1 3) (key := 12) (m := 3) (by kernel_rfl) rfl rfl lokrf1_1
    | 2, _ => exact loopHyp_frm (E' := Erf1 2) (key := 16) (m := 2) (by kernel_rfl) rfl rfl lokrf1_2
    | 3, _ => exact loopHyp_frm (E' := Erf1 3) (key := 21) (m := 3) (by kernel_rfl) rfl rfl (lokrf_3 okrs1)
    | 4, _ => exact loopHyp_frm (E' := Erf1 3) (key := 26) (m := 3) (by kernel_rfl) rfl rfl (lokrf_4 okrs1)
    | 5, _ => exact loopHyp_frm (E' := Erf1 3) (key := 32) (m := 3) (by kernel_rfl) rfl rfl (lokrf_5 okrs1)
    | 6, _ => exact loopHyp_frm (E' := Erf1 2) (key := 36) (m := 2) (by kernel_rfl) rfl rfl (lokrf_6 okrs1)
    | 7, _ => exact loopHyp_frm (E' := Erf1 3) (key := 42) (m := 3) (by kernel_rfl) rfl rfl (lokrf_7 okrs1)
  unfold rfT1 at h
  split at h
  rotate_right
  · exact h.elim
  rename_i D P L Q
  obtain ⟨⟨hg, hn, he⟩, h⟩ := h
  have g := gro0 he
  show evFn (Erf1 0) Try.f67 _ [] K
  rw [evFn_rest (by kernel_rfl) (by kernel_rfl), evRest_stage (Erf1 0) Try.f67 0 4, exrfA]
  have ez : ((P.length : Int) - 0).toNat = P.length := by omega
  rw [ez]
  refine And.intro ⟨hg, by decide, by omega⟩ ?_
  cases hem : (keptJ Q 0 P.length).isEmpty with
  | true =>
    have e0 : (keptJ Q 0 P.length).length = 0 := by rw [List.isEmpty_iff.1 hem]; rfl
    unfold rfX at h
    rw [decide_eq_true (show (keptJ Q 0 P.length).length < L.length by omega)] at h
    rw [cond_true]
    show evRest (Erf1 0) Try.f67 (0 + 4) _ K
    rw [evRest_stage (Erf1 0) Try.f67 (0 + 4) 3]
    exact rfN_ok (by omega) h
  | false =>
    rw [cond_false]
    show evRest (Erf1 0) Try.f67 (0 + 4) _ K
    rw [evRest_stage (Erf1 0) Try.f67 (0 + 4) 6]
    exact rfC1_ok hn hg g rfl rfl h
theorem rfC2_ok {D P : List (List Int)} {L Q T : List Int} {a0 a2 a3 a5 a19 a20 a21 a22 a23 a24 a25 a26 a27 a28 a29 a30 a31 a32 a33 a34 : AV} {K : AV → List Blk → Prop} {B : St → Prop} (hL : L.length = 2) (hg : okG D P L Q) (g : Gro D P L Q) (hT : T = keptJ Q 0 P.length) (hB : B = fun s => evRest (Erf2 0) Try.f67 10 s K) (h : rfX D P L Q K) :
    evStage (Erf2 0) Try.f67 4 6 { t := ([a0, AV.one (SV.ptr 0 1 0 0), a2, a3, AV.one (SV.own 1 1), a5, AV.any, AV.any, AV.any, AV.any, AV.any, AV.any, AV.any, AV.any, AV.any, AV.any, AV.any, AV.any, AV.any, a19, a20, a21, a22, a23, a24, a25, a26, a27, a28, a29, a30, a31, a32, a33, a34] ++ List.replicate 158 .any), σ := [.cells [.data (.mat .i64 8 D), .data (.mat .i64 8 P), .data (.ints .i64 L), .data (.ints .i64 Q)], .row 3 (.ints .i64 T)] } K B := by
  rw [exrfC2]
  unfold rfX at h
  subst hT
  by_cases hlt : (keptJ Q 0 P.length).length < L.length
  · rw [decide_eq_true hlt] at h
    rw [decide_eq_true (show (L.length : Int) > ((keptJ Q 0 P.length).length : Int) by omega)]
    exact h
  · have hk1 := keptJ_len Q P.length 0
    have hp0 := g.p0
    have hp1 := g.p1
    have hd0 := g.d0
    have hd1 := g.d1
    rw [decide_eq_false hlt, cond_false] at h
    rw [decide_eq_false (show ¬ ((L.length : Int) > ((keptJ Q 0 P.length).length : Int)) by omega), cond_false, decide_eq_true (by omega), cond_true]
    have r := okRf_of (n := 2) (by decide) hg g (by omega) (by omega)
    refine And.intro ⟨by omega, r, ⟨rfl, r.rs.d8⟩, by decide, by decide⟩ ?_
    have ho := out_ok r.rs
    subst hB
    exact rfD_ok rfl (by rw [ho.1]; exact hd1) ho.2 (by rw [ho.1]; exact r.rs.li) (by omega) (all_rows (Pl.resF_out 8 0 D r.rs.li) r.rs.kb) r.rs.p8 hp0 hp1 r.rs.ki r.rs.k1 h
def rfT2 : Spec := fun args σ K => match args, σ with
  | [.agg [.data (.mat .i64 8 D), .data (.mat .i64 8 P), .data (.ints .i64 L), .data (.ints .i64 Q)]], [] => (okG D P L Q ∧ L.length = 2 ∧ groE D P L Q = 0) ∧ rfX D P L Q K
  | _, _ => False
theorem okrf2 : SpecOK Try.prog 67 rfT2 := by
  refine specOKc (n := 193) (m := 0) (lps := lrf lrfB2 lrfC2 lrfG lrfI) [] [47] (allrf okrs2) Try.func67 (by kernel_rfl) (by kernel_rfl) (theLoops (n := 8) (by kernel_rfl) fun i hi => ?_) fun args σ K h => ?_
  · match i, hi with
    | 0, _ => exact loopHyp_frm (E' := Erf2 1) (key := 3) (m := 1) (by kernel_rfl) rfl rfl (lokrf_0 okrs2)
    | 1, _ => exact loopHyp_frm (E' := Erf2 3) (key := 12) (m := 3) (by kernel_rfl) rfl rfl lokrf2_1
    | 2, _ => exact loopHyp_frm (E' := Erf2 2) (key := 16) (m := 2) (by kernel_rfl) rfl rfl lokrf2_2
    | 3, _ => exact loopHyp_frm (E' := Erf2 3) (key := 21) (m := 3) (by kernel_rfl) rfl rfl (lokrf_3 okrs2)
    | 4, _ => exact loopHyp_frm (E' := Erf2 3) (key := 26) (m := 3) (by kernel_rfl) rfl rfl (lokrf_4 okrs2)
    | 5, _ => exact loopHyp_frm (E' := Erf2 3) (key := 32) (m := 3) (by kernel_rfl) rfl rfl (lokrf_5 okrs2)
    | 6, _ => exact loopHyp_frm (E' := Erf2 2) (key := 36) (m := 2) (by kernel_rfl) rfl rfl (lokrf_6 okrs2)
    | 7, _ => exact loopHyp_frm (E' := Erf2 3) (key := 42) (m := 3) (by kernel_rfl) rfl rfl (lokrf_7 okrs2)
  unfold rfT2 at h
  split at h
  rotate_right
  · exact h.elim
  rename_i D P L Q
  obtain ⟨⟨hg, hn, he⟩, h⟩ := h
  have g := gro0 he
  show evFn (Erf2 0) Try.f67 _ [] K
  rw [evFn_rest (by kernel_rfl) (by kernel_rfl), evRest_stage (Erf2 0) Try.f67 0 4, exrfA]
  have ez : ((P.length : Int) - 0).toNat = P.length := by omega
  rw [ez]
  refine And.intro ⟨hg, by decide, by omega⟩ ?_
  cases hem : (keptJ Q 0 P.length).isEmpty with
  | true =>
    have e0 : (keptJ Q 0 P.length).length = 0 := by rw [List.isEmpty_iff.1 hem]; rfl
    unfold rfX at h
    rw [decide_eq_true (show (keptJ Q 0 P.length).length < L.length by omega)] at h
    rw [cond_true]
    show evRest (Erf2 0) Try.f67 (0 + 4) _ K
    rw [evRest_stage (Erf2 0) Try.f67 (0 + 4) 3]
    exact rfN_ok (by omega) h
  | false =>
    rw [cond_false]
    show evRest (Erf2 0) Try.f67 (0 + 4) _ K
    rw [evRest_stage (Erf2 0) Try.f67 (0 + 4) 6]
    exact rfC2_ok hn hg g rfl rfl h
theorem rfC3_ok {D P : List (List Int)} {L Q T : List Int} {a0 a2 a3 a5 a19 a20 a21 a22 a23 a24 a25 a26 a27 a28 a29 a30 a31 a32 a33 a34 : AV} {K : AV → List Blk → Prop} {B : St → Prop} (hL : L.length = 3) (hg : okG D P L Q) (g : Gro D P L Q) (hT : T = keptJ Q 0 P.length) (hB : B = fun s => evRest (Erf3 0) Try.f67 10 s K) (h : rfX D P L Q K) :
    evStage (Erf3 0) Try.f67 4 6 { t := ([a0, AV.one (SV.ptr 0 1 0 0), a2, a3, AV.one (SV.own 1 1), a5, AV.any, AV.any, AV.any, AV.any, AV.any, AV.any, AV.any, AV.any, AV.any, AV.any, AV.any, AV.any, AV.any, a19, a20, a21, a22, a23, a24, a25, a26, a27, a28, a29, a30, a31, a32, a33, a34] ++ List.replicate 158 .any), σ := [.cells [.data (.mat .i64 8 D), .data (.mat .i64 8 P), .data (.ints .i64 L), .data (.ints .i64 Q)], .row 3 (.ints .i64 T)] } K B := by
  rw [exrfC3]
  unfold rfX at h
  subst hT
  by_cases hlt : (keptJ Q 0 P.length).length < L.length
  · rw [decide_eq_true hlt] at h
    rw [decide_eq_true (show (L.length : Int) > ((keptJ Q 0 P.length).length : Int) by omega)]
    exact h
  · have hk1 := keptJ_len Q P.length 0
    have hp0 := g.p0
    have hp1 := g.p1
    have hd0 := g.d0
    have hd1 := g.d1
    rw [decide_eq_false hlt, cond_false] at h
    rw [decide_eq_false (show ¬ ((L.length : Int) > ((keptJ Q 0 P.length).length : Int)) by omega), cond_false, decide_eq_true (by omega), cond_true]
    have r := okRf_of (n := 3) (by decide) hg g (by omega) (by omega)
    refine And.intro ⟨by omega, r, ⟨rfl, r.rs.d8⟩, by decide, by decide⟩ ?_
    have ho := out_ok r.rs
    subst hB
    exact rfD_ok rfl (by rw [ho.1]; exact hd1) ho.2 (by rw [ho.1]; exact r.rs.li) (by omega) (all_rows (Pl.resF_out 8 0 D r.rs.li) r.rs.kb) r.rs.p8 hp0 hp1 r.rs.ki r.rs.k1 h
def rfT3 : Spec := fun args σ K => match args, σ with
  | [.agg [.data (.mat .i64 8 D), .data (.mat .i64 8 P), .data (.ints .i64 L), .data (.ints .i64 Q)]], [] => (okG D P L Q ∧ L.length = 3 ∧ groE D P L Q = 0) ∧ rfX D P L Q K
  | _, _ => False
theorem okrf3 : SpecOK Try.prog 67 rfT3 := by
  refine specOKc (n := 193) (m := 0) (lps := lrf lrfB3 lrfC3 lrfG lrfI) [] [47] (allrf okrs3) Try.func67 (by kernel_rfl) (by kernel_rfl) (theLoops (n := 8) (by kernel_rfl) fun i hi => ?_) fun args σ K h => ?_
  · match i, hi with
    | 0, _ => exact loopHyp_frm (E' := Erf3 1) (key := 3) (m := 1) (by kernel_rfl) rfl rfl (lokrf_0 okrs3)
    | 1, _ => exact loopHyp_frm (E' := Erf3 3) (key := 12) (m := 3) (by kernel_rfl) rfl rfl lokrf3_1
    | 2, _ => exact loopHyp_frm (E' := Erf3 2) (key := 16) (m := 2) (by kernel_rfl) rfl rfl lokrf3_2
    | 3, _ => exact loopHyp_frm (E' := Erf3 3) (key := 21) (m := 3) (by kernel_rfl) rfl rfl (lokrf_3 okrs3)
    | 4, _ => exact loopHyp_frm (E' := Erf3 3) (key := 26) (m := 3) (by kernel_rfl) rfl rfl (lokrf_4 okrs3)
    | 5, _ => exact loopHyp_frm (E' := Erf3 3) (key := 32) (m := 3) (by kernel_rfl) rfl rfl (lokrf_5 okrs3)
    | 6, _ => exact loopHyp_frm (E' := Erf3 2) (key := 36) (m := 2) (by kernel_rfl) rfl rfl (lokrf_6 okrs3)
    | 7, _ => exact loopHyp_frm (E' := Erf3 3) (key := 42) (m := 3) (by kernel_rfl) rfl rfl (lokrf_7 okrs3)
  unfold rfT3 at h
  split at h
  rotate_right
  · exact h.elim
  rename_i D P L Q
  obtain ⟨⟨hg, hn, he⟩, h⟩ := h
  have g := gro0 he
  show evFn (Erf3 0) Try.f67 _ [] K
  rw [evFn_rest (by kernel_rfl) (by kernel_rfl), evRest_stage (Erf3 0) Try.f67 0 4, exrfA]
  have ez : ((P.length : Int) - 0).toNat = P.length := by omega
  rw [ez]
  refine And.intro ⟨hg, by decide, by omega⟩ ?_
  cases hem : (keptJ Q 0 P.length).isEmpty with
  | true =>
    have e0 : (keptJ Q 0 P.length).length = 0 := by rw [List.isEmpty_iff.1 hem]; rfl
    unfold rfX at h
    rw [decide_eq_true (show (keptJ Q 0 P.length).length < L.length by omega)] at h
    rw [cond_true]
    show evRest (Erf3 0) Try.f67 (0 + 4) _ K
    rw [evRest_stage (Erf3 0) Try.f67 (0 + 4) 3]
    exact rfN_ok (by omega) h
  | false =>
    rw [cond_false]
    show evRest (Erf3 0) Try.f67 (0 + 4) _ K
    rw [evRest_stage (Erf3 0) Try.f67 (0 + 4) 6]
    exact rfC3_ok hn hg g rfl rfl h
theorem rfC4_ok {D P : List (List Int)} {L Q T : List Int} {a0 a2 a3 a5 a19 a20 a21 a22 a23 a24 a25 a26 a27 a28 a29 a30 a31 a32 a33 a34 : AV} {K : AV → List Blk → Prop} {B : St → Prop} (hL : 4 ≤ L.length) (hg : okG D P L Q) (g : Gro D P L Q) (hT : T = keptJ Q 0 P.length) (hB : B = fun s => evRest (Erf4 0) Try.f67 10 s K) (h : rfX D P L Q K) :
    evStage (Erf4 0) Try.f67 4 6 { t := ([a0, AV.one (SV.ptr 0 1 0 0), a2, a3, AV.one (SV.own 1 1), a5, AV.any, AV.any, AV.any, AV.any, AV.any, AV.any, AV.any, AV.any, AV.any, AV.any, AV.any, AV.any, AV.any, a19, a20, a21, a22, a23, a24, a25, a26, a27, a28, a29, a30, a31, a32, a33, a34] ++ List.replicate 158 .any), σ := [.cells [.data (.mat .i64 8 D), .data (.mat .i64 8 P), .data (.ints .i64 L), .data (.ints .i64 Q)], .row 3 (.ints .i64 T)] } K B := by
  rw [exrfC4]
  unfold rfX at h
  subst hT
  by_cases hlt : (keptJ Q 0 P.length).length < L.length
  · rw [decide_eq_true hlt] at h
    rw [decide_eq_true (show (L.length : Int) > ((keptJ Q 0 P.length).length : Int) by omega)]
    exact h
  · have hk1 := keptJ_len Q P.length 0
    have hp0 := g.p0
    have hp1 := g.p1
    have hd0 := g.d0
    have hd1 := g.d1
    rw [decide_eq_false hlt, cond_false] at h
    rw [decide_eq_false (show ¬ ((L.length : Int) > ((keptJ Q 0 P.length).length : Int)) by omega), cond_false, decide_eq_true (by omega), cond_true]
    have r := okRf_of (n := 4) (by decide) hg g (by omega) (by omega)
    refine And.intro ⟨by omega, r, ⟨rfl, r.rs.d8⟩, by decide, by decide⟩ ?_
    have ho := out_ok r.rs
    subst hB
    exact rfD_ok rfl (by rw [ho.1]; exact hd1) ho.2 (by rw [ho.1]; exact r.rs.li) (by omega) (all_rows (Pl.resF_out 8 0 D r.rs.li) r.rs.kb) r.rs.p8 hp0 hp1 r.rs.ki r.rs.k1 h
def rfT4 : Spec := fun args σ K => match args, σ with
  | [.agg [.data (.mat .i64 8 D), .data (.mat .i64 8 P), .data (.ints .i64 L), .data (.ints .i64 Q)]], [] => (okG D P L Q ∧ 4 ≤ L.length ∧ groE D P L Q = 0) ∧ rfX D P L Q K
  | _, _ => False
theorem okrf4 : SpecOK Try.prog 67 rfT4 := by
  refine specOKc (n := 193) (m := 0) (lps := lrf lrfB4 lrfC4 lrfG lrfI) [] [47] (allrf okrs4) Try.func67 (by kernel_rfl) (by kernel_rfl) (theLoops (n := 8) (by kernel_rfl) fun i hi => ?_) fun args σ K h => ?_
  · match i, hi with
    | 0, _ => exact loopHyp_frm (E' := Erf4 1) (key := 3) (m := 1) (by kernel_rfl) rfl rfl (lokrf_0 okrs4)
    | 1, _ => exact loopHyp_frm (E' := Erf4 3) (key := 12) (m := 3) (by kernel_rfl) rfl rfl lokrf4_1
    | 2, _ => exact loopHyp_frm (E' := Erf4 2) (key := 16) (m := 2) (by kernel_rfl) rfl rfl lokrf4_2
    | 3, _ => exact loopHyp_frm (E' := Erf4 3) (key := 21) (m := 3) (by kernel_rfl) rfl rfl (lokrf_3 okrs4)
    | 4, _ => exact loopHyp_frm (E' := Erf4 3) (key := 26) (m := 3) (by kernel_rfl) rfl rfl (lokrf_4 okrs4)
    | 5, _ => exact loopHyp_frm (E' := Erf4 3) (key := 32) (m := 3) (by kernel_rfl) rfl rfl (lokrf_5 okrs4)
    | 6, _ => exact loopHyp_frm (E' := Erf4 2) (key := 36) (m := 2) (by kernel_rfl) rfl rfl (lokrf_6 okrs4)
    | 7, _ => exact loopHyp_frm (E' := Erf4 3) (key := 42) (m := 3) (by kernel_rfl) rfl rfl (lokrf_7 okrs4)
  unfold rfT4 at h
  split at h
  rotate_right
  · exact h.elim
  rename_i D P L Q
  obtain ⟨⟨hg, hn, he⟩, h⟩ := h
  have g := gro0 he
  show evFn (Erf4 0) Try.f67 _ [] K
  rw [evFn_rest (by kernel_rfl) (by kernel_rfl), evRest_stage (Erf4 0) Try.f67 0 4, exrfA]
  have ez : ((P.length : Int) - 0).toNat = P.length := by omega
  rw [ez]
  refine And.intro ⟨hg, by decide, by omega⟩ ?_
  cases hem : (keptJ Q 0 P.length).isEmpty with
  | true =>
    have e0 : (keptJ Q 0 P.length).length = 0 := by rw [List.isEmpty_iff.1 hem]; rfl
    unfold rfX at h
    rw [decide_eq_true (show (keptJ Q 0 P.length).length < L.length by omega)] at h
    rw [cond_true]
    show evRest (Erf4 0) Try.f67 (0 + 4) _ K
    rw [evRest_stage (Erf4 0) Try.f67 (0 + 4) 3]
    exact rfN_ok (by omega) h
  | false =>
    rw [cond_false]
    show evRest (Erf4 0) Try.f67 (0 + 4) _ K
    rw [evRest_stage (Erf4 0) Try.f67 (0 + 4) 6]
    exact rfC4_ok hn hg g rfl rfl h
theorem okrsz : SpecOK Try.prog 125 rsZ := by
  refine specOK (n := 136) (m := 0) (lps := [(3, .unroll 1), (6, .unroll 1), (11, .unroll 1), (15, .unroll 1), (19, .unroll 1), (24, .unroll 1)]) (.cons okrin2 (.cons ok26 .nil)) Try.func125 (by kernel_rfl) (by kernel_rfl) (theLoops (n := 6) (by kernel_rfl) fun i hi => ?_) fun args σ K h => ?_
  · match i, hi with
    | 0, _ => exact loopHyp_none (key := 3) (n := 1) (by kernel_rfl) rfl
    | 1, _ => exact loopHyp_none (key := 6) (n := 1) (by kernel_rfl) rfl
    | 2, _ => exact loopHyp_none (key := 11) (n := 1) (by kernel_rfl) rfl
    | 3, _ => exact loopHyp_none (key := 15) (n := 1) (by kernel_rfl) rfl
    | 4, _ => exact loopHyp_none (key := 19) (n := 1) (by kernel_rfl) rfl
    | 5, _ => exact loopHyp_none (key := 24) (n := 1) (by kernel_rfl) rfl
  unfold rsZ at h
  split at h
  rotate_right
  · exact h.elim
  rw [exrsz K]
  exact h
theorem rfC0a_ok {D P : List (List Int)} {Q T : List Int} {a0 a2 a3 a5 a19 a20 a21 a22 a23 a24 a25 a26 a27 a28 a29 a30 a31 a32 a33 a34 : AV} {K : AV → List Blk → Prop} {B : St → Prop} (hg : okG D P [] Q) (g : Gro D P [] Q) (hT : T = keptJ Q 0 P.length) (hB : B = fun s => evRest (Erf0a 0) Try.f67 10 s K)
    (h : bif (keptJ Q 0 P.length).all (parOk D P) then K (.tup [.one (.own 0 8), .one (.int .i64 0)]) [.row 35 (.mat .i64 8 D)] else K (.tup [.one .nil, .one (.int .i64 13)]) []) :
    evStage (Erf0a 0) Try.f67 4 6 { t := ([a0, AV.one (SV.ptr 0 1 0 0), a2, a3, AV.one (SV.own 1 1), a5, AV.any, AV.any, AV.any, AV.any, AV.any, AV.any, AV.any, AV.any, AV.any, AV.any, AV.any, AV.any, AV.any, a19, a20, a21, a22, a23, a24, a25, a26, a27, a28, a29, a30, a31, a32, a33, a34] ++ List.replicate 158 .any), σ := [.cells [.data (.mat .i64 8 D), .data (.mat .i64 8 P), .data (.ints .i64 []), .data (.ints .i64 Q)], .row 3 (.ints .i64 T)] } K B := by
  rw [exrfC0a]
  subst hT
  have hk1 := keptJ_len Q P.length 0
  have hp0 := g.p0
  have hp1 := g.p1
  have hd0 := g.d0
  have hd1 := g.d1
  have hok := all_rows (O := D) (L := []) ⟨rfl, fun _ _ => rfl⟩ g.kb rfl
  rw [decide_eq_true (by omega), cond_true]
  subst hB
  have h2 : bif ([] : List Int).all (rowOk D) && (keptJ Q 0 P.length).all (parOk D P) then K (.tup [.one (.own 0 8), .one (.int .i64 0)]) [.row 35 (.mat .i64 8 D)] else K (.tup [.one .nil, .one (.int .i64 13)]) [] := by
    rw [List.all_nil, Bool.true_and]; exact h
  clear h
  exact rfD_ok rfl hd1 hg.2.2.2.2.1 (fun x (hx : x ∈ ([] : List Int)) => by cases hx) (by decide) (fun _ => hok) hg.2.2.2.2.2 hp0 hp1 (kept_ix Q P.length) (by omega) h2
theorem okrf0a : SpecOK Try.prog 67 rfS0a := by
  refine specOKc (n := 193) (m := 0) (lps := lrf (.unroll 9) (.unroll 1) (.unroll 1) lrfI) [] [47] (allrf okrsz) Try.func67 (by kernel_rfl) (by kernel_rfl) (theLoops (n := 8) (by kernel_rfl) fun i hi => ?_) fun args σ K h => ?_
  · match i, hi with
    | 0, _ => exact loopHyp_frm (E' := Erf0a 1) (key := 3) (m := 1) (by kernel_rfl) rfl rfl (lokrf_0 okrsz)
    | 1, _ => exact loopHyp_none (key := 12) (n := 9) (by kernel_rfl) rfl
    | 2, _ => exact loopHyp_none (key := 16) (n := 1) (by kernel_rfl) rfl
    | 3, _ => exact loopHyp_frm (E' := Erf0a 3) (key := 21) (m := 3) (by kernel_rfl) rfl rfl (lokrf_3 okrsz)
    | 4, _ => exact loopHyp_frm (E' := Erf0a 3) (key := 26) (m := 3) (by kernel_rfl) rfl rfl (lokrf_4 okrsz)
    | 5, _ => exact loopHyp_none (key := 32) (n := 1) (by kernel_rfl) rfl
    | 6, _ => exact loopHyp_frm (E' := Erf0a 2) (key := 36) (m := 2) (by kernel_rfl) rfl rfl (lokrf_6 okrsz)
    | 7, _ => exact loopHyp_frm (E' := Erf0a 3) (key := 42) (m := 3) (by kernel_rfl) rfl rfl (lokrf_7 okrsz)
  unfold rfS0a at h
  split at h
  rotate_right
  · exact h.elim
  rename_i D P Q
  obtain ⟨⟨hg, he, hem⟩, h⟩ := h
  have g := gro0 he
  show evFn (Erf0a 0) Try.f67 _ [] K
  rw [evFn_rest (by kernel_rfl) (by kernel_rfl), evRest_stage (Erf0a 0) Try.f67 0 4, exrfA]
  have ez : ((P.length : Int) - 0).toNat = P.length := by omega
  rw [ez]
  refine And.intro ⟨hg, by decide, by omega⟩ ?_
  unfold rfX at h
  rw [resF_nil, decide_eq_false (by simp), cond_false] at h
  rw [hem, cond_false]
  show evRest (Erf0a 0) Try.f67 (0 + 4) _ K
  rw [evRest_stage (Erf0a 0) Try.f67 (0 + 4) 6]
  exact rfC0a_ok hg g rfl rfl h
theorem rfC0b_ok {D P : List (List Int)} {Q : List Int} {a0 a2 a3 a5 a19 a20 a21 a22 a23 a24 a25 a26 a27 a28 a29 a30 a31 a32 a33 a34 : AV} {K : AV → List Blk → Prop} {B : St → Prop} (hg : okG D P [] Q) (g : Gro D P [] Q) (hB : B = fun s => evRest (Erf0b 0) Try.f67 10 s K)
    (h : bif (keptJ Q 0 P.length).all (parOk D P) then K (.tup [.one (.own 0 8), .one (.int .i64 0)]) [.row 35 (.mat .i64 8 D)] else K (.tup [.one .nil, .one (.int .i64 13)]) []) (he : (keptJ Q 0 P.length).isEmpty = true) :
    evStage (Erf0b 0) Try.f67 4 6 { t := ([a0, AV.one (SV.ptr 0 1 0 0), a2, a3, AV.one SV.nil, a5, AV.any, AV.any, AV.any, AV.any, AV.any, AV.any, AV.any, AV.any, AV.any, AV.any, AV.any, AV.any, AV.any, a19, a20, a21, a22, a23, a24, a25, a26, a27, a28, a29, a30, a31, a32, a33, a34] ++ List.replicate 158 .any), σ := [.cells [.data (.mat .i64 8 D), .data (.mat .i64 8 P), .data (.ints .i64 []), .data (.ints .i64 Q)]] } K B := by
  rw [exrfC0b]
  rw [List.isEmpty_iff.1 he] at h
  have hp0 := g.p0
  have hp1 := g.p1
  have hd0 := g.d0
  have hd1 := g.d1
  have hok := all_rows (O := D) (L := []) ⟨rfl, fun _ _ => rfl⟩ g.kb rfl
  rw [decide_eq_true (by omega), cond_true]
  subst hB
  have h2 : K (.tup [.one (.own 0 8), .one (.int .i64 0)]) [.row 35 (.mat .i64 8 D)] := h
  clear h
  exact rfD0b_ok hd1 hg.2.2.2.2.1 hok hp0 hp1 h2
theorem okrf0b : SpecOK Try.prog 67 rfS0b := by
  refine specOKc (n := 193) (m := 0) (lps := lrf (.unroll 9) (.unroll 1) (.unroll 1) (.unroll 1)) [] [47] (allrf okrsz) Try.func67 (by kernel_rfl) (by kernel_rfl) (theLoops (n := 8) (by kernel_rfl) fun i hi => ?_) fun args σ K h => ?_
  · match i, hi with
    | 0, _ => exact loopHyp_frm (E' := Erf0b 1) (key := 3) (m := 1) (by kernel_rfl) rfl rfl (lokrf_0 okrsz)
    | 1, _ => exact loopHyp_none (key := 12) (n := 9) (by kernel_rfl) rfl
    | 2, _ => exact loopHyp_none (key := 16) (n := 1) (by kernel_rfl) rfl
    | 3, _ => exact loopHyp_frm (E' := Erf0b 3) (key := 21) (m := 3) (by kernel_rfl) rfl rfl (lokrf_3 okrsz)
    | 4, _ => exact loopHyp_frm (E' := Erf0b 3) (key := 26) (m := 3) (by kernel_rfl) rfl rfl (lokrf_4 okrsz)
    | 5, _ => exact loopHyp_none (key := 32) (n := 1) (by kernel_rfl) rfl
    | 6, _ => exact loopHyp_frm (E' := Erf0b 2) (key := 36) (m := 2) (by kernel_rfl) rfl rfl (lokrf_6 okrsz)
    | 7, _ => exact loopHyp_none (key := 42) (n := 1) (by kernel_rfl) rfl
  unfold rfS0b at h
  split at h
  rotate_right
  · exact h.elim
  rename_i D P Q
  obtain ⟨⟨hg, he, hem⟩, h⟩ := h
  have g := gro0 he
  show evFn (Erf0b 0) Try.f67 _ [] K
  rw [evFn_rest (by kernel_rfl) (by kernel_rfl), evRest_stage (Erf0b 0) Try.f67 0 4, exrfA]
  have ez : ((P.length : Int) - 0).toNat = P.length := by omega
  rw [ez]
  refine And.intro ⟨hg, by decide, by omega⟩ ?_
  unfold rfX at h
  rw [resF_nil, decide_eq_false (by simp), cond_false] at h
  rw [hem, cond_true]
  show evRest (Erf0b 0) Try.f67 (0 + 4) _ K
  rw [evRest_stage (Erf0b 0) Try.f67 (0 + 4) 6]
  exact rfC0b_ok hg g rfl h hem
def rfS : Spec := fun args σ K => match args, σ with
  | [.agg [.data (.mat .i64 8 D), .data (.mat .i64 8 P), .data (.ints .i64 L), .data (.ints .i64 Q)]], [] => (okG D P L Q ∧ groE D P L Q = 0) ∧ rfX D P L Q K
  | _, _ => False
def rfT12 : Spec := fun args σ K => rfT1 args σ K ∨ rfT2 args σ K
def rfT34 : Spec := fun args σ K => rfT3 args σ K ∨ rfT4 args σ K
def rfT00 : Spec := fun args σ K => rfS0a args σ K ∨ rfS0b args σ K
def rfT14 : Spec := fun args σ K => rfT12 args σ K ∨ rfT34 args σ K
theorem okrf : SpecOK Try.prog 67 rfS := by
  have h12 : SpecOK Try.prog 67 rfT12 := SpecOK.mk2 okrf1 okrf2 fun _ _ _ h => h
  have h34 : SpecOK Try.prog 67 rfT34 := SpecOK.mk2 okrf3 okrf4 fun _ _ _ h => h
  have h00 : SpecOK Try.prog 67 rfT00 := SpecOK.mk2 okrf0a okrf0b fun _ _ _ h => h
  have h14 : SpecOK Try.prog 67 rfT14 := SpecOK.mk2 h12 h34 fun _ _ _ h => h
  refine SpecOK.mk2 h00 h14 fun args σ K h => ?_
  unfold rfS at h
  split at h
  rotate_right
  · exact h.elim
  · rename_i D P L Q
    obtain ⟨⟨hg, he⟩, h⟩ := h
    cases L with
    | nil =>
      refine .inl ?_
      cases hem : (keptJ Q 0 P.length).isEmpty with
      | false => exact .inl ⟨⟨hg, he, hem⟩, h⟩
      | true => exact .inr ⟨⟨hg, he, hem⟩, h⟩
    | cons i L =>
      refine .inr ?_
      have hc : (i :: L).length = 1 ∨ (i :: L).length = 2 ∨ (i :: L).length = 3 ∨ 4 ≤ (i :: L).length := by rw [List.length_cons]; omega
      rcases hc with hc | hc | hc | hc
      · exact .inl (.inl ⟨⟨hg, hc, he⟩, h⟩)
      · exact .inl (.inr ⟨⟨hg, hc, he⟩, h⟩)
      · exact .inr (.inl ⟨⟨hg, hc, he⟩, h⟩)
      · exact .inr (.inr ⟨⟨hg, hc, he⟩, h⟩)
end Go.Ev
