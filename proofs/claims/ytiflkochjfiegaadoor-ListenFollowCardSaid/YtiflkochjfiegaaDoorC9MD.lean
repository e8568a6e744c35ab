/-
  Chapter 9, contracts: the law of notes that follow.
-/
import Derived.Test.YtiflkochjfiegaaDoorC9MC
import Derived.KernelRfl
import Derived.Test.YtiflkochjfiegaaDoorC9MB
set_option linter.unusedVariables false
set_option linter.unusedSimpArgs false
set_option linter.unusedSectionVars false
namespace Go.Ev
open Go Go.Proofs
set_option maxRecDepth 20000

def ahead (xa : Int) (d : List D) : Bool := decide (toI d 0 + toI d 1 ≤ xa) && decide (toI d 0 < xa)
def idxN (d : List D) : Int → List (List D) → Int
  | k, [] => k
  | k, e :: l => bif eqN e d then k else idxN d (k + 1) l
def folB (xa : Int) (y : List (List D)) : Int → List (List D) → Bool
  | _, [] => true
  | k, d :: l => bif ahead xa d then (decide (idxN d k (y.drop k.toNat) < y.length) && folB xa y (idxN d k (y.drop k.toNat) + 1) l) else folB xa y k l
def fwI : LSpec := fun vs σ k => match vs, σ with
  | [.one (.data (.recs [.int .i64, .int .i64, .str] p)), .one (.ptr 0 1 0 0), .one (.ptr 1 1 0 0), .one (.data (.recs [.int .i64, .int .i64, .str] y)), .one (.int .i64 n), .one (.int .i64 i)], [.cells [.bool ab, .int .i64 aa, .int .i64 al], .cells [.bool bb, .int .i64 ba, .int .i64 bl]] =>
    (y.length ≤ 1000 ∧ 0 ≤ n ∧ n ≤ y.length ∧ 0 ≤ i ∧ i < p.length) ∧
    k (.exit 2) [.one (.data (.recs [.int .i64, .int .i64, .str] p)), .one (.ptr 0 1 0 0), .one (.ptr 1 1 0 0), .one (.data (.recs [.int .i64, .int .i64, .str] y)), .one (.int .i64 (idxN (p.getD i.toNat []) n (y.drop n.toNat))), .one (.int .i64 i)] [.cells [.bool ab, .int .i64 aa, .int .i64 al], .cells [.bool bb, .int .i64 ba, .int .i64 bl]]
  | _, _ => False
def fwO : LSpec := fun vs σ k => match vs, σ with
  | [.one (.data (.recs [.int .i64, .int .i64, .str] p)), .one (.ptr 0 1 0 0), .one (.ptr 1 1 0 0), .one (.data (.recs [.int .i64, .int .i64, .str] y)), .one (.int .i64 n), .one (.int .i64 i)], [.cells [.bool ab, .int .i64 aa, .int .i64 al], .cells [.bool bb, .int .i64 ba, .int .i64 bl]] =>
    (p.length ≤ 1000 ∧ y.length ≤ 1000 ∧ p.all (okN1 1000000) = true ∧ 0 ≤ n ∧ n ≤ y.length ∧ 0 ≤ i ∧ i ≤ p.length ∧ folB aa y n (p.drop i.toNat) = true) ∧
    k (.exit 0) [.one (.data (.recs [.int .i64, .int .i64, .str] p)), .one (.ptr 0 1 0 0), .one (.ptr 1 1 0 0), .any] [.cells [.bool ab, .int .i64 aa, .int .i64 al], .cells [.bool bb, .int .i64 ba, .int .i64 bl]]
  | _, _ => False
def lawFolS : Spec := fun args σ K => match args, σ with
  | [.one (.data (.recs [.int .i64, .int .i64, .str] p)), .agg [.bool ab, .int .i64 aa, .int .i64 al], .agg [.bool bb, .int .i64 ba, .int .i64 bl]], [] => p.all wfN = true ∧ K (.one (.bool true)) []
  | _, _ => False
noncomputable abbrev Efol : Env := envOf Tryd.prog [(19, awakeS), (83, nrS), (81, cpnDS), (80, mvDS), (84, snS)] [(14, .spec [0, 4, 5, 11, 13, 14] [0, 4, 5, 6] fwO), (17, .spec [0, 4, 5, 11, 13, 14] [0, 4, 5, 11, 13, 14] fwI)] 187 0 [80]
end Go.Ev

namespace Go.Ev
open Go Go.Proofs
set_option maxRecDepth 100000
theorem exfol (p : List (List D)) (ab : Bool) (aa al : Int) (bb : Bool) (ba bl : Int) (K : AV → List Blk → Prop) : evFn Efol Tryd.f14 [.one (.data (.recs [.int .i64, .int .i64, .str] p)), .agg [.bool ab, .int .i64 aa, .int .i64 al], .agg [.bool bb, .int .i64 ba, .int .i64 bl]] [] K = (
 bif decide ((↑p.length : Int) > (20 : Int)) then K (AV.one (SV.bool true)) []
 else
 bif nrE p [[D.bool ab, D.int aa, D.int al], [D.bool bb, D.int ba, D.int bl]] != (0 : Int) then
 K (AV.one (SV.bool true)) []
 else
 ((p.length ≤ (1000000000 : Nat) ∧
 (p.all wfN = true ∧
 [[D.bool true, D.int aa, D.int al], [D.bool false, D.int aa, D.int al]].all wfE = true ∧
 [[D.bool true, D.int aa, D.int al], [D.bool false, D.int aa, D.int al]].length ≤ (1000000000 : Nat)) ∧
 bif mvE p [[D.bool true, D.int aa, D.int al], [D.bool false, D.int aa, D.int al]] != (0 : Int) then
 K (AV.one (SV.bool false)) []
 else
 (mvR p [[D.bool true, D.int aa, D.int al], [D.bool false, D.int aa, D.int al]]).length ≤
 (1000000000 : Nat) ∧
 bif !sameG (mvR p [[D.bool true, D.int aa, D.int al], [D.bool false, D.int aa, D.int al]]) p then
 K (AV.one (SV.bool false)) []
 else
 (p.length ≤ (1000000000 : Nat) ∧
 (p.all wfN = true ∧
 [[D.bool false, D.int aa, D.int al]].all wfE = true ∧
 [[D.bool false, D.int aa, D.int al]].length ≤ (1000000000 : Nat)) ∧
 bif mvE p [[D.bool false, D.int aa, D.int al]] != (0 : Int) then K (AV.one (SV.bool false)) []
 else
 bif
 decide
 ((↑(mvR p [[D.bool false, D.int aa, D.int al]]).length : Int) > (↑p.length : Int)) then
 K (AV.one (SV.bool false)) []
 else
 (p.length ≤ (1000 : Nat) ∧
 (mvR p [[D.bool false, D.int aa, D.int al]]).length ≤ (1000 : Nat) ∧
 p.all (okN1 (1000000 : Int)) = true ∧
 (0 : Int) ≤ (0 : Int) ∧
 (0 : Int) ≤ (↑(mvR p [[D.bool false, D.int aa, D.int al]]).length : Int) ∧
 (0 : Int) ≤ (0 : Int) ∧
 (0 : Int) ≤ (↑p.length : Int) ∧
 folB aa (mvR p [[D.bool false, D.int aa, D.int al]]) (0 : Int) p = true) ∧
 (p.length ≤ (1000000000 : Nat) ∧
 (p.all wfN = true ∧
 [[D.bool ab, D.int aa, D.int al], [D.bool bb, D.int ba, D.int bl]].all wfE =
 true ∧
 [[D.bool ab, D.int aa, D.int al], [D.bool bb, D.int ba, D.int bl]].length ≤
 (1000000000 : Nat)) ∧
 (p.length ≤ (1000000000 : Nat) ∧
 (p.all wfN = true ∧
 [[D.bool ab, D.int aa, D.int al]].all wfE = true ∧
 [[D.bool ab, D.int aa, D.int al]].length ≤ (1000000000 : Nat)) ∧
 bif
 mvE p
 [[D.bool ab, D.int aa, D.int al], [D.bool bb, D.int ba, D.int bl]] !=
 (0 : Int) then
 K (AV.one (SV.bool false)) []
 else
 bif mvE p [[D.bool ab, D.int aa, D.int al]] != (0 : Int) then
 K (AV.one (SV.bool false)) []
 else
 bif
 decide
 ((↑(mvR p [[D.bool ab, D.int aa, D.int al]]).length : Int) >
 (↑p.length : Int)) then
 K (AV.one (SV.bool false)) []
 else
 bif
 decide
 ((↑(mvR p
 [[D.bool ab, D.int aa, D.int al],
 [D.bool bb, D.int ba, D.int bl]]).length :
 Int) >
 (↑(mvR p [[D.bool ab, D.int aa, D.int al]]).length : Int)) then
 K (AV.one (SV.bool false)) []
 else
 bif
 nrE (mvR p [[D.bool ab, D.int aa, D.int al]])
 [[D.bool bb, D.int ba, D.int bl]] !=
 (0 : Int) then
 K (AV.one (SV.bool true)) []
 else
 ((mvR p [[D.bool ab, D.int aa, D.int al]]).all wfN = true ∧
 [[D.bool bb, D.int ba, D.int bl]].all wfE = true ∧
 [[D.bool bb, D.int ba, D.int bl]].length ≤
 (1000000000 : Nat)) ∧
 bif
 mvE (mvR p [[D.bool ab, D.int aa, D.int al]])
 [[D.bool bb, D.int ba, D.int bl]] ==
 (0 : Int) then
 (mvR (mvR p [[D.bool ab, D.int aa, D.int al]])
 [[D.bool bb, D.int ba, D.int bl]]).length ≤
 (1000000000 : Nat) ∧
 K
 (AV.one
 (SV.bool
 (sameG
 (mvR (mvR p [[D.bool ab, D.int aa, D.int al]])
 [[D.bool bb, D.int ba, D.int bl]])
 (mvR p
 [[D.bool ab, D.int aa, D.int al],
 [D.bool bb, D.int ba, D.int bl]]))))
 []
 else K (AV.one (SV.bool false)) []) ∧
 p.length ≤ (1000000000 : Nat) ∧
 (p.all wfN = true ∧
 [[D.bool ab, D.int aa, D.int al]].all wfE = true ∧
 [[D.bool ab, D.int aa, D.int al]].length ≤ (1000000000 : Nat)) ∧
 bif
 mvE p
 [[D.bool ab, D.int aa, D.int al], [D.bool bb, D.int ba, D.int bl]] !=
 (0 : Int) then
 K (AV.one (SV.bool false)) []
 else
 bif mvE p [[D.bool ab, D.int aa, D.int al]] != (0 : Int) then
 K (AV.one (SV.bool false)) []
 else
 bif
 decide
 ((↑(mvR p [[D.bool ab, D.int aa, D.int al]]).length : Int) >
 (↑p.length : Int)) then
 K (AV.one (SV.bool false)) []
 else
 bif
 decide
 ((↑(mvR p
 [[D.bool ab, D.int aa, D.int al],
 [D.bool bb, D.int ba, D.int bl]]).length :
 Int) >
 (↑(mvR p [[D.bool ab, D.int aa, D.int al]]).length : Int)) then
 K (AV.one (SV.bool false)) []
 else
 bif
 nrE (mvR p [[D.bool ab, D.int aa, D.int al]])
 [[D.bool bb, D.int ba, D.int bl]] !=
 (0 : Int) then
 K (AV.one (SV.bool true)) []
 else
 ((mvR p [[D.bool ab, D.int aa, D.int al]]).all wfN = true ∧
 [[D.bool bb, D.int ba, D.int bl]].all wfE = true ∧
 [[D.bool bb, D.int ba, D.int bl]].length ≤
 (1000000000 : Nat)) ∧
 bif
 mvE (mvR p [[D.bool ab, D.int aa, D.int al]])
 [[D.bool bb, D.int ba, D.int bl]] ==
 (0 : Int) then
 (mvR (mvR p [[D.bool ab, D.int aa, D.int al]])
 [[D.bool bb, D.int ba, D.int bl]]).length ≤
 (1000000000 : Nat) ∧
 K
 (AV.one
 (SV.bool
 (sameG
 (mvR (mvR p [[D.bool ab, D.int aa, D.int al]])
 [[D.bool bb, D.int ba, D.int bl]])
 (mvR p
 [[D.bool ab, D.int aa, D.int al],
 [D.bool bb, D.int ba, D.int bl]]))))
 []
 else K (AV.one (SV.bool false)) []) ∧
 p.length ≤ (1000000000 : Nat) ∧
 (p.all wfN = true ∧
 [[D.bool ab, D.int aa, D.int al], [D.bool bb, D.int ba, D.int bl]].all wfE =
 true ∧
 [[D.bool ab, D.int aa, D.int al], [D.bool bb, D.int ba, D.int bl]].length ≤
 (1000000000 : Nat)) ∧
 (p.length ≤ (1000000000 : Nat) ∧
 (p.all wfN = true ∧
 [[D.bool ab, D.int aa, D.int al]].all wfE = true ∧
 [[D.bool ab, D.int aa, D.int al]].length ≤ (1000000000 : Nat)) ∧
 bif
 mvE p
 [[D.bool ab, D.int aa, D.int al], [D.bool bb, D.int ba, D.int bl]] !=
 (0 : Int) then
 K (AV.one (SV.bool false)) []
 else
 bif mvE p [[D.bool ab, D.int aa, D.int al]] != (0 : Int) then
 K (AV.one (SV.bool false)) []
 else
 bif
 decide
 ((↑(mvR p [[D.bool ab, D.int aa, D.int al]]).length : Int) >
 (↑p.length : Int)) then
 K (AV.one (SV.bool false)) []
 else
 bif
 decide
 ((↑(mvR p
 [[D.bool ab, D.int aa, D.int al],
 [D.bool bb, D.int ba, D.int bl]]).length :
 Int) >
 (↑(mvR p [[D.bool ab, D.int aa, D.int al]]).length : Int)) then
 K (AV.one (SV.bool false)) []
 else
 bif
 nrE (mvR p [[D.bool ab, D.int aa, D.int al]])
 [[D.bool bb, D.int ba, D.int bl]] !=
 (0 : Int) then
 K (AV.one (SV.bool true)) []
 else
 ((mvR p [[D.bool ab, D.int aa, D.int al]]).all wfN = true ∧
 [[D.bool bb, D.int ba, D.int bl]].all wfE = true ∧
 [[D.bool bb, D.int ba, D.int bl]].length ≤
 (1000000000 : Nat)) ∧
 bif
 mvE (mvR p [[D.bool ab, D.int aa, D.int al]])
 [[D.bool bb, D.int ba, D.int bl]] ==
 (0 : Int) then
 (mvR (mvR p [[D.bool ab, D.int aa, D.int al]])
 [[D.bool bb, D.int ba, D.int bl]]).length ≤
 (1000000000 : Nat) ∧
 K
 (AV.one
 (SV.bool
 (sameG
 (mvR (mvR p [[D.bool ab, D.int aa, D.int al]])
 [[D.bool bb, D.int ba, D.int bl]])
 (mvR p
 [[D.bool ab, D.int aa, D.int al],
 [D.bool bb, D.int ba, D.int bl]]))))
 []
 else K (AV.one (SV.bool false)) []) ∧
 p.length ≤ (1000000000 : Nat) ∧
 (p.all wfN = true ∧
 [[D.bool ab, D.int aa, D.int al]].all wfE = true ∧
 [[D.bool ab, D.int aa, D.int al]].length ≤ (1000000000 : Nat)) ∧
 bif
 mvE p
 [[D.bool ab, D.int aa, D.int al], [D.bool bb, D.int ba, D.int bl]] !=
 (0 : Int) then
 K (AV.one (SV.bool false)) []
 else
 bif mvE p [[D.bool ab, D.int aa, D.int al]] != (0 : Int) then
 K (AV.one (SV.bool false)) []
 else
 bif
 decide
 ((↑(mvR p [[D.bool ab, D.int aa, D.int al]]).length : Int) >
 (↑p.length : Int)) then
 K (AV.one (SV.bool false)) []
 else
 bif
 decide
 ((↑(mvR p
 [[D.bool ab, D.int aa, D.int al],
 [D.bool bb, D.int ba, D.int bl]]).length :
 Int) >
 (↑(mvR p [[D.bool ab, D.int aa, D.int al]]).length : Int)) then
 K (AV.one (SV.bool false)) []
 else
 bif
 nrE (mvR p [[D.bool ab, D.int aa, D.int al]])
 [[D.bool bb, D.int ba, D.int bl]] !=
 (0 : Int) then
 K (AV.one (SV.bool true)) []
 else
 ((mvR p [[D.bool ab, D.int aa, D.int al]]).all wfN = true ∧
 [[D.bool bb, D.int ba, D.int bl]].all wfE = true ∧
 [[D.bool bb, D.int ba, D.int bl]].length ≤
 (1000000000 : Nat)) ∧
 bif
 mvE (mvR p [[D.bool ab, D.int aa, D.int al]])
 [[D.bool bb, D.int ba, D.int bl]] ==
 (0 : Int) then
 (mvR (mvR p [[D.bool ab, D.int aa, D.int al]])
 [[D.bool bb, D.int ba, D.int bl]]).length ≤
 (1000000000 : Nat) ∧
 K
 (AV.one
 (SV.bool
 (sameG
 (mvR (mvR p [[D.bool ab, D.int aa, D.int al]])
 [[D.bool bb, D.int ba, D.int bl]])
 (mvR p
 [[D.bool ab, D.int aa, D.int al],
 [D.bool bb, D.int ba, D.int bl]]))))
 []
 else K (AV.one (SV.bool false)) []) ∧
 p.length ≤ (1000000000 : Nat) ∧
 (p.all wfN = true ∧
 [[D.bool false, D.int aa, D.int al]].all wfE = true ∧
 [[D.bool false, D.int aa, D.int al]].length ≤ (1000000000 : Nat)) ∧
 bif mvE p [[D.bool false, D.int aa, D.int al]] != (0 : Int) then K (AV.one (SV.bool false)) []
 else
 bif
 decide
 ((↑(mvR p [[D.bool false, D.int aa, D.int al]]).length : Int) > (↑p.length : Int)) then
 K (AV.one (SV.bool false)) []
 else
 (p.length ≤ (1000 : Nat) ∧
 (mvR p [[D.bool false, D.int aa, D.int al]]).length ≤ (1000 : Nat) ∧
 p.all (okN1 (1000000 : Int)) = true ∧
 (0 : Int) ≤ (0 : Int) ∧
 (0 : Int) ≤ (↑(mvR p [[D.bool false, D.int aa, D.int al]]).length : Int) ∧
 (0 : Int) ≤ (0 : Int) ∧
 (0 : Int) ≤ (↑p.length : Int) ∧
 folB aa (mvR p [[D.bool false, D.int aa, D.int al]]) (0 : Int) p = true) ∧
 (p.length ≤ (1000000000 : Nat) ∧
 (p.all wfN = true ∧
 [[D.bool ab, D.int aa, D.int al], [D.bool bb, D.int ba, D.int bl]].all wfE =
 true ∧
 [[D.bool ab, D.int aa, D.int al], [D.bool bb, D.int ba, D.int bl]].length ≤
 (1000000000 : Nat)) ∧
 (p.length ≤ (1000000000 : Nat) ∧
 (p.all wfN = true ∧
 [[D.bool ab, D.int aa, D.int al]].all wfE = true ∧
 [[D.bool ab, D.int aa, D.int al]].length ≤ (1000000000 : Nat)) ∧
 bif
 mvE p
 [[D.bool ab, D.int aa, D.int al], [D.bool bb, D.int ba, D.int bl]] !=
 (0 : Int) then
 K (AV.one (SV.bool false)) []
 else
 bif mvE p [[D.bool ab, D.int aa, D.int al]] != (0 : Int) then
 K (AV.one (SV.bool false)) []
 else
 bif
 decide
 ((↑(mvR p [[D.bool ab, D.int aa, D.int al]]).length : Int) >
 (↑p.length : Int)) then
 K (AV.one (SV.bool false)) []
 else
 bif
 decide
 ((↑(mvR p
 [[D.bool ab, D.int aa, D.int al],
 [D.bool bb, D.int ba, D.int bl]]).length :
 Int) >
 (↑(mvR p [[D.bool ab, D.int aa, D.int al]]).length : Int)) then
 K (AV.one (SV.bool false)) []
 else
 bif
 nrE (mvR p [[D.bool ab, D.int aa, D.int al]])
 [[D.bool bb, D.int ba, D.int bl]] !=
 (0 : Int) then
 K (AV.one (SV.bool true)) []
 else
 ((mvR p [[D.bool ab, D.int aa, D.int al]]).all wfN = true ∧
 [[D.bool bb, D.int ba, D.int bl]].all wfE = true ∧
 [[D.bool bb, D.int ba, D.int bl]].length ≤
 (1000000000 : Nat)) ∧
 bif
 mvE (mvR p [[D.bool ab, D.int aa, D.int al]])
 [[D.bool bb, D.int ba, D.int bl]] ==
 (0 : Int) then
 (mvR (mvR p [[D.bool ab, D.int aa, D.int al]])
 [[D.bool bb, D.int ba, D.int bl]]).length ≤
 (1000000000 : Nat) ∧
 K
 (AV.one
 (SV.bool
 (sameG
 (mvR (mvR p [[D.bool ab, D.int aa, D.int al]])
 [[D.bool bb, D.int ba, D.int bl]])
 (mvR p
 [[D.bool ab, D.int aa, D.int al],
 [D.bool bb, D.int ba, D.int bl]]))))
 []
 else K (AV.one (SV.bool false)) []) ∧
 p.length ≤ (1000000000 : Nat) ∧
 (p.all wfN = true ∧
 [[D.bool ab, D.int aa, D.int al]].all wfE = true ∧
 [[D.bool ab, D.int aa, D.int al]].length ≤ (1000000000 : Nat)) ∧
 bif
 mvE p
 [[D.bool ab, D.int aa, D.int al], [D.bool bb, D.int ba, D.int bl]] !=
 (0 : Int) then
 K (AV.one (SV.bool false)) []
 else
 bif mvE p [[D.bool ab, D.int aa, D.int al]] != (0 : Int) then
 K (AV.one (SV.bool false)) []
 else
 bif
 decide
 ((↑(mvR p [[D.bool ab, D.int aa, D.int al]]).length : Int) >
 (↑p.length : Int)) then
 K (AV.one (SV.bool false)) []
 else
 bif
 decide
 ((↑(mvR p
 [[D.bool ab, D.int aa, D.int al],
 [D.bool bb, D.int ba, D.int bl]]).length :
 Int) >
 (↑(mvR p [[D.bool ab, D.int aa, D.int al]]).length : Int)) then
 K (AV.one (SV.bool false)) []
 else
 bif
 nrE (mvR p [[D.bool ab, D.int aa, D.int al]])
 [[D.bool bb, D.int ba, D.int bl]] !=
 (0 : Int) then
 K (AV.one (SV.bool true)) []
 else
 ((mvR p [[D.bool ab, D.int aa, D.int al]]).all wfN = true ∧
 [[D.bool bb, D.int ba, D.int bl]].all wfE = true ∧
 [[D.bool bb, D.int ba, D.int bl]].length ≤
 (1000000000 : Nat)) ∧
 bif
 mvE (mvR p [[D.bool ab, D.int aa, D.int al]])
 [[D.bool bb, D.int ba, D.int bl]] ==
 (0 : Int) then
 (mvR (mvR p [[D.bool ab, D.int aa, D.int al]])
 [[D.bool bb, D.int ba, D.int bl]]).length ≤
 (1000000000 : Nat) ∧
 K
 (AV.one
 (SV.bool
 (sameG
 (mvR (mvR p [[D.bool ab, D.int aa, D.int al]])
 [[D.bool bb, D.int ba, D.int bl]])
 (mvR p
 [[D.bool ab, D.int aa, D.int al],
 [D.bool bb, D.int ba, D.int bl]]))))
 []
 else K (AV.one (SV.bool false)) []) ∧
 p.length ≤ (1000000000 : Nat) ∧
 (p.all wfN = true ∧
 [[D.bool ab, D.int aa, D.int al], [D.bool bb, D.int ba, D.int bl]].all wfE =
 true ∧
 [[D.bool ab, D.int aa, D.int al], [D.bool bb, D.int ba, D.int bl]].length ≤
 (1000000000 : Nat)) ∧
 (p.length ≤ (1000000000 : Nat) ∧
 (p.all wfN = true ∧
 [[D.bool ab, D.int aa, D.int al]].all wfE = true ∧
 [[D.bool ab, D.int aa, D.int al]].length ≤ (1000000000 : Nat)) ∧
 bif
 mvE p
 [[D.bool ab, D.int aa, D.int al], [D.bool bb, D.int ba, D.int bl]] !=
 (0 : Int) then
 K (AV.one (SV.bool false)) []
 else
 bif mvE p [[D.bool ab, D.int aa, D.int al]] != (0 : Int) then
 K (AV.one (SV.bool false)) []
 else
 bif
 decide
 ((↑(mvR p [[D.bool ab, D.int aa, D.int al]]).length : Int) >
 (↑p.length : Int)) then
 K (AV.one (SV.bool false)) []
 else
 bif
 decide
 ((↑(mvR p
 [[D.bool ab, D.int aa, D.int al],
 [D.bool bb, D.int ba, D.int bl]]).length :
 Int) >
 (↑(mvR p [[D.bool ab, D.int aa, D.int al]]).length : Int)) then
 K (AV.one (SV.bool false)) []
 else
 bif
 nrE (mvR p [[D.bool ab, D.int aa, D.int al]])
 [[D.bool bb, D.int ba, D.int bl]] !=
 (0 : Int) then
 K (AV.one (SV.bool true)) []
 else
 ((mvR p [[D.bool ab, D.int aa, D.int al]]).all wfN = true ∧
 [[D.bool bb, D.int ba, D.int bl]].all wfE = true ∧
 [[D.bool bb, D.int ba, D.int bl]].length ≤
 (1000000000 : Nat)) ∧
 bif
 mvE (mvR p [[D.bool ab, D.int aa, D.int al]])
 [[D.bool bb, D.int ba, D.int bl]] ==
 (0 : Int) then
 (mvR (mvR p [[D.bool ab, D.int aa, D.int al]])
 [[D.bool bb, D.int ba, D.int bl]]).length ≤
 (1000000000 : Nat) ∧
 K
 (AV.one
 (SV.bool
 (sameG
 (mvR (mvR p [[D.bool ab, D.int aa, D.int al]])
 [[D.bool bb, D.int ba, D.int bl]])
 (mvR p
 [[D.bool ab, D.int aa, D.int al],
 [D.bool bb, D.int ba, D.int bl]]))))
 []
 else K (AV.one (SV.bool false)) []) ∧
 p.length ≤ (1000000000 : Nat) ∧
 (p.all wfN = true ∧
 [[D.bool ab, D.int aa, D.int al]].all wfE = true ∧
 [[D.bool ab, D.int aa, D.int al]].length ≤ (1000000000 : Nat)) ∧
 bif
 mvE p
 [[D.bool ab, D.int aa, D.int al], [D.bool bb, D.int ba, D.int bl]] !=
 (0 : Int) then
 K (AV.one (SV.bool false)) []
 else
 bif mvE p [[D.bool ab, D.int aa, D.int al]] != (0 : Int) then
 K (AV.one (SV.bool false)) []
 else
 bif
 decide
 ((↑(mvR p [[D.bool ab, D.int aa, D.int al]]).length : Int) >
 (↑p.length : Int)) then
 K (AV.one (SV.bool false)) []
 else
 bif
 decide
 ((↑(mvR p
 [[D.bool ab, D.int aa, D.int al],
 [D.bool bb, D.int ba, D.int bl]]).length :
 Int) >
 (↑(mvR p [[D.bool ab, D.int aa, D.int al]]).length : Int)) then
 K (AV.one (SV.bool false)) []
 else
 bif
 nrE (mvR p [[D.bool ab, D.int aa, D.int al]])
 [[D.bool bb, D.int ba, D.int bl]] !=
 (0 : Int) then
 K (AV.one (SV.bool true)) []
 else
 ((mvR p [[D.bool ab, D.int aa, D.int al]]).all wfN = true ∧
 [[D.bool bb, D.int ba, D.int bl]].all wfE = true ∧
 [[D.bool bb, D.int ba, D.int bl]].length ≤
 (1000000000 : Nat)) ∧
 bif
 mvE (mvR p [[D.bool ab, D.int aa, D.int al]])
 [[D.bool bb, D.int ba, D.int bl]] ==
 (0 : Int) then
 (mvR (mvR p [[D.bool ab, D.int aa, D.int al]])
 [[D.bool bb, D.int ba, D.int bl]]).length ≤
 (1000000000 : Nat) ∧
 K
 (AV.one
 (SV.bool
 (sameG
 (mvR (mvR p [[D.bool ab, D.int aa, D.int al]])
 [[D.bool bb, D.int ba, D.int bl]])
 (mvR p
 [[D.bool ab, D.int aa, D.int al],
 [D.bool bb, D.int ba, D.int bl]]))))
 []
 else K (AV.one (SV.bool false)) []) ∧
 p.length ≤ (1000000000 : Nat) ∧
 (p.all wfN = true ∧
 [[D.bool true, D.int aa, D.int al], [D.bool false, D.int aa, D.int al]].all wfE = true ∧
 [[D.bool true, D.int aa, D.int al], [D.bool false, D.int aa, D.int al]].length ≤ (1000000000 : Nat)) ∧
 bif mvE p [[D.bool true, D.int aa, D.int al], [D.bool false, D.int aa, D.int al]] != (0 : Int) then
 K (AV.one (SV.bool false)) []
 else
 (mvR p [[D.bool true, D.int aa, D.int al], [D.bool false, D.int aa, D.int al]]).length ≤
 (1000000000 : Nat) ∧
 bif !sameG (mvR p [[D.bool true, D.int aa, D.int al], [D.bool false, D.int aa, D.int al]]) p then
 K (AV.one (SV.bool false)) []
 else
 (p.length ≤ (1000000000 : Nat) ∧
 (p.all wfN = true ∧
 [[D.bool false, D.int aa, D.int al]].all wfE = true ∧
 [[D.bool false, D.int aa, D.int al]].length ≤ (1000000000 : Nat)) ∧
 bif mvE p [[D.bool false, D.int aa, D.int al]] != (0 : Int) then K (AV.one (SV.bool false)) []
 else
 bif
 decide
 ((↑(mvR p [[D.bool false, D.int aa, D.int al]]).length : Int) > (↑p.length : Int)) then
 K (AV.one (SV.bool false)) []
 else
 (p.length ≤ (1000 : Nat) ∧
 (mvR p [[D.bool false, D.int aa, D.int al]]).length ≤ (1000 : Nat) ∧
 p.all (okN1 (1000000 : Int)) = true ∧
 (0 : Int) ≤ (0 : Int) ∧
 (0 : Int) ≤ (↑(mvR p [[D.bool false, D.int aa, D.int al]]).length : Int) ∧
 (0 : Int) ≤ (0 : Int) ∧
 (0 : Int) ≤ (↑p.length : Int) ∧
 folB aa (mvR p [[D.bool false, D.int aa, D.int al]]) (0 : Int) p = true) ∧
 (p.length ≤ (1000000000 : Nat) ∧
 (p.all wfN = true ∧
 [[D.bool ab, D.int aa, D.int al], [D.bool bb, D.int ba, D.int bl]].all wfE =
 true ∧
 [[D.bool ab, D.int aa, D.int al], [D.bool bb, D.int ba, D.int bl]].length ≤
 (1000000000 : Nat)) ∧
 (p.length ≤ (1000000000 : Nat) ∧
 (p.all wfN = true ∧
 [[D.bool ab, D.int aa, D.int al]].all wfE = true ∧
 [[D.bool ab, D.int aa, D.int al]].length ≤ (1000000000 : Nat)) ∧
 bif
 mvE p
 [[D.bool ab, D.int aa, D.int al], [D.bool bb, D.int ba, D.int bl]] !=
 (0 : Int) then
 K (AV.one (SV.bool false)) []
 else
 bif mvE p [[D.bool ab, D.int aa, D.int al]] != (0 : Int) then
 K (AV.one (SV.bool false)) []
 else
 bif
 decide
 ((↑(mvR p [[D.bool ab, D.int aa, D.int al]]).length : Int) >
 (↑p.length : Int)) then
 K (AV.one (SV.bool false)) []
 else
 bif
 decide
 ((↑(mvR p
 [[D.bool ab, D.int aa, D.int al],
 [D.bool bb, D.int ba, D.int bl]]).length :
 Int) >
 (↑(mvR p [[D.bool ab, D.int aa, D.int al]]).length : Int)) then
 K (AV.one (SV.bool false)) []
 else
 bif
 nrE (mvR p [[D.bool ab, D.int aa, D.int al]])
 [[D.bool bb, D.int ba, D.int bl]] !=
 (0 : Int) then
 K (AV.one (SV.bool true)) []
 else
 ((mvR p [[D.bool ab, D.int aa, D.int al]]).all wfN = true ∧
 [[D.bool bb, D.int ba, D.int bl]].all wfE = true ∧
 [[D.bool bb, D.int ba, D.int bl]].length ≤
 (1000000000 : Nat)) ∧
 bif
 mvE (mvR p [[D.bool ab, D.int aa, D.int al]])
 [[D.bool bb, D.int ba, D.int bl]] ==
 (0 : Int) then
 (mvR (mvR p [[D.bool ab, D.int aa, D.int al]])
 [[D.bool bb, D.int ba, D.int bl]]).length ≤
 (1000000000 : Nat) ∧
 K
 (AV.one
 (SV.bool
 (sameG
 (mvR (mvR p [[D.bool ab, D.int aa, D.int al]])
 [[D.bool bb, D.int ba, D.int bl]])
 (mvR p
 [[D.bool ab, D.int aa, D.int al],
 [D.bool bb, D.int ba, D.int bl]]))))
 []
 else K (AV.one (SV.bool false)) []) ∧
 p.length ≤ (1000000000 : Nat) ∧
 (p.all wfN = true ∧
 [[D.bool ab, D.int aa, D.int al]].all wfE = true ∧
 [[D.bool ab, D.int aa, D.int al]].length ≤ (1000000000 : Nat)) ∧
 bif
 mvE p
 [[D.bool ab, D.int aa, D.int al], [D.bool bb, D.int ba, D.int bl]] !=
 (0 : Int) then
 K (AV.one (SV.bool false)) []
 else
 bif mvE p [[D.bool ab, D.int aa, D.int al]] != (0 : Int) then
 K (AV.one (SV.bool false)) []
 else
 bif
 decide
 ((↑(mvR p [[D.bool ab, D.int aa, D.int al]]).length : Int) >
 (↑p.length : Int)) then
 K (AV.one (SV.bool false)) []
 else
 bif
 decide
 ((↑(mvR p
 [[D.bool ab, D.int aa, D.int al],
 [D.bool bb, D.int ba, D.int bl]]).length :
 Int) >
 (↑(mvR p [[D.bool ab, D.int aa, D.int al]]).length : Int)) then
 K (AV.one (SV.bool false)) []
 else
 bif
 nrE (mvR p [[D.bool ab, D.int aa, D.int al]])
 [[D.bool bb, D.int ba, D.int bl]] !=
 (0 : Int) then
 K (AV.one (SV.bool true)) []
 else
 ((mvR p [[D.bool ab, D.int aa, D.int al]]).all wfN = true ∧
 [[D.bool bb, D.int ba, D.int bl]].all wfE = true ∧
 [[D.bool bb, D.int ba, D.int bl]].length ≤
 (1000000000 : Nat)) ∧
 bif
 mvE (mvR p [[D.bool ab, D.int aa, D.int al]])
 [[D.bool bb, D.int ba, D.int bl]] ==
 (0 : Int) then
 (mvR (mvR p [[D.bool ab, D.int aa, D.int al]])
 [[D.bool bb, D.int ba, D.int bl]]).length ≤
 (1000000000 : Nat) ∧
 K
 (AV.one
 (SV.bool
 (sameG
 (mvR (mvR p [[D.bool ab, D.int aa, D.int al]])
 [[D.bool bb, D.int ba, D.int bl]])
 (mvR p
 [[D.bool ab, D.int aa, D.int al],
 [D.bool bb, D.int ba, D.int bl]]))))
 []
 else K (AV.one (SV.bool false)) []) ∧
 p.length ≤ (1000000000 : Nat) ∧
 (p.all wfN = true ∧
 [[D.bool ab, D.int aa, D.int al], [D.bool bb, D.int ba, D.int bl]].all wfE =
 true ∧
 [[D.bool ab, D.int aa, D.int al], [D.bool bb, D.int ba, D.int bl]].length ≤
 (1000000000 : Nat)) ∧
 (p.length ≤ (1000000000 : Nat) ∧
 (p.all wfN = true ∧
 [[D.bool ab, D.int aa, D.int al]].all wfE = true ∧
 [[D.bool ab, D.int aa, D.int al]].length ≤ (1000000000 : Nat)) ∧
 bif
 mvE p
 [[D.bool ab, D.int aa, D.int al], [D.bool bb, D.int ba, D.int bl]] !=
 (0 : Int) then
 K (AV.one (SV.bool false)) []
 else
 bif mvE p [[D.bool ab, D.int aa, D.int al]] != (0 : Int) then
 K (AV.one (SV.bool false)) []
 else
 bif
 decide
 ((↑(mvR p [[D.bool ab, D.int aa, D.int al]]).length : Int) >
 (↑p.length : Int)) then
 K (AV.one (SV.bool false)) []
 else
 bif
 decide
 ((↑(mvR p
 [[D.bool ab, D.int aa, D.int al],
 [D.bool bb, D.int ba, D.int bl]]).length :
 Int) >
 (↑(mvR p [[D.bool ab, D.int aa, D.int al]]).length : Int)) then
 K (AV.one (SV.bool false)) []
 else
 bif
 nrE (mvR p [[D.bool ab, D.int aa, D.int al]])
 [[D.bool bb, D.int ba, D.int bl]] !=
 (0 : Int) then
 K (AV.one (SV.bool true)) []
 else
 ((mvR p [[D.bool ab, D.int aa, D.int al]]).all wfN = true ∧
 [[D.bool bb, D.int ba, D.int bl]].all wfE = true ∧
 [[D.bool bb, D.int ba, D.int bl]].length ≤
 (1000000000 : Nat)) ∧
 bif
 mvE (mvR p [[D.bool ab, D.int aa, D.int al]])
 [[D.bool bb, D.int ba, D.int bl]] ==
 (0 : Int) then
 (mvR (mvR p [[D.bool ab, D.int aa, D.int al]])
 [[D.bool bb, D.int ba, D.int bl]]).length ≤
 (1000000000 : Nat) ∧
 K
 (AV.one
 (SV.bool
 (sameG
 (mvR (mvR p [[D.bool ab, D.int aa, D.int al]])
 [[D.bool bb, D.int ba, D.int bl]])
 (mvR p
 [[D.bool ab, D.int aa, D.int al],
 [D.bool bb, D.int ba, D.int bl]]))))
 []
 else K (AV.one (SV.bool false)) []) ∧
 p.length ≤ (1000000000 : Nat) ∧
 (p.all wfN = true ∧
 [[D.bool ab, D.int aa, D.int al]].all wfE = true ∧
 [[D.bool ab, D.int aa, D.int al]].length ≤ (1000000000 : Nat)) ∧
 bif
 mvE p
 [[D.bool ab, D.int aa, D.int al], [D.bool bb, D.int ba, D.int bl]] !=
 (0 : Int) then
 K (AV.one (SV.bool false)) []
 else
 bif mvE p [[D.bool ab, D.int aa, D.int al]] != (0 : Int) then
 K (AV.one (SV.bool false)) []
 else
 bif
 decide
 ((↑(mvR p [[D.bool ab, D.int aa, D.int al]]).length : Int) >
 (↑p.length : Int)) then
 K (AV.one (SV.bool false)) []
 else
 bif
 decide
 ((↑(mvR p
 [[D.bool ab, D.int aa, D.int al],
 [D.bool bb, D.int ba, D.int bl]]).length :
 Int) >
 (↑(mvR p [[D.bool ab, D.int aa, D.int al]]).length : Int)) then
 K (AV.one (SV.bool false)) []
 else
 bif
 nrE (mvR p [[D.bool ab, D.int aa, D.int al]])
 [[D.bool bb, D.int ba, D.int bl]] !=
 (0 : Int) then
 K (AV.one (SV.bool true)) []
 else
 ((mvR p [[D.bool ab, D.int aa, D.int al]]).all wfN = true ∧
 [[D.bool bb, D.int ba, D.int bl]].all wfE = true ∧
 [[D.bool bb, D.int ba, D.int bl]].length ≤
 (1000000000 : Nat)) ∧
 bif
 mvE (mvR p [[D.bool ab, D.int aa, D.int al]])
 [[D.bool bb, D.int ba, D.int bl]] ==
 (0 : Int) then
 (mvR (mvR p [[D.bool ab, D.int aa, D.int al]])
 [[D.bool bb, D.int ba, D.int bl]]).length ≤
 (1000000000 : Nat) ∧
 K
 (AV.one
 (SV.bool
 (sameG
 (mvR (mvR p [[D.bool ab, D.int aa, D.int al]])
 [[D.bool bb, D.int ba, D.int bl]])
 (mvR p
 [[D.bool ab, D.int aa, D.int al],
 [D.bool bb, D.int ba, D.int bl]]))))
 []
 else K (AV.one (SV.bool false)) []) ∧
 p.length ≤ (1000000000 : Nat) ∧
 (p.all wfN = true ∧
 [[D.bool false, D.int aa, D.int al]].all wfE = true ∧
 [[D.bool false, D.int aa, D.int al]].length ≤ (1000000000 : Nat)) ∧
 bif mvE p [[D.bool false, D.int aa, D.int al]] != (0 : Int) then K (AV.one (SV.bool false)) []
 else
 bif
 decide
 ((↑(mvR p [[D.bool false, D.int aa, D.int al]]).length : Int) > (↑p.length : Int)) then
 K (AV.one (SV.bool false)) []
 else
 (p.length ≤ (1000 : Nat) ∧
 (mvR p [[D.bool false, D.int aa, D.int al]]).length ≤ (1000 : Nat) ∧
 p.all (okN1 (1000000 : Int)) = true ∧
 (0 : Int) ≤ (0 : Int) ∧
 (0 : Int) ≤ (↑(mvR p [[D.bool false, D.int aa, D.int al]]).length : Int) ∧
 (0 : Int) ≤ (0 : Int) ∧
 (0 : Int) ≤ (↑p.length : Int) ∧
 folB aa (mvR p [[D.bool false, D.int aa, D.int al]]) (0 : Int) p = true) ∧
 (p.length ≤ (1000000000 : Nat) ∧
 (p.all wfN = true ∧
 [[D.bool ab, D.int aa, D.int al], [D.bool bb, D.int ba, D.int bl]].all wfE =
 true ∧
 [[D.bool ab, D.int aa, D.int al], [D.bool bb, D.int ba, D.int bl]].length ≤
 (1000000000 : Nat)) ∧
 (p.length ≤ (1000000000 : Nat) ∧
 (p.all wfN = true ∧
 [[D.bool ab, D.int aa, D.int al]].all wfE = true ∧
 [[D.bool ab, D.int aa, D.int al]].length ≤ (1000000000 : Nat)) ∧
 bif
 mvE p
 [[D.bool ab, D.int aa, D.int al], [D.bool bb, D.int ba, D.int bl]] !=
 (0 : Int) then
 K (AV.one (SV.bool false)) []
 else
 bif mvE p [[D.bool ab, D.int aa, D.int al]] != (0 : Int) then
 K (AV.one (SV.bool false)) []
 else
 bif
 decide
 ((↑(mvR p [[D.bool ab, D.int aa, D.int al]]).length : Int) >
 (↑p.length : Int)) then
 K (AV.one (SV.bool false)) []
 else
 bif
 decide
 ((↑(mvR p
 [[D.bool ab, D.int aa, D.int al],
 [D.bool bb, D.int ba, D.int bl]]).length :
 Int) >
 (↑(mvR p [[D.bool ab, D.int aa, D.int al]]).length : Int)) then
 K (AV.one (SV.bool false)) []
 else
 bif
 nrE (mvR p [[D.bool ab, D.int aa, D.int al]])
 [[D.bool bb, D.int ba, D.int bl]] !=
 (0 : Int) then
 K (AV.one (SV.bool true)) []
 else
 ((mvR p [[D.bool ab, D.int aa, D.int al]]).all wfN = true ∧
 [[D.bool bb, D.int ba, D.int bl]].all wfE = true ∧
 [[D.bool bb, D.int ba, D.int bl]].length ≤
 (1000000000 : Nat)) ∧
 bif
 mvE (mvR p [[D.bool ab, D.int aa, D.int al]])
 [[D.bool bb, D.int ba, D.int bl]] ==
 (0 : Int) then
 (mvR (mvR p [[D.bool ab, D.int aa, D.int al]])
 [[D.bool bb, D.int ba, D.int bl]]).length ≤
 (1000000000 : Nat) ∧
 K
 (AV.one
 (SV.bool
 (sameG
 (mvR (mvR p [[D.bool ab, D.int aa, D.int al]])
 [[D.bool bb, D.int ba, D.int bl]])
 (mvR p
 [[D.bool ab, D.int aa, D.int al],
 [D.bool bb, D.int ba, D.int bl]]))))
 []
 else K (AV.one (SV.bool false)) []) ∧
 p.length ≤ (1000000000 : Nat) ∧
 (p.all wfN = true ∧
 [[D.bool ab, D.int aa, D.int al]].all wfE = true ∧
 [[D.bool ab, D.int aa, D.int al]].length ≤ (1000000000 : Nat)) ∧
 bif
 mvE p
 [[D.bool ab, D.int aa, D.int al], [D.bool bb, D.int ba, D.int bl]] !=
 (0 : Int) then
 K (AV.one (SV.bool false)) []
 else
 bif mvE p [[D.bool ab, D.int aa, D.int al]] != (0 : Int) then
 K (AV.one (SV.bool false)) []
 else
 bif
 decide
 ((↑(mvR p [[D.bool ab, D.int aa, D.int al]]).length : Int) >
 (↑p.length : Int)) then
 K (AV.one (SV.bool false)) []
 else
 bif
 decide
 ((↑(mvR p
 [[D.bool ab, D.int aa, D.int al],
 [D.bool bb, D.int ba, D.int bl]]).length :
 Int) >
 (↑(mvR p [[D.bool ab, D.int aa, D.int al]]).length : Int)) then
 K (AV.one (SV.bool false)) []
 else
 bif
 nrE (mvR p [[D.bool ab, D.int aa, D.int al]])
 [[D.bool bb, D.int ba, D.int bl]] !=
 (0 : Int) then
 K (AV.one (SV.bool true)) []
 else
 ((mvR p [[D.bool ab, D.int aa, D.int al]]).all wfN = true ∧
 [[D.bool bb, D.int ba, D.int bl]].all wfE = true ∧
 [[D.bool bb, D.int ba, D.int bl]].length ≤
 (1000000000 : Nat)) ∧
 bif
 mvE (mvR p [[D.bool ab, D.int aa, D.int al]])
 [[D.bool bb, D.int ba, D.int bl]] ==
 (0 : Int) then
 (mvR (mvR p [[D.bool ab, D.int aa, D.int al]])
 [[D.bool bb, D.int ba, D.int bl]]).length ≤
 (1000000000 : Nat) ∧
 K
 (AV.one
 (SV.bool
 (sameG
 (mvR (mvR p [[D.bool ab, D.int aa, D.int al]])
 [[D.bool bb, D.int ba, D.int bl]])
 (mvR p
 [[D.bool ab, D.int aa, D.int al],
 [D.bool bb, D.int ba, D.int bl]]))))
 []
 else K (AV.one (SV.bool false)) []) ∧
 p.length ≤ (1000000000 : Nat) ∧
 (p.all wfN = true ∧
 [[D.bool ab, D.int aa, D.int al], [D.bool bb, D.int ba, D.int bl]].all wfE =
 true ∧
 [[D.bool ab, D.int aa, D.int al], [D.bool bb, D.int ba, D.int bl]].length ≤
 (1000000000 : Nat)) ∧
 (p.length ≤ (1000000000 : Nat) ∧
 (p.all wfN = true ∧
 [[D.bool ab, D.int aa, D.int al]].all wfE = true ∧
 [[D.bool ab, D.int aa, D.int al]].length ≤ (1000000000 : Nat)) ∧
 bif
 mvE p
 [[D.bool ab, D.int aa, D.int al], [D.bool bb, D.int ba, D.int bl]] !=
 (0 : Int) then
 K (AV.one (SV.bool false)) []
 else
 bif mvE p [[D.bool ab, D.int aa, D.int al]] != (0 : Int) then
 K (AV.one (SV.bool false)) []
 else
 bif
 decide
 ((↑(mvR p [[D.bool ab, D.int aa, D.int al]]).length : Int) >
 (↑p.length : Int)) then
 K (AV.one (SV.bool false)) []
 else
 bif
 decide
 ((↑(mvR p
 [[D.bool ab, D.int aa, D.int al],
 [D.bool bb, D.int ba, D.int bl]]).length :
 Int) >
 (↑(mvR p [[D.bool ab, D.int aa, D.int al]]).length : Int)) then
 K (AV.one (SV.bool false)) []
 else
 bif
 nrE (mvR p [[D.bool ab, D.int aa, D.int al]])
 [[D.bool bb, D.int ba, D.int bl]] !=
 (0 : Int) then
 K (AV.one (SV.bool true)) []
 else
 ((mvR p [[D.bool ab, D.int aa, D.int al]]).all wfN = true ∧
 [[D.bool bb, D.int ba, D.int bl]].all wfE = true ∧
 [[D.bool bb, D.int ba, D.int bl]].length ≤
 (1000000000 : Nat)) ∧
 bif
 mvE (mvR p [[D.bool ab, D.int aa, D.int al]])
 [[D.bool bb, D.int ba, D.int bl]] ==
 (0 : Int) then
 (mvR (mvR p [[D.bool ab, D.int aa, D.int al]])
 [[D.bool bb, D.int ba, D.int bl]]).length ≤
 (1000000000 : Nat) ∧
 K
 (AV.one
 (SV.bool
 (sameG
 (mvR (mvR p [[D.bool ab, D.int aa, D.int al]])
 [[D.bool bb, D.int ba, D.int bl]])
 (mvR p
 [[D.bool ab, D.int aa, D.int al],
 [D.bool bb, D.int ba, D.int bl]]))))
 []
 else K (AV.one (SV.bool false)) []) ∧
 p.length ≤ (1000000000 : Nat) ∧
 (p.all wfN = true ∧
 [[D.bool ab, D.int aa, D.int al]].all wfE = true ∧
 [[D.bool ab, D.int aa, D.int al]].length ≤ (1000000000 : Nat)) ∧
 bif
 mvE p
 [[D.bool ab, D.int aa, D.int al], [D.bool bb, D.int ba, D.int bl]] !=
 (0 : Int) then
 K (AV.one (SV.bool false)) []
 else
 bif mvE p [[D.bool ab, D.int aa, D.int al]] != (0 : Int) then
 K (AV.one (SV.bool false)) []
 else
 bif
 decide
 ((↑(mvR p [[D.bool ab, D.int aa, D.int al]]).length : Int) >
 (↑p.length : Int)) then
 K (AV.one (SV.bool false)) []
 else
 bif
 decide
 ((↑(mvR p
 [[D.bool ab, D.int aa, D.int al],
 [D.bool bb, D.int ba, D.int bl]]).length :
 Int) >
 (↑(mvR p [[D.bool ab, D.int aa, D.int al]]).length : Int)) then
 K (AV.one (SV.bool false)) []
 else
 bif
 nrE (mvR p [[D.bool ab, D.int aa, D.int al]])
 [[D.bool bb, D.int ba, D.int bl]] !=
 (0 : Int) then
 K (AV.one (SV.bool true)) []
 else
 ((mvR p [[D.bool ab, D.int aa, D.int al]]).all wfN = true ∧
 [[D.bool bb, D.int ba, D.int bl]].all wfE = true ∧
 [[D.bool bb, D.int ba, D.int bl]].length ≤
 (1000000000 : Nat)) ∧
 bif
 mvE (mvR p [[D.bool ab, D.int aa, D.int al]])
 [[D.bool bb, D.int ba, D.int bl]] ==
 (0 : Int) then
 (mvR (mvR p [[D.bool ab, D.int aa, D.int al]])
 [[D.bool bb, D.int ba, D.int bl]]).length ≤
 (1000000000 : Nat) ∧
 K
 (AV.one
 (SV.bool
 (sameG
 (mvR (mvR p [[D.bool ab, D.int aa, D.int al]])
 [[D.bool bb, D.int ba, D.int bl]])
 (mvR p
 [[D.bool ab, D.int aa, D.int al],
 [D.bool bb, D.int ba, D.int bl]]))))
 []
 else K (AV.one (SV.bool false)) []) ∧
 (p.length ≤ (1000000000 : Nat) ∧
 (p.all wfN = true ∧
 [[D.bool true, D.int aa, D.int al], [D.bool false, D.int aa, D.int al]].all wfE = true ∧
 [[D.bool true, D.int aa, D.int al], [D.bool false, D.int aa, D.int al]].length ≤ (1000000000 : Nat)) ∧
 bif mvE p [[D.bool true, D.int aa, D.int al], [D.bool false, D.int aa, D.int al]] != (0 : Int) then
 K (AV.one (SV.bool false)) []
 else
 (mvR p [[D.bool true, D.int aa, D.int al], [D.bool false, D.int aa, D.int al]]).length ≤
 (1000000000 : Nat) ∧
 bif !sameG (mvR p [[D.bool true, D.int aa, D.int al], [D.bool false, D.int aa, D.int al]]) p then
 K (AV.one (SV.bool false)) []
 else
 (p.length ≤ (1000000000 : Nat) ∧
 (p.all wfN = true ∧
 [[D.bool false, D.int aa, D.int al]].all wfE = true ∧
 [[D.bool false, D.int aa, D.int al]].length ≤ (1000000000 : Nat)) ∧
 bif mvE p [[D.bool false, D.int aa, D.int al]] != (0 : Int) then K (AV.one (SV.bool false)) []
 else
 bif
 decide
 ((↑(mvR p [[D.bool false, D.int aa, D.int al]]).length : Int) > (↑p.length : Int)) then
 K (AV.one (SV.bool false)) []
 else
 (p.length ≤ (1000 : Nat) ∧
 (mvR p [[D.bool false, D.int aa, D.int al]]).length ≤ (1000 : Nat) ∧
 p.all (okN1 (1000000 : Int)) = true ∧
 (0 : Int) ≤ (0 : Int) ∧
 (0 : Int) ≤ (↑(mvR p [[D.bool false, D.int aa, D.int al]]).length : Int) ∧
 (0 : Int) ≤ (0 : Int) ∧
 (0 : Int) ≤ (↑p.length : Int) ∧
 folB aa (mvR p [[D.bool false, D.int aa, D.int al]]) (0 : Int) p = true) ∧
 (p.length ≤ (1000000000 : Nat) ∧
 (p.all wfN = true ∧
 [[D.bool ab, D.int aa, D.int al], [D.bool bb, D.int ba, D.int bl]].all wfE =
 true ∧
 [[D.bool ab, D.int aa, D.int al], [D.bool bb, D.int ba, D.int bl]].length ≤
 (1000000000 : Nat)) ∧
 (p.length ≤ (1000000000 : Nat) ∧
 (p.all wfN = true ∧
 [[D.bool ab, D.int aa, D.int al]].all wfE = true ∧
 [[D.bool ab, D.int aa, D.int al]].length ≤ (1000000000 : Nat)) ∧
 bif
 mvE p
 [[D.bool ab, D.int aa, D.int al], [D.bool bb, D.int ba, D.int bl]] !=
 (0 : Int) then
 K (AV.one (SV.bool false)) []
 else
 bif mvE p [[D.bool ab, D.int aa, D.int al]] != (0 : Int) then
 K (AV.one (SV.bool false)) []
 else
 bif
 decide
 ((↑(mvR p [[D.bool ab, D.int aa, D.int al]]).length : Int) >
 (↑p.length : Int)) then
 K (AV.one (SV.bool false)) []
 else
 bif
 decide
 ((↑(mvR p
 [[D.bool ab, D.int aa, D.int al],
 [D.bool bb, D.int ba, D.int bl]]).length :
 Int) >
 (↑(mvR p [[D.bool ab, D.int aa, D.int al]]).length : Int)) then
 K (AV.one (SV.bool false)) []
 else
 bif
 nrE (mvR p [[D.bool ab, D.int aa, D.int al]])
 [[D.bool bb, D.int ba, D.int bl]] !=
 (0 : Int) then
 K (AV.one (SV.bool true)) []
 else
 ((mvR p [[D.bool ab, D.int aa, D.int al]]).all wfN = true ∧
 [[D.bool bb, D.int ba, D.int bl]].all wfE = true ∧
 [[D.bool bb, D.int ba, D.int bl]].length ≤
 (1000000000 : Nat)) ∧
 bif
 mvE (mvR p [[D.bool ab, D.int aa, D.int al]])
 [[D.bool bb, D.int ba, D.int bl]] ==
 (0 : Int) then
 (mvR (mvR p [[D.bool ab, D.int aa, D.int al]])
 [[D.bool bb, D.int ba, D.int bl]]).length ≤
 (1000000000 : Nat) ∧
 K
 (AV.one
 (SV.bool
 (sameG
 (mvR (mvR p [[D.bool ab, D.int aa, D.int al]])
 [[D.bool bb, D.int ba, D.int bl]])
 (mvR p
 [[D.bool ab, D.int aa, D.int al],
 [D.bool bb, D.int ba, D.int bl]]))))
 []
 else K (AV.one (SV.bool false)) []) ∧
 p.length ≤ (1000000000 : Nat) ∧
 (p.all wfN = true ∧
 [[D.bool ab, D.int aa, D.int al]].all wfE = true ∧
 [[D.bool ab, D.int aa, D.int al]].length ≤ (1000000000 : Nat)) ∧
 bif
 mvE p
 [[D.bool ab, D.int aa, D.int al], [D.bool bb, D.int ba, D.int bl]] !=
 (0 : Int) then
 K (AV.one (SV.bool false)) []
 else
 bif mvE p [[D.bool ab, D.int aa, D.int al]] != (0 : Int) then
 K (AV.one (SV.bool false)) []
 else
 bif
 decide
 ((↑(mvR p [[D.bool ab, D.int aa, D.int al]]).length : Int) >
 (↑p.length : Int)) then
 K (AV.one (SV.bool false)) []
 else
 bif
 decide
 ((↑(mvR p
 [[D.bool ab, D.int aa, D.int al],
 [D.bool bb, D.int ba, D.int bl]]).length :
 Int) >
 (↑(mvR p [[D.bool ab, D.int aa, D.int al]]).length : Int)) then
 K (AV.one (SV.bool false)) []
 else
 bif
 nrE (mvR p [[D.bool ab, D.int aa, D.int al]])
 [[D.bool bb, D.int ba, D.int bl]] !=
 (0 : Int) then
 K (AV.one (SV.bool true)) []
 else
 ((mvR p [[D.bool ab, D.int aa, D.int al]]).all wfN = true ∧
 [[D.bool bb, D.int ba, D.int bl]].all wfE = true ∧
 [[D.bool bb, D.int ba, D.int bl]].length ≤
 (1000000000 : Nat)) ∧
 bif
 mvE (mvR p [[D.bool ab, D.int aa, D.int al]])
 [[D.bool bb, D.int ba, D.int bl]] ==
 (0 : Int) then
 (mvR (mvR p [[D.bool ab, D.int aa, D.int al]])
 [[D.bool bb, D.int ba, D.int bl]]).length ≤
 (1000000000 : Nat) ∧
 K
 (AV.one
 (SV.bool
 (sameG
 (mvR (mvR p [[D.bool ab, D.int aa, D.int al]])
 [[D.bool bb, D.int ba, D.int bl]])
 (mvR p
 [[D.bool ab, D.int aa, D.int al],
 [D.bool bb, D.int ba, D.int bl]]))))
 []
 else K (AV.one (SV.bool false)) []) ∧
 p.length ≤ (1000000000 : Nat) ∧
 (p.all wfN = true ∧
 [[D.bool ab, D.int aa, D.int al], [D.bool bb, D.int ba, D.int bl]].all wfE =
 true ∧
 [[D.bool ab, D.int aa, D.int al], [D.bool bb, D.int ba, D.int bl]].length ≤
 (1000000000 : Nat)) ∧
 (p.length ≤ (1000000000 : Nat) ∧
 (p.all wfN = true ∧
 [[D.bool ab, D.int aa, D.int al]].all wfE = true ∧
 [[D.bool ab, D.int aa, D.int al]].length ≤ (1000000000 : Nat)) ∧
 bif
 mvE p
 [[D.bool ab, D.int aa, D.int al], [D.bool bb, D.int ba, D.int bl]] !=
 (0 : Int) then
 K (AV.one (SV.bool false)) []
 else
 bif mvE p [[D.bool ab, D.int aa, D.int al]] != (0 : Int) then
 K (AV.one (SV.bool false)) []
 else
 bif
 decide
 ((↑(mvR p [[D.bool ab, D.int aa, D.int al]]).length : Int) >
 (↑p.length : Int)) then
 K (AV.one (SV.bool false)) []
 else
 bif
 decide
 ((↑(mvR p
 [[D.bool ab, D.int aa, D.int al],
 [D.bool bb, D.int ba, D.int bl]]).length :
 Int) >
 (↑(mvR p [[D.bool ab, D.int aa, D.int al]]).length : Int)) then
 K (AV.one (SV.bool false)) []
 else
 bif
 nrE (mvR p [[D.bool ab, D.int aa, D.int al]])
 [[D.bool bb, D.int ba, D.int bl]] !=
 (0 : Int) then
 K (AV.one (SV.bool true)) []
 else
 ((mvR p [[D.bool ab, D.int aa, D.int al]]).all wfN = true ∧
 [[D.bool bb, D.int ba, D.int bl]].all wfE = true ∧
 [[D.bool bb, D.int ba, D.int bl]].length ≤
 (1000000000 : Nat)) ∧
 bif
 mvE (mvR p [[D.bool ab, D.int aa, D.int al]])
 [[D.bool bb, D.int ba, D.int bl]] ==
 (0 : Int) then
 (mvR (mvR p [[D.bool ab, D.int aa, D.int al]])
 [[D.bool bb, D.int ba, D.int bl]]).length ≤
 (1000000000 : Nat) ∧
 K
 (AV.one
 (SV.bool
 (sameG
 (mvR (mvR p [[D.bool ab, D.int aa, D.int al]])
 [[D.bool bb, D.int ba, D.int bl]])
 (mvR p
 [[D.bool ab, D.int aa, D.int al],
 [D.bool bb, D.int ba, D.int bl]]))))
 []
 else K (AV.one (SV.bool false)) []) ∧
 p.length ≤ (1000000000 : Nat) ∧
 (p.all wfN = true ∧
 [[D.bool ab, D.int aa, D.int al]].all wfE = true ∧
 [[D.bool ab, D.int aa, D.int al]].length ≤ (1000000000 : Nat)) ∧
 bif
 mvE p
 [[D.bool ab, D.int aa, D.int al], [D.bool bb, D.int ba, D.int bl]] !=
 (0 : Int) then
 K (AV.one (SV.bool false)) []
 else
 bif mvE p [[D.bool ab, D.int aa, D.int al]] != (0 : Int) then
 K (AV.one (SV.bool false)) []
 else
 bif
 decide
 ((↑(mvR p [[D.bool ab, D.int aa, D.int al]]).length : Int) >
 (↑p.length : Int)) then
 K (AV.one (SV.bool false)) []
 else
 bif
 decide
 ((↑(mvR p
 [[D.bool ab, D.int aa, D.int al],
 [D.bool bb, D.int ba, D.int bl]]).length :
 Int) >
 (↑(mvR p [[D.bool ab, D.int aa, D.int al]]).length : Int)) then
 K (AV.one (SV.bool false)) []
 else
 bif
 nrE (mvR p [[D.bool ab, D.int aa, D.int al]])
 [[D.bool bb, D.int ba, D.int bl]] !=
 (0 : Int) then
 K (AV.one (SV.bool true)) []
 else
 ((mvR p [[D.bool ab, D.int aa, D.int al]]).all wfN = true ∧
 [[D.bool bb, D.int ba, D.int bl]].all wfE = true ∧
 [[D.bool bb, D.int ba, D.int bl]].length ≤
 (1000000000 : Nat)) ∧
 bif
 mvE (mvR p [[D.bool ab, D.int aa, D.int al]])
 [[D.bool bb, D.int ba, D.int bl]] ==
 (0 : Int) then
 (mvR (mvR p [[D.bool ab, D.int aa, D.int al]])
 [[D.bool bb, D.int ba, D.int bl]]).length ≤
 (1000000000 : Nat) ∧
 K
 (AV.one
 (SV.bool
 (sameG
 (mvR (mvR p [[D.bool ab, D.int aa, D.int al]])
 [[D.bool bb, D.int ba, D.int bl]])
 (mvR p
 [[D.bool ab, D.int aa, D.int al],
 [D.bool bb, D.int ba, D.int bl]]))))
 []
 else K (AV.one (SV.bool false)) []) ∧
 p.length ≤ (1000000000 : Nat) ∧
 (p.all wfN = true ∧
 [[D.bool false, D.int aa, D.int al]].all wfE = true ∧
 [[D.bool false, D.int aa, D.int al]].length ≤ (1000000000 : Nat)) ∧
 bif mvE p [[D.bool false, D.int aa, D.int al]] != (0 : Int) then K (AV.one (SV.bool false)) []
 else
 bif
 decide
 ((↑(mvR p [[D.bool false, D.int aa, D.int al]]).length : Int) > (↑p.length : Int)) then
 K (AV.one (SV.bool false)) []
 else
 (p.length ≤ (1000 : Nat) ∧
 (mvR p [[D.bool false, D.int aa, D.int al]]).length ≤ (1000 : Nat) ∧
 p.all (okN1 (1000000 : Int)) = true ∧
 (0 : Int) ≤ (0 : Int) ∧
 (0 : Int) ≤ (↑(mvR p [[D.bool false, D.int aa, D.int al]]).length : Int) ∧
 (0 : Int) ≤ (0 : Int) ∧
 (0 : Int) ≤ (↑p.length : Int) ∧
 folB aa (mvR p [[D.bool false, D.int aa, D.int al]]) (0 : Int) p = true) ∧
 (p.length ≤ (1000000000 : Nat) ∧
 (p.all wfN = true ∧
 [[D.bool ab, D.int aa, D.int al], [D.bool bb, D.int ba, D.int bl]].all wfE =
 true ∧
 [[D.bool ab, D.int aa, D.int al], [D.bool bb, D.int ba, D.int bl]].length ≤
 (1000000000 : Nat)) ∧
 (p.length ≤ (1000000000 : Nat) ∧
 (p.all wfN = true ∧
 [[D.bool ab, D.int aa, D.int al]].all wfE = true ∧
 [[D.bool ab, D.int aa, D.int al]].length ≤ (1000000000 : Nat)) ∧
 bif
 mvE p
 [[D.bool ab, D.int aa, D.int al], [D.bool bb, D.int ba, D.int bl]] !=
 (0 : Int) then
 K (AV.one (SV.bool false)) []
 else
 bif mvE p [[D.bool ab, D.int aa, D.int al]] != (0 : Int) then
 K (AV.one (SV.bool false)) []
 else
 bif
 decide
 ((↑(mvR p [[D.bool ab, D.int aa, D.int al]]).length : Int) >
 (↑p.length : Int)) then
 K (AV.one (SV.bool false)) []
 else
 bif
 decide
 ((↑(mvR p
 [[D.bool ab, D.int aa, D.int al],
 [D.bool bb, D.int ba, D.int bl]]).length :
 Int) >
 (↑(mvR p [[D.bool ab, D.int aa, D.int al]]).length : Int)) then
 K (AV.one (SV.bool false)) []
 else
 bif
 nrE (mvR p [[D.bool ab, D.int aa, D.int al]])
 [[D.bool bb, D.int ba, D.int bl]] !=
 (0 : Int) then
 K (AV.one (SV.bool true)) []
 else
 ((mvR p [[D.bool ab, D.int aa, D.int al]]).all wfN = true ∧
 [[D.bool bb, D.int ba, D.int bl]].all wfE = true ∧
 [[D.bool bb, D.int ba, D.int bl]].length ≤
 (1000000000 : Nat)) ∧
 bif
 mvE (mvR p [[D.bool ab, D.int aa, D.int al]])
 [[D.bool bb, D.int ba, D.int bl]] ==
 (0 : Int) then
 (mvR (mvR p [[D.bool ab, D.int aa, D.int al]])
 [[D.bool bb, D.int ba, D.int bl]]).length ≤
 (1000000000 : Nat) ∧
 K
 (AV.one
 (SV.bool
 (sameG
 (mvR (mvR p [[D.bool ab, D.int aa, D.int al]])
 [[D.bool bb, D.int ba, D.int bl]])
 (mvR p
 [[D.bool ab, D.int aa, D.int al],
 [D.bool bb, D.int ba, D.int bl]]))))
 []
 else K (AV.one (SV.bool false)) []) ∧
 p.length ≤ (1000000000 : Nat) ∧
 (p.all wfN = true ∧
 [[D.bool ab, D.int aa, D.int al]].all wfE = true ∧
 [[D.bool ab, D.int aa, D.int al]].length ≤ (1000000000 : Nat)) ∧
 bif
 mvE p
 [[D.bool ab, D.int aa, D.int al], [D.bool bb, D.int ba, D.int bl]] !=
 (0 : Int) then
 K (AV.one (SV.bool false)) []
 else
 bif mvE p [[D.bool ab, D.int aa, D.int al]] != (0 : Int) then
 K (AV.one (SV.bool false)) []
 else
 bif
 decide
 ((↑(mvR p [[D.bool ab, D.int aa, D.int al]]).length : Int) >
 (↑p.length : Int)) then
 K (AV.one (SV.bool false)) []
 else
 bif
 decide
 ((↑(mvR p
 [[D.bool ab, D.int aa, D.int al],
 [D.bool bb, D.int ba, D.int bl]]).length :
 Int) >
 (↑(mvR p [[D.bool ab, D.int aa, D.int al]]).length : Int)) then
 K (AV.one (SV.bool false)) []
 else
 bif
 nrE (mvR p [[D.bool ab, D.int aa, D.int al]])
 [[D.bool bb, D.int ba, D.int bl]] !=
 (0 : Int) then
 K (AV.one (SV.bool true)) []
 else
 ((mvR p [[D.bool ab, D.int aa, D.int al]]).all wfN = true ∧
 [[D.bool bb, D.int ba, D.int bl]].all wfE = true ∧
 [[D.bool bb, D.int ba, D.int bl]].length ≤
 (1000000000 : Nat)) ∧
 bif
 mvE (mvR p [[D.bool ab, D.int aa, D.int al]])
 [[D.bool bb, D.int ba, D.int bl]] ==
 (0 : Int) then
 (mvR (mvR p [[D.bool ab, D.int aa, D.int al]])
 [[D.bool bb, D.int ba, D.int bl]]).length ≤
 (1000000000 : Nat) ∧
 K
 (AV.one
 (SV.bool
 (sameG
 (mvR (mvR p [[D.bool ab, D.int aa, D.int al]])
 [[D.bool bb, D.int ba, D.int bl]])
 (mvR p
 [[D.bool ab, D.int aa, D.int al],
 [D.bool bb, D.int ba, D.int bl]]))))
 []
 else K (AV.one (SV.bool false)) []) ∧
 p.length ≤ (1000000000 : Nat) ∧
 (p.all wfN = true ∧
 [[D.bool ab, D.int aa, D.int al], [D.bool bb, D.int ba, D.int bl]].all wfE =
 true ∧
 [[D.bool ab, D.int aa, D.int al], [D.bool bb, D.int ba, D.int bl]].length ≤
 (1000000000 : Nat)) ∧
 (p.length ≤ (1000000000 : Nat) ∧
 (p.all wfN = true ∧
 [[D.bool ab, D.int aa, D.int al]].all wfE = true ∧
 [[D.bool ab, D.int aa, D.int al]].length ≤ (1000000000 : Nat)) ∧
 bif
 mvE p
 [[D.bool ab, D.int aa, D.int al], [D.bool bb, D.int ba, D.int bl]] !=
 (0 : Int) then
 K (AV.one (SV.bool false)) []
 else
 bif mvE p [[D.bool ab, D.int aa, D.int al]] != (0 : Int) then
 K (AV.one (SV.bool false)) []
 else
 bif
 decide
 ((↑(mvR p [[D.bool ab, D.int aa, D.int al]]).length : Int) >
 (↑p.length : Int)) then
 K (AV.one (SV.bool false)) []
 else
 bif
 decide
 ((↑(mvR p
 [[D.bool ab, D.int aa, D.int al],
 [D.bool bb, D.int ba, D.int bl]]).length :
 Int) >
 (↑(mvR p [[D.bool ab, D.int aa, D.int al]]).length : Int)) then
 K (AV.one (SV.bool false)) []
 else
 bif
 nrE (mvR p [[D.bool ab, D.int aa, D.int al]])
 [[D.bool bb, D.int ba, D.int bl]] !=
 (0 : Int) then
 K (AV.one (SV.bool true)) []
 else
 ((mvR p [[D.bool ab, D.int aa, D.int al]]).all wfN = true ∧
 [[D.bool bb, D.int ba, D.int bl]].all wfE = true ∧
 [[D.bool bb, D.int ba, D.int bl]].length ≤
 (1000000000 : Nat)) ∧
 bif
 mvE (mvR p [[D.bool ab, D.int aa, D.int al]])
 [[D.bool bb, D.int ba, D.int bl]] ==
 (0 : Int) then
 (mvR (mvR p [[D.bool ab, D.int aa, D.int al]])
 [[D.bool bb, D.int ba, D.int bl]]).length ≤
 (1000000000 : Nat) ∧
 K
 (AV.one
 (SV.bool
 (sameG
 (mvR (mvR p [[D.bool ab, D.int aa, D.int al]])
 [[D.bool bb, D.int ba, D.int bl]])
 (mvR p
 [[D.bool ab, D.int aa, D.int al],
 [D.bool bb, D.int ba, D.int bl]]))))
 []
 else K (AV.one (SV.bool false)) []) ∧
 p.length ≤ (1000000000 : Nat) ∧
 (p.all wfN = true ∧
 [[D.bool ab, D.int aa, D.int al]].all wfE = true ∧
 [[D.bool ab, D.int aa, D.int al]].length ≤ (1000000000 : Nat)) ∧
 bif
 mvE p
 [[D.bool ab, D.int aa, D.int al], [D.bool bb, D.int ba, D.int bl]] !=
 (0 : Int) then
 K (AV.one (SV.bool false)) []
 else
 bif mvE p [[D.bool ab, D.int aa, D.int al]] != (0 : Int) then
 K (AV.one (SV.bool false)) []
 else
 bif
 decide
 ((↑(mvR p [[D.bool ab, D.int aa, D.int al]]).length : Int) >
 (↑p.length : Int)) then
 K (AV.one (SV.bool false)) []
 else
 bif
 decide
 ((↑(mvR p
 [[D.bool ab, D.int aa, D.int al],
 [D.bool bb, D.int ba, D.int bl]]).length :
 Int) >
 (↑(mvR p [[D.bool ab, D.int aa, D.int al]]).length : Int)) then
 K (AV.one (SV.bool false)) []
 else
 bif
 nrE (mvR p [[D.bool ab, D.int aa, D.int al]])
 [[D.bool bb, D.int ba, D.int bl]] !=
 (0 : Int) then
 K (AV.one (SV.bool true)) []
 else
 ((mvR p [[D.bool ab, D.int aa, D.int al]]).all wfN = true ∧
 [[D.bool bb, D.int ba, D.int bl]].all wfE = true ∧
 [[D.bool bb, D.int ba, D.int bl]].length ≤
 (1000000000 : Nat)) ∧
 bif
 mvE (mvR p [[D.bool ab, D.int aa, D.int al]])
 [[D.bool bb, D.int ba, D.int bl]] ==
 (0 : Int) then
 (mvR (mvR p [[D.bool ab, D.int aa, D.int al]])
 [[D.bool bb, D.int ba, D.int bl]]).length ≤
 (1000000000 : Nat) ∧
 K
 (AV.one
 (SV.bool
 (sameG
 (mvR (mvR p [[D.bool ab, D.int aa, D.int al]])
 [[D.bool bb, D.int ba, D.int bl]])
 (mvR p
 [[D.bool ab, D.int aa, D.int al],
 [D.bool bb, D.int ba, D.int bl]]))))
 []
 else K (AV.one (SV.bool false)) []) ∧
 p.length ≤ (1000000000 : Nat) ∧
 (p.all wfN = true ∧
 [[D.bool true, D.int aa, D.int al], [D.bool false, D.int aa, D.int al]].all wfE = true ∧
 [[D.bool true, D.int aa, D.int al], [D.bool false, D.int aa, D.int al]].length ≤ (1000000000 : Nat)) ∧
 bif mvE p [[D.bool true, D.int aa, D.int al], [D.bool false, D.int aa, D.int al]] != (0 : Int) then
 K (AV.one (SV.bool false)) []
 else
 (mvR p [[D.bool true, D.int aa, D.int al], [D.bool false, D.int aa, D.int al]]).length ≤
 (1000000000 : Nat) ∧
 bif !sameG (mvR p [[D.bool true, D.int aa, D.int al], [D.bool false, D.int aa, D.int al]]) p then
 K (AV.one (SV.bool false)) []
 else
 (p.length ≤ (1000000000 : Nat) ∧
 (p.all wfN = true ∧
 [[D.bool false, D.int aa, D.int al]].all wfE = true ∧
 [[D.bool false, D.int aa, D.int al]].length ≤ (1000000000 : Nat)) ∧
 bif mvE p [[D.bool false, D.int aa, D.int al]] != (0 : Int) then K (AV.one (SV.bool false)) []
 else
 bif
 decide
 ((↑(mvR p [[D.bool false, D.int aa, D.int al]]).length : Int) > (↑p.length : Int)) then
 K (AV.one (SV.bool false)) []
 else
 (p.length ≤ (1000 : Nat) ∧
 (mvR p [[D.bool false, D.int aa, D.int al]]).length ≤ (1000 : Nat) ∧
 p.all (okN1 (1000000 : Int)) = true ∧
 (0 : Int) ≤ (0 : Int) ∧
 (0 : Int) ≤ (↑(mvR p [[D.bool false, D.int aa, D.int al]]).length : Int) ∧
 (0 : Int) ≤ (0 : Int) ∧
 (0 : Int) ≤ (↑p.length : Int) ∧
 folB aa (mvR p [[D.bool false, D.int aa, D.int al]]) (0 : Int) p = true) ∧
 (p.length ≤ (1000000000 : Nat) ∧
 (p.all wfN = true ∧
 [[D.bool ab, D.int aa, D.int al], [D.bool bb, D.int ba, D.int bl]].all wfE =
 true ∧
 [[D.bool ab, D.int aa, D.int al], [D.bool bb, D.int ba, D.int bl]].length ≤
 (1000000000 : Nat)) ∧
 (p.length ≤ (1000000000 : Nat) ∧
 (p.all wfN = true ∧
 [[D.bool ab, D.int aa, D.int al]].all wfE = true ∧
 [[D.bool ab, D.int aa, D.int al]].length ≤ (1000000000 : Nat)) ∧
 bif
 mvE p
 [[D.bool ab, D.int aa, D.int al], [D.bool bb, D.int ba, D.int bl]] !=
 (0 : Int) then
 K (AV.one (SV.bool false)) []
 else
 bif mvE p [[D.bool ab, D.int aa, D.int al]] != (0 : Int) then
 K (AV.one (SV.bool false)) []
 else
 bif
 decide
 ((↑(mvR p [[D.bool ab, D.int aa, D.int al]]).length : Int) >
 (↑p.length : Int)) then
 K (AV.one (SV.bool false)) []
 else
 bif
 decide
 ((↑(mvR p
 [[D.bool ab, D.int aa, D.int al],
 [D.bool bb, D.int ba, D.int bl]]).length :
 Int) >
 (↑(mvR p [[D.bool ab, D.int aa, D.int al]]).length : Int)) then
 K (AV.one (SV.bool false)) []
 else
 bif
 nrE (mvR p [[D.bool ab, D.int aa, D.int al]])
 [[D.bool bb, D.int ba, D.int bl]] !=
 (0 : Int) then
 K (AV.one (SV.bool true)) []
 else
 ((mvR p [[D.bool ab, D.int aa, D.int al]]).all wfN = true ∧
 [[D.bool bb, D.int ba, D.int bl]].all wfE = true ∧
 [[D.bool bb, D.int ba, D.int bl]].length ≤
 (1000000000 : Nat)) ∧
 bif
 mvE (mvR p [[D.bool ab, D.int aa, D.int al]])
 [[D.bool bb, D.int ba, D.int bl]] ==
 (0 : Int) then
 (mvR (mvR p [[D.bool ab, D.int aa, D.int al]])
 [[D.bool bb, D.int ba, D.int bl]]).length ≤
 (1000000000 : Nat) ∧
 K
 (AV.one
 (SV.bool
 (sameG
 (mvR (mvR p [[D.bool ab, D.int aa, D.int al]])
 [[D.bool bb, D.int ba, D.int bl]])
 (mvR p
 [[D.bool ab, D.int aa, D.int al],
 [D.bool bb, D.int ba, D.int bl]]))))
 []
 else K (AV.one (SV.bool false)) []) ∧
 p.length ≤ (1000000000 : Nat) ∧
 (p.all wfN = true ∧
 [[D.bool ab, D.int aa, D.int al]].all wfE = true ∧
 [[D.bool ab, D.int aa, D.int al]].length ≤ (1000000000 : Nat)) ∧
 bif
 mvE p
 [[D.bool ab, D.int aa, D.int al], [D.bool bb, D.int ba, D.int bl]] !=
 (0 : Int) then
 K (AV.one (SV.bool false)) []
 else
 bif mvE p [[D.bool ab, D.int aa, D.int al]] != (0 : Int) then
 K (AV.one (SV.bool false)) []
 else
 bif
 decide
 ((↑(mvR p [[D.bool ab, D.int aa, D.int al]]).length : Int) >
 (↑p.length : Int)) then
 K (AV.one (SV.bool false)) []
 else
 bif
 decide
 ((↑(mvR p
 [[D.bool ab, D.int aa, D.int al],
 [D.bool bb, D.int ba, D.int bl]]).length :
 Int) >
 (↑(mvR p [[D.bool ab, D.int aa, D.int al]]).length : Int)) then
 K (AV.one (SV.bool false)) []
 else
 bif
 nrE (mvR p [[D.bool ab, D.int aa, D.int al]])
 [[D.bool bb, D.int ba, D.int bl]] !=
 (0 : Int) then
 K (AV.one (SV.bool true)) []
 else
 ((mvR p [[D.bool ab, D.int aa, D.int al]]).all wfN = true ∧
 [[D.bool bb, D.int ba, D.int bl]].all wfE = true ∧
 [[D.bool bb, D.int ba, D.int bl]].length ≤
 (1000000000 : Nat)) ∧
 bif
 mvE (mvR p [[D.bool ab, D.int aa, D.int al]])
 [[D.bool bb, D.int ba, D.int bl]] ==
 (0 : Int) then
 (mvR (mvR p [[D.bool ab, D.int aa, D.int al]])
 [[D.bool bb, D.int ba, D.int bl]]).length ≤
 (1000000000 : Nat) ∧
 K
 (AV.one
 (SV.bool
 (sameG
 (mvR (mvR p [[D.bool ab, D.int aa, D.int al]])
 [[D.bool bb, D.int ba, D.int bl]])
 (mvR p
 [[D.bool ab, D.int aa, D.int al],
 [D.bool bb, D.int ba, D.int bl]]))))
 []
 else K (AV.one (SV.bool false)) []) ∧
 p.length ≤ (1000000000 : Nat) ∧
 (p.all wfN = true ∧
 [[D.bool ab, D.int aa, D.int al], [D.bool bb, D.int ba, D.int bl]].all wfE =
 true ∧
 [[D.bool ab, D.int aa, D.int al], [D.bool bb, D.int ba, D.int bl]].length ≤
 (1000000000 : Nat)) ∧
 (p.length ≤ (1000000000 : Nat) ∧
 (p.all wfN = true ∧
 [[D.bool ab, D.int aa, D.int al]].all wfE = true ∧
 [[D.bool ab, D.int aa, D.int al]].length ≤ (1000000000 : Nat)) ∧
 bif
 mvE p
 [[D.bool ab, D.int aa, D.int al], [D.bool bb, D.int ba, D.int bl]] !=
 (0 : Int) then
 K (AV.one (SV.bool false)) []
 else
 bif mvE p [[D.bool ab, D.int aa, D.int al]] != (0 : Int) then
 K (AV.one (SV.bool false)) []
 else
 bif
 decide
 ((↑(mvR p [[D.bool ab, D.int aa, D.int al]]).length : Int) >
 (↑p.length : Int)) then
 K (AV.one (SV.bool false)) []
 else
 bif
 decide
 ((↑(mvR p
 [[D.bool ab, D.int aa, D.int al],
 [D.bool bb, D.int ba, D.int bl]]).length :
 Int) >
 (↑(mvR p [[D.bool ab, D.int aa, D.int al]]).length : Int)) then
 K (AV.one (SV.bool false)) []
 else
 bif
 nrE (mvR p [[D.bool ab, D.int aa, D.int al]])
 [[D.bool bb, D.int ba, D.int bl]] !=
 (0 : Int) then
 K (AV.one (SV.bool true)) []
 else
 ((mvR p [[D.bool ab, D.int aa, D.int al]]).all wfN = true ∧
 [[D.bool bb, D.int ba, D.int bl]].all wfE = true ∧
 [[D.bool bb, D.int ba, D.int bl]].length ≤
 (1000000000 : Nat)) ∧
 bif
 mvE (mvR p [[D.bool ab, D.int aa, D.int al]])
 [[D.bool bb, D.int ba, D.int bl]] ==
 (0 : Int) then
 (mvR (mvR p [[D.bool ab, D.int aa, D.int al]])
 [[D.bool bb, D.int ba, D.int bl]]).length ≤
 (1000000000 : Nat) ∧
 K
 (AV.one
 (SV.bool
 (sameG
 (mvR (mvR p [[D.bool ab, D.int aa, D.int al]])
 [[D.bool bb, D.int ba, D.int bl]])
 (mvR p
 [[D.bool ab, D.int aa, D.int al],
 [D.bool bb, D.int ba, D.int bl]]))))
 []
 else K (AV.one (SV.bool false)) []) ∧
 p.length ≤ (1000000000 : Nat) ∧
 (p.all wfN = true ∧
 [[D.bool ab, D.int aa, D.int al]].all wfE = true ∧
 [[D.bool ab, D.int aa, D.int al]].length ≤ (1000000000 : Nat)) ∧
 bif
 mvE p
 [[D.bool ab, D.int aa, D.int al], [D.bool bb, D.int ba, D.int bl]] !=
 (0 : Int) then
 K (AV.one (SV.bool false)) []
 else
 bif mvE p [[D.bool ab, D.int aa, D.int al]] != (0 : Int) then
 K (AV.one (SV.bool false)) []
 else
 bif
 decide
 ((↑(mvR p [[D.bool ab, D.int aa, D.int al]]).length : Int) >
 (↑p.length : Int)) then
 K (AV.one (SV.bool false)) []
 else
 bif
 decide
 ((↑(mvR p
 [[D.bool ab, D.int aa, D.int al],
 [D.bool bb, D.int ba, D.int bl]]).length :
 Int) >
 (↑(mvR p [[D.bool ab, D.int aa, D.int al]]).length : Int)) then
 K (AV.one (SV.bool false)) []
 else
 bif
 nrE (mvR p [[D.bool ab, D.int aa, D.int al]])
 [[D.bool bb, D.int ba, D.int bl]] !=
 (0 : Int) then
 K (AV.one (SV.bool true)) []
 else
 ((mvR p [[D.bool ab, D.int aa, D.int al]]).all wfN = true ∧
 [[D.bool bb, D.int ba, D.int bl]].all wfE = true ∧
 [[D.bool bb, D.int ba, D.int bl]].length ≤
 (1000000000 : Nat)) ∧
 bif
 mvE (mvR p [[D.bool ab, D.int aa, D.int al]])
 [[D.bool bb, D.int ba, D.int bl]] ==
 (0 : Int) then
 (mvR (mvR p [[D.bool ab, D.int aa, D.int al]])
 [[D.bool bb, D.int ba, D.int bl]]).length ≤
 (1000000000 : Nat) ∧
 K
 (AV.one
 (SV.bool
 (sameG
 (mvR (mvR p [[D.bool ab, D.int aa, D.int al]])
 [[D.bool bb, D.int ba, D.int bl]])
 (mvR p
 [[D.bool ab, D.int aa, D.int al],
 [D.bool bb, D.int ba, D.int bl]]))))
 []
 else K (AV.one (SV.bool false)) []) ∧
 p.length ≤ (1000000000 : Nat) ∧
 (p.all wfN = true ∧
 [[D.bool false, D.int aa, D.int al]].all wfE = true ∧
 [[D.bool false, D.int aa, D.int al]].length ≤ (1000000000 : Nat)) ∧
 bif mvE p [[D.bool false, D.int aa, D.int al]] != (0 : Int) then K (AV.one (SV.bool false)) []
 else
 bif
 decide
 ((↑(mvR p [[D.bool false, D.int aa, D.int al]]).length : Int) > (↑p.length : Int)) then
 K (AV.one (SV.bool false)) []
 else
 (p.length ≤ (1000 : Nat) ∧
 (mvR p [[D.bool false, D.int aa, D.int al]]).length ≤ (1000 : Nat) ∧
 p.all (okN1 (1000000 : Int)) = true ∧
 (0 : Int) ≤ (0 : Int) ∧
 (0 : Int) ≤ (↑(mvR p [[D.bool false, D.int aa, D.int al]]).length : Int) ∧
 (0 : Int) ≤ (0 : Int) ∧
 (0 : Int) ≤ (↑p.length : Int) ∧
 folB aa (mvR p [[D.bool false, D.int aa, D.int al]]) (0 : Int) p = true) ∧
 (p.length ≤ (1000000000 : Nat) ∧
 (p.all wfN = true ∧
 [[D.bool ab, D.int aa, D.int al], [D.bool bb, D.int ba, D.int bl]].all wfE =
 true ∧
 [[D.bool ab, D.int aa, D.int al], [D.bool bb, D.int ba, D.int bl]].length ≤
 (1000000000 : Nat)) ∧
 (p.length ≤ (1000000000 : Nat) ∧
 (p.all wfN = true ∧
 [[D.bool ab, D.int aa, D.int al]].all wfE = true ∧
 [[D.bool ab, D.int aa, D.int al]].length ≤ (1000000000 : Nat)) ∧
 bif
 mvE p
 [[D.bool ab, D.int aa, D.int al], [D.bool bb, D.int ba, D.int bl]] !=
 (0 : Int) then
 K (AV.one (SV.bool false)) []
 else
 bif mvE p [[D.bool ab, D.int aa, D.int al]] != (0 : Int) then
 K (AV.one (SV.bool false)) []
 else
 bif
 decide
 ((↑(mvR p [[D.bool ab, D.int aa, D.int al]]).length : Int) >
 (↑p.length : Int)) then
 K (AV.one (SV.bool false)) []
 else
 bif
 decide
 ((↑(mvR p
 [[D.bool ab, D.int aa, D.int al],
 [D.bool bb, D.int ba, D.int bl]]).length :
 Int) >
 (↑(mvR p [[D.bool ab, D.int aa, D.int al]]).length : Int)) then
 K (AV.one (SV.bool false)) []
 else
 bif
 nrE (mvR p [[D.bool ab, D.int aa, D.int al]])
 [[D.bool bb, D.int ba, D.int bl]] !=
 (0 : Int) then
 K (AV.one (SV.bool true)) []
 else
 ((mvR p [[D.bool ab, D.int aa, D.int al]]).all wfN = true ∧
 [[D.bool bb, D.int ba, D.int bl]].all wfE = true ∧
 [[D.bool bb, D.int ba, D.int bl]].length ≤
 (1000000000 : Nat)) ∧
 bif
 mvE (mvR p [[D.bool ab, D.int aa, D.int al]])
 [[D.bool bb, D.int ba, D.int bl]] ==
 (0 : Int) then
 (mvR (mvR p [[D.bool ab, D.int aa, D.int al]])
 [[D.bool bb, D.int ba, D.int bl]]).length ≤
 (1000000000 : Nat) ∧
 K
 (AV.one
 (SV.bool
 (sameG
 (mvR (mvR p [[D.bool ab, D.int aa, D.int al]])
 [[D.bool bb, D.int ba, D.int bl]])
 (mvR p
 [[D.bool ab, D.int aa, D.int al],
 [D.bool bb, D.int ba, D.int bl]]))))
 []
 else K (AV.one (SV.bool false)) []) ∧
 p.length ≤ (1000000000 : Nat) ∧
 (p.all wfN = true ∧
 [[D.bool ab, D.int aa, D.int al]].all wfE = true ∧
 [[D.bool ab, D.int aa, D.int al]].length ≤ (1000000000 : Nat)) ∧
 bif
 mvE p
 [[D.bool ab, D.int aa, D.int al], [D.bool bb, D.int ba, D.int bl]] !=
 (0 : Int) then
 K (AV.one (SV.bool false)) []
 else
 bif mvE p [[D.bool ab, D.int aa, D.int al]] != (0 : Int) then
 K (AV.one (SV.bool false)) []
 else
 bif
 decide
 ((↑(mvR p [[D.bool ab, D.int aa, D.int al]]).length : Int) >
 (↑p.length : Int)) then
 K (AV.one (SV.bool false)) []
 else
 bif
 decide
 ((↑(mvR p
 [[D.bool ab, D.int aa, D.int al],
 [D.bool bb, D.int ba, D.int bl]]).length :
 Int) >
 (↑(mvR p [[D.bool ab, D.int aa, D.int al]]).length : Int)) then
 K (AV.one (SV.bool false)) []
 else
 bif
 nrE (mvR p [[D.bool ab, D.int aa, D.int al]])
 [[D.bool bb, D.int ba, D.int bl]] !=
 (0 : Int) then
 K (AV.one (SV.bool true)) []
 else
 ((mvR p [[D.bool ab, D.int aa, D.int al]]).all wfN = true ∧
 [[D.bool bb, D.int ba, D.int bl]].all wfE = true ∧
 [[D.bool bb, D.int ba, D.int bl]].length ≤
 (1000000000 : Nat)) ∧
 bif
 mvE (mvR p [[D.bool ab, D.int aa, D.int al]])
 [[D.bool bb, D.int ba, D.int bl]] ==
 (0 : Int) then
 (mvR (mvR p [[D.bool ab, D.int aa, D.int al]])
 [[D.bool bb, D.int ba, D.int bl]]).length ≤
 (1000000000 : Nat) ∧
 K
 (AV.one
 (SV.bool
 (sameG
 (mvR (mvR p [[D.bool ab, D.int aa, D.int al]])
 [[D.bool bb, D.int ba, D.int bl]])
 (mvR p
 [[D.bool ab, D.int aa, D.int al],
 [D.bool bb, D.int ba, D.int bl]]))))
 []
 else K (AV.one (SV.bool false)) []) ∧
 p.length ≤ (1000000000 : Nat) ∧
 (p.all wfN = true ∧
 [[D.bool ab, D.int aa, D.int al], [D.bool bb, D.int ba, D.int bl]].all wfE =
 true ∧
 [[D.bool ab, D.int aa, D.int al], [D.bool bb, D.int ba, D.int bl]].length ≤
 (1000000000 : Nat)) ∧
 (p.length ≤ (1000000000 : Nat) ∧
 (p.all wfN = true ∧
 [[D.bool ab, D.int aa, D.int al]].all wfE = true ∧
 [[D.bool ab, D.int aa, D.int al]].length ≤ (1000000000 : Nat)) ∧
 bif
 mvE p
 [[D.bool ab, D.int aa, D.int al], [D.bool bb, D.int ba, D.int bl]] !=
 (0 : Int) then
 K (AV.one (SV.bool false)) []
 else
 bif mvE p [[D.bool ab, D.int aa, D.int al]] != (0 : Int) then
 K (AV.one (SV.bool false)) []
 else
 bif
 decide
 ((↑(mvR p [[D.bool ab, D.int aa, D.int al]]).length : Int) >
 (↑p.length : Int)) then
 K (AV.one (SV.bool false)) []
 else
 bif
 decide
 ((↑(mvR p
 [[D.bool ab, D.int aa, D.int al],
 [D.bool bb, D.int ba, D.int bl]]).length :
 Int) >
 (↑(mvR p [[D.bool ab, D.int aa, D.int al]]).length : Int)) then
 K (AV.one (SV.bool false)) []
 else
 bif
 nrE (mvR p [[D.bool ab, D.int aa, D.int al]])
 [[D.bool bb, D.int ba, D.int bl]] !=
 (0 : Int) then
 K (AV.one (SV.bool true)) []
 else
 ((mvR p [[D.bool ab, D.int aa, D.int al]]).all wfN = true ∧
 [[D.bool bb, D.int ba, D.int bl]].all wfE = true ∧
 [[D.bool bb, D.int ba, D.int bl]].length ≤
 (1000000000 : Nat)) ∧
 bif
 mvE (mvR p [[D.bool ab, D.int aa, D.int al]])
 [[D.bool bb, D.int ba, D.int bl]] ==
 (0 : Int) then
 (mvR (mvR p [[D.bool ab, D.int aa, D.int al]])
 [[D.bool bb, D.int ba, D.int bl]]).length ≤
 (1000000000 : Nat) ∧
 K
 (AV.one
 (SV.bool
 (sameG
 (mvR (mvR p [[D.bool ab, D.int aa, D.int al]])
 [[D.bool bb, D.int ba, D.int bl]])
 (mvR p
 [[D.bool ab, D.int aa, D.int al],
 [D.bool bb, D.int ba, D.int bl]]))))
 []
 else K (AV.one (SV.bool false)) []) ∧
 p.length ≤ (1000000000 : Nat) ∧
 (p.all wfN = true ∧
 [[D.bool ab, D.int aa, D.int al]].all wfE = true ∧
 [[D.bool ab, D.int aa, D.int al]].length ≤ (1000000000 : Nat)) ∧
 bif
 mvE p
 [[D.bool ab, D.int aa, D.int al], [D.bool bb, D.int ba, D.int bl]] !=
 (0 : Int) then
 K (AV.one (SV.bool false)) []
 else
 bif mvE p [[D.bool ab, D.int aa, D.int al]] != (0 : Int) then
 K (AV.one (SV.bool false)) []
 else
 bif
 decide
 ((↑(mvR p [[D.bool ab, D.int aa, D.int al]]).length : Int) >
 (↑p.length : Int)) then
 K (AV.one (SV.bool false)) []
 else
 bif
 decide
 ((↑(mvR p
 [[D.bool ab, D.int aa, D.int al],
 [D.bool bb, D.int ba, D.int bl]]).length :
 Int) >
 (↑(mvR p [[D.bool ab, D.int aa, D.int al]]).length : Int)) then
 K (AV.one (SV.bool false)) []
 else
 bif
 nrE (mvR p [[D.bool ab, D.int aa, D.int al]])
 [[D.bool bb, D.int ba, D.int bl]] !=
 (0 : Int) then
 K (AV.one (SV.bool true)) []
 else
 ((mvR p [[D.bool ab, D.int aa, D.int al]]).all wfN = true ∧
 [[D.bool bb, D.int ba, D.int bl]].all wfE = true ∧
 [[D.bool bb, D.int ba, D.int bl]].length ≤
 (1000000000 : Nat)) ∧
 bif
 mvE (mvR p [[D.bool ab, D.int aa, D.int al]])
 [[D.bool bb, D.int ba, D.int bl]] ==
 (0 : Int) then
 (mvR (mvR p [[D.bool ab, D.int aa, D.int al]])
 [[D.bool bb, D.int ba, D.int bl]]).length ≤
 (1000000000 : Nat) ∧
 K
 (AV.one
 (SV.bool
 (sameG
 (mvR (mvR p [[D.bool ab, D.int aa, D.int al]])
 [[D.bool bb, D.int ba, D.int bl]])
 (mvR p
 [[D.bool ab, D.int aa, D.int al],
 [D.bool bb, D.int ba, D.int bl]]))))
 []
 else K (AV.one (SV.bool false)) []) := by kernel_rfl
theorem exfoll0a (p y : List (List D)) (n i : Int) (ab : Bool) (aa al : Int) (bb : Bool) (ba bl : Int) (K : Ex → List AV → List Blk → Prop) : evBody Efol (lb Tryd.f14 0) [0, 4, 5, 11, 13, 14] [0, 4, 5, 6] [.one (.data (.recs [.int .i64, .int .i64, .str] p)), .one (.ptr 0 1 0 0), .one (.ptr 1 1 0 0), .one (.data (.recs [.int .i64, .int .i64, .str] y)), .one (.int .i64 n), .one (.int .i64 i)] [.cells [.bool ab, .int .i64 aa, .int .i64 al], .cells [.bool bb, .int .i64 ba, .int .i64 bl]] K = (
 bif decide (i < (↑p.length : Int)) then
 bif decide ((0 : Int) ≤ i) && decide (i < (↑p.length : Int)) then
 bif decide ((0 : Nat) < (3 : Nat)) && decide (i.toNat < p.length) then
 bif decide ((0 : Int) ≤ i) && decide (i < (↑p.length : Int)) then
 bif decide ((1 : Nat) < (3 : Nat)) && decide (i.toNat < p.length) then
 bif
 decide
 (IntKind.i64.wrap
 (((p.getD i.toNat []).getD (0 : Nat) (D.int (0 : Int))).toInt +
 ((p.getD i.toNat []).getD (1 : Nat) (D.int (0 : Int))).toInt) >
 aa) then
 K Ex.normal
 [AV.one (SV.data (Row.recs [CK.int IntKind.i64, CK.int IntKind.i64, CK.str] p)),
 AV.one (SV.ptr (0 : Nat) (1 : Nat) (0 : Nat) (0 : Nat)),
 AV.one (SV.ptr (1 : Nat) (1 : Nat) (0 : Nat) (0 : Nat)),
 AV.one (SV.data (Row.recs [CK.int IntKind.i64, CK.int IntKind.i64, CK.str] y)),
 AV.one (SV.int IntKind.i64 n), AV.one (SV.int IntKind.i64 (IntKind.i64.wrap (i + (1 : Int))))]
 [Blk.cells [SV.bool ab, SV.int IntKind.i64 aa, SV.int IntKind.i64 al],
 Blk.cells [SV.bool bb, SV.int IntKind.i64 ba, SV.int IntKind.i64 bl]]
 else
 bif decide ((0 : Int) ≤ i) && decide (i < (↑p.length : Int)) then
 bif decide ((0 : Nat) < (3 : Nat)) && decide (i.toNat < p.length) then
 bif decide (((p.getD i.toNat []).getD (0 : Nat) (D.int (0 : Int))).toInt ≥ aa) then
 K Ex.normal
 [AV.one (SV.data (Row.recs [CK.int IntKind.i64, CK.int IntKind.i64, CK.str] p)),
 AV.one (SV.ptr (0 : Nat) (1 : Nat) (0 : Nat) (0 : Nat)),
 AV.one (SV.ptr (1 : Nat) (1 : Nat) (0 : Nat) (0 : Nat)),
 AV.one (SV.data (Row.recs [CK.int IntKind.i64, CK.int IntKind.i64, CK.str] y)),
 AV.one (SV.int IntKind.i64 n), AV.one (SV.int IntKind.i64 (IntKind.i64.wrap (i + (1 : Int))))]
 [Blk.cells [SV.bool ab, SV.int IntKind.i64 aa, SV.int IntKind.i64 al],
 Blk.cells [SV.bool bb, SV.int IntKind.i64 ba, SV.int IntKind.i64 bl]]
 else
 (y.length ≤ (1000 : Nat) ∧
 (0 : Int) ≤ n ∧ n ≤ (↑y.length : Int) ∧ (0 : Int) ≤ i ∧ i < (↑p.length : Int)) ∧
 bif idxN (p.getD i.toNat []) n (List.drop n.toNat y) == (↑y.length : Int) then
 K Ex.ret
 [AV.one (SV.data (Row.recs [CK.int IntKind.i64, CK.int IntKind.i64, CK.str] p)),
 AV.one (SV.ptr (0 : Nat) (1 : Nat) (0 : Nat) (0 : Nat)),
 AV.one (SV.ptr (1 : Nat) (1 : Nat) (0 : Nat) (0 : Nat)), AV.one (SV.bool false)]
 [Blk.cells [SV.bool ab, SV.int IntKind.i64 aa, SV.int IntKind.i64 al],
 Blk.cells [SV.bool bb, SV.int IntKind.i64 ba, SV.int IntKind.i64 bl]]
 else
 K Ex.normal
 [AV.one (SV.data (Row.recs [CK.int IntKind.i64, CK.int IntKind.i64, CK.str] p)),
 AV.one (SV.ptr (0 : Nat) (1 : Nat) (0 : Nat) (0 : Nat)),
 AV.one (SV.ptr (1 : Nat) (1 : Nat) (0 : Nat) (0 : Nat)),
 AV.one (SV.data (Row.recs [CK.int IntKind.i64, CK.int IntKind.i64, CK.str] y)),
 AV.one
 (SV.int IntKind.i64
 (IntKind.i64.wrap (idxN (p.getD i.toNat []) n (List.drop n.toNat y) + (1 : Int)))),
 AV.one (SV.int IntKind.i64 (IntKind.i64.wrap (i + (1 : Int))))]
 [Blk.cells [SV.bool ab, SV.int IntKind.i64 aa, SV.int IntKind.i64 al],
 Blk.cells [SV.bool bb, SV.int IntKind.i64 ba, SV.int IntKind.i64 bl]]
 else False
 else False
 else False
 else False
 else False
 else False
 else
 K (Ex.exit (0 : Nat))
 [AV.one (SV.data (Row.recs [CK.int IntKind.i64, CK.int IntKind.i64, CK.str] p)),
 AV.one (SV.ptr (0 : Nat) (1 : Nat) (0 : Nat) (0 : Nat)), AV.one (SV.ptr (1 : Nat) (1 : Nat) (0 : Nat) (0 : Nat)),
 AV.any]
 [Blk.cells [SV.bool ab, SV.int IntKind.i64 aa, SV.int IntKind.i64 al],
 Blk.cells [SV.bool bb, SV.int IntKind.i64 ba, SV.int IntKind.i64 bl]]) := by kernel_rfl
theorem exfoll1a (p y : List (List D)) (n i : Int) (ab : Bool) (aa al : Int) (bb : Bool) (ba bl : Int) (K : Ex → List AV → List Blk → Prop) : evBody Efol (lb Tryd.f14 1) [0, 4, 5, 11, 13, 14] [0, 4, 5, 11, 13, 14] [.one (.data (.recs [.int .i64, .int .i64, .str] p)), .one (.ptr 0 1 0 0), .one (.ptr 1 1 0 0), .one (.data (.recs [.int .i64, .int .i64, .str] y)), .one (.int .i64 n), .one (.int .i64 i)] [.cells [.bool ab, .int .i64 aa, .int .i64 al], .cells [.bool bb, .int .i64 ba, .int .i64 bl]] K = (
 bif decide (n < (↑y.length : Int)) then
 bif decide ((0 : Int) ≤ n) && decide (n < (↑y.length : Int)) then
 bif decide ((2 : Nat) < (3 : Nat)) && decide (n.toNat < y.length) then
 bif decide ((0 : Int) ≤ i) && decide (i < (↑p.length : Int)) then
 bif decide ((2 : Nat) < (3 : Nat)) && decide (i.toNat < p.length) then
 bif
 !(((y.getD n.toNat []).getD (0 : Nat) (D.int (0 : Int))).toInt ==
 ((p.getD i.toNat []).getD (0 : Nat) (D.int (0 : Int))).toInt &&
 (((y.getD n.toNat []).getD (1 : Nat) (D.int (0 : Int))).toInt ==
 ((p.getD i.toNat []).getD (1 : Nat) (D.int (0 : Int))).toInt &&
 ((y.getD n.toNat []).getD (2 : Nat) (D.int (0 : Int))).toStr ==
 ((p.getD i.toNat []).getD (2 : Nat) (D.int (0 : Int))).toStr)) then
 K Ex.normal
 [AV.one (SV.data (Row.recs [CK.int IntKind.i64, CK.int IntKind.i64, CK.str] p)),
 AV.one (SV.ptr (0 : Nat) (1 : Nat) (0 : Nat) (0 : Nat)),
 AV.one (SV.ptr (1 : Nat) (1 : Nat) (0 : Nat) (0 : Nat)),
 AV.one (SV.data (Row.recs [CK.int IntKind.i64, CK.int IntKind.i64, CK.str] y)),
 AV.one (SV.int IntKind.i64 (IntKind.i64.wrap (n + (1 : Int)))), AV.one (SV.int IntKind.i64 i)]
 [Blk.cells [SV.bool ab, SV.int IntKind.i64 aa, SV.int IntKind.i64 al],
 Blk.cells [SV.bool bb, SV.int IntKind.i64 ba, SV.int IntKind.i64 bl]]
 else
 K (Ex.exit (2 : Nat))
 [AV.one (SV.data (Row.recs [CK.int IntKind.i64, CK.int IntKind.i64, CK.str] p)),
 AV.one (SV.ptr (0 : Nat) (1 : Nat) (0 : Nat) (0 : Nat)),
 AV.one (SV.ptr (1 : Nat) (1 : Nat) (0 : Nat) (0 : Nat)),
 AV.one (SV.data (Row.recs [CK.int IntKind.i64, CK.int IntKind.i64, CK.str] y)),
 AV.one (SV.int IntKind.i64 n), AV.one (SV.int IntKind.i64 i)]
 [Blk.cells [SV.bool ab, SV.int IntKind.i64 aa, SV.int IntKind.i64 al],
 Blk.cells [SV.bool bb, SV.int IntKind.i64 ba, SV.int IntKind.i64 bl]]
 else False
 else False
 else False
 else False
 else
 K (Ex.exit (2 : Nat))
 [AV.one (SV.data (Row.recs [CK.int IntKind.i64, CK.int IntKind.i64, CK.str] p)),
 AV.one (SV.ptr (0 : Nat) (1 : Nat) (0 : Nat) (0 : Nat)), AV.one (SV.ptr (1 : Nat) (1 : Nat) (0 : Nat) (0 : Nat)),
 AV.one (SV.data (Row.recs [CK.int IntKind.i64, CK.int IntKind.i64, CK.str] y)), AV.one (SV.int IntKind.i64 n),
 AV.one (SV.int IntKind.i64 i)]
 [Blk.cells [SV.bool ab, SV.int IntKind.i64 aa, SV.int IntKind.i64 al],
 Blk.cells [SV.bool bb, SV.int IntKind.i64 ba, SV.int IntKind.i64 bl]]) := by kernel_rfl
end Go.Ev

namespace Go.Ev
open Go Go.Proofs
set_option maxRecDepth 20000

theorem eqN_refl (d : List D) : eqN d d = true := by unfold eqN; simp
theorem aft_low {n xa xl : Int} (h : n ≤ xa) (hl : 1 ≤ xl) : aftG n xa xl = n := by unfold aftG; split <;> split <;> omega
theorem aft_high {n xa xl : Int} (h : xa + xl ≤ n) (hl : 1 ≤ xl) : aftG n xa xl = n - xl := by unfold aftG; split <;> split <;> omega
theorem ins_cut {a l xa xl : Int} (h0 : 0 ≤ a) (h1 : 0 ≤ l) (hx : okX3 xa xl) :
    cutK (mvA true a l xa xl) (mvL true a l xa xl) xa xl = true ∧ mvA false (mvA true a l xa xl) (mvL true a l xa xl) xa xl = a ∧ mvL false (mvA true a l xa xl) (mvL true a l xa xl) xa xl = l := by
  obtain ⟨x0, x1, x2, x3⟩ := hx
  by_cases h : xa ≤ a
  · have e1 : mvA true a l xa xl = a + xl := by unfold mvA; rw [cond_true, decide_eq_true h, cond_true]
    have e2 : mvL true a l xa xl = l := by unfold mvL; rw [cond_true, decide_eq_true h, cond_true]
    rw [e1, e2]
    have c : cutK (a + xl) l xa xl = true := by unfold cutK; rw [decide_eq_false (show ¬ a + xl < xa + xl by omega), Bool.false_and, Bool.and_false]; rfl
    refine ⟨c, ?_, ?_⟩
    · unfold mvA; rw [c, cond_false, cond_true, aft_high (by omega) x2]; omega
    · unfold mvL; rw [c, cond_false, cond_true, aft_high (by omega) x2, aft_high (by omega) x2]; omega
  · have e1 : mvA true a l xa xl = a := by unfold mvA; rw [cond_true, decide_eq_false h, cond_false]
    have c : ∀ m, cutK a m xa xl = true := fun m => by unfold cutK; rw [decide_eq_false h, Bool.false_and]; rfl
    by_cases h2 : xa < a + l
    · have e2 : mvL true a l xa xl = l + xl := by unfold mvL; rw [cond_true, decide_eq_false h, cond_false, decide_eq_true h2, cond_true]
      rw [e1, e2]
      refine ⟨c _, ?_, ?_⟩
      · unfold mvA; rw [c, cond_false, cond_true, aft_low (by omega) x2]
      · unfold mvL; rw [c, cond_false, cond_true, aft_high (by omega) x2, aft_low (by omega) x2]; omega
    · have e2 : mvL true a l xa xl = l := by unfold mvL; rw [cond_true, decide_eq_false h, cond_false, decide_eq_false h2, cond_false]
      rw [e1, e2]
      refine ⟨c _, ?_, ?_⟩
      · unfold mvA; rw [c, cond_false, cond_true, aft_low (by omega) x2]
      · unfold mvL; rw [c, cond_false, cond_true, aft_low (by omega) x2, aft_low (by omega) x2]; omega
theorem movD_back {B xa xl : Int} (hx : okX3 xa xl) {d : List D} (hd : okN1 B d = true) : movL false xa xl (movD true xa xl d) = [d] := by
  obtain ⟨a, l, t, rfl, h1, _, h3, _⟩ := okN1_form hd
  obtain ⟨c1, c2, c3⟩ := ins_cut h1 h3 hx
  show movL false xa xl [[.int (mvA true a l xa xl), .int (mvL true a l xa xl), .str t]] = _
  show (bif cutK (mvA true a l xa xl) (mvL true a l xa xl) xa xl then [[D.int (mvA false (mvA true a l xa xl) (mvL true a l xa xl) xa xl), D.int (mvL false (mvA true a l xa xl) (mvL true a l xa xl) xa xl), D.str t]] else []) ++ [] = _
  rw [c1, c2, c3]
  rfl
theorem movL_app (b : Bool) (xa xl : Int) (p q : List (List D)) : movL b xa xl (p ++ q) = movL b xa xl p ++ movL b xa xl q := by unfold movL; exact List.flatMap_append
theorem movL_back {B xa xl : Int} (hx : okX3 xa xl) : ∀ {p : List (List D)}, p.all (okN1 B) = true → movL false xa xl (movL true xa xl p) = p
  | [], _ => rfl
  | d :: p, h => by
    rw [List.all_cons, Bool.and_eq_true] at h
    show movL false xa xl (movD true xa xl d ++ movL true xa xl p) = _
    rw [movL_app, movD_back hx h.1, movL_back hx h.2]
    rfl
theorem movD_ahead {B xa xl : Int} {d : List D} (hd : okN1 B d = true) (h : ahead xa d = true) (hl : 1 ≤ xl) : movD false xa xl d = [d] := by
  obtain ⟨a, l, t, rfl, h1, _, h3, _⟩ := okN1_form hd
  unfold ahead at h
  rw [Bool.and_eq_true, decide_eq_true_eq, decide_eq_true_eq] at h
  obtain ⟨h4, h5⟩ := h
  have h4 : a + l ≤ xa := h4
  have h5 : a < xa := h5
  have c : cutK a l xa xl = true := by unfold cutK; rw [decide_eq_false (show ¬ xa ≤ a by omega), Bool.false_and]; rfl
  have e1 : mvA false a l xa xl = a := by unfold mvA; rw [c, cond_false, cond_true, aft_low (by omega) hl]
  have e2 : mvL false a l xa xl = l := by unfold mvL; rw [c, cond_false, cond_true, aft_low (by omega) hl, aft_low (by omega) hl]; omega
  show (bif cutK a l xa xl then [[D.int (mvA false a l xa xl), D.int (mvL false a l xa xl), D.str t]] else []) = _
  rw [c, e1, e2]
  rfl
theorem idxN_le (d : List D) : ∀ (z rest : List (List D)) (k : Int), k ≤ idxN d k (z ++ d :: rest) ∧ idxN d k (z ++ d :: rest) ≤ k + z.length
  | [], rest, k => by
    show k ≤ (bif eqN d d then k else _) ∧ (bif eqN d d then k else _) ≤ _
    rw [eqN_refl]
    simp
  | e :: z, rest, k => by
    have ih := idxN_le d z rest (k + 1)
    show k ≤ (bif eqN e d then k else idxN d (k + 1) (z ++ d :: rest)) ∧ (bif eqN e d then k else idxN d (k + 1) (z ++ d :: rest)) ≤ _
    cases eqN e d with
    | true => rw [cond_true, List.length_cons]; omega
    | false => rw [cond_false, List.length_cons]; omega
theorem fol_ok {B xa xl : Int} (hl : 1 ≤ xl) : ∀ (p y1 : List (List D)) (k : Int), p.all (okN1 B) = true → 0 ≤ k → k ≤ y1.length → folB xa (y1 ++ movL false xa xl p) k p = true
  | [], _, _, _, _, _ => rfl
  | d :: p, y1, k, h, h0, h1 => by
    rw [List.all_cons, Bool.and_eq_true] at h
    have e : movL false xa xl (d :: p) = movD false xa xl d ++ movL false xa xl p := rfl
    unfold folB
    cases ha : ahead xa d with
    | false =>
      rw [cond_false, e, ← List.append_assoc]
      exact fol_ok hl p _ k h.2 h0 (by rw [List.length_append]; omega)
    | true =>
      rw [cond_true, e, movD_ahead h.1 ha hl]
      have hd : (y1 ++ ([d] ++ movL false xa xl p)).drop k.toNat = y1.drop k.toNat ++ d :: movL false xa xl p := by
        rw [List.drop_append_of_le_length (by omega)]
        rfl
      obtain ⟨i1, i2⟩ := idxN_le d (y1.drop k.toNat) (movL false xa xl p) k
      rw [hd]
      rw [List.length_drop] at i2
      have i3 : idxN d k (y1.drop k.toNat ++ d :: movL false xa xl p) ≤ y1.length := by omega
      rw [decide_eq_true (by simp only [List.length_append, List.length_cons, List.length_nil]; omega), Bool.true_and]
      have ih := fol_ok (xa := xa) hl p (y1 ++ [d]) (idxN d k (y1.drop k.toNat ++ d :: movL false xa xl p) + 1) h.2 (by omega) (by simp only [List.length_append, List.length_cons, List.length_nil]; omega)
      rw [List.append_assoc] at ih
      exact ih
end Go.Ev

namespace Go.Ev
open Go Go.Proofs
attribute [local irreducible] evFn evBody evRound
set_option maxRecDepth 20000

theorem idxN_ge (d : List D) : ∀ (l : List (List D)) (k : Int), k ≤ idxN d k l ∧ idxN d k l ≤ k + l.length
  | [], k => by show k ≤ k ∧ k ≤ k + 0; omega
  | e :: l, k => by
    have ih := idxN_ge d l (k + 1)
    show k ≤ (bif eqN e d then k else idxN d (k + 1) l) ∧ (bif eqN e d then k else idxN d (k + 1) l) ≤ _
    cases eqN e d with
    | true => rw [cond_true, List.length_cons]; omega
    | false => rw [cond_false, List.length_cons]; omega
theorem mvE_0 {p q : List (List D)} (hn : notE p = 0) (hl : (q.length : Int) ≤ 20) (ha : q.any oddD = false) : mvE p q = 0 := by
  unfold mvE edE
  rw [hn, decide_eq_true hl, ha]
  rfl
theorem mvR_0 {p q : List (List D)} (h : mvE p q = 0) : mvR p q = movA p q := by unfold mvR; rw [h]; rfl
theorem wfN_of1 {B : Int} {p : List (List D)} (h : p.all (okN1 B) = true) : p.all wfN = true := by
  rw [List.all_eq_true] at h ⊢
  intro d hd
  obtain ⟨a, l, t, rfl, -⟩ := okN1_form (h d hd)
  rfl
theorem lokfol_1 : LoopOK Efol (lb Tryd.f14 1) [0, 4, 5, 11, 13, 14] [0, 4, 5, 11, 13, 14] fwI := by
  refine loopOK (.cons okawk (.cons oknre (.cons okcpnD (.cons okmvD (.cons oksnt .nil))))) (noInner (by kernel_rfl)) (fun vs σ => match vs, σ with
    | [.one (.data (.recs [.int .i64, .int .i64, .str] _)), .one (.ptr 0 1 0 0), .one (.ptr 1 1 0 0), .one (.data (.recs [.int .i64, .int .i64, .str] y)), .one (.int .i64 n), .one (.int .i64 _)], [.cells [.bool _, .int .i64 _, .int .i64 _], .cells [.bool _, .int .i64 _, .int .i64 _]] => (y.length - n).toNat
    | _, _ => 0) fun vs σ k h => ?_
  unfold fwI at h
  split at h
  rotate_right
  · exact h.elim
  · rename_i p y n i ab aa al bb ba bl
    rw [exfoll1a p y n i ab aa al bb ba bl _]
    obtain ⟨⟨h1, h2, h3, h4, h5⟩, h⟩ := h
    by_cases hn : n < (y.length : Int)
    · have hw : IntKind.i64.wrap (n + 1) = n + 1 := wrap_id (by omega) (by omega)
      rw [drop_step [] (show n.toNat < y.length by omega), show n.toNat + 1 = (n + 1).toNat by omega] at h
      rw [hw, decide_eq_true hn, decide_eq_true h2, decide_eq_true h4, decide_eq_true h5, decide_eq_true (show n.toNat < y.length by omega), decide_eq_true (show i.toNat < p.length by omega)]
      show cond (!eqN (y.getD n.toNat []) (p.getD i.toNat [])) _ _
      have h : k (.exit 2) [_, _, _, _, .one (.int .i64 (bif eqN (y.getD n.toNat []) (p.getD i.toNat []) then n else idxN (p.getD i.toNat []) (n + 1) (y.drop (n + 1).toNat))), _] _ := h
      cases he : eqN (y.getD n.toNat []) (p.getD i.toNat []) with
      | true => rw [he, cond_true] at h; exact h
      | false =>
        rw [he, cond_false] at h
        exact ⟨⟨⟨h1, by omega, by omega, h4, h5⟩, h⟩, by show ((y.length : Int) - (n + 1)).toNat < ((y.length : Int) - n).toNat; omega⟩
    · rw [decide_eq_false hn]
      rw [List.drop_eq_nil_of_le (show y.length ≤ n.toNat by omega)] at h
      exact h
theorem lokfol_0 : LoopOK Efol (lb Tryd.f14 0) [0, 4, 5, 11, 13, 14] [0, 4, 5, 6] fwO := by
  refine loopOK (.cons okawk (.cons oknre (.cons okcpnD (.cons okmvD (.cons oksnt .nil))))) (fun b' hb => by
    have hl : loopsOf (lb Tryd.f14 0) = [lb Tryd.f14 1] := by kernel_rfl
    rw [hl] at hb
    simp only [List.mem_cons, List.not_mem_nil, or_false] at hb
    subst hb
    exact loopHyp_of (key := 17) (by kernel_rfl) rfl lokfol_1) (fun vs σ => match vs, σ with
    | [.one (.data (.recs [.int .i64, .int .i64, .str] p)), .one (.ptr 0 1 0 0), .one (.ptr 1 1 0 0), .one (.data (.recs [.int .i64, .int .i64, .str] _)), .one (.int .i64 _), .one (.int .i64 i)], [.cells [.bool _, .int .i64 _, .int .i64 _], .cells [.bool _, .int .i64 _, .int .i64 _]] => (p.length - i).toNat
    | _, _ => 0) fun vs σ k h => ?_
  unfold fwO at h
  split at h
  rotate_right
  · exact h.elim
  · rename_i p y n i ab aa al bb ba bl
    rw [exfoll0a p y n i ab aa al bb ba bl _]
    obtain ⟨⟨h1, h2, h3, h4, h5, h6, h7, h8⟩, h⟩ := h
    by_cases hi : i < (p.length : Int)
    · have hw : IntKind.i64.wrap (i + 1) = i + 1 := wrap_id (by omega) (by omega)
      have hx := okN1_toI (List.all_eq_true.1 h3 _ (mem_getD (d := []) (show i.toNat < p.length by omega)))
      rw [drop_step [] (show i.toNat < p.length by omega), show i.toNat + 1 = (i + 1).toNat by omega] at h8
      have hw2 : IntKind.i64.wrap (toI (p.getD i.toNat []) 0 + toI (p.getD i.toNat []) 1) = toI (p.getD i.toNat []) 0 + toI (p.getD i.toNat []) 1 := wrap_id (by omega) (by omega)
      have h8 : (bif ahead aa (p.getD i.toNat []) then (decide (idxN (p.getD i.toNat []) n (y.drop n.toNat) < (y.length : Int)) && folB aa y (idxN (p.getD i.toNat []) n (y.drop n.toNat) + 1) (p.drop (i + 1).toNat)) else folB aa y n (p.drop (i + 1).toNat)) = true := h8
      have g : ∀ j, ((p.getD i.toNat []).getD j (D.int 0)).toInt = toI (p.getD i.toNat []) j := fun _ => rfl
      simp only [g]
      rw [hw, hw2, decide_eq_true hi, decide_eq_true h6, decide_eq_true (show i.toNat < p.length by omega)]
      have hm : ((p.length : Int) - (i + 1)).toNat < ((p.length : Int) - i).toNat := by omega
      by_cases c1 : toI (p.getD i.toNat []) 0 + toI (p.getD i.toNat []) 1 > aa
      · have ha : ahead aa (p.getD i.toNat []) = false := by unfold ahead; rw [decide_eq_false (by omega)]; rfl
        rw [ha, cond_false] at h8
        rw [decide_eq_true c1]
        exact ⟨⟨⟨h1, h2, h3, h4, h5, by omega, by omega, h8⟩, h⟩, hm⟩
      rw [decide_eq_false c1]
      by_cases c2 : toI (p.getD i.toNat []) 0 ≥ aa
      · have ha : ahead aa (p.getD i.toNat []) = false := by unfold ahead; rw [decide_eq_false (show ¬ toI (p.getD i.toNat []) 0 < aa by omega), Bool.and_false]
        rw [ha, cond_false] at h8
        rw [decide_eq_true c2]
        exact ⟨⟨⟨h1, h2, h3, h4, h5, by omega, by omega, h8⟩, h⟩, hm⟩
      rw [decide_eq_false c2]
      have ha : ahead aa (p.getD i.toNat []) = true := by unfold ahead; rw [decide_eq_true (by omega), decide_eq_true (by omega)]; rfl
      rw [ha, cond_true, Bool.and_eq_true, decide_eq_true_eq] at h8
      obtain ⟨h8, h9⟩ := h8
      obtain ⟨i1, -⟩ := idxN_ge (p.getD i.toNat []) (y.drop n.toNat) n
      refine ⟨⟨h2, h4, h5, h6, hi⟩, ?_⟩
      have hw3 : IntKind.i64.wrap (idxN (p.getD i.toNat []) n (y.drop n.toNat) + 1) = idxN (p.getD i.toNat []) n (y.drop n.toNat) + 1 := wrap_id (by omega) (by omega)
      rw [hw3, beq_eq_false_iff_ne.2 (show idxN (p.getD i.toNat []) n (y.drop n.toNat) ≠ (y.length : Int) by omega)]
      exact ⟨⟨⟨h1, h2, h3, by omega, by omega, by omega, by omega, h9⟩, h⟩, hm⟩
    · rw [decide_eq_false hi]
      exact h
theorem okfol : SpecOK Tryd.prog 14 lawFolS := by
  refine specOKd (n := 187) (m := 0) (lps := [(14, .spec [0, 4, 5, 11, 13, 14] [0, 4, 5, 6] fwO), (17, .spec [0, 4, 5, 11, 13, 14] [0, 4, 5, 11, 13, 14] fwI)]) [80] (.cons okawk (.cons oknre (.cons okcpnD (.cons okmvD (.cons oksnt .nil))))) Tryd.func14 (by kernel_rfl) (by kernel_rfl) (theLoops (n := 2) (by kernel_rfl) fun i hi => ?_) fun args σ K h => ?_
  · match i, hi with
    | 0, _ => exact loopHyp_of (key := 14) (by kernel_rfl) rfl lokfol_0
    | 1, _ => exact loopHyp_of (key := 17) (by kernel_rfl) rfl lokfol_1
  unfold lawFolS at h
  split at h
  rotate_right
  · exact h.elim
  rename_i p ab aa al bb ba bl
  rw [exfol p ab aa al bb ba bl K]
  obtain ⟨hp, h⟩ := h
  by_cases h1 : (p.length : Int) > 20
  · rw [decide_eq_true h1]; exact h
  rw [decide_eq_false h1]
  by_cases he : nrE p [[D.bool ab, D.int aa, D.int al], [D.bool bb, D.int ba, D.int bl]] = 0
  rotate_left
  · have c1 : (nrE p [[D.bool ab, D.int aa, D.int al], [D.bool bb, D.int ba, D.int bl]] != 0) = true := by rw [bne, beq_eq_false_iff_ne.2 he]; rfl
    rw [c1]; exact h
  have eAB : mvE p [[D.bool ab, D.int aa, D.int al], [D.bool bb, D.int ba, D.int bl]] = 0 := (nrE_mv p _).trans he
  obtain ⟨f1, f2⟩ := firstE2 eAB
  obtain ⟨n1, n2⟩ := notE_ok hp f1
  obtain ⟨-, d2⟩ := edE_ok (q := [[D.bool ab, D.int aa, D.int al], [D.bool bb, D.int ba, D.int bl]]) rfl f2
  have dA : okE1 [D.bool ab, D.int aa, D.int al] = true := List.all_eq_true.1 d2 _ (by simp)
  have dB : okE1 [D.bool bb, D.int ba, D.int bl] = true := List.all_eq_true.1 d2 _ (by simp)
  have xA : okX3 aa al := okE1_facts dA
  have xB : okX3 ba bl := okE1_facts dB
  have oA : oddG aa al = false := by
    have e : (true && !oddG aa al) = true := dA
    simpa using e
  have eIO : mvE p [[D.bool true, D.int aa, D.int al], [D.bool false, D.int aa, D.int al]] = 0 := mvE_0 f1 (by simp) (by show (oddG aa al || (oddG aa al || false)) = false; rw [oA]; rfl)
  have rIO : mvR p [[D.bool true, D.int aa, D.int al], [D.bool false, D.int aa, D.int al]] = p := by
    rw [mvR_0 eIO]
    exact movL_back xA n2
  have eO : mvE p [[D.bool false, D.int aa, D.int al]] = 0 := mvE_0 f1 (by simp) (by show (oddG aa al || false) = false; rw [oA]; rfl)
  have rO : mvR p [[D.bool false, D.int aa, D.int al]] = movL false aa al p := by rw [mvR_0 eO]; rfl
  have eA : mvE p [[D.bool ab, D.int aa, D.int al]] = 0 := mvE_0 f1 (by simp) (by show (oddG aa al || false) = false; rw [oA]; rfl)
  have rA : mvR p [[D.bool ab, D.int aa, D.int al]] = movL ab aa al p := by rw [mvR_0 eA]; rfl
  have rAB : mvR p [[D.bool ab, D.int aa, D.int al], [D.bool bb, D.int ba, D.int bl]] = movL bb ba bl (movL ab aa al p) := by rw [mvR_0 eAB]; rfl
  have l1 := movL_le false aa al p
  have l2 := movL_le ab aa al p
  have l3 := movL_le bb ba bl (movL ab aa al p)
  have hf : folB aa (movL false aa al p) 0 p = true := fol_ok (xa := aa) xA.2.2.1 p [] 0 n2 (by omega) (by simp)
  have hw : (movL ab aa al p).all wfN = true := wfN_of1 (movL_ok xA n2)
  have w1 : [[D.bool ab, D.int aa, D.int al], [D.bool bb, D.int ba, D.int bl]].all wfE = true := rfl
  have w2 : [[D.bool ab, D.int aa, D.int al]].all wfE = true := rfl
  have w3 : [[D.bool bb, D.int ba, D.int bl]].all wfE = true := rfl
  have w4 : [[D.bool true, D.int aa, D.int al], [D.bool false, D.int aa, D.int al]].all wfE = true := rfl
  have w5 : [[D.bool false, D.int aa, D.int al]].all wfE = true := rfl
  have k2 : ∀ x y : List D, [x, y].length ≤ 1000000000 := fun _ _ => by simp
  have k1 : ∀ x : List D, [x].length ≤ 1000000000 := fun _ => by simp
  have m0 : p.length ≤ 1000000000 := by omega
  have m1 : p.length ≤ 1000 := by omega
  have m2 : (movL false aa al p).length ≤ 1000 := by omega
  have m3 : decide (((movL false aa al p).length : Int) > (p.length : Int)) = false := decide_eq_false (by omega)
  have m4 : decide (((movL ab aa al p).length : Int) > (p.length : Int)) = false := decide_eq_false (by omega)
  have m5 : decide (((movL bb ba bl (movL ab aa al p)).length : Int) > ((movL ab aa al p).length : Int)) = false := decide_eq_false (by omega)
  have m6 : (movL bb ba bl (movL ab aa al p)).length ≤ 1000000000 := by omega
  have m7 : (0 : Int) ≤ ((movL false aa al p).length : Int) := by omega
  have m8 : (0 : Int) ≤ (p.length : Int) := by omega
  have m9 : (0 : Int) ≤ 0 := by omega
  simp only [he, eAB, eIO, rIO, eO, rO, eA, rA, rAB, bne_self_eq_false, cond_false]
  rw [sameG_refl p]
  by_cases hb : nrE (movL ab aa al p) [[D.bool bb, D.int ba, D.int bl]] = 0
  · have eB : mvE (movL ab aa al p) [[D.bool bb, D.int ba, D.int bl]] = 0 := (nrE_mv _ _).trans hb
    have rB : mvR (movL ab aa al p) [[D.bool bb, D.int ba, D.int bl]] = movL bb ba bl (movL ab aa al p) := by rw [mvR_0 eB]; rfl
    simp only [hb, eB, rB, bne_self_eq_false, cond_false, beq_self_eq_true, cond_true, sameG_refl, m0, m1, m2, m3, m4, m5, m6, m7, m8, m9, w1, w2, w3, w4, w5, k1, k2, hp, hw, hf, n2, h, Bool.not_true, and_self]
  · have c1 : (nrE (movL ab aa al p) [[D.bool bb, D.int ba, D.int bl]] != 0) = true := by rw [bne, beq_eq_false_iff_ne.2 hb]; rfl
    simp only [c1, bne_self_eq_false, cond_false, beq_self_eq_true, cond_true, sameG_refl, m0, m1, m2, m3, m4, m5, m6, m7, m8, m9, w1, w2, w3, w4, w5, k1, k2, hp, hw, hf, n2, h, Bool.not_true, and_self]
end Go.Ev
