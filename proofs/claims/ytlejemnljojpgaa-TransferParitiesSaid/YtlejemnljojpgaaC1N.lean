/-
  Chapter 1, contracts: the reference of unpacking.
-/
import Derived.Test.YtlejemnljojpgaaC1M
import Derived.KernelRfl
set_option linter.unusedVariables false
set_option linter.unusedSimpArgs false
namespace Go.Ev
open Go Go.Proofs
set_option maxRecDepth 20000

def copyIntsS : Spec := fun args σ K => match args, σ with
  | [.one (.data (.ints .i64 l))], [] => l.length ≤ 1000000000000 ∧ K (.one (.own 0 1)) [.row 3 (.ints .i64 l)]
  | _, _ => False
def areBitsL : LSpec := fun vs σ k => match vs, σ with
  | [.one (.data (.ints .i64 l)), .one (.int .i64 i)], [] =>
    (l.length ≤ 1000000000 ∧ 0 ≤ i) ∧ bif (l.drop i.toNat).any oddB then k .ret [.one (.bool false)] [] else k (.exit 0) [.any] []
  | _, _ => False
def areBitsS : Spec := fun args σ K => match args, σ with
  | [.one (.data (.ints .i64 l))], [] => l.length ≤ 1000000000 ∧ K (.one (.bool (!l.any oddB))) []
  | _, _ => False
def numberL : LSpec := fun vs σ k => match vs, σ with
  | [.one (.data (.ints .i64 l)), .one (.int .i64 n), .one (.int .i64 i)], [] =>
    (l.length ≤ 1000000000 ∧ 0 ≤ i ∧ i ≤ l.length) ∧ k (.exit 0) [.one (.int .i64 (readV (l.length - i.toNat) n (l.drop i.toNat)))] []
  | _, _ => False
def numberS : Spec := fun args σ K => match args, σ with
  | [.one (.data (.ints .i64 l))], [] => l.length ≤ 1000000000 ∧ K (.one (.int .i64 (readV l.length 0 l))) []
  | _, _ => False
def residS : Spec := fun args σ K => match args, σ with
  | [.one (.int .i64 u)], [] => (0 ≤ u ∧ u ≤ 2305843009213693952) ∧ K (.one (.int .i64 (resid u))) []
  | _, _ => False
def rsL (k : Nat) : Nat → List Int → List Int
  | 0, _ => []
  | n + 1, l => resid (codeV k l) :: rsL k n (l.drop (onesN l + 1 + k))
def unrX (p : Int) : Int → Int → List Int → List Int
  | _, _, [] => []
  | last, bef, r :: rs => wi (r + expG p last bef) :: unrX p (wi (r + expG p last bef)) last rs
def count2L : LSpec := fun vs σ k => match vs, σ with
  | [.one (.data (.ints .i64 l)), .one (.ptr 0 1 0 0), .one (.ptr 1 1 0 0), .one (.int .i64 p), .one (.int .i64 c), .one .nil, .one (.int .i64 at_), .one (.int .i64 i), .one (.int .i64 n)], [.row 35 (.ints .i64 z), .row 35 (.ints .i64 y)] =>
    (0 ≤ at_ ∧ at_ ≤ l.length ∧ l.length ≤ 10000 ∧ 0 ≤ n ∧ n ≤ at_) ∧ k (.exit 2) [.one (.data (.ints .i64 l)), .one (.ptr 0 1 0 0), .one (.ptr 1 1 0 0), .one (.int .i64 p), .one (.int .i64 c), .one .nil, .one (.int .i64 (at_ + onesN (l.drop at_.toNat))), .one (.int .i64 i), .one (.int .i64 (n + onesN (l.drop at_.toNat)))] [.row 35 (.ints .i64 z), .row 35 (.ints .i64 y)]
  | [.one (.data (.ints .i64 l)), .one (.ptr 0 1 0 0), .one (.ptr 1 1 0 0), .one (.int .i64 p), .one (.int .i64 c), .one (.own 2 1), .one (.int .i64 at_), .one (.int .i64 i), .one (.int .i64 n)], [.row 35 (.ints .i64 z), .row 35 (.ints .i64 y), .row 3 (.ints .i64 rs)] =>
    (0 ≤ at_ ∧ at_ ≤ l.length ∧ l.length ≤ 10000 ∧ 0 ≤ n ∧ n ≤ at_) ∧ k (.exit 2) [.one (.data (.ints .i64 l)), .one (.ptr 0 1 0 0), .one (.ptr 1 1 0 0), .one (.int .i64 p), .one (.int .i64 c), .one (.own 2 1), .one (.int .i64 (at_ + onesN (l.drop at_.toNat))), .one (.int .i64 i), .one (.int .i64 (n + onesN (l.drop at_.toNat)))] [.row 35 (.ints .i64 z), .row 35 (.ints .i64 y), .row 3 (.ints .i64 rs)]
  | _, _ => False
/-- What holds of bits and places ahead of the codes. -/
def atOK (l : List Int) (c at_ : Int) : Prop := l.any oddB = false ∧ l.length ≤ 3000 ∧ 0 ≤ c ∧ c ≤ 17 ∧ 0 ≤ at_ ∧ at_ ≤ l.length
def codes3L : LSpec := fun vs σ k => match vs, σ with
  | [.one (.data (.ints .i64 l)), .one (.ptr 0 1 0 0), .one (.ptr 1 1 0 0), .one (.int .i64 p), .one (.int .i64 c), .one .nil, .one (.int .i64 at_), .one (.int .i64 i)], [.row 35 (.ints .i64 z), .row 35 (.ints .i64 y)] =>
    (atOK l c at_ ∧ i = 0 ∧ y = zeros8 ∧ z.length = 8) ∧ bif unpE c.toNat 8 (l.drop at_.toNat) then (∀ (v7 v8 : AV) (σr : List Blk), k .ret [.one (.data (.ints .i64 l)), .one (.ptr 0 1 0 0), .one (.int .i64 10), .one (.ptr 1 1 0 0), .one (.int .i64 p), v7, v8] (.row 35 (.ints .i64 zeros8) :: .row 35 (.ints .i64 zeros8) :: σr))
    else k (.exit 0) [.one (.data (.ints .i64 l)), .one (.ptr 0 1 0 0), .any, .one (.ptr 1 1 0 0), .one (.int .i64 p), .one (.own 2 1), .one (.int .i64 ((l.length : Int) - (unpL c.toNat 8 (l.drop at_.toNat)).length))] [.row 35 (.ints .i64 z), .row 35 (.ints .i64 y), .row 3 (.ints .i64 (rsL c.toNat 8 (l.drop at_.toNat)))]
  | [.one (.data (.ints .i64 l)), .one (.ptr 0 1 0 0), .one (.ptr 1 1 0 0), .one (.int .i64 p), .one (.int .i64 c), .one (.own 2 1), .one (.int .i64 at_), .one (.int .i64 i)], [.row 35 (.ints .i64 z), .row 35 (.ints .i64 y), .row 3 (.ints .i64 rs)] =>
    (atOK l c at_ ∧ 1 ≤ i ∧ i ≤ 8 ∧ y = zeros8 ∧ z.length = 8 ∧ rs.length = i) ∧ bif unpE c.toNat (8 - i).toNat (l.drop at_.toNat) then (∀ (v7 v8 : AV) (σr : List Blk), k .ret [.one (.data (.ints .i64 l)), .one (.ptr 0 1 0 0), .one (.int .i64 10), .one (.ptr 1 1 0 0), .one (.int .i64 p), v7, v8] (.row 35 (.ints .i64 zeros8) :: .row 35 (.ints .i64 zeros8) :: σr))
    else k (.exit 0) [.one (.data (.ints .i64 l)), .one (.ptr 0 1 0 0), .any, .one (.ptr 1 1 0 0), .one (.int .i64 p), .one (.own 2 1), .one (.int .i64 ((l.length : Int) - (unpL c.toNat (8 - i).toNat (l.drop at_.toNat)).length))] [.row 35 (.ints .i64 z), .row 35 (.ints .i64 y), .row 3 (.ints .i64 (rs ++ rsL c.toNat (8 - i).toNat (l.drop at_.toNat)))]
  | _, _ => False
def xsL : LSpec := fun vs σ k => match vs, σ with
  | [.one (.ptr 0 1 0 0), .one (.ptr 1 1 0 0), .one (.int .i64 p), .one (.own 2 1), .one (.ptr 3 1 0 0), .one (.int .i64 i)], [.row 35 (.ints .i64 z), .row 35 (.ints .i64 y), .row 3 (.ints .i64 rs), .row 35 (.ints .i64 x)] =>
    (0 ≤ i ∧ i ≤ 8 ∧ x.length = 8 ∧ rs.length = 8 ∧ y = zeros8 ∧ z.length = 8) ∧ bif (unrX p (lastG x i) (befG x i) (rs.drop i.toNat)).all sampleG then
      k (.exit 4) [.one (.ptr 0 1 0 0), .any, .one (.ptr 1 1 0 0)] [.row 35 (.ints .i64 z), .row 35 (.ints .i64 (x.take i.toNat ++ unrX p (lastG x i) (befG x i) (rs.drop i.toNat)))]
      else (∀ (v : AV) (σr : List Blk), k .ret [.one (.ptr 0 1 0 0), .one (.int .i64 2), v] (.row 35 (.ints .i64 zeros8) :: σr))
  | _, _ => False
noncomputable abbrev E48 : Env := envOf Try.prog [(49, areBitsS), (50, numberS), (32, paramS), (90, powS), (107, residS), (89, refExpS), (108, isSampleS)]
  [(14, .spec [0, 2, 4, 5, 6, 7, 8, 9] [0, 2, 3, 4, 5, 7, 8] codes3L), (17, .spec [0, 2, 4, 5, 6, 7, 8, 9, 10] [0, 2, 4, 5, 6, 7, 8, 9, 10] count2L), (28, .spec [2, 4, 5, 7, 12, 13] [2, 3, 12] xsL)] 115 0
noncomputable abbrev E9 : Env := envOf Try.prog [(15, trueS), (35, copyIntsS), (47, unpackS), (48, unpackS)] [] 41 0
noncomputable abbrev E35 : Env := envOf Try.prog [] [] 6 0
noncomputable abbrev E49 : Env := envOf Try.prog [] [(2, .spec [0, 3] [2] areBitsL)] 22 0
noncomputable abbrev E50 : Env := envOf Try.prog [] [(3, .spec [0, 3, 4] [3] numberL)] 19 0
noncomputable abbrev E107 : Env := envOf Try.prog [] [] 12 0
end Go.Ev

namespace Go.Ev
open Go Go.Proofs
set_option maxRecDepth 100000
theorem ex35 (l : List Int) (K : AV → List Blk → Prop) : evFn E35 Try.f35 [.one (.data (.ints .i64 l))] [] K = (
  bif decide (l.length * (8 : Nat) ≤ (140737488355328 : Nat) ∧ l.length ≤ (140737488355328 : Nat)) then
    K (AV.one (SV.own (0 : Nat) (1 : Nat))) [Blk.row (3 : Nat) (Row.ints IntKind.i64 l)]
  else False) := by kernel_rfl
theorem ex49 (l : List Int) (K : AV → List Blk → Prop) : evFn E49 Try.f49 [.one (.data (.ints .i64 l))] [] K = (
  (l.length ≤ (1000000000 : Nat) ∧ (0 : Int) ≤ (0 : Int)) ∧
    bif l.any oddB then K (AV.one (SV.bool false)) [] else K (AV.one (SV.bool true)) []) := by kernel_rfl
theorem ex49a (l : List Int) (i : Int) (K : Ex → List AV → List Blk → Prop) : evBody E49 (lb Try.f49 0) [0, 3] [2] [.one (.data (.ints .i64 l)), .one (.int .i64 i)] [] K = (
  bif decide (i < (↑l.length : Int)) then
    bif decide ((0 : Int) ≤ i) && decide (i < (↑l.length : Int)) then
      bif decide (i.toNat + (0 : Nat) < l.length) then
        bif l.getD (i.toNat + (0 : Nat)) (0 : Int) != (0 : Int) then
          bif decide ((0 : Int) ≤ i) && decide (i < (↑l.length : Int)) then
            bif decide (i.toNat + (0 : Nat) < l.length) then
              bif l.getD (i.toNat + (0 : Nat)) (0 : Int) != (1 : Int) then K Ex.ret [AV.one (SV.bool false)] []
              else
                K Ex.normal
                  [AV.one (SV.data (Row.ints IntKind.i64 l)),
                    AV.one (SV.int IntKind.i64 (IntKind.i64.wrap (i + (1 : Int))))]
                  []
            else False
          else False
        else
          K Ex.normal
            [AV.one (SV.data (Row.ints IntKind.i64 l)), AV.one (SV.int IntKind.i64 (IntKind.i64.wrap (i + (1 : Int))))] []
      else False
    else False
  else K (Ex.exit (0 : Nat)) [AV.any] []) := by kernel_rfl
theorem ex50 (l : List Int) (K : AV → List Blk → Prop) : evFn E50 Try.f50 [.one (.data (.ints .i64 l))] [] K = (
  (l.length ≤ (1000000000 : Nat) ∧ (0 : Int) ≤ (0 : Int) ∧ (0 : Int) ≤ (↑l.length : Int)) ∧
    K (AV.one (SV.int IntKind.i64 (readV (l.length - (0 : Nat)) (0 : Int) l))) []) := by kernel_rfl
theorem ex50a (l : List Int) (n i : Int) (K : Ex → List AV → List Blk → Prop) : evBody E50 (lb Try.f50 0) [0, 3, 4] [3] [.one (.data (.ints .i64 l)), .one (.int .i64 n), .one (.int .i64 i)] [] K = (
  bif decide (i < (↑l.length : Int)) then
    bif decide ((0 : Int) ≤ i) && decide (i < (↑l.length : Int)) then
      bif decide (i.toNat + (0 : Nat) < l.length) then
        K Ex.normal
          [AV.one (SV.data (Row.ints IntKind.i64 l)),
            AV.one
              (SV.int IntKind.i64
                (IntKind.i64.wrap (IntKind.i64.wrap ((2 : Int) * n) + l.getD (i.toNat + (0 : Nat)) (0 : Int)))),
            AV.one (SV.int IntKind.i64 (IntKind.i64.wrap (i + (1 : Int))))]
          []
      else False
    else False
  else K (Ex.exit (0 : Nat)) [AV.one (SV.int IntKind.i64 n)] []) := by kernel_rfl
theorem ex107 (u : Int) (K : AV → List Blk → Prop) : evFn E107 Try.f107 [.one (.int .i64 u)] [] K = (
  bif u.tmod (2 : Int) == (0 : Int) then K (AV.one (SV.int IntKind.i64 (IntKind.i64.wrap (u.tdiv (2 : Int))))) []
  else
    K
      (AV.one
        (SV.int IntKind.i64
          (IntKind.i64.wrap ((IntKind.i64.wrap ((0 : Int) - IntKind.i64.wrap (u + (1 : Int)))).tdiv (2 : Int)))))
      []) := by kernel_rfl
theorem ex48 (l : List Int) (K : AV → List Blk → Prop) : evFn E48 Try.f48 [.one (.data (.ints .i64 l))] [] K = (
  bif decide ((↑l.length : Int) > (3000 : Int)) then
    K
      (AV.tup
        [TV.agg
            [SV.int IntKind.i64 (0 : Int), SV.int IntKind.i64 (0 : Int), SV.int IntKind.i64 (0 : Int),
              SV.int IntKind.i64 (0 : Int), SV.int IntKind.i64 (0 : Int), SV.int IntKind.i64 (0 : Int),
              SV.int IntKind.i64 (0 : Int), SV.int IntKind.i64 (0 : Int)],
          TV.one (SV.int IntKind.i64 (8 : Int))])
      []
  else
    l.length ≤ (1000000000 : Nat) ∧
      bif !!l.any oddB then
        K
          (AV.tup
            [TV.agg
                [SV.int IntKind.i64 (0 : Int), SV.int IntKind.i64 (0 : Int), SV.int IntKind.i64 (0 : Int),
                  SV.int IntKind.i64 (0 : Int), SV.int IntKind.i64 (0 : Int), SV.int IntKind.i64 (0 : Int),
                  SV.int IntKind.i64 (0 : Int), SV.int IntKind.i64 (0 : Int)],
              TV.one (SV.int IntKind.i64 (2 : Int))])
          []
      else
        bif decide ((↑l.length : Int) < (7 : Int)) then
          K
            (AV.tup
              [TV.agg
                  [SV.int IntKind.i64 (0 : Int), SV.int IntKind.i64 (0 : Int), SV.int IntKind.i64 (0 : Int),
                    SV.int IntKind.i64 (0 : Int), SV.int IntKind.i64 (0 : Int), SV.int IntKind.i64 (0 : Int),
                    SV.int IntKind.i64 (0 : Int), SV.int IntKind.i64 (0 : Int)],
                TV.one (SV.int IntKind.i64 (10 : Int))])
            []
        else
          bif decide ((0 : Int) ≤ (2 : Int)) && (decide ((2 : Nat) ≤ l.length) && decide ((0 : Nat) ≤ (2 : Nat))) then
            bif
                decide ((0 : Int) ≤ (2 : Int)) &&
                  (decide ((0 : Int) ≤ (7 : Int)) &&
                    (decide ((7 : Nat) ≤ l.length) && decide ((2 : Nat) ≤ (7 : Nat)))) then
              (List.take (2 : Nat) l).length ≤ (1000000000 : Nat) ∧
                (List.take (5 : Nat) (List.drop (2 : Nat) l)).length ≤ (1000000000 : Nat) ∧
                  bif
                      (bif
                            paramG (readV (List.take (2 : Nat) l).length (0 : Int) (List.take (2 : Nat) l))
                              (readV (List.take (5 : Nat) (List.drop (2 : Nat) l)).length (0 : Int)
                                (List.take (5 : Nat) (List.drop (2 : Nat) l))) then
                          (0 : Int)
                        else (2 : Int)) !=
                        (0 : Int) then
                    K
                      (AV.tup
                        [TV.agg
                            [SV.int IntKind.i64 (0 : Int), SV.int IntKind.i64 (0 : Int), SV.int IntKind.i64 (0 : Int),
                              SV.int IntKind.i64 (0 : Int), SV.int IntKind.i64 (0 : Int), SV.int IntKind.i64 (0 : Int),
                              SV.int IntKind.i64 (0 : Int), SV.int IntKind.i64 (0 : Int)],
                          TV.one (SV.int IntKind.i64 (3 : Int))])
                      []
                  else
                    ((l.any oddB = false ∧
                          l.length ≤ (3000 : Nat) ∧
                            (0 : Int) ≤
                                readV (List.take (5 : Nat) (List.drop (2 : Nat) l)).length (0 : Int)
                                  (List.take (5 : Nat) (List.drop (2 : Nat) l)) ∧
                              readV (List.take (5 : Nat) (List.drop (2 : Nat) l)).length (0 : Int)
                                    (List.take (5 : Nat) (List.drop (2 : Nat) l)) ≤
                                  (17 : Int) ∧
                                (0 : Int) ≤ (7 : Int) ∧ (7 : Int) ≤ (↑l.length : Int)) ∧
                        (0 : Int) = (0 : Int) ∧
                          [(0 : Int), (0 : Int), (0 : Int), (0 : Int), (0 : Int), (0 : Int), (0 : Int), (0 : Int)] =
                              zeros8 ∧
                            (8 : Nat) = (8 : Nat)) ∧
                      bif
                          unpE
                            (readV (List.take (5 : Nat) (List.drop (2 : Nat) l)).length (0 : Int)
                                (List.take (5 : Nat) (List.drop (2 : Nat) l))).toNat
                            (8 : Nat) (List.drop (7 : Nat) l) then
                        ∀ (v7 v8 : AV) (σr : List Blk),
                          K
                            (AV.tup
                              [TV.agg
                                  [SV.int IntKind.i64 (0 : Int), SV.int IntKind.i64 (0 : Int),
                                    SV.int IntKind.i64 (0 : Int), SV.int IntKind.i64 (0 : Int),
                                    SV.int IntKind.i64 (0 : Int), SV.int IntKind.i64 (0 : Int),
                                    SV.int IntKind.i64 (0 : Int), SV.int IntKind.i64 (0 : Int)],
                                TV.one (SV.int IntKind.i64 (10 : Int))])
                            []
                      else
                        bif
                            (↑l.length : Int) -
                                (↑(unpL
                                        (readV (List.take (5 : Nat) (List.drop (2 : Nat) l)).length (0 : Int)
                                            (List.take (5 : Nat) (List.drop (2 : Nat) l))).toNat
                                        (8 : Nat) (List.drop (7 : Nat) l)).length :
                                  Int) !=
                              (↑l.length : Int) then
                          K
                            (AV.tup
                              [TV.agg
                                  [SV.int IntKind.i64 (0 : Int), SV.int IntKind.i64 (0 : Int),
                                    SV.int IntKind.i64 (0 : Int), SV.int IntKind.i64 (0 : Int),
                                    SV.int IntKind.i64 (0 : Int), SV.int IntKind.i64 (0 : Int),
                                    SV.int IntKind.i64 (0 : Int), SV.int IntKind.i64 (0 : Int)],
                                TV.one (SV.int IntKind.i64 (10 : Int))])
                            []
                        else
                          ((0 : Int) ≤ (0 : Int) ∧
                              (0 : Int) ≤ (8 : Int) ∧
                                (8 : Nat) = (8 : Nat) ∧
                                  (rsL
                                          (readV (List.take (5 : Nat) (List.drop (2 : Nat) l)).length (0 : Int)
                                              (List.take (5 : Nat) (List.drop (2 : Nat) l))).toNat
                                          (8 : Nat) (List.drop (7 : Nat) l)).length =
                                      (8 : Nat) ∧
                                    [(0 : Int), (0 : Int), (0 : Int), (0 : Int), (0 : Int), (0 : Int), (0 : Int),
                                          (0 : Int)] =
                                        zeros8 ∧
                                      (8 : Nat) = (8 : Nat)) ∧
                            bif
                                (unrX (readV (List.take (2 : Nat) l).length (0 : Int) (List.take (2 : Nat) l)) (0 : Int)
                                      (0 : Int)
                                      (rsL
                                        (readV (List.take (5 : Nat) (List.drop (2 : Nat) l)).length (0 : Int)
                                            (List.take (5 : Nat) (List.drop (2 : Nat) l))).toNat
                                        (8 : Nat) (List.drop (7 : Nat) l))).all
                                  sampleG then
                              K
                                (AV.tup
                                  [TV.agg
                                      [SV.int IntKind.i64
                                          ((unrX (readV (List.take (2 : Nat) l).length (0 : Int) (List.take (2 : Nat) l))
                                                (0 : Int) (0 : Int)
                                                (rsL
                                                  (readV (List.take (5 : Nat) (List.drop (2 : Nat) l)).length (0 : Int)
                                                      (List.take (5 : Nat) (List.drop (2 : Nat) l))).toNat
                                                  (8 : Nat) (List.drop (7 : Nat) l))).getD
                                            (0 : Nat) (0 : Int)),
                                        SV.int IntKind.i64
                                          ((unrX (readV (List.take (2 : Nat) l).length (0 : Int) (List.take (2 : Nat) l))
                                                (0 : Int) (0 : Int)
                                                (rsL
                                                  (readV (List.take (5 : Nat) (List.drop (2 : Nat) l)).length (0 : Int)
                                                      (List.take (5 : Nat) (List.drop (2 : Nat) l))).toNat
                                                  (8 : Nat) (List.drop (7 : Nat) l))).getD
                                            (1 : Nat) (0 : Int)),
                                        SV.int IntKind.i64
                                          ((unrX (readV (List.take (2 : Nat) l).length (0 : Int) (List.take (2 : Nat) l))
                                                (0 : Int) (0 : Int)
                                                (rsL
                                                  (readV (List.take (5 : Nat) (List.drop (2 : Nat) l)).length (0 : Int)
                                                      (List.take (5 : Nat) (List.drop (2 : Nat) l))).toNat
                                                  (8 : Nat) (List.drop (7 : Nat) l))).getD
                                            (2 : Nat) (0 : Int)),
                                        SV.int IntKind.i64
                                          ((unrX (readV (List.take (2 : Nat) l).length (0 : Int) (List.take (2 : Nat) l))
                                                (0 : Int) (0 : Int)
                                                (rsL
                                                  (readV (List.take (5 : Nat) (List.drop (2 : Nat) l)).length (0 : Int)
                                                      (List.take (5 : Nat) (List.drop (2 : Nat) l))).toNat
                                                  (8 : Nat) (List.drop (7 : Nat) l))).getD
                                            (3 : Nat) (0 : Int)),
                                        SV.int IntKind.i64
                                          ((unrX (readV (List.take (2 : Nat) l).length (0 : Int) (List.take (2 : Nat) l))
                                                (0 : Int) (0 : Int)
                                                (rsL
                                                  (readV (List.take (5 : Nat) (List.drop (2 : Nat) l)).length (0 : Int)
                                                      (List.take (5 : Nat) (List.drop (2 : Nat) l))).toNat
                                                  (8 : Nat) (List.drop (7 : Nat) l))).getD
                                            (4 : Nat) (0 : Int)),
                                        SV.int IntKind.i64
                                          ((unrX (readV (List.take (2 : Nat) l).length (0 : Int) (List.take (2 : Nat) l))
                                                (0 : Int) (0 : Int)
                                                (rsL
                                                  (readV (List.take (5 : Nat) (List.drop (2 : Nat) l)).length (0 : Int)
                                                      (List.take (5 : Nat) (List.drop (2 : Nat) l))).toNat
                                                  (8 : Nat) (List.drop (7 : Nat) l))).getD
                                            (5 : Nat) (0 : Int)),
                                        SV.int IntKind.i64
                                          ((unrX (readV (List.take (2 : Nat) l).length (0 : Int) (List.take (2 : Nat) l))
                                                (0 : Int) (0 : Int)
                                                (rsL
                                                  (readV (List.take (5 : Nat) (List.drop (2 : Nat) l)).length (0 : Int)
                                                      (List.take (5 : Nat) (List.drop (2 : Nat) l))).toNat
                                                  (8 : Nat) (List.drop (7 : Nat) l))).getD
                                            (6 : Nat) (0 : Int)),
                                        SV.int IntKind.i64
                                          ((unrX (readV (List.take (2 : Nat) l).length (0 : Int) (List.take (2 : Nat) l))
                                                (0 : Int) (0 : Int)
                                                (rsL
                                                  (readV (List.take (5 : Nat) (List.drop (2 : Nat) l)).length (0 : Int)
                                                      (List.take (5 : Nat) (List.drop (2 : Nat) l))).toNat
                                                  (8 : Nat) (List.drop (7 : Nat) l))).getD
                                            (7 : Nat) (0 : Int))],
                                    TV.one (SV.int IntKind.i64 (0 : Int))])
                                []
                            else
                              ∀ (v : AV) (σr : List Blk),
                                K
                                  (AV.tup
                                    [TV.agg
                                        [SV.int IntKind.i64 (0 : Int), SV.int IntKind.i64 (0 : Int),
                                          SV.int IntKind.i64 (0 : Int), SV.int IntKind.i64 (0 : Int),
                                          SV.int IntKind.i64 (0 : Int), SV.int IntKind.i64 (0 : Int),
                                          SV.int IntKind.i64 (0 : Int), SV.int IntKind.i64 (0 : Int)],
                                      TV.one (SV.int IntKind.i64 (2 : Int))])
                                  []
            else False
          else False) := by kernel_rfl
theorem ex48a (l z y : List Int) (p c at_ i : Int) (K : Ex → List AV → List Blk → Prop) : evBody E48 (lb Try.f48 0) [0, 2, 4, 5, 6, 7, 8, 9] [0, 2, 3, 4, 5, 7, 8] [.one (.data (.ints .i64 l)), .one (.ptr 0 1 0 0), .one (.ptr 1 1 0 0), .one (.int .i64 p), .one (.int .i64 c), .one .nil, .one (.int .i64 at_), .one (.int .i64 i)] [.row 35 (.ints .i64 z), .row 35 (.ints .i64 y)] K = (
  bif decide (i < (8 : Int)) then
    ((0 : Int) ≤ at_ ∧ at_ ≤ (↑l.length : Int) ∧ l.length ≤ (10000 : Nat) ∧ (0 : Int) ≤ (0 : Int) ∧ (0 : Int) ≤ at_) ∧
      bif
          decide
            (IntKind.i64.wrap (IntKind.i64.wrap (at_ + (↑(onesN (List.drop at_.toNat l)) : Int) + (1 : Int)) + c) >
              (↑l.length : Int)) then
        bif decide ((7 : Nat) < y.length) then
          bif
              decide
                (z.length =
                  [y.getD (0 : Nat) (0 : Int), y.getD (1 : Nat) (0 : Int), y.getD (2 : Nat) (0 : Int),
                      y.getD (3 : Nat) (0 : Int), y.getD (4 : Nat) (0 : Int), y.getD (5 : Nat) (0 : Int),
                      y.getD (6 : Nat) (0 : Int), y.getD (7 : Nat) (0 : Int)].length) then
            K Ex.ret
              [AV.one (SV.data (Row.ints IntKind.i64 l)), AV.one (SV.ptr (0 : Nat) (1 : Nat) (0 : Nat) (0 : Nat)),
                AV.one (SV.int IntKind.i64 (10 : Int)), AV.one (SV.ptr (1 : Nat) (1 : Nat) (0 : Nat) (0 : Nat)),
                AV.one (SV.int IntKind.i64 p), AV.one SV.nil,
                AV.one (SV.int IntKind.i64 (at_ + (↑(onesN (List.drop at_.toNat l)) : Int)))]
              [Blk.row (35 : TypeId)
                  (Row.ints IntKind.i64
                    [y.getD (0 : Nat) (0 : Int), y.getD (1 : Nat) (0 : Int), y.getD (2 : Nat) (0 : Int),
                      y.getD (3 : Nat) (0 : Int), y.getD (4 : Nat) (0 : Int), y.getD (5 : Nat) (0 : Int),
                      y.getD (6 : Nat) (0 : Int), y.getD (7 : Nat) (0 : Int)]),
                Blk.row (35 : TypeId) (Row.ints IntKind.i64 y)]
          else False
        else False
      else
        bif
            decide ((0 : Int) ≤ IntKind.i64.wrap (at_ + (↑(onesN (List.drop at_.toNat l)) : Int) + (1 : Int))) &&
              (decide
                  ((0 : Int) ≤
                    IntKind.i64.wrap
                      (IntKind.i64.wrap (at_ + (↑(onesN (List.drop at_.toNat l)) : Int) + (1 : Int)) + c)) &&
                (decide
                    ((IntKind.i64.wrap
                          (IntKind.i64.wrap (at_ + (↑(onesN (List.drop at_.toNat l)) : Int) + (1 : Int)) + c)).toNat ≤
                      l.length) &&
                  decide
                    ((IntKind.i64.wrap (at_ + (↑(onesN (List.drop at_.toNat l)) : Int) + (1 : Int))).toNat ≤
                      (IntKind.i64.wrap
                          (IntKind.i64.wrap (at_ + (↑(onesN (List.drop at_.toNat l)) : Int) + (1 : Int)) +
                            c)).toNat))) then
          (List.take
                  ((IntKind.i64.wrap
                        (IntKind.i64.wrap (at_ + (↑(onesN (List.drop at_.toNat l)) : Int) + (1 : Int)) + c)).toNat -
                    (IntKind.i64.wrap (at_ + (↑(onesN (List.drop at_.toNat l)) : Int) + (1 : Int))).toNat)
                  (List.drop (IntKind.i64.wrap (at_ + (↑(onesN (List.drop at_.toNat l)) : Int) + (1 : Int))).toNat
                    l)).length ≤
              (1000000000 : Nat) ∧
            ((0 : Int) ≤ c ∧ c ≤ (62 : Int)) ∧
              ((0 : Int) ≤
                    IntKind.i64.wrap
                      (IntKind.i64.wrap (((0 : Int) + (↑(onesN (List.drop at_.toNat l)) : Int)) * (2 : Int) ^ c.toNat) +
                        readV
                          (List.take
                              ((IntKind.i64.wrap
                                    (IntKind.i64.wrap (at_ + (↑(onesN (List.drop at_.toNat l)) : Int) + (1 : Int)) +
                                      c)).toNat -
                                (IntKind.i64.wrap (at_ + (↑(onesN (List.drop at_.toNat l)) : Int) + (1 : Int))).toNat)
                              (List.drop
                                (IntKind.i64.wrap (at_ + (↑(onesN (List.drop at_.toNat l)) : Int) + (1 : Int))).toNat
                                l)).length
                          (0 : Int)
                          (List.take
                            ((IntKind.i64.wrap
                                  (IntKind.i64.wrap (at_ + (↑(onesN (List.drop at_.toNat l)) : Int) + (1 : Int)) +
                                    c)).toNat -
                              (IntKind.i64.wrap (at_ + (↑(onesN (List.drop at_.toNat l)) : Int) + (1 : Int))).toNat)
                            (List.drop
                              (IntKind.i64.wrap (at_ + (↑(onesN (List.drop at_.toNat l)) : Int) + (1 : Int))).toNat l))) ∧
                  IntKind.i64.wrap
                      (IntKind.i64.wrap (((0 : Int) + (↑(onesN (List.drop at_.toNat l)) : Int)) * (2 : Int) ^ c.toNat) +
                        readV
                          (List.take
                              ((IntKind.i64.wrap
                                    (IntKind.i64.wrap (at_ + (↑(onesN (List.drop at_.toNat l)) : Int) + (1 : Int)) +
                                      c)).toNat -
                                (IntKind.i64.wrap (at_ + (↑(onesN (List.drop at_.toNat l)) : Int) + (1 : Int))).toNat)
                              (List.drop
                                (IntKind.i64.wrap (at_ + (↑(onesN (List.drop at_.toNat l)) : Int) + (1 : Int))).toNat
                                l)).length
                          (0 : Int)
                          (List.take
                            ((IntKind.i64.wrap
                                  (IntKind.i64.wrap (at_ + (↑(onesN (List.drop at_.toNat l)) : Int) + (1 : Int)) +
                                    c)).toNat -
                              (IntKind.i64.wrap (at_ + (↑(onesN (List.drop at_.toNat l)) : Int) + (1 : Int))).toNat)
                            (List.drop
                              (IntKind.i64.wrap (at_ + (↑(onesN (List.drop at_.toNat l)) : Int) + (1 : Int))).toNat l))) ≤
                    (2305843009213693952 : Int)) ∧
                K Ex.normal
                  [AV.one (SV.data (Row.ints IntKind.i64 l)), AV.one (SV.ptr (0 : Nat) (1 : Nat) (0 : Nat) (0 : Nat)),
                    AV.one (SV.ptr (1 : Nat) (1 : Nat) (0 : Nat) (0 : Nat)), AV.one (SV.int IntKind.i64 p),
                    AV.one (SV.int IntKind.i64 c), AV.one (SV.own (2 : Nat) (1 : Nat)),
                    AV.one
                      (SV.int IntKind.i64
                        (IntKind.i64.wrap
                          (IntKind.i64.wrap (at_ + (↑(onesN (List.drop at_.toNat l)) : Int) + (1 : Int)) + c))),
                    AV.one (SV.int IntKind.i64 (IntKind.i64.wrap (i + (1 : Int))))]
                  [Blk.row (35 : TypeId) (Row.ints IntKind.i64 z), Blk.row (35 : TypeId) (Row.ints IntKind.i64 y),
                    Blk.row (3 : Nat)
                      (Row.ints IntKind.i64
                        [resid
                            (IntKind.i64.wrap
                              (IntKind.i64.wrap
                                  (((0 : Int) + (↑(onesN (List.drop at_.toNat l)) : Int)) * (2 : Int) ^ c.toNat) +
                                readV
                                  (List.take
                                      ((IntKind.i64.wrap
                                            (IntKind.i64.wrap
                                                (at_ + (↑(onesN (List.drop at_.toNat l)) : Int) + (1 : Int)) +
                                              c)).toNat -
                                        (IntKind.i64.wrap
                                            (at_ + (↑(onesN (List.drop at_.toNat l)) : Int) + (1 : Int))).toNat)
                                      (List.drop
                                        (IntKind.i64.wrap
                                            (at_ + (↑(onesN (List.drop at_.toNat l)) : Int) + (1 : Int))).toNat
                                        l)).length
                                  (0 : Int)
                                  (List.take
                                    ((IntKind.i64.wrap
                                          (IntKind.i64.wrap (at_ + (↑(onesN (List.drop at_.toNat l)) : Int) + (1 : Int)) +
                                            c)).toNat -
                                      (IntKind.i64.wrap
                                          (at_ + (↑(onesN (List.drop at_.toNat l)) : Int) + (1 : Int))).toNat)
                                    (List.drop
                                      (IntKind.i64.wrap
                                          (at_ + (↑(onesN (List.drop at_.toNat l)) : Int) + (1 : Int))).toNat
                                      l))))])]
        else False
  else
    K (Ex.exit (0 : Nat))
      [AV.one (SV.data (Row.ints IntKind.i64 l)), AV.one (SV.ptr (0 : Nat) (1 : Nat) (0 : Nat) (0 : Nat)), AV.any,
        AV.one (SV.ptr (1 : Nat) (1 : Nat) (0 : Nat) (0 : Nat)), AV.one (SV.int IntKind.i64 p), AV.one SV.nil,
        AV.one (SV.int IntKind.i64 at_)]
      [Blk.row (35 : TypeId) (Row.ints IntKind.i64 z), Blk.row (35 : TypeId) (Row.ints IntKind.i64 y)]) := by kernel_rfl
theorem ex48b (l z y rs : List Int) (p c at_ i : Int) (K : Ex → List AV → List Blk → Prop) : evBody E48 (lb Try.f48 0) [0, 2, 4, 5, 6, 7, 8, 9] [0, 2, 3, 4, 5, 7, 8] [.one (.data (.ints .i64 l)), .one (.ptr 0 1 0 0), .one (.ptr 1 1 0 0), .one (.int .i64 p), .one (.int .i64 c), .one (.own 2 1), .one (.int .i64 at_), .one (.int .i64 i)] [.row 35 (.ints .i64 z), .row 35 (.ints .i64 y), .row 3 (.ints .i64 rs)] K = (
  bif decide (i < (8 : Int)) then
    ((0 : Int) ≤ at_ ∧ at_ ≤ (↑l.length : Int) ∧ l.length ≤ (10000 : Nat) ∧ (0 : Int) ≤ (0 : Int) ∧ (0 : Int) ≤ at_) ∧
      bif
          decide
            (IntKind.i64.wrap (IntKind.i64.wrap (at_ + (↑(onesN (List.drop at_.toNat l)) : Int) + (1 : Int)) + c) >
              (↑l.length : Int)) then
        bif decide ((7 : Nat) < y.length) then
          bif
              decide
                (z.length =
                  [y.getD (0 : Nat) (0 : Int), y.getD (1 : Nat) (0 : Int), y.getD (2 : Nat) (0 : Int),
                      y.getD (3 : Nat) (0 : Int), y.getD (4 : Nat) (0 : Int), y.getD (5 : Nat) (0 : Int),
                      y.getD (6 : Nat) (0 : Int), y.getD (7 : Nat) (0 : Int)].length) then
            K Ex.ret
              [AV.one (SV.data (Row.ints IntKind.i64 l)), AV.one (SV.ptr (0 : Nat) (1 : Nat) (0 : Nat) (0 : Nat)),
                AV.one (SV.int IntKind.i64 (10 : Int)), AV.one (SV.ptr (1 : Nat) (1 : Nat) (0 : Nat) (0 : Nat)),
                AV.one (SV.int IntKind.i64 p), AV.one (SV.own (2 : Nat) (1 : Nat)),
                AV.one (SV.int IntKind.i64 (at_ + (↑(onesN (List.drop at_.toNat l)) : Int)))]
              [Blk.row (35 : TypeId)
                  (Row.ints IntKind.i64
                    [y.getD (0 : Nat) (0 : Int), y.getD (1 : Nat) (0 : Int), y.getD (2 : Nat) (0 : Int),
                      y.getD (3 : Nat) (0 : Int), y.getD (4 : Nat) (0 : Int), y.getD (5 : Nat) (0 : Int),
                      y.getD (6 : Nat) (0 : Int), y.getD (7 : Nat) (0 : Int)]),
                Blk.row (35 : TypeId) (Row.ints IntKind.i64 y), Blk.row (3 : TypeId) (Row.ints IntKind.i64 rs)]
          else False
        else False
      else
        bif
            decide ((0 : Int) ≤ IntKind.i64.wrap (at_ + (↑(onesN (List.drop at_.toNat l)) : Int) + (1 : Int))) &&
              (decide
                  ((0 : Int) ≤
                    IntKind.i64.wrap
                      (IntKind.i64.wrap (at_ + (↑(onesN (List.drop at_.toNat l)) : Int) + (1 : Int)) + c)) &&
                (decide
                    ((IntKind.i64.wrap
                          (IntKind.i64.wrap (at_ + (↑(onesN (List.drop at_.toNat l)) : Int) + (1 : Int)) + c)).toNat ≤
                      l.length) &&
                  decide
                    ((IntKind.i64.wrap (at_ + (↑(onesN (List.drop at_.toNat l)) : Int) + (1 : Int))).toNat ≤
                      (IntKind.i64.wrap
                          (IntKind.i64.wrap (at_ + (↑(onesN (List.drop at_.toNat l)) : Int) + (1 : Int)) +
                            c)).toNat))) then
          (List.take
                  ((IntKind.i64.wrap
                        (IntKind.i64.wrap (at_ + (↑(onesN (List.drop at_.toNat l)) : Int) + (1 : Int)) + c)).toNat -
                    (IntKind.i64.wrap (at_ + (↑(onesN (List.drop at_.toNat l)) : Int) + (1 : Int))).toNat)
                  (List.drop (IntKind.i64.wrap (at_ + (↑(onesN (List.drop at_.toNat l)) : Int) + (1 : Int))).toNat
                    l)).length ≤
              (1000000000 : Nat) ∧
            ((0 : Int) ≤ c ∧ c ≤ (62 : Int)) ∧
              ((0 : Int) ≤
                    IntKind.i64.wrap
                      (IntKind.i64.wrap (((0 : Int) + (↑(onesN (List.drop at_.toNat l)) : Int)) * (2 : Int) ^ c.toNat) +
                        readV
                          (List.take
                              ((IntKind.i64.wrap
                                    (IntKind.i64.wrap (at_ + (↑(onesN (List.drop at_.toNat l)) : Int) + (1 : Int)) +
                                      c)).toNat -
                                (IntKind.i64.wrap (at_ + (↑(onesN (List.drop at_.toNat l)) : Int) + (1 : Int))).toNat)
                              (List.drop
                                (IntKind.i64.wrap (at_ + (↑(onesN (List.drop at_.toNat l)) : Int) + (1 : Int))).toNat
                                l)).length
                          (0 : Int)
                          (List.take
                            ((IntKind.i64.wrap
                                  (IntKind.i64.wrap (at_ + (↑(onesN (List.drop at_.toNat l)) : Int) + (1 : Int)) +
                                    c)).toNat -
                              (IntKind.i64.wrap (at_ + (↑(onesN (List.drop at_.toNat l)) : Int) + (1 : Int))).toNat)
                            (List.drop
                              (IntKind.i64.wrap (at_ + (↑(onesN (List.drop at_.toNat l)) : Int) + (1 : Int))).toNat l))) ∧
                  IntKind.i64.wrap
                      (IntKind.i64.wrap (((0 : Int) + (↑(onesN (List.drop at_.toNat l)) : Int)) * (2 : Int) ^ c.toNat) +
                        readV
                          (List.take
                              ((IntKind.i64.wrap
                                    (IntKind.i64.wrap (at_ + (↑(onesN (List.drop at_.toNat l)) : Int) + (1 : Int)) +
                                      c)).toNat -
                                (IntKind.i64.wrap (at_ + (↑(onesN (List.drop at_.toNat l)) : Int) + (1 : Int))).toNat)
                              (List.drop
                                (IntKind.i64.wrap (at_ + (↑(onesN (List.drop at_.toNat l)) : Int) + (1 : Int))).toNat
                                l)).length
                          (0 : Int)
                          (List.take
                            ((IntKind.i64.wrap
                                  (IntKind.i64.wrap (at_ + (↑(onesN (List.drop at_.toNat l)) : Int) + (1 : Int)) +
                                    c)).toNat -
                              (IntKind.i64.wrap (at_ + (↑(onesN (List.drop at_.toNat l)) : Int) + (1 : Int))).toNat)
                            (List.drop
                              (IntKind.i64.wrap (at_ + (↑(onesN (List.drop at_.toNat l)) : Int) + (1 : Int))).toNat l))) ≤
                    (2305843009213693952 : Int)) ∧
                bif
                    decide
                      ((rs ++
                                [resid
                                    (IntKind.i64.wrap
                                      (IntKind.i64.wrap
                                          (((0 : Int) + (↑(onesN (List.drop at_.toNat l)) : Int)) * (2 : Int) ^ c.toNat) +
                                        readV
                                          (List.take
                                              ((IntKind.i64.wrap
                                                    (IntKind.i64.wrap
                                                        (at_ + (↑(onesN (List.drop at_.toNat l)) : Int) + (1 : Int)) +
                                                      c)).toNat -
                                                (IntKind.i64.wrap
                                                    (at_ + (↑(onesN (List.drop at_.toNat l)) : Int) + (1 : Int))).toNat)
                                              (List.drop
                                                (IntKind.i64.wrap
                                                    (at_ + (↑(onesN (List.drop at_.toNat l)) : Int) + (1 : Int))).toNat
                                                l)).length
                                          (0 : Int)
                                          (List.take
                                            ((IntKind.i64.wrap
                                                  (IntKind.i64.wrap
                                                      (at_ + (↑(onesN (List.drop at_.toNat l)) : Int) + (1 : Int)) +
                                                    c)).toNat -
                                              (IntKind.i64.wrap
                                                  (at_ + (↑(onesN (List.drop at_.toNat l)) : Int) + (1 : Int))).toNat)
                                            (List.drop
                                              (IntKind.i64.wrap
                                                  (at_ + (↑(onesN (List.drop at_.toNat l)) : Int) + (1 : Int))).toNat
                                              l))))]).length *
                            (8 : Nat) ≤
                          (140737488355328 : Nat) ∧
                        (rs ++
                              [resid
                                  (IntKind.i64.wrap
                                    (IntKind.i64.wrap
                                        (((0 : Int) + (↑(onesN (List.drop at_.toNat l)) : Int)) * (2 : Int) ^ c.toNat) +
                                      readV
                                        (List.take
                                            ((IntKind.i64.wrap
                                                  (IntKind.i64.wrap
                                                      (at_ + (↑(onesN (List.drop at_.toNat l)) : Int) + (1 : Int)) +
                                                    c)).toNat -
                                              (IntKind.i64.wrap
                                                  (at_ + (↑(onesN (List.drop at_.toNat l)) : Int) + (1 : Int))).toNat)
                                            (List.drop
                                              (IntKind.i64.wrap
                                                  (at_ + (↑(onesN (List.drop at_.toNat l)) : Int) + (1 : Int))).toNat
                                              l)).length
                                        (0 : Int)
                                        (List.take
                                          ((IntKind.i64.wrap
                                                (IntKind.i64.wrap
                                                    (at_ + (↑(onesN (List.drop at_.toNat l)) : Int) + (1 : Int)) +
                                                  c)).toNat -
                                            (IntKind.i64.wrap
                                                (at_ + (↑(onesN (List.drop at_.toNat l)) : Int) + (1 : Int))).toNat)
                                          (List.drop
                                            (IntKind.i64.wrap
                                                (at_ + (↑(onesN (List.drop at_.toNat l)) : Int) + (1 : Int))).toNat
                                            l))))]).length ≤
                          (140737488355328 : Nat)) then
                  K Ex.normal
                    [AV.one (SV.data (Row.ints IntKind.i64 l)), AV.one (SV.ptr (0 : Nat) (1 : Nat) (0 : Nat) (0 : Nat)),
                      AV.one (SV.ptr (1 : Nat) (1 : Nat) (0 : Nat) (0 : Nat)), AV.one (SV.int IntKind.i64 p),
                      AV.one (SV.int IntKind.i64 c), AV.one (SV.own (2 : Nat) (1 : Nat)),
                      AV.one
                        (SV.int IntKind.i64
                          (IntKind.i64.wrap
                            (IntKind.i64.wrap (at_ + (↑(onesN (List.drop at_.toNat l)) : Int) + (1 : Int)) + c))),
                      AV.one (SV.int IntKind.i64 (IntKind.i64.wrap (i + (1 : Int))))]
                    [Blk.row (35 : TypeId) (Row.ints IntKind.i64 z), Blk.row (35 : TypeId) (Row.ints IntKind.i64 y),
                      Blk.row (3 : Nat)
                        (Row.ints IntKind.i64
                          (rs ++
                            [resid
                                (IntKind.i64.wrap
                                  (IntKind.i64.wrap
                                      (((0 : Int) + (↑(onesN (List.drop at_.toNat l)) : Int)) * (2 : Int) ^ c.toNat) +
                                    readV
                                      (List.take
                                          ((IntKind.i64.wrap
                                                (IntKind.i64.wrap
                                                    (at_ + (↑(onesN (List.drop at_.toNat l)) : Int) + (1 : Int)) +
                                                  c)).toNat -
                                            (IntKind.i64.wrap
                                                (at_ + (↑(onesN (List.drop at_.toNat l)) : Int) + (1 : Int))).toNat)
                                          (List.drop
                                            (IntKind.i64.wrap
                                                (at_ + (↑(onesN (List.drop at_.toNat l)) : Int) + (1 : Int))).toNat
                                            l)).length
                                      (0 : Int)
                                      (List.take
                                        ((IntKind.i64.wrap
                                              (IntKind.i64.wrap
                                                  (at_ + (↑(onesN (List.drop at_.toNat l)) : Int) + (1 : Int)) +
                                                c)).toNat -
                                          (IntKind.i64.wrap
                                              (at_ + (↑(onesN (List.drop at_.toNat l)) : Int) + (1 : Int))).toNat)
                                        (List.drop
                                          (IntKind.i64.wrap
                                              (at_ + (↑(onesN (List.drop at_.toNat l)) : Int) + (1 : Int))).toNat
                                          l))))]))]
                else False
        else False
  else
    K (Ex.exit (0 : Nat))
      [AV.one (SV.data (Row.ints IntKind.i64 l)), AV.one (SV.ptr (0 : Nat) (1 : Nat) (0 : Nat) (0 : Nat)), AV.any,
        AV.one (SV.ptr (1 : Nat) (1 : Nat) (0 : Nat) (0 : Nat)), AV.one (SV.int IntKind.i64 p),
        AV.one (SV.own (2 : Nat) (1 : Nat)), AV.one (SV.int IntKind.i64 at_)]
      [Blk.row (35 : TypeId) (Row.ints IntKind.i64 z), Blk.row (35 : TypeId) (Row.ints IntKind.i64 y),
        Blk.row (3 : TypeId) (Row.ints IntKind.i64 rs)]) := by kernel_rfl
theorem ex48c (l z y : List Int) (p c at_ i n : Int) (K : Ex → List AV → List Blk → Prop) : evBody E48 (lb Try.f48 1) [0, 2, 4, 5, 6, 7, 8, 9, 10] [0, 2, 4, 5, 6, 7, 8, 9, 10] [.one (.data (.ints .i64 l)), .one (.ptr 0 1 0 0), .one (.ptr 1 1 0 0), .one (.int .i64 p), .one (.int .i64 c), .one .nil, .one (.int .i64 at_), .one (.int .i64 i), .one (.int .i64 n)] [.row 35 (.ints .i64 z), .row 35 (.ints .i64 y)] K = (
  bif decide (at_ < (↑l.length : Int)) then
    bif decide ((0 : Int) ≤ at_) && decide (at_ < (↑l.length : Int)) then
      bif decide (at_.toNat + (0 : Nat) < l.length) then
        bif l.getD (at_.toNat + (0 : Nat)) (0 : Int) == (1 : Int) then
          K Ex.normal
            [AV.one (SV.data (Row.ints IntKind.i64 l)), AV.one (SV.ptr (0 : Nat) (1 : Nat) (0 : Nat) (0 : Nat)),
              AV.one (SV.ptr (1 : Nat) (1 : Nat) (0 : Nat) (0 : Nat)), AV.one (SV.int IntKind.i64 p),
              AV.one (SV.int IntKind.i64 c), AV.one SV.nil,
              AV.one (SV.int IntKind.i64 (IntKind.i64.wrap (at_ + (1 : Int)))), AV.one (SV.int IntKind.i64 i),
              AV.one (SV.int IntKind.i64 (IntKind.i64.wrap (n + (1 : Int))))]
            [Blk.row (35 : TypeId) (Row.ints IntKind.i64 z), Blk.row (35 : TypeId) (Row.ints IntKind.i64 y)]
        else
          K (Ex.exit (2 : Nat))
            [AV.one (SV.data (Row.ints IntKind.i64 l)), AV.one (SV.ptr (0 : Nat) (1 : Nat) (0 : Nat) (0 : Nat)),
              AV.one (SV.ptr (1 : Nat) (1 : Nat) (0 : Nat) (0 : Nat)), AV.one (SV.int IntKind.i64 p),
              AV.one (SV.int IntKind.i64 c), AV.one SV.nil, AV.one (SV.int IntKind.i64 at_),
              AV.one (SV.int IntKind.i64 i), AV.one (SV.int IntKind.i64 n)]
            [Blk.row (35 : TypeId) (Row.ints IntKind.i64 z), Blk.row (35 : TypeId) (Row.ints IntKind.i64 y)]
      else False
    else False
  else
    K (Ex.exit (2 : Nat))
      [AV.one (SV.data (Row.ints IntKind.i64 l)), AV.one (SV.ptr (0 : Nat) (1 : Nat) (0 : Nat) (0 : Nat)),
        AV.one (SV.ptr (1 : Nat) (1 : Nat) (0 : Nat) (0 : Nat)), AV.one (SV.int IntKind.i64 p),
        AV.one (SV.int IntKind.i64 c), AV.one SV.nil, AV.one (SV.int IntKind.i64 at_), AV.one (SV.int IntKind.i64 i),
        AV.one (SV.int IntKind.i64 n)]
      [Blk.row (35 : TypeId) (Row.ints IntKind.i64 z), Blk.row (35 : TypeId) (Row.ints IntKind.i64 y)]) := by kernel_rfl
theorem ex48d (l z y rs : List Int) (p c at_ i n : Int) (K : Ex → List AV → List Blk → Prop) : evBody E48 (lb Try.f48 1) [0, 2, 4, 5, 6, 7, 8, 9, 10] [0, 2, 4, 5, 6, 7, 8, 9, 10] [.one (.data (.ints .i64 l)), .one (.ptr 0 1 0 0), .one (.ptr 1 1 0 0), .one (.int .i64 p), .one (.int .i64 c), .one (.own 2 1), .one (.int .i64 at_), .one (.int .i64 i), .one (.int .i64 n)] [.row 35 (.ints .i64 z), .row 35 (.ints .i64 y), .row 3 (.ints .i64 rs)] K = (
  bif decide (at_ < (↑l.length : Int)) then
    bif decide ((0 : Int) ≤ at_) && decide (at_ < (↑l.length : Int)) then
      bif decide (at_.toNat + (0 : Nat) < l.length) then
        bif l.getD (at_.toNat + (0 : Nat)) (0 : Int) == (1 : Int) then
          K Ex.normal
            [AV.one (SV.data (Row.ints IntKind.i64 l)), AV.one (SV.ptr (0 : Nat) (1 : Nat) (0 : Nat) (0 : Nat)),
              AV.one (SV.ptr (1 : Nat) (1 : Nat) (0 : Nat) (0 : Nat)), AV.one (SV.int IntKind.i64 p),
              AV.one (SV.int IntKind.i64 c), AV.one (SV.own (2 : Nat) (1 : Nat)),
              AV.one (SV.int IntKind.i64 (IntKind.i64.wrap (at_ + (1 : Int)))), AV.one (SV.int IntKind.i64 i),
              AV.one (SV.int IntKind.i64 (IntKind.i64.wrap (n + (1 : Int))))]
            [Blk.row (35 : TypeId) (Row.ints IntKind.i64 z), Blk.row (35 : TypeId) (Row.ints IntKind.i64 y),
              Blk.row (3 : TypeId) (Row.ints IntKind.i64 rs)]
        else
          K (Ex.exit (2 : Nat))
            [AV.one (SV.data (Row.ints IntKind.i64 l)), AV.one (SV.ptr (0 : Nat) (1 : Nat) (0 : Nat) (0 : Nat)),
              AV.one (SV.ptr (1 : Nat) (1 : Nat) (0 : Nat) (0 : Nat)), AV.one (SV.int IntKind.i64 p),
              AV.one (SV.int IntKind.i64 c), AV.one (SV.own (2 : Nat) (1 : Nat)), AV.one (SV.int IntKind.i64 at_),
              AV.one (SV.int IntKind.i64 i), AV.one (SV.int IntKind.i64 n)]
            [Blk.row (35 : TypeId) (Row.ints IntKind.i64 z), Blk.row (35 : TypeId) (Row.ints IntKind.i64 y),
              Blk.row (3 : TypeId) (Row.ints IntKind.i64 rs)]
      else False
    else False
  else
    K (Ex.exit (2 : Nat))
      [AV.one (SV.data (Row.ints IntKind.i64 l)), AV.one (SV.ptr (0 : Nat) (1 : Nat) (0 : Nat) (0 : Nat)),
        AV.one (SV.ptr (1 : Nat) (1 : Nat) (0 : Nat) (0 : Nat)), AV.one (SV.int IntKind.i64 p),
        AV.one (SV.int IntKind.i64 c), AV.one (SV.own (2 : Nat) (1 : Nat)), AV.one (SV.int IntKind.i64 at_),
        AV.one (SV.int IntKind.i64 i), AV.one (SV.int IntKind.i64 n)]
      [Blk.row (35 : TypeId) (Row.ints IntKind.i64 z), Blk.row (35 : TypeId) (Row.ints IntKind.i64 y),
        Blk.row (3 : TypeId) (Row.ints IntKind.i64 rs)]) := by kernel_rfl
theorem ex48e (z y rs x : List Int) (p i : Int) (K : Ex → List AV → List Blk → Prop) : evBody E48 (lb Try.f48 2) [2, 4, 5, 7, 12, 13] [2, 3, 12] [.one (.ptr 0 1 0 0), .one (.ptr 1 1 0 0), .one (.int .i64 p), .one (.own 2 1), .one (.ptr 3 1 0 0), .one (.int .i64 i)] [.row 35 (.ints .i64 z), .row 35 (.ints .i64 y), .row 3 (.ints .i64 rs), .row 35 (.ints .i64 x)] K = (
  bif decide (i < (8 : Int)) then
    bif decide ((0 : Int) ≤ i) && decide (i < (↑rs.length : Int)) then
      bif decide (i.toNat + (0 : Nat) < rs.length) then
        bif decide ((7 : Nat) < x.length) then
          ((0 : Int) ≤ i ∧ i ≤ (7 : Int)) ∧
            bif decide ((0 : Int) ≤ i) && decide (i < (8 : Int)) then
              bif decide ((0 : Nat) + i.toNat + (0 : Nat) < x.length) then
                bif decide ((0 : Int) ≤ i) && decide (i < (8 : Int)) then
                  bif
                      decide
                        ((0 : Nat) + i.toNat + (0 : Nat) <
                          (x.set ((0 : Nat) + i.toNat + (0 : Nat))
                              (IntKind.i64.wrap
                                (rs.getD (i.toNat + (0 : Nat)) (0 : Int) +
                                  expG p
                                    (lastG
                                      [x.getD (0 : Nat) (0 : Int), x.getD (1 : Nat) (0 : Int), x.getD (2 : Nat) (0 : Int),
                                        x.getD (3 : Nat) (0 : Int), x.getD (4 : Nat) (0 : Int),
                                        x.getD (5 : Nat) (0 : Int), x.getD (6 : Nat) (0 : Int),
                                        x.getD (7 : Nat) (0 : Int)]
                                      i)
                                    (befG
                                      [x.getD (0 : Nat) (0 : Int), x.getD (1 : Nat) (0 : Int), x.getD (2 : Nat) (0 : Int),
                                        x.getD (3 : Nat) (0 : Int), x.getD (4 : Nat) (0 : Int),
                                        x.getD (5 : Nat) (0 : Int), x.getD (6 : Nat) (0 : Int),
                                        x.getD (7 : Nat) (0 : Int)]
                                      i)))).length) then
                    bif
                        !sampleG
                            ((x.set ((0 : Nat) + i.toNat + (0 : Nat))
                                  (IntKind.i64.wrap
                                    (rs.getD (i.toNat + (0 : Nat)) (0 : Int) +
                                      expG p
                                        (lastG
                                          [x.getD (0 : Nat) (0 : Int), x.getD (1 : Nat) (0 : Int),
                                            x.getD (2 : Nat) (0 : Int), x.getD (3 : Nat) (0 : Int),
                                            x.getD (4 : Nat) (0 : Int), x.getD (5 : Nat) (0 : Int),
                                            x.getD (6 : Nat) (0 : Int), x.getD (7 : Nat) (0 : Int)]
                                          i)
                                        (befG
                                          [x.getD (0 : Nat) (0 : Int), x.getD (1 : Nat) (0 : Int),
                                            x.getD (2 : Nat) (0 : Int), x.getD (3 : Nat) (0 : Int),
                                            x.getD (4 : Nat) (0 : Int), x.getD (5 : Nat) (0 : Int),
                                            x.getD (6 : Nat) (0 : Int), x.getD (7 : Nat) (0 : Int)]
                                          i)))).getD
                              ((0 : Nat) + i.toNat + (0 : Nat)) (0 : Int)) then
                      bif decide ((7 : Nat) < y.length) then
                        bif
                            decide
                              (z.length =
                                [y.getD (0 : Nat) (0 : Int), y.getD (1 : Nat) (0 : Int), y.getD (2 : Nat) (0 : Int),
                                    y.getD (3 : Nat) (0 : Int), y.getD (4 : Nat) (0 : Int), y.getD (5 : Nat) (0 : Int),
                                    y.getD (6 : Nat) (0 : Int), y.getD (7 : Nat) (0 : Int)].length) then
                          K Ex.ret
                            [AV.one (SV.ptr (0 : Nat) (1 : Nat) (0 : Nat) (0 : Nat)),
                              AV.one (SV.int IntKind.i64 (2 : Int)),
                              AV.one (SV.ptr (1 : Nat) (1 : Nat) (0 : Nat) (0 : Nat))]
                            [Blk.row (35 : TypeId)
                                (Row.ints IntKind.i64
                                  [y.getD (0 : Nat) (0 : Int), y.getD (1 : Nat) (0 : Int), y.getD (2 : Nat) (0 : Int),
                                    y.getD (3 : Nat) (0 : Int), y.getD (4 : Nat) (0 : Int), y.getD (5 : Nat) (0 : Int),
                                    y.getD (6 : Nat) (0 : Int), y.getD (7 : Nat) (0 : Int)]),
                              Blk.row (35 : TypeId)
                                (Row.ints IntKind.i64
                                  (x.set ((0 : Nat) + i.toNat + (0 : Nat))
                                    (IntKind.i64.wrap
                                      (rs.getD (i.toNat + (0 : Nat)) (0 : Int) +
                                        expG p
                                          (lastG
                                            [x.getD (0 : Nat) (0 : Int), x.getD (1 : Nat) (0 : Int),
                                              x.getD (2 : Nat) (0 : Int), x.getD (3 : Nat) (0 : Int),
                                              x.getD (4 : Nat) (0 : Int), x.getD (5 : Nat) (0 : Int),
                                              x.getD (6 : Nat) (0 : Int), x.getD (7 : Nat) (0 : Int)]
                                            i)
                                          (befG
                                            [x.getD (0 : Nat) (0 : Int), x.getD (1 : Nat) (0 : Int),
                                              x.getD (2 : Nat) (0 : Int), x.getD (3 : Nat) (0 : Int),
                                              x.getD (4 : Nat) (0 : Int), x.getD (5 : Nat) (0 : Int),
                                              x.getD (6 : Nat) (0 : Int), x.getD (7 : Nat) (0 : Int)]
                                            i)))))]
                        else False
                      else False
                    else
                      K Ex.normal
                        [AV.one (SV.ptr (0 : Nat) (1 : Nat) (0 : Nat) (0 : Nat)),
                          AV.one (SV.ptr (1 : Nat) (1 : Nat) (0 : Nat) (0 : Nat)), AV.one (SV.int IntKind.i64 p),
                          AV.one (SV.own (2 : Nat) (1 : Nat)), AV.one (SV.ptr (3 : Nat) (1 : Nat) (0 : Nat) (0 : Nat)),
                          AV.one (SV.int IntKind.i64 (IntKind.i64.wrap (i + (1 : Int))))]
                        [Blk.row (35 : TypeId) (Row.ints IntKind.i64 z), Blk.row (35 : TypeId) (Row.ints IntKind.i64 y),
                          Blk.row (3 : TypeId) (Row.ints IntKind.i64 rs),
                          Blk.row (35 : TypeId)
                            (Row.ints IntKind.i64
                              (x.set ((0 : Nat) + i.toNat + (0 : Nat))
                                (IntKind.i64.wrap
                                  (rs.getD (i.toNat + (0 : Nat)) (0 : Int) +
                                    expG p
                                      (lastG
                                        [x.getD (0 : Nat) (0 : Int), x.getD (1 : Nat) (0 : Int),
                                          x.getD (2 : Nat) (0 : Int), x.getD (3 : Nat) (0 : Int),
                                          x.getD (4 : Nat) (0 : Int), x.getD (5 : Nat) (0 : Int),
                                          x.getD (6 : Nat) (0 : Int), x.getD (7 : Nat) (0 : Int)]
                                        i)
                                      (befG
                                        [x.getD (0 : Nat) (0 : Int), x.getD (1 : Nat) (0 : Int),
                                          x.getD (2 : Nat) (0 : Int), x.getD (3 : Nat) (0 : Int),
                                          x.getD (4 : Nat) (0 : Int), x.getD (5 : Nat) (0 : Int),
                                          x.getD (6 : Nat) (0 : Int), x.getD (7 : Nat) (0 : Int)]
                                        i)))))]
                  else False
                else False
              else False
            else False
        else False
      else False
    else False
  else
    K (Ex.exit (4 : Nat))
      [AV.one (SV.ptr (0 : Nat) (1 : Nat) (0 : Nat) (0 : Nat)), AV.any,
        AV.one (SV.ptr (1 : Nat) (1 : Nat) (0 : Nat) (0 : Nat))]
      [Blk.row (35 : TypeId) (Row.ints IntKind.i64 z), Blk.row (35 : TypeId) (Row.ints IntKind.i64 x)]) := by kernel_rfl
theorem ex9 (l : List Int) (K : AV → List Blk → Prop) : evFn E9 Try.f9 [.one (.data (.ints .i64 l))] [] K = (
  bif decide ((↑l.length : Int) > (400 : Int)) then
    bif decide ((↑l.length : Int) ≤ (3000 : Int)) then K (AV.one (SV.bool true)) []
    else
      bif decide ((↑l.length : Int) > (3004 : Int)) then K (AV.one (SV.bool true)) []
      else
        l.length ≤ (1000000000000 : Nat) ∧
          l.length ≤ (1000000000 : Nat) ∧
            bif unpackE l == (0 : Int) then
              l.length ≤ (1000000000 : Nat) ∧
                bif unpackE l == (0 : Int) then
                  K
                    (AV.one
                      (SV.bool
                        ((unpackX l).getD (0 : Nat) (0 : Int) == (unpackX l).getD (0 : Nat) (0 : Int) &&
                          ((unpackX l).getD (1 : Nat) (0 : Int) == (unpackX l).getD (1 : Nat) (0 : Int) &&
                            ((unpackX l).getD (2 : Nat) (0 : Int) == (unpackX l).getD (2 : Nat) (0 : Int) &&
                              ((unpackX l).getD (3 : Nat) (0 : Int) == (unpackX l).getD (3 : Nat) (0 : Int) &&
                                ((unpackX l).getD (4 : Nat) (0 : Int) == (unpackX l).getD (4 : Nat) (0 : Int) &&
                                  ((unpackX l).getD (5 : Nat) (0 : Int) == (unpackX l).getD (5 : Nat) (0 : Int) &&
                                    ((unpackX l).getD (6 : Nat) (0 : Int) == (unpackX l).getD (6 : Nat) (0 : Int) &&
                                      (unpackX l).getD (7 : Nat) (0 : Int) ==
                                        (unpackX l).getD (7 : Nat) (0 : Int))))))))))
                    []
                else
                  bif (0 : Int) == unpackE l then
                    K
                      (AV.one
                        (SV.bool
                          ((unpackX l).getD (0 : Nat) (0 : Int) == (0 : Int) &&
                            ((unpackX l).getD (1 : Nat) (0 : Int) == (0 : Int) &&
                              ((unpackX l).getD (2 : Nat) (0 : Int) == (0 : Int) &&
                                ((unpackX l).getD (3 : Nat) (0 : Int) == (0 : Int) &&
                                  ((unpackX l).getD (4 : Nat) (0 : Int) == (0 : Int) &&
                                    ((unpackX l).getD (5 : Nat) (0 : Int) == (0 : Int) &&
                                      ((unpackX l).getD (6 : Nat) (0 : Int) == (0 : Int) &&
                                        (unpackX l).getD (7 : Nat) (0 : Int) == (0 : Int))))))))))
                      []
                  else K (AV.one (SV.bool false)) []
            else
              l.length ≤ (1000000000 : Nat) ∧
                bif unpackE l == (0 : Int) then
                  bif unpackE l == (0 : Int) then
                    K
                      (AV.one
                        (SV.bool
                          ((0 : Int) == (unpackX l).getD (0 : Nat) (0 : Int) &&
                            ((0 : Int) == (unpackX l).getD (1 : Nat) (0 : Int) &&
                              ((0 : Int) == (unpackX l).getD (2 : Nat) (0 : Int) &&
                                ((0 : Int) == (unpackX l).getD (3 : Nat) (0 : Int) &&
                                  ((0 : Int) == (unpackX l).getD (4 : Nat) (0 : Int) &&
                                    ((0 : Int) == (unpackX l).getD (5 : Nat) (0 : Int) &&
                                      ((0 : Int) == (unpackX l).getD (6 : Nat) (0 : Int) &&
                                        (0 : Int) == (unpackX l).getD (7 : Nat) (0 : Int))))))))))
                      []
                  else K (AV.one (SV.bool false)) []
                else bif unpackE l == unpackE l then K (AV.one (SV.bool true)) [] else K (AV.one (SV.bool false)) []
  else
    bif decide ((↑l.length : Int) > (3004 : Int)) then K (AV.one (SV.bool true)) []
    else
      l.length ≤ (1000000000000 : Nat) ∧
        l.length ≤ (1000000000 : Nat) ∧
          bif unpackE l == (0 : Int) then
            l.length ≤ (1000000000 : Nat) ∧
              bif unpackE l == (0 : Int) then
                K
                  (AV.one
                    (SV.bool
                      ((unpackX l).getD (0 : Nat) (0 : Int) == (unpackX l).getD (0 : Nat) (0 : Int) &&
                        ((unpackX l).getD (1 : Nat) (0 : Int) == (unpackX l).getD (1 : Nat) (0 : Int) &&
                          ((unpackX l).getD (2 : Nat) (0 : Int) == (unpackX l).getD (2 : Nat) (0 : Int) &&
                            ((unpackX l).getD (3 : Nat) (0 : Int) == (unpackX l).getD (3 : Nat) (0 : Int) &&
                              ((unpackX l).getD (4 : Nat) (0 : Int) == (unpackX l).getD (4 : Nat) (0 : Int) &&
                                ((unpackX l).getD (5 : Nat) (0 : Int) == (unpackX l).getD (5 : Nat) (0 : Int) &&
                                  ((unpackX l).getD (6 : Nat) (0 : Int) == (unpackX l).getD (6 : Nat) (0 : Int) &&
                                    (unpackX l).getD (7 : Nat) (0 : Int) == (unpackX l).getD (7 : Nat) (0 : Int))))))))))
                  []
              else
                bif (0 : Int) == unpackE l then
                  K
                    (AV.one
                      (SV.bool
                        ((unpackX l).getD (0 : Nat) (0 : Int) == (0 : Int) &&
                          ((unpackX l).getD (1 : Nat) (0 : Int) == (0 : Int) &&
                            ((unpackX l).getD (2 : Nat) (0 : Int) == (0 : Int) &&
                              ((unpackX l).getD (3 : Nat) (0 : Int) == (0 : Int) &&
                                ((unpackX l).getD (4 : Nat) (0 : Int) == (0 : Int) &&
                                  ((unpackX l).getD (5 : Nat) (0 : Int) == (0 : Int) &&
                                    ((unpackX l).getD (6 : Nat) (0 : Int) == (0 : Int) &&
                                      (unpackX l).getD (7 : Nat) (0 : Int) == (0 : Int))))))))))
                    []
                else K (AV.one (SV.bool false)) []
          else
            l.length ≤ (1000000000 : Nat) ∧
              bif unpackE l == (0 : Int) then
                bif unpackE l == (0 : Int) then
                  K
                    (AV.one
                      (SV.bool
                        ((0 : Int) == (unpackX l).getD (0 : Nat) (0 : Int) &&
                          ((0 : Int) == (unpackX l).getD (1 : Nat) (0 : Int) &&
                            ((0 : Int) == (unpackX l).getD (2 : Nat) (0 : Int) &&
                              ((0 : Int) == (unpackX l).getD (3 : Nat) (0 : Int) &&
                                ((0 : Int) == (unpackX l).getD (4 : Nat) (0 : Int) &&
                                  ((0 : Int) == (unpackX l).getD (5 : Nat) (0 : Int) &&
                                    ((0 : Int) == (unpackX l).getD (6 : Nat) (0 : Int) &&
                                      (0 : Int) == (unpackX l).getD (7 : Nat) (0 : Int))))))))))
                    []
                else K (AV.one (SV.bool false)) []
              else bif unpackE l == unpackE l then K (AV.one (SV.bool true)) [] else K (AV.one (SV.bool false)) []) := by kernel_rfl
end Go.Ev

namespace Go.Ev
open Go Go.Proofs
attribute [local irreducible] evFn evBody
set_option maxRecDepth 20000

theorem ok35 : SpecOK Try.prog 35 copyIntsS := by
  refine specOK (n := 6) (m := 0) (lps := []) .nil Try.func35 (by kernel_rfl) (by kernel_rfl) (noLoops (by kernel_rfl)) fun args σ K h => ?_
  unfold copyIntsS at h
  split at h
  · rename_i l
    rw [ex35 l K]
    obtain ⟨h1, h⟩ := h
    rw [decide_eq_true (by omega), cond_true]
    exact h
  · exact h.elim
theorem odd_cases (b : Int) : oddB b = ((b != 0) && (b != 1)) := by
  unfold oddB withinG
  rw [Bool.eq_iff_iff]
  simp
  omega
theorem lok49 : LoopOK E49 (lb Try.f49 0) [0, 3] [2] areBitsL := by
  refine loopOK .nil (noInner (by kernel_rfl)) (fun vs _ => match vs with
    | [.one (.data (.ints .i64 l)), .one (.int .i64 i)] => l.length - i.toNat
    | _ => 0) fun vs σ k h => ?_
  unfold areBitsL at h
  split at h
  · rename_i l i
    rw [ex49a l i _]
    obtain ⟨⟨h1, h2⟩, h⟩ := h
    by_cases hi : i < l.length
    · have hw : IntKind.i64.wrap (i + 1) = i + 1 := wrap_id (by omega) (by omega)
      have hi' : i.toNat < l.length := by omega
      have hmu : l.length - (i + 1).toNat < l.length - i.toNat := by omega
      rw [any_step h2 hi, odd_cases] at h
      simp only [hi, hi', h2, hw, Nat.add_zero, decide_true, Bool.and_self, cond_true]
      cases c0 : l.getD i.toNat 0 != 0 with
      | false => rw [c0] at h; exact ⟨⟨⟨h1, by omega⟩, h⟩, hmu⟩
      | true =>
        cases c1 : l.getD i.toNat 0 != 1 with
        | false => rw [c0, c1] at h; exact ⟨⟨⟨h1, by omega⟩, h⟩, hmu⟩
        | true => rw [c0, c1] at h; exact h
    · rw [List.drop_eq_nil_of_le (by omega)] at h
      simp only [hi, decide_false, cond_false]
      exact h
  · exact h.elim
theorem ok49 : SpecOK Try.prog 49 areBitsS := by
  refine specOK (n := 22) (m := 0) (lps := [(2, .spec [0, 3] [2] areBitsL)]) .nil Try.func49 (by kernel_rfl) (by kernel_rfl) (theLoops (n := 1) (by kernel_rfl) fun i hi => ?_) fun args σ K h => ?_
  · match i, hi with
    | 0, _ => exact loopHyp_of (key := 2) (by kernel_rfl) rfl lok49
  · unfold areBitsS at h
    split at h
    · rename_i l
      rw [ex49 l K]
      obtain ⟨h1, h⟩ := h
      refine ⟨⟨h1, by omega⟩, ?_⟩
      cases hs : l.any oddB <;> rw [hs] at h <;> exact h
    · exact h.elim
theorem lok50 : LoopOK E50 (lb Try.f50 0) [0, 3, 4] [3] numberL := by
  refine loopOK .nil (noInner (by kernel_rfl)) (fun vs _ => match vs with
    | [.one (.data (.ints .i64 l)), _, .one (.int .i64 i)] => l.length - i.toNat
    | _ => 0) fun vs σ k h => ?_
  unfold numberL at h
  split at h
  · rename_i l n i
    rw [ex50a l n i _]
    obtain ⟨⟨h1, h2, h3⟩, h⟩ := h
    by_cases hi : i < l.length
    · have hw : IntKind.i64.wrap (i + 1) = i + 1 := wrap_id (by omega) (by omega)
      have hi' : i.toNat < l.length := by omega
      have hmu : l.length - (i + 1).toNat < l.length - i.toNat := by omega
      have e : l.length - i.toNat = (l.length - (i + 1).toNat) + 1 := by omega
      rw [e] at h
      simp only [readV] at h
      have e2 : (l.drop i.toNat).getD 0 0 = l.getD i.toNat 0 := by rw [drop_step 0 hi']; rfl
      have e3 : (l.drop i.toNat).drop 1 = l.drop (i + 1).toNat := by rw [List.drop_drop]; congr 1; omega
      rw [e2, e3] at h
      simp only [hi, hi', h2, hw, Nat.add_zero, decide_true, Bool.and_self, cond_true]
      exact ⟨⟨⟨h1, by omega, by omega⟩, h⟩, hmu⟩
    · have e : l.length - i.toNat = 0 := by omega
      rw [e] at h
      simp only [hi, decide_false, cond_false]
      exact h
  · exact h.elim
theorem ok50 : SpecOK Try.prog 50 numberS := by
  refine specOK (n := 19) (m := 0) (lps := [(3, .spec [0, 3, 4] [3] numberL)]) .nil Try.func50 (by kernel_rfl) (by kernel_rfl) (theLoops (n := 1) (by kernel_rfl) fun i hi => ?_) fun args σ K h => ?_
  · match i, hi with
    | 0, _ => exact loopHyp_of (key := 3) (by kernel_rfl) rfl lok50
  · unfold numberS at h
    split at h
    · rename_i l
      rw [ex50 l K]
      obtain ⟨h1, h⟩ := h
      exact ⟨⟨h1, by omega, by omega⟩, h⟩
    · exact h.elim
theorem ok107 : SpecOK Try.prog 107 residS := by
  refine specOK (n := 12) (m := 0) (lps := []) .nil Try.func107 (by kernel_rfl) (by kernel_rfl) (noLoops (by kernel_rfl)) fun args σ K h => ?_
  unfold residS at h
  split at h
  · rename_i u
    rw [ex107 u K]
    obtain ⟨⟨h1, h2⟩, h⟩ := h
    unfold resid at h
    have hm : u.tmod 2 = u % 2 := Int.tmod_eq_emod_of_nonneg h1
    have hd : u.tdiv 2 = u / 2 := Int.tdiv_eq_ediv_of_nonneg h1
    rw [hm, hd] at h ⊢
    by_cases hu : u % 2 = 0
    · have hn : (u % 2 == 1) = false := beq_eq_false_iff_ne.2 (by omega)
      rw [hn] at h
      rw [hu]
      exact h
    · have e1 : u % 2 = 1 := by omega
      rw [e1] at h ⊢
      have w1 : wi (u / 2) = u / 2 := wi_id (by omega) (by omega)
      have w2 : wi (0 - u / 2) = 0 - u / 2 := wi_id (by omega) (by omega)
      have w3 : wi (0 - u / 2 - 1) = 0 - u / 2 - 1 := wi_id (by omega) (by omega)
      have w4 : IntKind.i64.wrap (u + 1) = u + 1 := wrap_id (by omega) (by omega)
      have w5 : IntKind.i64.wrap (0 - (u + 1)) = 0 - (u + 1) := wrap_id (by omega) (by omega)
      have w6 : (0 - (u + 1)).tdiv 2 = 0 - u / 2 - 1 := by
        have : (0 : Int) - (u + 1) = -(u + 1) := by omega
        rw [this, Int.neg_tdiv, Int.tdiv_eq_ediv_of_nonneg (by omega)]
        omega
      have w7 : IntKind.i64.wrap (0 - u / 2 - 1) = 0 - u / 2 - 1 := wrap_id (by omega) (by omega)
      rw [w1, w2, w3] at h
      rw [w4, w5, w6, w7]
      exact h
  · exact h.elim

/-! ### Codes -/
theorem onesN_le : ∀ l : List Int, onesN l ≤ l.length
  | [] => Nat.le_refl _
  | b :: l => by
    have := onesN_le l
    simp only [onesN, List.length_cons]
    cases b == 1 <;> simp <;> omega
theorem readV_take : ∀ (c : Nat) (n : Int) (l : List Int), readV c n (l.take c) = readV c n l
  | 0, _, _ => rfl
  | c + 1, n, l => by
    cases l with
    | nil => rfl
    | cons b l =>
      simp only [readV, List.take_succ_cons, List.getD_cons_zero, List.drop_succ_cons, List.drop_zero]
      exact readV_take c _ l
theorem codeV_range {l : List Int} {c : Nat} (h : l.any oddB = false) (hl : l.length ≤ 3000) (hc : c ≤ 17) : codeV c l = (onesN l : Int) * 2 ^ c + readV c 0 (l.drop (onesN l + 1)) ∧ 0 ≤ codeV c l ∧ codeV c l ≤ 400000000 ∧
    wi ((onesN l : Int) * 2 ^ c) = (onesN l : Int) * 2 ^ c := by
  have ho := onesN_le l
  have hp : (1 : Int) ≤ 2 ^ c ∧ (2 : Int) ^ c ≤ 131072 := by
    have h1 : (2 : Nat) ^ c ≤ 2 ^ 17 := Nat.pow_le_pow_right (by decide) hc
    have h2 : 0 < (2 : Nat) ^ c := Nat.pow_pos (by decide)
    have ep : ((2 ^ c : Nat) : Int) = (2 : Int) ^ c := by simp
    have e17 : (2 : Nat) ^ 17 = 131072 := by decide
    omega
  have hr := readV_range c 0 (l.drop (onesN l + 1)) (any_drop h _) (by decide) (by omega)
  have hm1 : (onesN l : Int) * 2 ^ c ≤ 3000 * 2 ^ c := Int.mul_le_mul_of_nonneg_right (by omega) (by omega)
  have hm0 : 0 ≤ (onesN l : Int) * 2 ^ c := Int.mul_nonneg (by omega) (by omega)
  have hw : wi ((onesN l : Int) * 2 ^ c) = (onesN l : Int) * 2 ^ c := wi_id (by omega) (by omega)
  have e : codeV c l = (onesN l : Int) * 2 ^ c + readV c 0 (l.drop (onesN l + 1)) := by
    unfold codeV
    rw [Nat.min_eq_left (by omega), hw, wi_id (by omega) (by omega)]
  refine ⟨e, ?_, ?_, hw⟩ <;> rw [e] <;> omega
theorem code_facts {l : List Int} {c at_ : Int} (h : atOK l c at_) : (l.drop at_.toNat).any oddB = false ∧ 0 ≤ codeV c.toNat (l.drop at_.toNat) ∧ codeV c.toNat (l.drop at_.toNat) ≤ 400000000 ∧
    (onesN (l.drop at_.toNat) + 1 + c.toNat ≤ (l.drop at_.toNat).length → (List.take c.toNat ((l.drop at_.toNat).drop (onesN (l.drop at_.toNat) + 1))).length = c.toNat ∧
      IntKind.i64.wrap (IntKind.i64.wrap ((onesN (l.drop at_.toNat) : Int) * 2 ^ c.toNat) + readV c.toNat 0 (List.take c.toNat ((l.drop at_.toNat).drop (onesN (l.drop at_.toNat) + 1)))) = codeV c.toNat (l.drop at_.toNat) ∧
      l.drop (at_ + (onesN (l.drop at_.toNat) : Int) + 1 + c).toNat = (l.drop at_.toNat).drop (onesN (l.drop at_.toNat) + 1 + c.toNat)) := by
  obtain ⟨a1, a2, a3, a4, a5, a6⟩ := h
  have hd := any_drop a1 at_.toNat
  obtain ⟨c1, c2, c3, c4⟩ := codeV_range (c := c.toNat) hd (by rw [List.length_drop]; omega) (by omega)
  refine ⟨hd, c2, c3, fun hl => ⟨?_, ?_, ?_⟩⟩
  · rw [List.length_take, List.length_drop]; omega
  · rw [readV_take]
    show wi (wi _ + _) = _
    unfold codeV
    rw [Nat.min_eq_left (by omega)]
  · rw [List.drop_drop]; congr 1; omega
theorem count_step {l : List Int} {at_ : Int} (h0 : 0 ≤ at_) (h : at_ < l.length) : onesN (l.drop at_.toNat) = bif l.getD at_.toNat 0 == 1 then onesN (l.drop (at_ + 1).toNat) + 1 else 0 := by
  rw [drop_step 0 (by omega), show (at_ + 1).toNat = at_.toNat + 1 by omega]
  rfl
def mu2 (vs : List AV) : Nat := match vs with
  | [.one (.data (.ints .i64 l)), _, _, _, _, _, .one (.int .i64 at_), _, _] => l.length - at_.toNat
  | _ => 0
theorem lok48c : ∀ (l z y  : List Int) (p c at_ i n : Int) (k : Ex → List AV → List Blk → Prop), count2L [.one (.data (.ints .i64 l)), .one (.ptr 0 1 0 0), .one (.ptr 1 1 0 0), .one (.int .i64 p), .one (.int .i64 c), .one .nil, .one (.int .i64 at_), .one (.int .i64 i), .one (.int .i64 n)] [.row 35 (.ints .i64 z), .row 35 (.ints .i64 y)] k →
    evBody E48 (lb Try.f48 1) [0, 2, 4, 5, 6, 7, 8, 9, 10] [0, 2, 4, 5, 6, 7, 8, 9, 10] [.one (.data (.ints .i64 l)), .one (.ptr 0 1 0 0), .one (.ptr 1 1 0 0), .one (.int .i64 p), .one (.int .i64 c), .one .nil, .one (.int .i64 at_), .one (.int .i64 i), .one (.int .i64 n)] [.row 35 (.ints .i64 z), .row 35 (.ints .i64 y)] fun e vs' σ' => match e with
      | .normal => count2L vs' σ' k ∧ mu2 vs' < l.length - at_.toNat
      | e => k e vs' σ' := by
  intro l z y  p c at_ i n k h
  rw [ex48c l z y p c at_ i n _]
  obtain ⟨⟨h1, h2, h3, h4, h5⟩, h⟩ := h
  by_cases hi : at_ < l.length
  · have hw : IntKind.i64.wrap (at_ + 1) = at_ + 1 := wrap_id (by omega) (by omega)
    have hw2 : IntKind.i64.wrap (n + 1) = n + 1 := wrap_id (by omega) (by omega)
    have hi' : at_.toNat < l.length := by omega
    have hmu : l.length - (at_ + 1).toNat < l.length - at_.toNat := by omega
    rw [count_step h1 hi] at h
    simp only [hi, hi', h1, hw, hw2, Nat.add_zero, decide_true, Bool.and_self, cond_true]
    cases hb : l.getD at_.toNat 0 == 1 with
    | true =>
      rw [hb] at h
      refine ⟨⟨⟨by omega, by omega, h3, by omega, by omega⟩, ?_⟩, hmu⟩
      rw [show at_ + 1 + (onesN (l.drop (at_ + 1).toNat) : Int) = at_ + ((onesN (l.drop (at_ + 1).toNat) + 1 : Nat) : Int) by omega, show n + 1 + (onesN (l.drop (at_ + 1).toNat) : Int) = n + ((onesN (l.drop (at_ + 1).toNat) + 1 : Nat) : Int) by omega]
      exact h
    | false =>
      rw [hb] at h
      simp only [cond_false, Int.ofNat_zero, Int.add_zero] at h
      exact h
  · have e : l.drop at_.toNat = [] := List.drop_eq_nil_of_le (by omega)
    rw [e] at h
    simp only [onesN, Int.ofNat_zero, Int.add_zero] at h
    simp only [hi, decide_false, cond_false]
    exact h
theorem lok48d : ∀ (l z y rs : List Int) (p c at_ i n : Int) (k : Ex → List AV → List Blk → Prop), count2L [.one (.data (.ints .i64 l)), .one (.ptr 0 1 0 0), .one (.ptr 1 1 0 0), .one (.int .i64 p), .one (.int .i64 c), .one (.own 2 1), .one (.int .i64 at_), .one (.int .i64 i), .one (.int .i64 n)] [.row 35 (.ints .i64 z), .row 35 (.ints .i64 y), .row 3 (.ints .i64 rs)] k →
    evBody E48 (lb Try.f48 1) [0, 2, 4, 5, 6, 7, 8, 9, 10] [0, 2, 4, 5, 6, 7, 8, 9, 10] [.one (.data (.ints .i64 l)), .one (.ptr 0 1 0 0), .one (.ptr 1 1 0 0), .one (.int .i64 p), .one (.int .i64 c), .one (.own 2 1), .one (.int .i64 at_), .one (.int .i64 i), .one (.int .i64 n)] [.row 35 (.ints .i64 z), .row 35 (.ints .i64 y), .row 3 (.ints .i64 rs)] fun e vs' σ' => match e with
      | .normal => count2L vs' σ' k ∧ mu2 vs' < l.length - at_.toNat
      | e => k e vs' σ' := by
  intro l z y rs p c at_ i n k h
  rw [ex48d l z y rs p c at_ i n _]
  obtain ⟨⟨h1, h2, h3, h4, h5⟩, h⟩ := h
  by_cases hi : at_ < l.length
  · have hw : IntKind.i64.wrap (at_ + 1) = at_ + 1 := wrap_id (by omega) (by omega)
    have hw2 : IntKind.i64.wrap (n + 1) = n + 1 := wrap_id (by omega) (by omega)
    have hi' : at_.toNat < l.length := by omega
    have hmu : l.length - (at_ + 1).toNat < l.length - at_.toNat := by omega
    rw [count_step h1 hi] at h
    simp only [hi, hi', h1, hw, hw2, Nat.add_zero, decide_true, Bool.and_self, cond_true]
    cases hb : l.getD at_.toNat 0 == 1 with
    | true =>
      rw [hb] at h
      refine ⟨⟨⟨by omega, by omega, h3, by omega, by omega⟩, ?_⟩, hmu⟩
      rw [show at_ + 1 + (onesN (l.drop (at_ + 1).toNat) : Int) = at_ + ((onesN (l.drop (at_ + 1).toNat) + 1 : Nat) : Int) by omega, show n + 1 + (onesN (l.drop (at_ + 1).toNat) : Int) = n + ((onesN (l.drop (at_ + 1).toNat) + 1 : Nat) : Int) by omega]
      exact h
    | false =>
      rw [hb] at h
      simp only [cond_false, Int.ofNat_zero, Int.add_zero] at h
      exact h
  · have e : l.drop at_.toNat = [] := List.drop_eq_nil_of_le (by omega)
    rw [e] at h
    simp only [onesN, Int.ofNat_zero, Int.add_zero] at h
    simp only [hi, decide_false, cond_false]
    exact h

theorem ok48L : AllOK Try.prog [(49, areBitsS), (50, numberS), (32, paramS), (90, powS), (107, residS), (89, refExpS), (108, isSampleS)] :=
  .cons ok49 (.cons ok50 (.cons ok32 (.cons ok90 (.cons ok107 (.cons ok89 (.cons ok108 .nil))))))
theorem lok48count : LoopOK E48 (lb Try.f48 1) [0, 2, 4, 5, 6, 7, 8, 9, 10] [0, 2, 4, 5, 6, 7, 8, 9, 10] count2L := by
  refine loopOK ok48L (noInner (by kernel_rfl)) (fun vs _ => mu2 vs) fun vs σ k h => ?_
  have h0 := h
  unfold count2L at h
  split at h
  · exact lok48c _ _ _ _ _ _ _ _ _ h0
  · exact lok48d _ _ _ _ _ _ _ _ _ _ h0
  · exact h.elim
def mu3 (vs : List AV) : Nat := match vs with
  | [_, _, _, _, _, _, _, .one (.int .i64 i)] => (8 - i).toNat
  | _ => 0
theorem unpE_s (k n : Nat) (l : List Int) : unpE k (n + 1) l = (decide (l.length < onesN l + 1 + k) || unpE k n (l.drop (onesN l + 1 + k))) := rfl
theorem unpL_s (k n : Nat) (l : List Int) : unpL k (n + 1) l = unpL k n (l.drop (onesN l + 1 + k)) := rfl
theorem rsL_s (k n : Nat) (l : List Int) : rsL k (n + 1) l = resid (codeV k l) :: rsL k n (l.drop (onesN l + 1 + k)) := rfl
theorem lok48a : ∀ (l z y  : List Int) (p c at_ i : Int) (k : Ex → List AV → List Blk → Prop), codes3L [.one (.data (.ints .i64 l)), .one (.ptr 0 1 0 0), .one (.ptr 1 1 0 0), .one (.int .i64 p), .one (.int .i64 c), .one .nil, .one (.int .i64 at_), .one (.int .i64 i)] [.row 35 (.ints .i64 z), .row 35 (.ints .i64 y)] k →
    evBody E48 (lb Try.f48 0) [0, 2, 4, 5, 6, 7, 8, 9] [0, 2, 3, 4, 5, 7, 8] [.one (.data (.ints .i64 l)), .one (.ptr 0 1 0 0), .one (.ptr 1 1 0 0), .one (.int .i64 p), .one (.int .i64 c), .one .nil, .one (.int .i64 at_), .one (.int .i64 i)] [.row 35 (.ints .i64 z), .row 35 (.ints .i64 y)] fun e vs' σ' => match e with
      | .normal => codes3L vs' σ' k ∧ mu3 vs' < (8 - i).toNat
      | e => k e vs' σ' := by
  intro l z y  p c at_ i k h
  rw [ex48a l z y p c at_ i _]
  obtain ⟨⟨ha, rfl, rfl, hz⟩, h⟩ := h
  obtain ⟨f1, f2, f3, f4⟩ := code_facts ha
  have hat := ha
  obtain ⟨a1, a2, a3, a4, a5, a6⟩ := ha
  have ho : onesN (l.drop at_.toNat) ≤ (l.drop at_.toNat).length := onesN_le _
  have hdl : (l.drop at_.toNat).length = l.length - at_.toNat := List.length_drop
  have w1 : IntKind.i64.wrap (at_ + (onesN (l.drop at_.toNat) : Int) + 1) = at_ + (onesN (l.drop at_.toNat) : Int) + 1 := wrap_id (by omega) (by omega)
  have w2 : IntKind.i64.wrap (at_ + (onesN (l.drop at_.toNat) : Int) + 1 + c) = at_ + (onesN (l.drop at_.toNat) : Int) + 1 + c := wrap_id (by omega) (by omega)
  have hp := pow_bound (k := c.toNat) (by omega)
  have hi8 : (0 : Int) < 8 := by decide
  rw [w1, w2]
  rw [show (8 : Nat) = 7 + 1 from rfl] at h
  rw [unpE_s, unpL_s, rsL_s] at h
  by_cases hf : at_ + (onesN (l.drop at_.toNat) : Int) + 1 + c > l.length
  · have hfl : decide ((l.drop at_.toNat).length < onesN (l.drop at_.toNat) + 1 + c.toNat) = true := decide_eq_true (by omega)
    rw [hfl] at h
    have hy : 7 < zeros8.length := by decide
    have hz' : z.length = [zeros8.getD 0 0, zeros8.getD 1 0, zeros8.getD 2 0, zeros8.getD 3 0, zeros8.getD 4 0, zeros8.getD 5 0, zeros8.getD 6 0, zeros8.getD 7 0].length := hz
    simp only [hi8, hf, hy, hz', decide_true, cond_true]
    exact ⟨⟨a5, a6, by omega, by omega, a5⟩, h _ _ _⟩
  · have hfl : decide ((l.drop at_.toNat).length < onesN (l.drop at_.toNat) + 1 + c.toNat) = false := decide_eq_false (by omega)
    rw [hfl, Bool.false_or] at h
    obtain ⟨g1, g2, g3⟩ := f4 (by omega)
    have t1 : (at_ + (onesN (l.drop at_.toNat) : Int) + 1 + c).toNat - (at_ + (onesN (l.drop at_.toNat) : Int) + 1).toNat = c.toNat := by omega
    have t2 : (at_ + (onesN (l.drop at_.toNat) : Int) + 1 + c).toNat ≤ l.length := by omega
    have t3 : (at_ + (onesN (l.drop at_.toNat) : Int) + 1).toNat ≤ (at_ + (onesN (l.drop at_.toNat) : Int) + 1 + c).toNat := by omega
    have t4 : 0 ≤ at_ + (onesN (l.drop at_.toNat) : Int) + 1 := by omega
    have t5 : 0 ≤ at_ + (onesN (l.drop at_.toNat) : Int) + 1 + c := by omega
    have t6 : l.drop (at_ + (onesN (l.drop at_.toNat) : Int) + 1).toNat = (l.drop at_.toNat).drop (onesN (l.drop at_.toNat) + 1) := by rw [List.drop_drop]; congr 1; omega
    have t7 : ¬ (2 : Int) ^ c.toNat = 0 := by omega
    simp only [hi8, hf, t1, t2, t3, t4, t5, t6, Int.zero_add, decide_true, decide_false, Bool.and_self, cond_true, cond_false, g1]
    have hr2 : 0 ≤ codeV c.toNat (l.drop at_.toNat) ∧ codeV c.toNat (l.drop at_.toNat) ≤ 2305843009213693952 := ⟨f2, by omega⟩
    have gv : IntKind.i64.wrap (IntKind.i64.wrap ((onesN (l.drop at_.toNat) : Int) * 2 ^ c.toNat) + readV c.toNat 0 (List.take c.toNat ((l.drop at_.toNat).drop (onesN (l.drop at_.toNat) + 1)))) = codeV c.toNat (l.drop at_.toNat) := g2
    simp only [gv]
    rw [show IntKind.i64.wrap 1 = 1 from wrap_id (by decide) (by decide)]
    refine ⟨⟨a5, a6, by omega, by decide, a5⟩, by omega, ⟨a3, by omega⟩, hr2, ⟨⟨⟨a1, a2, a3, a4, by omega, by omega⟩, by decide, by decide, rfl, hz, rfl⟩, ?_⟩, by show (8 - 1 : Int).toNat < (8 - 0 : Int).toNat; decide⟩
    rw [g3]
    exact h
theorem lok48b : ∀ (l z y rs : List Int) (p c at_ i : Int) (k : Ex → List AV → List Blk → Prop), codes3L [.one (.data (.ints .i64 l)), .one (.ptr 0 1 0 0), .one (.ptr 1 1 0 0), .one (.int .i64 p), .one (.int .i64 c), .one (.own 2 1), .one (.int .i64 at_), .one (.int .i64 i)] [.row 35 (.ints .i64 z), .row 35 (.ints .i64 y), .row 3 (.ints .i64 rs)] k →
    evBody E48 (lb Try.f48 0) [0, 2, 4, 5, 6, 7, 8, 9] [0, 2, 3, 4, 5, 7, 8] [.one (.data (.ints .i64 l)), .one (.ptr 0 1 0 0), .one (.ptr 1 1 0 0), .one (.int .i64 p), .one (.int .i64 c), .one (.own 2 1), .one (.int .i64 at_), .one (.int .i64 i)] [.row 35 (.ints .i64 z), .row 35 (.ints .i64 y), .row 3 (.ints .i64 rs)] fun e vs' σ' => match e with
      | .normal => codes3L vs' σ' k ∧ mu3 vs' < (8 - i).toNat
      | e => k e vs' σ' := by
  intro l z y rs p c at_ i k h
  rw [ex48b l z y rs p c at_ i _]
  obtain ⟨⟨ha, hi1, hi2, rfl, hz, hrl⟩, h⟩ := h
  rcases Int.lt_or_le i 8 with hi8 | hi8
  case inr =>
    have e : i = 8 := by omega
    subst e
    obtain ⟨a1, a2, a3, a4, a5, a6⟩ := ha
    have e0 : (8 - 8 : Int).toNat = 0 := rfl
    rw [e0] at h
    simp only [unpE, unpL, rsL, cond_false, List.append_nil] at h
    have e1 : (l.length : Int) - ((l.drop at_.toNat).length : Int) = at_ := by rw [List.length_drop]; omega
    rw [e1] at h
    simp only [show ¬ (8 : Int) < 8 by decide, decide_false, cond_false]
    exact h
  obtain ⟨f1, f2, f3, f4⟩ := code_facts ha
  have hat := ha
  obtain ⟨a1, a2, a3, a4, a5, a6⟩ := ha
  have ho : onesN (l.drop at_.toNat) ≤ (l.drop at_.toNat).length := onesN_le _
  have hdl : (l.drop at_.toNat).length = l.length - at_.toNat := List.length_drop
  have w1 : IntKind.i64.wrap (at_ + (onesN (l.drop at_.toNat) : Int) + 1) = at_ + (onesN (l.drop at_.toNat) : Int) + 1 := wrap_id (by omega) (by omega)
  have w2 : IntKind.i64.wrap (at_ + (onesN (l.drop at_.toNat) : Int) + 1 + c) = at_ + (onesN (l.drop at_.toNat) : Int) + 1 + c := wrap_id (by omega) (by omega)
  have hp := pow_bound (k := c.toNat) (by omega)
  have w3 : IntKind.i64.wrap (i + 1) = i + 1 := wrap_id (by omega) (by omega)
  have hmu : (8 - (i + 1)).toNat < (8 - i).toNat := by omega
  rw [w1, w2]
  rw [show (8 - i).toNat = (8 - (i + 1)).toNat + 1 by omega] at h
  rw [unpE_s, unpL_s, rsL_s] at h
  by_cases hf : at_ + (onesN (l.drop at_.toNat) : Int) + 1 + c > l.length
  · have hfl : decide ((l.drop at_.toNat).length < onesN (l.drop at_.toNat) + 1 + c.toNat) = true := decide_eq_true (by omega)
    rw [hfl] at h
    have hy : 7 < zeros8.length := by decide
    have hz' : z.length = [zeros8.getD 0 0, zeros8.getD 1 0, zeros8.getD 2 0, zeros8.getD 3 0, zeros8.getD 4 0, zeros8.getD 5 0, zeros8.getD 6 0, zeros8.getD 7 0].length := hz
    simp only [hi8, hf, hy, hz', decide_true, cond_true]
    exact ⟨⟨a5, a6, by omega, by omega, a5⟩, h _ _ _⟩
  · have hfl : decide ((l.drop at_.toNat).length < onesN (l.drop at_.toNat) + 1 + c.toNat) = false := decide_eq_false (by omega)
    rw [hfl, Bool.false_or] at h
    obtain ⟨g1, g2, g3⟩ := f4 (by omega)
    have t1 : (at_ + (onesN (l.drop at_.toNat) : Int) + 1 + c).toNat - (at_ + (onesN (l.drop at_.toNat) : Int) + 1).toNat = c.toNat := by omega
    have t2 : (at_ + (onesN (l.drop at_.toNat) : Int) + 1 + c).toNat ≤ l.length := by omega
    have t3 : (at_ + (onesN (l.drop at_.toNat) : Int) + 1).toNat ≤ (at_ + (onesN (l.drop at_.toNat) : Int) + 1 + c).toNat := by omega
    have t4 : 0 ≤ at_ + (onesN (l.drop at_.toNat) : Int) + 1 := by omega
    have t5 : 0 ≤ at_ + (onesN (l.drop at_.toNat) : Int) + 1 + c := by omega
    have t6 : l.drop (at_ + (onesN (l.drop at_.toNat) : Int) + 1).toNat = (l.drop at_.toNat).drop (onesN (l.drop at_.toNat) + 1) := by rw [List.drop_drop]; congr 1; omega
    have t7 : ¬ (2 : Int) ^ c.toNat = 0 := by omega
    simp only [hi8, hf, t1, t2, t3, t4, t5, t6, Int.zero_add, decide_true, decide_false, Bool.and_self, cond_true, cond_false, g1]
    have hr2 : 0 ≤ codeV c.toNat (l.drop at_.toNat) ∧ codeV c.toNat (l.drop at_.toNat) ≤ 2305843009213693952 := ⟨f2, by omega⟩
    have hb : ∀ v : Int, (rs ++ [v]).length * 8 ≤ 140737488355328 ∧ (rs ++ [v]).length ≤ 140737488355328 := fun v => by simp; omega
    have gv : IntKind.i64.wrap (IntKind.i64.wrap ((onesN (l.drop at_.toNat) : Int) * 2 ^ c.toNat) + readV c.toNat 0 (List.take c.toNat ((l.drop at_.toNat).drop (onesN (l.drop at_.toNat) + 1)))) = codeV c.toNat (l.drop at_.toNat) := g2
    simp only [gv, hb, w3, and_self, decide_true, cond_true]
    refine ⟨⟨a5, a6, by omega, by omega, a5⟩, by omega, ⟨a3, by omega⟩, hr2, ⟨⟨⟨a1, a2, a3, a4, by omega, by omega⟩, by omega, by omega, rfl, hz, by simp; omega⟩, ?_⟩, hmu⟩
    rw [g3, List.append_assoc]
    exact h

theorem lok48codes : LoopOK E48 (lb Try.f48 0) [0, 2, 4, 5, 6, 7, 8, 9] [0, 2, 3, 4, 5, 7, 8] codes3L := by
  have hin : ∀ F : List Code, F = [lb Try.f48 1] → ∀ b' ∈ F, LoopHyp E48 b' := by
    rintro F rfl b' hb
    rw [List.mem_singleton] at hb
    subst hb
    exact loopHyp_of (key := 17) (by kernel_rfl) rfl lok48count
  refine loopOK ok48L (hin _ (by kernel_rfl)) (fun vs _ => mu3 vs) fun vs σ k h => ?_
  have h0 := h
  unfold codes3L at h
  split at h
  · exact lok48a _ _ _ _ _ _ _ _ h0
  · exact lok48b _ _ _ _ _ _ _ _ _ h0
  · exact h.elim

theorem getD_set_self {x : List Int} {i : Nat} (h : i < x.length) (v : Int) : (x.set i v).getD i 0 = v := by
  rw [getD_of_lt (by rw [List.length_set]; exact h)]; simp
theorem last_set {x : List Int} {i v : Int} (h0 : 0 ≤ i) (h : i < x.length) : lastG (x.set i.toNat v) (i + 1) = v ∧ befG (x.set i.toNat v) (i + 1) = lastG x i := by
  unfold lastG befG
  constructor
  · rw [decide_eq_true (by omega), cond_true, show i + 1 - 1 = i by omega]
    exact getD_set_self (by omega) v
  · rw [show i + 1 - 2 = i - 1 by omega, show decide (i + 1 > 1) = decide (i > 0) from decide_eq_decide.2 (by omega)]
    by_cases hi : i > 0
    · rw [decide_eq_true hi, cond_true, cond_true, List.getD, List.getD, List.getElem?_set_ne (by omega)]
    · rw [decide_eq_false hi, cond_false, cond_false]
theorem unrX_step {p : Int} {x rs : List Int} {i : Int} (h0 : 0 ≤ i) (h : i < rs.length) (hx : i < x.length) : unrX p (lastG x i) (befG x i) (rs.drop i.toNat) =
    wi (rs.getD i.toNat 0 + expG p (lastG x i) (befG x i)) :: unrX p (lastG (x.set i.toNat (wi (rs.getD i.toNat 0 + expG p (lastG x i) (befG x i)))) (i + 1)) (befG (x.set i.toNat (wi (rs.getD i.toNat 0 + expG p (lastG x i) (befG x i)))) (i + 1)) (rs.drop (i + 1).toNat) := by
  rw [(last_set h0 hx).1, (last_set h0 hx).2, drop_step 0 (by omega), show (i + 1).toNat = i.toNat + 1 by omega]
  rfl
theorem lok48xs : LoopOK E48 (lb Try.f48 2) [2, 4, 5, 7, 12, 13] [2, 3, 12] xsL := by
  refine loopOK ok48L (noInner (by kernel_rfl)) (fun vs _ => match vs with
    | [_, _, _, _, _, .one (.int .i64 i)] => (8 - i).toNat
    | _ => 0) fun vs σ k h => ?_
  unfold xsL at h
  split at h
  · rename_i p i z y rs x
    rw [ex48e z y rs x p i _]
    obtain ⟨⟨h1, h2, h3, h4, rfl, h6⟩, h⟩ := h
    by_cases hi : i < 8
    · have hw : IntKind.i64.wrap (i + 1) = i + 1 := wrap_id (by omega) (by omega)
      have hmu : (8 - (i + 1)).toNat < (8 - i).toNat := by omega
      have hi' : i.toNat < 8 := by omega
      have hy : 7 < zeros8.length := by decide
      have hz' : z.length = [zeros8.getD 0 0, zeros8.getD 1 0, zeros8.getD 2 0, zeros8.getD 3 0, zeros8.getD 4 0, zeros8.getD 5 0, zeros8.getD 6 0, zeros8.getD 7 0].length := h6
      have h78 : (7 : Nat) < 8 := by decide
      have hi8 : i < ((8 : Nat) : Int) := hi
      rw [list8 h3]
      rw [unrX_step h1 (by omega) (by omega)] at h
      have hfold : IntKind.i64.wrap (rs.getD i.toNat 0 + expG p (lastG x i) (befG x i)) = wi (rs.getD i.toNat 0 + expG p (lastG x i) (befG x i)) := rfl
      simp only [hi, hi', hi8, h1, h3, h4, h78, hy, hz', hw, hfold, Nat.add_zero, Nat.zero_add, List.length_set, decide_true, Bool.and_self, cond_true]
      clear hfold
      generalize wi (rs.getD i.toNat 0 + expG p (lastG x i) (befG x i)) = v at *
      rw [getD_set_self (by omega)]
      refine ⟨⟨trivial, by omega⟩, ?_⟩
      simp only [List.all_cons] at h
      cases hs : sampleG v with
      | true =>
        rw [hs, Bool.true_and] at h
        refine ⟨⟨⟨by omega, by omega, by rw [List.length_set]; exact h3, h4, rfl, h6⟩, ?_⟩, hmu⟩
        rw [show (i + 1).toNat = i.toNat + 1 by omega, take_set_succ (by omega), List.append_assoc]
        rw [show (i + 1).toNat = i.toNat + 1 by omega] at h
        exact h
      | false =>
        rw [hs, Bool.false_and] at h
        exact h _ _
    · have e : i = 8 := by omega
      subst e
      simp only [hi, decide_false, cond_false]
      have e1 : rs.drop (8 : Int).toNat = [] := List.drop_eq_nil_of_le (by rw [h4]; decide)
      rw [e1] at h
      simp only [unrX, List.all_nil, cond_true, List.append_nil] at h
      rw [List.take_of_length_le (by rw [h3]; decide)] at h
      exact h
  · exact h.elim
theorem unr_unp (p : Int) (k : Nat) : ∀ (n : Nat) (last bef : Int) (l : List Int), unrX p last bef (rsL k n l) = unpX p k n last bef l
  | 0, _, _, _ => rfl
  | n + 1, last, bef, l => by
    simp only [rsL, unrX, unpX]
    rw [Int.add_comm (resid (codeV k l)), unr_unp p k n]
theorem rsL_length (k : Nat) : ∀ (n : Nat) (l : List Int), (rsL k n l).length = n
  | 0, _ => rfl
  | n + 1, l => by simp [rsL, rsL_length k n]

theorem idx_of_any {l : List Int} : decide (idxI 0 l ≥ 0) = l.any oddB := by
  cases ha : l.any oddB with
  | true => exact decide_eq_true (idx_some ha)
  | false => rw [idx_none ha]; rfl
theorem ok48 : SpecOK Try.prog 48 unpackS := by
  refine specOK (n := 115) (m := 0) (lps := [(14, .spec [0, 2, 4, 5, 6, 7, 8, 9] [0, 2, 3, 4, 5, 7, 8] codes3L), (17, .spec [0, 2, 4, 5, 6, 7, 8, 9, 10] [0, 2, 4, 5, 6, 7, 8, 9, 10] count2L), (28, .spec [2, 4, 5, 7, 12, 13] [2, 3, 12] xsL)]) ok48L Try.func48 (by kernel_rfl) (by kernel_rfl) (theLoops (n := 3) (by kernel_rfl) fun i hi => ?_) fun args σ K h => ?_
  · match i, hi with
    | 0, _ => exact loopHyp_of (key := 14) (by kernel_rfl) rfl lok48codes
    | 1, _ => exact loopHyp_of (key := 17) (by kernel_rfl) rfl lok48count
    | 2, _ => exact loopHyp_of (key := 28) (by kernel_rfl) rfl lok48xs
  · unfold unpackS at h
    split at h
    · rename_i l
      rw [ex48 l K]
      obtain ⟨h1, h⟩ := h
      unfold unpackE badE at h
      rw [idx_of_any] at h
      by_cases c1 : (l.length : Int) > 3000
      · have c1' : ¬ (l.length : Int) ≤ 3000 := by omega
        simp only [c1', decide_false] at h
        simp only [c1, decide_true, cond_true]
        exact h
      · have c1' : (l.length : Int) ≤ 3000 := by omega
        simp only [c1', decide_true] at h
        simp only [c1, decide_false, cond_false]
        refine ⟨h1, ?_⟩
        cases c2 : l.any oddB with
        | true => rw [c2] at h; exact h
        | false =>
          rw [c2] at h
          by_cases c3 : (l.length : Int) < 7
          · have c3' : ¬ (l.length : Int) ≥ 7 := by omega
            simp only [c3', decide_false] at h
            simp only [c3, decide_true, cond_true]
            exact h
          · have c3' : (l.length : Int) ≥ 7 := by omega
            simp only [c3', decide_true] at h
            have d1 : 2 ≤ l.length := by omega
            have d2 : 7 ≤ l.length := by omega
            have e1 : readV (l.take 2).length 0 (l.take 2) = prG l := by rw [List.length_take, Nat.min_eq_left d1, readV_take]; rfl
            have e2 : readV ((l.drop 2).take 5).length 0 ((l.drop 2).take 5) = paG l := by
              rw [List.length_take, List.length_drop, Nat.min_eq_left (by omega), readV_take]; rfl
            rw [e1, e2]
            have r1 := readV_range 2 0 l c2 (by decide) (by decide)
            have r2 := readV_range 5 0 (l.drop 2) (any_drop c2 2) (by decide) (by decide)
            have r1' : 0 ≤ prG l ∧ prG l ≤ 3 := ⟨r1.1, by have := r1.2; show readV 2 0 l ≤ 3; omega⟩
            have r2' : 0 ≤ paG l ∧ paG l ≤ 31 := ⟨r2.1, by have := r2.2; show readV 5 0 (l.drop 2) ≤ 31; omega⟩
            have hpar : paramG (prG l) (paG l) = !(decide (prG l ≥ 3) || decide (paG l ≥ 18)) := by
              unfold paramG withinG
              rw [Bool.eq_iff_iff]
              simp
              omega
            rw [hpar]
            simp only [c3, d1, d2, decide_true, decide_false, Bool.and_self, cond_true, cond_false, show (0 : Int) ≤ 2 by decide, show (0 : Int) ≤ 7 by decide, show 0 ≤ 2 by decide, show 2 ≤ 7 by decide]
            refine ⟨by rw [List.length_take]; omega, by rw [List.length_take]; omega, ?_⟩
            have h0 := h
            clear h
            have hn : ((l.length : Int) - ((unpL (paG l).toNat 8 (l.drop 7)).length : Int) != (l.length : Int)) = decide ((unpL (paG l).toNat 8 (l.drop 7)).length > 0) := by
              rw [Bool.eq_iff_iff]
              simp
              omega
            rw [hn, unr_unp]
            have hx : unpX (prG l) (paG l).toNat 8 0 0 (l.drop 7) = unpackX l := rfl
            rw [hx]
            cases hpq : (decide (prG l ≥ 3) || decide (paG l ≥ 18)) with
            | true => rw [hpq] at h0; exact h0
            | false =>
              rw [hpq] at h0
              simp only [Bool.or_eq_false_iff, decide_eq_false_iff_not] at hpq
              refine ⟨⟨⟨trivial, by omega, r2'.1, by omega, trivial, by omega⟩, trivial, rfl, trivial⟩, ?_⟩
              cases hu : unpE (paG l).toNat 8 (l.drop 7) with
              | true => rw [hu] at h0; intro v7 v8 σr; exact h0
              | false =>
                cases hv : decide ((unpL (paG l).toNat 8 (l.drop 7)).length > 0) with
                | true => rw [hu, hv] at h0; exact h0
                | false =>
                  refine ⟨⟨by decide, by decide, trivial, rsL_length _ _ _, rfl, trivial⟩, ?_⟩
                  cases hs : (unpackX l).all sampleG with
                  | true => rw [hu, hv, hs] at h0; exact h0
                  | false => rw [hu, hv, hs] at h0; intro v σr; exact h0
    · exact h.elim

def unpacksLawS : Spec := fun args σ K => match args, σ with
  | [.one (.data (.ints .i64 _))], [] => K (.one (.bool true)) []
  | _, _ => False
theorem ok9 : SpecOK Try.prog 9 unpacksLawS := by
  refine specOK (n := 41) (m := 0) (lps := []) (.cons ok15 (.cons ok35 (.cons ok47 (.cons ok48 .nil)))) Try.func9 (by kernel_rfl) (by kernel_rfl) (noLoops (by kernel_rfl)) fun args σ K h => ?_
  unfold unpacksLawS at h
  split at h
  · rename_i l
    rw [ex9 l K]
    have hbb : ∀ a b : Bool, (a && b) = (a && b) := fun _ _ => rfl
    by_cases c1 : (l.length : Int) > 400
    · by_cases c2 : (l.length : Int) ≤ 3000
      · simp only [c1, c2, decide_true, cond_true]; exact h
      · by_cases c3 : (l.length : Int) > 3004
        · simp only [c1, c2, c3, decide_true, decide_false, cond_true, cond_false]; exact h
        · have g1 : l.length ≤ 1000000000000 := by omega
          have g2 : l.length ≤ 1000000000 := by omega
          simp only [c1, c2, c3, decide_true, decide_false, cond_true, cond_false]
          refine ⟨g1, g2, ?_⟩
          cases he : unpackE l == 0 with
          | true => simp only [cond_true, beq_self_eq_true, Bool.and_self]; exact ⟨g2, h⟩
          | false => simp only [cond_false, cond_true, beq_self_eq_true]; exact ⟨g2, h⟩
    · have c3 : ¬ (l.length : Int) > 3004 := by omega
      have g1 : l.length ≤ 1000000000000 := by omega
      have g2 : l.length ≤ 1000000000 := by omega
      simp only [c1, c3, decide_false, cond_false]
      refine ⟨g1, g2, ?_⟩
      cases he : unpackE l == 0 with
      | true => simp only [cond_true, beq_self_eq_true, Bool.and_self]; exact ⟨g2, h⟩
      | false => simp only [cond_false, cond_true, beq_self_eq_true]; exact ⟨g2, h⟩
  · exact h.elim
end Go.Ev
