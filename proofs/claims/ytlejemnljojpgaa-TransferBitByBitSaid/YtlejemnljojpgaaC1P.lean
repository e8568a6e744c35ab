/-
  Chapter 1, contracts: the law 'bit by bit'.
-/
import Derived.Test.YtlejemnljojpgaaC1N
import Derived.KernelRfl
namespace Go.Ev
open Go Go.Proofs
set_option maxRecDepth 20000

/-- Packed samples, the bits as a variable. -/
def packedVS : Spec := fun args σ K => match args, σ with
  | [.agg [.int .i64 x0, .int .i64 x1, .int .i64 x2, .int .i64 x3, .int .i64 x4, .int .i64 x5, .int .i64 x6, .int .i64 x7]], [] => ∀ (c : Bool) (B : List Int), c = [x0, x1, x2, x3, x4, x5, x6, x7].all sampleG → B = packG [x0, x1, x2, x3, x4, x5, x6, x7] → bif c then K (.tup [.one (.own 0 1), .one (.int .i64 0)]) [.row 3 (.ints .i64 B)] else K (.tup [.one .nil, .one (.int .i64 2)]) []
  | _, _ => False
def unpackVS : Spec := fun args σ K => match args, σ with
  | [.one (.data (.ints .i64 l))], [] => l.length ≤ 1000000000 ∧ ∀ (e : Int) (ys : List Int), e = unpackE l → ys = unpackX l → bif e == 0 then K (ag8e ys 0) [] else K (ag8e zeros8 e) []
  | _, _ => False
noncomputable abbrev E10 : Env := envOf Try.prog [(15, trueS), (29, samplesS), (32, paramS), (28, packedVS), (25, withinS), (49, areBitsS), (35, copyIntsS), (47, unpackVS), (27, bitsForS), (50, numberS)] [] 111 0
end Go.Ev

namespace Go.Ev
open Go Go.Proofs
set_option maxRecDepth 100000
theorem ex10 (x0 x1 x2 x3 x4 x5 x6 x7 p k : Int) (K : AV → List Blk → Prop) : evFn E10 Try.f10 [.agg [.int .i64 x0, .int .i64 x1, .int .i64 x2, .int .i64 x3, .int .i64 x4, .int .i64 x5, .int .i64 x6, .int .i64 x7], .one (.int .i64 p), .one (.int .i64 k)] [] K = (
  bif (bif [x0, x1, x2, x3, x4, x5, x6, x7].all sampleG then (0 : Int) else (2 : Int)) != (0 : Int) then
    K (AV.one (SV.bool true)) []
  else
    bif (bif paramG p k then (0 : Int) else (2 : Int)) != (0 : Int) then K (AV.one (SV.bool true)) []
    else
      ∀ (c : Bool) (B : List Int),
        c = [x0, x1, x2, x3, x4, x5, x6, x7].all sampleG →
          B = packG [x0, x1, x2, x3, x4, x5, x6, x7] →
            bif c then
              bif !(decide ((15 : Int) ≤ (↑B.length : Int)) && decide ((↑B.length : Int) ≤ (159 : Int))) then
                K (AV.one (SV.bool false)) []
              else
                B.length ≤ (1000000000 : Nat) ∧
                  bif !!B.any oddB then K (AV.one (SV.bool false)) []
                  else
                    B.length ≤ (1000000000000 : Nat) ∧
                      B.length ≤ (1000000000 : Nat) ∧
                        ∀ (e : Int) (ys : List Int),
                          e = unpackE B →
                            ys = unpackX B →
                              bif e == (0 : Int) then
                                bif bitsForE [x0, x1, x2, x3, x4, x5, x6, x7] p k == (0 : Int) then
                                  bif
                                      decide ((0 : Int) ≤ (2 : Int)) &&
                                        (decide ((2 : Nat) ≤ B.length) && decide ((0 : Nat) ≤ (2 : Nat))) then
                                    bif
                                        decide ((0 : Int) ≤ (2 : Int)) &&
                                          (decide ((0 : Int) ≤ (7 : Int)) &&
                                            (decide ((7 : Nat) ≤ B.length) && decide ((2 : Nat) ≤ (7 : Nat)))) then
                                      bif decide ((2 : Nat) ≤ B.length) && true then
                                        (List.take (2 : Nat) B).length ≤ (1000000000 : Nat) ∧
                                          bif decide ((7 : Nat) ≤ B.length) && true then
                                            (List.take (5 : Nat) (List.drop (2 : Nat) B)).length ≤ (1000000000 : Nat) ∧
                                              bif
                                                  bitsForE [x0, x1, x2, x3, x4, x5, x6, x7]
                                                      (readV (List.take (2 : Nat) B).length (0 : Int)
                                                        (List.take (2 : Nat) B))
                                                      (readV (List.take (5 : Nat) (List.drop (2 : Nat) B)).length
                                                        (0 : Int) (List.take (5 : Nat) (List.drop (2 : Nat) B))) ==
                                                    (0 : Int) then
                                                bif
                                                    decide
                                                        ((0 : Int) ≤ IntKind.i64.wrap ((↑B.length : Int) - (1 : Int))) &&
                                                      (decide
                                                          ((IntKind.i64.wrap ((↑B.length : Int) - (1 : Int))).toNat ≤
                                                            B.length) &&
                                                        decide
                                                          ((0 : Nat) ≤
                                                            (IntKind.i64.wrap
                                                                ((↑B.length : Int) - (1 : Int))).toNat)) then
                                                  bif
                                                      decide
                                                          ((0 : Nat) +
                                                              ((IntKind.i64.wrap ((↑B.length : Int) - (1 : Int))).toNat -
                                                                (0 : Nat)) ≤
                                                            B.length) &&
                                                        true then
                                                    (List.take
                                                            ((IntKind.i64.wrap ((↑B.length : Int) - (1 : Int))).toNat -
                                                              (0 : Nat))
                                                            B).length ≤
                                                        (1000000000000 : Nat) ∧
                                                      (List.take
                                                              ((IntKind.i64.wrap ((↑B.length : Int) - (1 : Int))).toNat -
                                                                (0 : Nat))
                                                              B).length ≤
                                                          (1000000000 : Nat) ∧
                                                        ∀ (e : Int) (ys_1 : List Int),
                                                          e =
                                                              unpackE
                                                                (List.take
                                                                  ((IntKind.i64.wrap
                                                                        ((↑B.length : Int) - (1 : Int))).toNat -
                                                                    (0 : Nat))
                                                                  B) →
                                                            ys_1 =
                                                                unpackX
                                                                  (List.take
                                                                    ((IntKind.i64.wrap
                                                                          ((↑B.length : Int) - (1 : Int))).toNat -
                                                                      (0 : Nat))
                                                                    B) →
                                                              bif e == (0 : Int) then
                                                                bif
                                                                    ys.getD (0 : Nat) (0 : Int) == x0 &&
                                                                      (ys.getD (1 : Nat) (0 : Int) == x1 &&
                                                                        (ys.getD (2 : Nat) (0 : Int) == x2 &&
                                                                          (ys.getD (3 : Nat) (0 : Int) == x3 &&
                                                                            (ys.getD (4 : Nat) (0 : Int) == x4 &&
                                                                              (ys.getD (5 : Nat) (0 : Int) == x5 &&
                                                                                (ys.getD (6 : Nat) (0 : Int) == x6 &&
                                                                                  ys.getD (7 : Nat) (0 : Int) ==
                                                                                    x7)))))) then
                                                                  bif
                                                                      decide
                                                                        (lenG p k [x0, x1, x2, x3, x4, x5, x6, x7] ≥
                                                                          (↑B.length : Int)) then
                                                                    bif
                                                                        lenG
                                                                            (readV (List.take (2 : Nat) B).length
                                                                              (0 : Int) (List.take (2 : Nat) B))
                                                                            (readV
                                                                              (List.take (5 : Nat)
                                                                                  (List.drop (2 : Nat) B)).length
                                                                              (0 : Int)
                                                                              (List.take (5 : Nat)
                                                                                (List.drop (2 : Nat) B)))
                                                                            [x0, x1, x2, x3, x4, x5, x6, x7] ==
                                                                          (↑B.length : Int) then
                                                                      K (AV.one (SV.bool false)) []
                                                                    else K (AV.one (SV.bool false)) []
                                                                  else K (AV.one (SV.bool false)) []
                                                                else K (AV.one (SV.bool false)) []
                                                              else
                                                                bif
                                                                    ys.getD (0 : Nat) (0 : Int) == x0 &&
                                                                      (ys.getD (1 : Nat) (0 : Int) == x1 &&
                                                                        (ys.getD (2 : Nat) (0 : Int) == x2 &&
                                                                          (ys.getD (3 : Nat) (0 : Int) == x3 &&
                                                                            (ys.getD (4 : Nat) (0 : Int) == x4 &&
                                                                              (ys.getD (5 : Nat) (0 : Int) == x5 &&
                                                                                (ys.getD (6 : Nat) (0 : Int) == x6 &&
                                                                                  ys.getD (7 : Nat) (0 : Int) ==
                                                                                    x7)))))) then
                                                                  bif
                                                                      decide
                                                                        (lenG p k [x0, x1, x2, x3, x4, x5, x6, x7] ≥
                                                                          (↑B.length : Int)) then
                                                                    bif
                                                                        lenG
                                                                            (readV (List.take (2 : Nat) B).length
                                                                              (0 : Int) (List.take (2 : Nat) B))
                                                                            (readV
                                                                              (List.take (5 : Nat)
                                                                                  (List.drop (2 : Nat) B)).length
                                                                              (0 : Int)
                                                                              (List.take (5 : Nat)
                                                                                (List.drop (2 : Nat) B)))
                                                                            [x0, x1, x2, x3, x4, x5, x6, x7] ==
                                                                          (↑B.length : Int) then
                                                                      K (AV.one (SV.bool (e == (10 : Int)))) []
                                                                    else K (AV.one (SV.bool false)) []
                                                                  else K (AV.one (SV.bool false)) []
                                                                else K (AV.one (SV.bool false)) []
                                                  else False
                                                else False
                                              else
                                                bif
                                                    decide
                                                        ((0 : Int) ≤ IntKind.i64.wrap ((↑B.length : Int) - (1 : Int))) &&
                                                      (decide
                                                          ((IntKind.i64.wrap ((↑B.length : Int) - (1 : Int))).toNat ≤
                                                            B.length) &&
                                                        decide
                                                          ((0 : Nat) ≤
                                                            (IntKind.i64.wrap
                                                                ((↑B.length : Int) - (1 : Int))).toNat)) then
                                                  bif
                                                      decide
                                                          ((0 : Nat) +
                                                              ((IntKind.i64.wrap ((↑B.length : Int) - (1 : Int))).toNat -
                                                                (0 : Nat)) ≤
                                                            B.length) &&
                                                        true then
                                                    (List.take
                                                            ((IntKind.i64.wrap ((↑B.length : Int) - (1 : Int))).toNat -
                                                              (0 : Nat))
                                                            B).length ≤
                                                        (1000000000000 : Nat) ∧
                                                      (List.take
                                                              ((IntKind.i64.wrap ((↑B.length : Int) - (1 : Int))).toNat -
                                                                (0 : Nat))
                                                              B).length ≤
                                                          (1000000000 : Nat) ∧
                                                        ∀ (e : Int) (ys_1 : List Int),
                                                          e =
                                                              unpackE
                                                                (List.take
                                                                  ((IntKind.i64.wrap
                                                                        ((↑B.length : Int) - (1 : Int))).toNat -
                                                                    (0 : Nat))
                                                                  B) →
                                                            ys_1 =
                                                                unpackX
                                                                  (List.take
                                                                    ((IntKind.i64.wrap
                                                                          ((↑B.length : Int) - (1 : Int))).toNat -
                                                                      (0 : Nat))
                                                                    B) →
                                                              bif e == (0 : Int) then
                                                                bif
                                                                    ys.getD (0 : Nat) (0 : Int) == x0 &&
                                                                      (ys.getD (1 : Nat) (0 : Int) == x1 &&
                                                                        (ys.getD (2 : Nat) (0 : Int) == x2 &&
                                                                          (ys.getD (3 : Nat) (0 : Int) == x3 &&
                                                                            (ys.getD (4 : Nat) (0 : Int) == x4 &&
                                                                              (ys.getD (5 : Nat) (0 : Int) == x5 &&
                                                                                (ys.getD (6 : Nat) (0 : Int) == x6 &&
                                                                                  ys.getD (7 : Nat) (0 : Int) ==
                                                                                    x7)))))) then
                                                                  bif
                                                                      decide
                                                                        (lenG p k [x0, x1, x2, x3, x4, x5, x6, x7] ≥
                                                                          (↑B.length : Int)) then
                                                                    K (AV.one (SV.bool false)) []
                                                                  else K (AV.one (SV.bool false)) []
                                                                else K (AV.one (SV.bool false)) []
                                                              else
                                                                bif
                                                                    ys.getD (0 : Nat) (0 : Int) == x0 &&
                                                                      (ys.getD (1 : Nat) (0 : Int) == x1 &&
                                                                        (ys.getD (2 : Nat) (0 : Int) == x2 &&
                                                                          (ys.getD (3 : Nat) (0 : Int) == x3 &&
                                                                            (ys.getD (4 : Nat) (0 : Int) == x4 &&
                                                                              (ys.getD (5 : Nat) (0 : Int) == x5 &&
                                                                                (ys.getD (6 : Nat) (0 : Int) == x6 &&
                                                                                  ys.getD (7 : Nat) (0 : Int) ==
                                                                                    x7)))))) then
                                                                  bif
                                                                      decide
                                                                        (lenG p k [x0, x1, x2, x3, x4, x5, x6, x7] ≥
                                                                          (↑B.length : Int)) then
                                                                    K (AV.one (SV.bool false)) []
                                                                  else K (AV.one (SV.bool false)) []
                                                                else K (AV.one (SV.bool false)) []
                                                  else False
                                                else False
                                          else False
                                      else False
                                    else False
                                  else False
                                else
                                  bif
                                      decide ((0 : Int) ≤ (2 : Int)) &&
                                        (decide ((2 : Nat) ≤ B.length) && decide ((0 : Nat) ≤ (2 : Nat))) then
                                    bif
                                        decide ((0 : Int) ≤ (2 : Int)) &&
                                          (decide ((0 : Int) ≤ (7 : Int)) &&
                                            (decide ((7 : Nat) ≤ B.length) && decide ((2 : Nat) ≤ (7 : Nat)))) then
                                      bif decide ((2 : Nat) ≤ B.length) && true then
                                        (List.take (2 : Nat) B).length ≤ (1000000000 : Nat) ∧
                                          bif decide ((7 : Nat) ≤ B.length) && true then
                                            (List.take (5 : Nat) (List.drop (2 : Nat) B)).length ≤ (1000000000 : Nat) ∧
                                              bif
                                                  bitsForE [x0, x1, x2, x3, x4, x5, x6, x7]
                                                      (readV (List.take (2 : Nat) B).length (0 : Int)
                                                        (List.take (2 : Nat) B))
                                                      (readV (List.take (5 : Nat) (List.drop (2 : Nat) B)).length
                                                        (0 : Int) (List.take (5 : Nat) (List.drop (2 : Nat) B))) ==
                                                    (0 : Int) then
                                                bif
                                                    decide
                                                        ((0 : Int) ≤ IntKind.i64.wrap ((↑B.length : Int) - (1 : Int))) &&
                                                      (decide
                                                          ((IntKind.i64.wrap ((↑B.length : Int) - (1 : Int))).toNat ≤
                                                            B.length) &&
                                                        decide
                                                          ((0 : Nat) ≤
                                                            (IntKind.i64.wrap
                                                                ((↑B.length : Int) - (1 : Int))).toNat)) then
                                                  bif
                                                      decide
                                                          ((0 : Nat) +
                                                              ((IntKind.i64.wrap ((↑B.length : Int) - (1 : Int))).toNat -
                                                                (0 : Nat)) ≤
                                                            B.length) &&
                                                        true then
                                                    (List.take
                                                            ((IntKind.i64.wrap ((↑B.length : Int) - (1 : Int))).toNat -
                                                              (0 : Nat))
                                                            B).length ≤
                                                        (1000000000000 : Nat) ∧
                                                      (List.take
                                                              ((IntKind.i64.wrap ((↑B.length : Int) - (1 : Int))).toNat -
                                                                (0 : Nat))
                                                              B).length ≤
                                                          (1000000000 : Nat) ∧
                                                        ∀ (e : Int) (ys_1 : List Int),
                                                          e =
                                                              unpackE
                                                                (List.take
                                                                  ((IntKind.i64.wrap
                                                                        ((↑B.length : Int) - (1 : Int))).toNat -
                                                                    (0 : Nat))
                                                                  B) →
                                                            ys_1 =
                                                                unpackX
                                                                  (List.take
                                                                    ((IntKind.i64.wrap
                                                                          ((↑B.length : Int) - (1 : Int))).toNat -
                                                                      (0 : Nat))
                                                                    B) →
                                                              bif e == (0 : Int) then
                                                                bif
                                                                    ys.getD (0 : Nat) (0 : Int) == x0 &&
                                                                      (ys.getD (1 : Nat) (0 : Int) == x1 &&
                                                                        (ys.getD (2 : Nat) (0 : Int) == x2 &&
                                                                          (ys.getD (3 : Nat) (0 : Int) == x3 &&
                                                                            (ys.getD (4 : Nat) (0 : Int) == x4 &&
                                                                              (ys.getD (5 : Nat) (0 : Int) == x5 &&
                                                                                (ys.getD (6 : Nat) (0 : Int) == x6 &&
                                                                                  ys.getD (7 : Nat) (0 : Int) ==
                                                                                    x7)))))) then
                                                                  K (AV.one (SV.bool false)) []
                                                                else K (AV.one (SV.bool false)) []
                                                              else
                                                                bif
                                                                    ys.getD (0 : Nat) (0 : Int) == x0 &&
                                                                      (ys.getD (1 : Nat) (0 : Int) == x1 &&
                                                                        (ys.getD (2 : Nat) (0 : Int) == x2 &&
                                                                          (ys.getD (3 : Nat) (0 : Int) == x3 &&
                                                                            (ys.getD (4 : Nat) (0 : Int) == x4 &&
                                                                              (ys.getD (5 : Nat) (0 : Int) == x5 &&
                                                                                (ys.getD (6 : Nat) (0 : Int) == x6 &&
                                                                                  ys.getD (7 : Nat) (0 : Int) ==
                                                                                    x7)))))) then
                                                                  K (AV.one (SV.bool false)) []
                                                                else K (AV.one (SV.bool false)) []
                                                  else False
                                                else False
                                              else
                                                bif
                                                    decide
                                                        ((0 : Int) ≤ IntKind.i64.wrap ((↑B.length : Int) - (1 : Int))) &&
                                                      (decide
                                                          ((IntKind.i64.wrap ((↑B.length : Int) - (1 : Int))).toNat ≤
                                                            B.length) &&
                                                        decide
                                                          ((0 : Nat) ≤
                                                            (IntKind.i64.wrap
                                                                ((↑B.length : Int) - (1 : Int))).toNat)) then
                                                  bif
                                                      decide
                                                          ((0 : Nat) +
                                                              ((IntKind.i64.wrap ((↑B.length : Int) - (1 : Int))).toNat -
                                                                (0 : Nat)) ≤
                                                            B.length) &&
                                                        true then
                                                    (List.take
                                                            ((IntKind.i64.wrap ((↑B.length : Int) - (1 : Int))).toNat -
                                                              (0 : Nat))
                                                            B).length ≤
                                                        (1000000000000 : Nat) ∧
                                                      (List.take
                                                              ((IntKind.i64.wrap ((↑B.length : Int) - (1 : Int))).toNat -
                                                                (0 : Nat))
                                                              B).length ≤
                                                          (1000000000 : Nat) ∧
                                                        ∀ (e : Int) (ys_1 : List Int),
                                                          e =
                                                              unpackE
                                                                (List.take
                                                                  ((IntKind.i64.wrap
                                                                        ((↑B.length : Int) - (1 : Int))).toNat -
                                                                    (0 : Nat))
                                                                  B) →
                                                            ys_1 =
                                                                unpackX
                                                                  (List.take
                                                                    ((IntKind.i64.wrap
                                                                          ((↑B.length : Int) - (1 : Int))).toNat -
                                                                      (0 : Nat))
                                                                    B) →
                                                              bif e == (0 : Int) then
                                                                bif
                                                                    ys.getD (0 : Nat) (0 : Int) == x0 &&
                                                                      (ys.getD (1 : Nat) (0 : Int) == x1 &&
                                                                        (ys.getD (2 : Nat) (0 : Int) == x2 &&
                                                                          (ys.getD (3 : Nat) (0 : Int) == x3 &&
                                                                            (ys.getD (4 : Nat) (0 : Int) == x4 &&
                                                                              (ys.getD (5 : Nat) (0 : Int) == x5 &&
                                                                                (ys.getD (6 : Nat) (0 : Int) == x6 &&
                                                                                  ys.getD (7 : Nat) (0 : Int) ==
                                                                                    x7)))))) then
                                                                  K (AV.one (SV.bool false)) []
                                                                else K (AV.one (SV.bool false)) []
                                                              else
                                                                bif
                                                                    ys.getD (0 : Nat) (0 : Int) == x0 &&
                                                                      (ys.getD (1 : Nat) (0 : Int) == x1 &&
                                                                        (ys.getD (2 : Nat) (0 : Int) == x2 &&
                                                                          (ys.getD (3 : Nat) (0 : Int) == x3 &&
                                                                            (ys.getD (4 : Nat) (0 : Int) == x4 &&
                                                                              (ys.getD (5 : Nat) (0 : Int) == x5 &&
                                                                                (ys.getD (6 : Nat) (0 : Int) == x6 &&
                                                                                  ys.getD (7 : Nat) (0 : Int) ==
                                                                                    x7)))))) then
                                                                  K (AV.one (SV.bool false)) []
                                                                else K (AV.one (SV.bool false)) []
                                                  else False
                                                else False
                                          else False
                                      else False
                                    else False
                                  else False
                              else
                                bif bitsForE [x0, x1, x2, x3, x4, x5, x6, x7] p k == (0 : Int) then
                                  bif
                                      decide ((0 : Int) ≤ (2 : Int)) &&
                                        (decide ((2 : Nat) ≤ B.length) && decide ((0 : Nat) ≤ (2 : Nat))) then
                                    bif
                                        decide ((0 : Int) ≤ (2 : Int)) &&
                                          (decide ((0 : Int) ≤ (7 : Int)) &&
                                            (decide ((7 : Nat) ≤ B.length) && decide ((2 : Nat) ≤ (7 : Nat)))) then
                                      bif decide ((2 : Nat) ≤ B.length) && true then
                                        (List.take (2 : Nat) B).length ≤ (1000000000 : Nat) ∧
                                          bif decide ((7 : Nat) ≤ B.length) && true then
                                            (List.take (5 : Nat) (List.drop (2 : Nat) B)).length ≤ (1000000000 : Nat) ∧
                                              bif
                                                  bitsForE [x0, x1, x2, x3, x4, x5, x6, x7]
                                                      (readV (List.take (2 : Nat) B).length (0 : Int)
                                                        (List.take (2 : Nat) B))
                                                      (readV (List.take (5 : Nat) (List.drop (2 : Nat) B)).length
                                                        (0 : Int) (List.take (5 : Nat) (List.drop (2 : Nat) B))) ==
                                                    (0 : Int) then
                                                bif
                                                    decide
                                                        ((0 : Int) ≤ IntKind.i64.wrap ((↑B.length : Int) - (1 : Int))) &&
                                                      (decide
                                                          ((IntKind.i64.wrap ((↑B.length : Int) - (1 : Int))).toNat ≤
                                                            B.length) &&
                                                        decide
                                                          ((0 : Nat) ≤
                                                            (IntKind.i64.wrap
                                                                ((↑B.length : Int) - (1 : Int))).toNat)) then
                                                  bif
                                                      decide
                                                          ((0 : Nat) +
                                                              ((IntKind.i64.wrap ((↑B.length : Int) - (1 : Int))).toNat -
                                                                (0 : Nat)) ≤
                                                            B.length) &&
                                                        true then
                                                    (List.take
                                                            ((IntKind.i64.wrap ((↑B.length : Int) - (1 : Int))).toNat -
                                                              (0 : Nat))
                                                            B).length ≤
                                                        (1000000000000 : Nat) ∧
                                                      (List.take
                                                              ((IntKind.i64.wrap ((↑B.length : Int) - (1 : Int))).toNat -
                                                                (0 : Nat))
                                                              B).length ≤
                                                          (1000000000 : Nat) ∧
                                                        ∀ (e_1 : Int) (ys : List Int),
                                                          e_1 =
                                                              unpackE
                                                                (List.take
                                                                  ((IntKind.i64.wrap
                                                                        ((↑B.length : Int) - (1 : Int))).toNat -
                                                                    (0 : Nat))
                                                                  B) →
                                                            ys =
                                                                unpackX
                                                                  (List.take
                                                                    ((IntKind.i64.wrap
                                                                          ((↑B.length : Int) - (1 : Int))).toNat -
                                                                      (0 : Nat))
                                                                    B) →
                                                              bif e_1 == (0 : Int) then
                                                                bif e == (0 : Int) then
                                                                  bif
                                                                      (0 : Int) == x0 &&
                                                                        ((0 : Int) == x1 &&
                                                                          ((0 : Int) == x2 &&
                                                                            ((0 : Int) == x3 &&
                                                                              ((0 : Int) == x4 &&
                                                                                ((0 : Int) == x5 &&
                                                                                  ((0 : Int) == x6 &&
                                                                                    (0 : Int) == x7)))))) then
                                                                    bif
                                                                        decide
                                                                          (lenG p k [x0, x1, x2, x3, x4, x5, x6, x7] ≥
                                                                            (↑B.length : Int)) then
                                                                      bif
                                                                          lenG
                                                                              (readV (List.take (2 : Nat) B).length
                                                                                (0 : Int) (List.take (2 : Nat) B))
                                                                              (readV
                                                                                (List.take (5 : Nat)
                                                                                    (List.drop (2 : Nat) B)).length
                                                                                (0 : Int)
                                                                                (List.take (5 : Nat)
                                                                                  (List.drop (2 : Nat) B)))
                                                                              [x0, x1, x2, x3, x4, x5, x6, x7] ==
                                                                            (↑B.length : Int) then
                                                                        K (AV.one (SV.bool false)) []
                                                                      else K (AV.one (SV.bool false)) []
                                                                    else K (AV.one (SV.bool false)) []
                                                                  else K (AV.one (SV.bool false)) []
                                                                else K (AV.one (SV.bool false)) []
                                                              else
                                                                bif e == (0 : Int) then
                                                                  bif
                                                                      (0 : Int) == x0 &&
                                                                        ((0 : Int) == x1 &&
                                                                          ((0 : Int) == x2 &&
                                                                            ((0 : Int) == x3 &&
                                                                              ((0 : Int) == x4 &&
                                                                                ((0 : Int) == x5 &&
                                                                                  ((0 : Int) == x6 &&
                                                                                    (0 : Int) == x7)))))) then
                                                                    bif
                                                                        decide
                                                                          (lenG p k [x0, x1, x2, x3, x4, x5, x6, x7] ≥
                                                                            (↑B.length : Int)) then
                                                                      bif
                                                                          lenG
                                                                              (readV (List.take (2 : Nat) B).length
                                                                                (0 : Int) (List.take (2 : Nat) B))
                                                                              (readV
                                                                                (List.take (5 : Nat)
                                                                                    (List.drop (2 : Nat) B)).length
                                                                                (0 : Int)
                                                                                (List.take (5 : Nat)
                                                                                  (List.drop (2 : Nat) B)))
                                                                              [x0, x1, x2, x3, x4, x5, x6, x7] ==
                                                                            (↑B.length : Int) then
                                                                        K (AV.one (SV.bool (e_1 == (10 : Int)))) []
                                                                      else K (AV.one (SV.bool false)) []
                                                                    else K (AV.one (SV.bool false)) []
                                                                  else K (AV.one (SV.bool false)) []
                                                                else K (AV.one (SV.bool false)) []
                                                  else False
                                                else False
                                              else
                                                bif
                                                    decide
                                                        ((0 : Int) ≤ IntKind.i64.wrap ((↑B.length : Int) - (1 : Int))) &&
                                                      (decide
                                                          ((IntKind.i64.wrap ((↑B.length : Int) - (1 : Int))).toNat ≤
                                                            B.length) &&
                                                        decide
                                                          ((0 : Nat) ≤
                                                            (IntKind.i64.wrap
                                                                ((↑B.length : Int) - (1 : Int))).toNat)) then
                                                  bif
                                                      decide
                                                          ((0 : Nat) +
                                                              ((IntKind.i64.wrap ((↑B.length : Int) - (1 : Int))).toNat -
                                                                (0 : Nat)) ≤
                                                            B.length) &&
                                                        true then
                                                    (List.take
                                                            ((IntKind.i64.wrap ((↑B.length : Int) - (1 : Int))).toNat -
                                                              (0 : Nat))
                                                            B).length ≤
                                                        (1000000000000 : Nat) ∧
                                                      (List.take
                                                              ((IntKind.i64.wrap ((↑B.length : Int) - (1 : Int))).toNat -
                                                                (0 : Nat))
                                                              B).length ≤
                                                          (1000000000 : Nat) ∧
                                                        ∀ (e_1 : Int) (ys : List Int),
                                                          e_1 =
                                                              unpackE
                                                                (List.take
                                                                  ((IntKind.i64.wrap
                                                                        ((↑B.length : Int) - (1 : Int))).toNat -
                                                                    (0 : Nat))
                                                                  B) →
                                                            ys =
                                                                unpackX
                                                                  (List.take
                                                                    ((IntKind.i64.wrap
                                                                          ((↑B.length : Int) - (1 : Int))).toNat -
                                                                      (0 : Nat))
                                                                    B) →
                                                              bif e_1 == (0 : Int) then
                                                                bif e == (0 : Int) then
                                                                  bif
                                                                      (0 : Int) == x0 &&
                                                                        ((0 : Int) == x1 &&
                                                                          ((0 : Int) == x2 &&
                                                                            ((0 : Int) == x3 &&
                                                                              ((0 : Int) == x4 &&
                                                                                ((0 : Int) == x5 &&
                                                                                  ((0 : Int) == x6 &&
                                                                                    (0 : Int) == x7)))))) then
                                                                    bif
                                                                        decide
                                                                          (lenG p k [x0, x1, x2, x3, x4, x5, x6, x7] ≥
                                                                            (↑B.length : Int)) then
                                                                      K (AV.one (SV.bool false)) []
                                                                    else K (AV.one (SV.bool false)) []
                                                                  else K (AV.one (SV.bool false)) []
                                                                else K (AV.one (SV.bool false)) []
                                                              else
                                                                bif e == (0 : Int) then
                                                                  bif
                                                                      (0 : Int) == x0 &&
                                                                        ((0 : Int) == x1 &&
                                                                          ((0 : Int) == x2 &&
                                                                            ((0 : Int) == x3 &&
                                                                              ((0 : Int) == x4 &&
                                                                                ((0 : Int) == x5 &&
                                                                                  ((0 : Int) == x6 &&
                                                                                    (0 : Int) == x7)))))) then
                                                                    bif
                                                                        decide
                                                                          (lenG p k [x0, x1, x2, x3, x4, x5, x6, x7] ≥
                                                                            (↑B.length : Int)) then
                                                                      K (AV.one (SV.bool false)) []
                                                                    else K (AV.one (SV.bool false)) []
                                                                  else K (AV.one (SV.bool false)) []
                                                                else K (AV.one (SV.bool false)) []
                                                  else False
                                                else False
                                          else False
                                      else False
                                    else False
                                  else False
                                else
                                  bif
                                      decide ((0 : Int) ≤ (2 : Int)) &&
                                        (decide ((2 : Nat) ≤ B.length) && decide ((0 : Nat) ≤ (2 : Nat))) then
                                    bif
                                        decide ((0 : Int) ≤ (2 : Int)) &&
                                          (decide ((0 : Int) ≤ (7 : Int)) &&
                                            (decide ((7 : Nat) ≤ B.length) && decide ((2 : Nat) ≤ (7 : Nat)))) then
                                      bif decide ((2 : Nat) ≤ B.length) && true then
                                        (List.take (2 : Nat) B).length ≤ (1000000000 : Nat) ∧
                                          bif decide ((7 : Nat) ≤ B.length) && true then
                                            (List.take (5 : Nat) (List.drop (2 : Nat) B)).length ≤ (1000000000 : Nat) ∧
                                              bif
                                                  bitsForE [x0, x1, x2, x3, x4, x5, x6, x7]
                                                      (readV (List.take (2 : Nat) B).length (0 : Int)
                                                        (List.take (2 : Nat) B))
                                                      (readV (List.take (5 : Nat) (List.drop (2 : Nat) B)).length
                                                        (0 : Int) (List.take (5 : Nat) (List.drop (2 : Nat) B))) ==
                                                    (0 : Int) then
                                                bif
                                                    decide
                                                        ((0 : Int) ≤ IntKind.i64.wrap ((↑B.length : Int) - (1 : Int))) &&
                                                      (decide
                                                          ((IntKind.i64.wrap ((↑B.length : Int) - (1 : Int))).toNat ≤
                                                            B.length) &&
                                                        decide
                                                          ((0 : Nat) ≤
                                                            (IntKind.i64.wrap
                                                                ((↑B.length : Int) - (1 : Int))).toNat)) then
                                                  bif
                                                      decide
                                                          ((0 : Nat) +
                                                              ((IntKind.i64.wrap ((↑B.length : Int) - (1 : Int))).toNat -
                                                                (0 : Nat)) ≤
                                                            B.length) &&
                                                        true then
                                                    (List.take
                                                            ((IntKind.i64.wrap ((↑B.length : Int) - (1 : Int))).toNat -
                                                              (0 : Nat))
                                                            B).length ≤
                                                        (1000000000000 : Nat) ∧
                                                      (List.take
                                                              ((IntKind.i64.wrap ((↑B.length : Int) - (1 : Int))).toNat -
                                                                (0 : Nat))
                                                              B).length ≤
                                                          (1000000000 : Nat) ∧
                                                        ∀ (e_1 : Int) (ys : List Int),
                                                          e_1 =
                                                              unpackE
                                                                (List.take
                                                                  ((IntKind.i64.wrap
                                                                        ((↑B.length : Int) - (1 : Int))).toNat -
                                                                    (0 : Nat))
                                                                  B) →
                                                            ys =
                                                                unpackX
                                                                  (List.take
                                                                    ((IntKind.i64.wrap
                                                                          ((↑B.length : Int) - (1 : Int))).toNat -
                                                                      (0 : Nat))
                                                                    B) →
                                                              bif e_1 == (0 : Int) then
                                                                bif e == (0 : Int) then
                                                                  bif
                                                                      (0 : Int) == x0 &&
                                                                        ((0 : Int) == x1 &&
                                                                          ((0 : Int) == x2 &&
                                                                            ((0 : Int) == x3 &&
                                                                              ((0 : Int) == x4 &&
                                                                                ((0 : Int) == x5 &&
                                                                                  ((0 : Int) == x6 &&
                                                                                    (0 : Int) == x7)))))) then
                                                                    K (AV.one (SV.bool false)) []
                                                                  else K (AV.one (SV.bool false)) []
                                                                else K (AV.one (SV.bool false)) []
                                                              else
                                                                bif e == (0 : Int) then
                                                                  bif
                                                                      (0 : Int) == x0 &&
                                                                        ((0 : Int) == x1 &&
                                                                          ((0 : Int) == x2 &&
                                                                            ((0 : Int) == x3 &&
                                                                              ((0 : Int) == x4 &&
                                                                                ((0 : Int) == x5 &&
                                                                                  ((0 : Int) == x6 &&
                                                                                    (0 : Int) == x7)))))) then
                                                                    K (AV.one (SV.bool false)) []
                                                                  else K (AV.one (SV.bool false)) []
                                                                else K (AV.one (SV.bool false)) []
                                                  else False
                                                else False
                                              else
                                                bif
                                                    decide
                                                        ((0 : Int) ≤ IntKind.i64.wrap ((↑B.length : Int) - (1 : Int))) &&
                                                      (decide
                                                          ((IntKind.i64.wrap ((↑B.length : Int) - (1 : Int))).toNat ≤
                                                            B.length) &&
                                                        decide
                                                          ((0 : Nat) ≤
                                                            (IntKind.i64.wrap
                                                                ((↑B.length : Int) - (1 : Int))).toNat)) then
                                                  bif
                                                      decide
                                                          ((0 : Nat) +
                                                              ((IntKind.i64.wrap ((↑B.length : Int) - (1 : Int))).toNat -
                                                                (0 : Nat)) ≤
                                                            B.length) &&
                                                        true then
                                                    (List.take
                                                            ((IntKind.i64.wrap ((↑B.length : Int) - (1 : Int))).toNat -
                                                              (0 : Nat))
                                                            B).length ≤
                                                        (1000000000000 : Nat) ∧
                                                      (List.take
                                                              ((IntKind.i64.wrap ((↑B.length : Int) - (1 : Int))).toNat -
                                                                (0 : Nat))
                                                              B).length ≤
                                                          (1000000000 : Nat) ∧
                                                        ∀ (e_1 : Int) (ys : List Int),
                                                          e_1 =
                                                              unpackE
                                                                (List.take
                                                                  ((IntKind.i64.wrap
                                                                        ((↑B.length : Int) - (1 : Int))).toNat -
                                                                    (0 : Nat))
                                                                  B) →
                                                            ys =
                                                                unpackX
                                                                  (List.take
                                                                    ((IntKind.i64.wrap
                                                                          ((↑B.length : Int) - (1 : Int))).toNat -
                                                                      (0 : Nat))
                                                                    B) →
                                                              bif e_1 == (0 : Int) then
                                                                bif e == (0 : Int) then
                                                                  bif
                                                                      (0 : Int) == x0 &&
                                                                        ((0 : Int) == x1 &&
                                                                          ((0 : Int) == x2 &&
                                                                            ((0 : Int) == x3 &&
                                                                              ((0 : Int) == x4 &&
                                                                                ((0 : Int) == x5 &&
                                                                                  ((0 : Int) == x6 &&
                                                                                    (0 : Int) == x7)))))) then
                                                                    K (AV.one (SV.bool false)) []
                                                                  else K (AV.one (SV.bool false)) []
                                                                else K (AV.one (SV.bool false)) []
                                                              else
                                                                bif e == (0 : Int) then
                                                                  bif
                                                                      (0 : Int) == x0 &&
                                                                        ((0 : Int) == x1 &&
                                                                          ((0 : Int) == x2 &&
                                                                            ((0 : Int) == x3 &&
                                                                              ((0 : Int) == x4 &&
                                                                                ((0 : Int) == x5 &&
                                                                                  ((0 : Int) == x6 &&
                                                                                    (0 : Int) == x7)))))) then
                                                                    K (AV.one (SV.bool false)) []
                                                                  else K (AV.one (SV.bool false)) []
                                                                else K (AV.one (SV.bool false)) []
                                                  else False
                                                else False
                                          else False
                                      else False
                                    else False
                                  else False
            else K (AV.one (SV.bool false)) []) := by kernel_rfl
end Go.Ev

namespace Go.Ev
open Go Go.Proofs
attribute [local irreducible] evFn evBody
set_option maxRecDepth 20000

/-! ### Lengths -/
theorem codes_len {k : Int} (hk : 0 ≤ k ∧ k ≤ 17) : ∀ {us : List Int}, (∀ u ∈ us, 0 ≤ u ∧ u ≤ 262136) → ((codesG k us).length : Int) = lenR k us
  | [], _ => rfl
  | u :: us, h => by
    have ih := codes_len hk (us := us) fun v hv => h v (by simp [hv])
    have hu := fdiv_range (min k.toNat 64) (h u (by simp))
    simp only [codesG, lenR, shrG, List.length_append, List.length_replicate, List.length_cons, List.length_nil, bitsN_length]
    omega
theorem pack_len {xs : List Int} (h : xs.all sampleG = true) : ((packG xs).length : Int) = lenG (bestG xs).2.1 (bestG xs).2.2 xs := by
  unfold packG lenG
  simp only [List.length_append, bitsN_length]
  have := codes_len (best_range xs) (cod_range (p := (bestG xs).2.1) h)
  omega

/-! ### The best choice -/
theorem bst_le {xs : List Int} {p k : Int} {s : Tri} (h : Told xs s) (h0 : s.1 ≠ 0) : (bst xs p k s).1 ≤ s.1 ∧ (bst xs p k s).1 ≤ lenG p k xs := by
  unfold bst
  rw [beq_eq_false_iff_ne.2 h0]
  by_cases hl : lenG p k xs < s.1
  · rw [decide_eq_true hl]; exact ⟨Int.le_of_lt hl, Int.le_refl _⟩
  · rw [decide_eq_false hl]; exact ⟨Int.le_refl _, by simp only [cond_false]; omega⟩
def Pos (s : Tri) : Prop := 0 < s.1
theorem bst_pos {xs : List Int} (ha : xs.all sampleG = true) {p k : Int} (hk : 0 ≤ k) {s : Tri} (h : Pos s) : Pos (bst xs p k s) := by
  have hl := lenG_pos (p := p) ha hk
  unfold bst Pos
  cases s.1 == 0 with
  | true => exact hl
  | false => cases decide (lenG p k xs < s.1) with
    | true => exact hl
    | false => exact h
theorem bestK_le {xs : List Int} (ha : xs.all sampleG = true) {p : Int} : ∀ (n : Nat) (k : Int) (s : Tri), 0 ≤ k → Told xs s → Pos s → Pos (bestK xs p n k s) ∧ (bestK xs p n k s).1 ≤ s.1 ∧ ∀ j, k ≤ j → j < k + n → (bestK xs p n k s).1 ≤ lenG p j xs
  | 0, k, s, _, _, hp => ⟨hp, Int.le_refl _, fun j h1 h2 => by omega⟩
  | n + 1, k, s, hk, ht, hp => by
    obtain ⟨b1, b2⟩ := bst_le (p := p) (k := k) ht (by have : 0 < s.1 := hp; omega)
    obtain ⟨i1, i2, i3⟩ := bestK_le ha (p := p) n (k + 1) (bst xs p k s) (by omega) (bst_told ht) (bst_pos ha hk hp)
    refine ⟨i1, Int.le_trans i2 b1, fun j h1 h2 => ?_⟩
    by_cases hj : j = k
    · subst hj; exact Int.le_trans i2 b2
    · exact i3 j (by omega) (by omega)
theorem bestP_le {xs : List Int} (ha : xs.all sampleG = true) : ∀ (n : Nat) (p : Int) (s : Tri), Told xs s → Pos s → Told xs (bestP xs n p s) ∧ (bestP xs n p s).1 ≤ s.1 ∧ ∀ q j, p ≤ q → q < p + n → 0 ≤ j → j ≤ 17 → (bestP xs n p s).1 ≤ lenG q j xs
  | 0, p, s, ht, _ => ⟨ht, Int.le_refl _, fun q j h1 h2 => by omega⟩
  | n + 1, p, s, ht, hp => by
    obtain ⟨k1, k2, k3⟩ := bestK_le ha (p := p) 18 0 s (by decide) ht hp
    obtain ⟨i0, i1, i2⟩ := bestP_le ha n (p + 1) (bestK xs p 18 0 s) (bestK_told 18 0 s ht) k1
    refine ⟨i0, Int.le_trans i1 k2, fun q j h1 h2 h3 h4 => ?_⟩
    by_cases hq : q = p
    · subst hq; exact Int.le_trans i1 (k3 j (by omega) (by omega))
    · exact i2 q j (by omega) (by omega) h3 h4
theorem best_least {xs : List Int} (ha : xs.all sampleG = true) : lenG (bestG xs).2.1 (bestG xs).2.2 xs = (bestG xs).1 ∧ ∀ p k, 0 ≤ p → p ≤ 2 → 0 ≤ k → k ≤ 17 → (bestG xs).1 ≤ lenG p k xs := by
  rw [← best_start ha]
  obtain ⟨h1, _, h3⟩ := bestP_le ha 3 0 (lenG 0 0 xs, 0, 0) rfl (lenG_pos ha (by decide))
  exact ⟨h1.symm, fun p k a b c d => h3 p k a (by omega) c d⟩

theorem exp0 (l b : Int) : expG 0 l b = 0 := rfl
theorem cod0_range : ∀ {xs : List Int} {l b : Int}, (∀ x ∈ xs, -32767 ≤ x ∧ x ≤ 32767) → ∀ u ∈ codR 0 l b xs, 0 ≤ u ∧ u ≤ 65534
  | [], _, _, _, u, hu => by simp [codR] at hu
  | x :: xs, l, b, hx, u, hu => by
    have hx0 := hx x (by simp)
    simp only [codR, List.mem_cons] at hu
    rcases hu with rfl | hu
    · rw [exp0, Int.sub_zero, wi_id (n := x) (by omega) (by omega)]
      unfold foldG
      by_cases h0 : x ≥ 0
      · simp only [h0, decide_true, cond_true]
        rw [wi_id (by omega) (by omega)]
        omega
      · simp only [h0, decide_false, cond_false]
        rw [wi_id (n := -2 * x) (by omega) (by omega), wi_id (by omega) (by omega)]
        omega
    · exact cod0_range (fun y hy => hx y (by simp [hy])) u hu
theorem lenR_small : ∀ {us : List Int}, (∀ u ∈ us, 0 ≤ u ∧ u ≤ 65534) → lenR 17 us = 18 * us.length
  | [], _ => rfl
  | u :: us, h => by
    have hu := h u (by simp)
    have e : shrG u 17 = 0 := by
      unfold shrG
      rw [show min (17 : Int).toNat 64 = 17 from rfl, fdiv_pow, show (2 : Int) ^ 17 = 131072 by decide]
      omega
    have ih := lenR_small (us := us) fun v hv => h v (List.mem_cons_of_mem u hv)
    simp only [lenR, e, ih, List.length_cons]
    omega
theorem lenR_ge {k : Int} (hk : 0 ≤ k) : ∀ {us : List Int}, (∀ u ∈ us, 0 ≤ u ∧ u ≤ 262136) → (us.length : Int) ≤ lenR k us
  | [], _ => Int.le_refl _
  | u :: us, h => by
    have ih := lenR_ge hk fun v hv => h v (List.mem_cons_of_mem u hv)
    have hu := fdiv_range (min k.toNat 64) (h u (by simp))
    simp only [lenR, shrG, List.length_cons]
    omega
theorem codR_length (p : Int) : ∀ (xs : List Int) (l b : Int), (codR p l b xs).length = xs.length
  | [], _, _ => rfl
  | x :: xs, _, _ => by simp [codR, codR_length p xs]
theorem pack_bounds {xs : List Int} (h : xs.all sampleG = true) (h8 : xs.length = 8) : 15 ≤ (packG xs).length ∧ (packG xs).length ≤ 159 := by
  have h1 := pack_len h
  obtain ⟨h2, h3⟩ := best_least h
  have h4 := h3 0 17 (by decide) (by decide) (by decide) (by decide)
  have h5 : lenG 0 17 xs = 7 + 18 * 8 := by
    unfold lenG codG
    rw [lenR_small (cod0_range fun x hx => sample_range (List.all_eq_true.1 h x hx)), codR_length, h8]
    rfl
  have h6 := lenR_ge (best_range xs).1 (cod_range (p := (bestG xs).2.1) h)
  rw [show (codG (bestG xs).2.1 xs).length = 8 from (codR_length _ _ _ _).trans h8] at h6
  unfold lenG at h2 h1
  omega

/-! ### Bits -/
theorem bitG_bit {n : Int} {i : Nat} (h0 : 0 ≤ n) (h1 : n < 9223372036854775808) (hi : i ≤ 62) : oddB (bitG n i) = false := by
  rw [bitG_eq h0 h1 hi]
  unfold oddB withinG
  have : 0 ≤ n / 2 ^ i % 2 ∧ n / 2 ^ i % 2 ≤ 1 := by omega
  simp [this]
theorem bitsN_bits {n : Int} (h0 : 0 ≤ n) (h1 : n < 9223372036854775808) : ∀ c, c ≤ 63 → (bitsN n c).any oddB = false
  | 0, _ => rfl
  | c + 1, h => by
    simp only [bitsN, List.any_cons, bitG_bit h0 h1 (show c ≤ 62 by omega), Bool.false_or]
    exact bitsN_bits h0 h1 c (by omega)
theorem codes_bits {k : Int} (hk : 0 ≤ k ∧ k ≤ 17) : ∀ {us : List Int}, (∀ u ∈ us, 0 ≤ u ∧ u ≤ 262136) → (codesG k us).any oddB = false
  | [], _ => rfl
  | u :: us, h => by
    have ih := codes_bits hk (us := us) fun v hv => h v (by simp [hv])
    have hu := h u (by simp)
    have hr : ∀ n : Nat, (List.replicate n (1 : Int)).any oddB = false := fun n => by
      rw [List.any_eq_false]
      intro x hx
      rw [(List.mem_replicate.1 hx).2]
      decide
    simp only [codesG, List.any_append, hr, ih, bitsN_bits hu.1 (show u < 9223372036854775808 by omega) _ (show k.toNat ≤ 63 by omega), Bool.or_false, Bool.false_or]
    decide
theorem pack_bits {xs : List Int} (h : xs.all sampleG = true) : (packG xs).any oddB = false := by
  have hf := best_first xs
  have hr := best_range xs
  unfold packG
  simp only [List.any_append, bitsN_bits hf.1 (show (bestG xs).2.1 < 9223372036854775808 by omega) 2 (by decide), bitsN_bits hr.1 (show (bestG xs).2.2 < 9223372036854775808 by omega) 5 (by decide),
    codes_bits hr (cod_range (p := (bestG xs).2.1) h), Bool.or_false]

theorem mod_double {n m : Int} (hm : 0 < m) : n % (m * 2) = m * (n / m % 2) + n % m := by
  have h1 := Int.emod_add_mul_ediv n m
  have h2 := Int.emod_add_mul_ediv (n / m) 2
  have h3 := Int.emod_nonneg n (show m ≠ 0 by omega)
  have h4 := Int.emod_lt_of_pos n hm
  have h5 : n / m % 2 = 0 ∨ n / m % 2 = 1 := by omega
  have e : n = (m * (n / m % 2) + n % m) + (m * 2) * (n / m / 2) := by
    have e1 : m * (n / m) = m * (n / m % 2) + (m * 2) * (n / m / 2) := by
      rw [Int.mul_assoc, ← Int.mul_add, h2]
    omega
  have hb : 0 ≤ m * (n / m % 2) + n % m ∧ m * (n / m % 2) + n % m < m * 2 := by
    rcases h5 with h5 | h5 <;> rw [h5] <;> omega
  calc n % (m * 2) = ((m * (n / m % 2) + n % m) + (m * 2) * (n / m / 2)) % (m * 2) := by rw [← e]
    _ = _ := by rw [Int.add_mul_emod_self_left, Int.emod_eq_of_lt hb.1 hb.2]
theorem readV_bits {n : Int} (h0 : 0 ≤ n) (h1 : n < 9223372036854775808) : ∀ (c : Nat) (a : Int) (rest : List Int), c ≤ 62 → 0 ≤ a → (a + 1) * 2 ^ c ≤ 4611686018427387904 → readV c a (bitsN n c ++ rest) = a * 2 ^ c + n % 2 ^ c
  | 0, a, rest, _, _, _ => by simp [readV, bitsN, Int.emod_one]
  | c + 1, a, rest, hc, ha, hb => by
    have hp : (1 : Int) ≤ 2 ^ c := by have : (0 : Int) < 2 ^ c := Int.pow_pos (by decide); omega
    have e : (a + 1) * 2 ^ (c + 1) = (2 * a + 2) * 2 ^ c := by
      rw [Int.pow_succ, Int.mul_comm (2 ^ c) 2, ← Int.mul_assoc]
      congr 1
      omega
    have h2 : (2 * a + 2) ≤ (2 * a + 2) * 2 ^ c := by
      have := Int.mul_le_mul_of_nonneg_left hp (show 0 ≤ 2 * a + 2 by omega)
      omega
    rw [e] at hb
    have hbit : bitG n c = n / 2 ^ c % 2 := bitG_eq h0 h1 (by omega)
    have hbr : 0 ≤ n / 2 ^ c % 2 ∧ n / 2 ^ c % 2 ≤ 1 := by omega
    have hw : wi (wi (2 * a) + bitG n c) = 2 * a + n / 2 ^ c % 2 := by rw [hbit, wi_id (n := 2 * a) (by omega) (by omega), wi_id (by omega) (by omega)]
    simp only [bitsN, List.cons_append, readV, List.getD_cons_zero, List.drop_succ_cons, List.drop_zero]
    rw [hw]
    have h3 : (2 * a + n / 2 ^ c % 2 + 1) * 2 ^ c ≤ (2 * a + 2) * 2 ^ c := Int.mul_le_mul_of_nonneg_right (by omega) (by omega)
    rw [readV_bits h0 h1 c _ rest (by omega) (by omega) (by omega), Int.pow_succ, mod_double (by omega), Int.add_mul]
    have e5 : a * (2 ^ c * 2) = 2 * a * 2 ^ c := by rw [Int.mul_comm (2 ^ c) 2, ← Int.mul_assoc, Int.mul_comm a 2]
    rw [e5, Int.mul_comm (2 ^ c) (n / 2 ^ c % 2)]
    omega
theorem ones_rep : ∀ (q : Nat) (l : List Int), onesN (List.replicate q 1 ++ 0 :: l) = q
  | 0, l => rfl
  | q + 1, l => by
    simp only [List.replicate_succ, List.cons_append, onesN, ones_rep q l]
    rfl
theorem ones_all : ∀ (q : Nat), onesN (List.replicate q 1) = q
  | 0 => rfl
  | q + 1 => by
    simp only [List.replicate_succ, onesN, ones_all q]
    rfl

/-- A code, and what is read of it. -/
def code1 (k : Int) (u : Int) : List Int := List.replicate (u.fdiv (2 ^ min k.toNat 64)).toNat 1 ++ [0] ++ bitsN u k.toNat
theorem codes_cons (k u : Int) (us : List Int) : codesG k (u :: us) = code1 k u ++ codesG k us := rfl
theorem code1_length (k u : Int) : (code1 k u).length = (u.fdiv (2 ^ min k.toNat 64)).toNat + 1 + k.toNat := by
  unfold code1
  simp only [List.length_append, List.length_replicate, List.length_cons, List.length_nil, bitsN_length]
theorem code1_read {k u : Int} (hk : 0 ≤ k ∧ k ≤ 17) (hu : 0 ≤ u ∧ u ≤ 262136) (rest : List Int) :
    onesN (code1 k u ++ rest) = (u.fdiv (2 ^ min k.toNat 64)).toNat ∧ (code1 k u ++ rest).drop (onesN (code1 k u ++ rest) + 1 + k.toNat) = rest ∧ codeV k.toNat (code1 k u ++ rest) = u := by
  have hq := fdiv_range (min k.toNat 64) hu
  have e1 : code1 k u ++ rest = List.replicate (u.fdiv (2 ^ min k.toNat 64)).toNat 1 ++ 0 :: (bitsN u k.toNat ++ rest) := by
    unfold code1; simp
  have ho : onesN (code1 k u ++ rest) = (u.fdiv (2 ^ min k.toNat 64)).toNat := by rw [e1, ones_rep]
  refine ⟨ho, ?_, ?_⟩
  · rw [ho, ← code1_length, List.drop_left]
  · unfold codeV
    rw [ho]
    have e2 : (code1 k u ++ rest).drop ((u.fdiv (2 ^ min k.toNat 64)).toNat + 1) = bitsN u k.toNat ++ rest := by
      rw [e1, ← List.drop_drop, List.drop_left' (by simp)]
      rfl
    have hp : (1 : Int) ≤ 2 ^ k.toNat ∧ (2 : Int) ^ k.toNat ≤ 131072 := by
      have h1 : (2 : Nat) ^ k.toNat ≤ 2 ^ 17 := Nat.pow_le_pow_right (by decide) (by omega)
      have h2 : 0 < (2 : Nat) ^ k.toNat := Nat.pow_pos (by decide)
      have ep : ((2 ^ k.toNat : Nat) : Int) = (2 : Int) ^ k.toNat := by simp
      have e17 : (2 : Nat) ^ 17 = 131072 := by decide
      omega
    rw [e2, readV_bits hu.1 (by omega) _ _ _ (by omega) (by decide) (by omega), Nat.min_eq_left (show k.toNat ≤ 64 by omega), Int.zero_mul, Int.zero_add]
    rw [Nat.min_eq_left (show k.toNat ≤ 64 by omega)] at hq
    have hdm := Int.emod_add_mul_ediv u (2 ^ k.toNat)
    rw [fdiv_pow] at hq ⊢
    have hm0 := Int.emod_nonneg u (show (2 : Int) ^ k.toNat ≠ 0 by omega)
    rw [Int.toNat_of_nonneg hq.1, Int.mul_comm, wi_id (n := 2 ^ k.toNat * (u / 2 ^ k.toNat)) (by omega) (by omega), wi_id (by omega) (by omega)]
    omega

theorem resid_fold {r : Int} (h : -131068 ≤ r ∧ r ≤ 131068) : resid (foldG r) = r := by
  unfold foldG
  by_cases h0 : r ≥ 0
  · simp only [h0, decide_true, cond_true]
    rw [wi_id (by omega) (by omega)]
    unfold resid
    rw [Int.tmod_eq_emod_of_nonneg (by omega), Int.tdiv_eq_ediv_of_nonneg (by omega)]
    rw [show 2 * r % 2 = 0 by omega]
    show wi (2 * r / 2) = r
    rw [wi_id (by omega) (by omega)]
    omega
  · simp only [h0, decide_false, cond_false]
    rw [wi_id (n := -2 * r) (by omega) (by omega), wi_id (by omega) (by omega)]
    unfold resid
    rw [Int.tmod_eq_emod_of_nonneg (by omega), Int.tdiv_eq_ediv_of_nonneg (by omega)]
    rw [show (-2 * r - 1) % 2 = 1 by omega]
    show wi (wi (0 - wi ((-2 * r - 1) / 2)) - 1) = r
    rw [wi_id (n := (-2 * r - 1) / 2) (by omega) (by omega), wi_id (n := 0 - (-2 * r - 1) / 2) (by omega) (by omega), wi_id (by omega) (by omega)]
    omega

theorem unp_codes {p k : Int} (hk : 0 ≤ k ∧ k ≤ 17) : ∀ (xs : List Int) (l b : Int) (rest : List Int), (∀ x ∈ xs, -32767 ≤ x ∧ x ≤ 32767) → (-32767 ≤ l ∧ l ≤ 32767) → (-32767 ≤ b ∧ b ≤ 32767) →
    unpX p k.toNat xs.length l b (codesG k (codR p l b xs) ++ rest) = xs ∧ unpL k.toNat xs.length (codesG k (codR p l b xs) ++ rest) = rest ∧ unpE k.toNat xs.length (codesG k (codR p l b xs) ++ rest) = false
  | [], _, _, _, _, _, _ => ⟨rfl, rfl, rfl⟩
  | x :: xs, l, b, rest, hx, hl, hb => by
    have hx0 := hx x (by simp)
    have he := exp_range (p := p) hl hb
    have hr : wi (x - expG p l b) = x - expG p l b := wi_id (by omega) (by omega)
    have hu := fold_range (r := x - expG p l b) (by omega)
    obtain ⟨i1, i2, i3⟩ := unp_codes (p := p) hk xs x l rest (fun y hy => hx y (by simp [hy])) hx0 hl
    simp only [codR, hr, codes_cons, List.append_assoc, List.length_cons]
    obtain ⟨c1, c2, c3⟩ := code1_read hk hu (codesG k (codR p x l xs) ++ rest)
    have hf := resid_fold (r := x - expG p l b) (by omega)
    have hw : wi (expG p l b + (x - expG p l b)) = x := by rw [wi_id (by omega) (by omega)]; omega
    refine ⟨?_, ?_, ?_⟩
    · simp only [unpX]
      rw [c3, c2, hf, hw, i1]
    · rw [unpL_s, c2, i2]
    · rw [unpE_s, c2, i3, c1, Bool.or_false]
      refine decide_eq_false ?_
      rw [List.length_append, code1_length]
      omega

theorem unp_short {p k : Int} (hk : 0 ≤ k ∧ k ≤ 17) : ∀ (xs : List Int) (l b : Int), xs ≠ [] → (∀ x ∈ xs, -32767 ≤ x ∧ x ≤ 32767) → (-32767 ≤ l ∧ l ≤ 32767) → (-32767 ≤ b ∧ b ≤ 32767) →
    unpE k.toNat xs.length ((codesG k (codR p l b xs)).take ((codesG k (codR p l b xs)).length - 1)) = true
  | [], _, _, h, _, _, _ => absurd rfl h
  | x :: xs, l, b, _, hx, hl, hb => by
    have hx0 := hx x (by simp)
    have he := exp_range (p := p) hl hb
    have hr : wi (x - expG p l b) = x - expG p l b := wi_id (by omega) (by omega)
    have hu := fold_range (r := x - expG p l b) (by omega)
    simp only [codR, hr, codes_cons, List.length_cons]
    generalize foldG (x - expG p l b) = u at *
    have hq := fdiv_range (min k.toNat 64) hu
    by_cases hxs : xs = []
    · subst hxs
      simp only [codR, codesG, List.append_nil]
      rw [unpE_s]
      have hlen := code1_length k u
      have ho : onesN ((code1 k u).take ((code1 k u).length - 1)) = (u.fdiv (2 ^ min k.toNat 64)).toNat := by
        rw [hlen]
        unfold code1
        by_cases hk0 : k.toNat = 0
        · rw [hk0]
          simp only [bitsN, List.append_nil]
          rw [List.take_append_of_le_length (by simp), List.take_of_length_le (by simp)]
          exact ones_all _
        · rw [List.append_assoc, List.take_append, List.length_replicate, List.take_of_length_le (by simp)]
          obtain ⟨j, hj⟩ : ∃ j, (u.fdiv (2 ^ min k.toNat 64)).toNat + 1 + k.toNat - 1 - (u.fdiv (2 ^ min k.toNat 64)).toNat = j + 1 := ⟨k.toNat - 1, by omega⟩
          rw [hj]
          exact ones_rep _ _
      rw [ho, decide_eq_true (by rw [List.length_take, hlen]; omega), Bool.true_or]
    · have hne : (codesG k (codR p x l xs)).length ≠ 0 := by
        cases xs with
        | nil => exact absurd rfl hxs
        | cons y ys => simp only [codR, codes_cons, List.length_append, code1_length]; omega
      have ih := unp_short (p := p) hk xs x l hxs (fun y hy => hx y (by simp [hy])) hx0 hl
      have ht : (code1 k u ++ codesG k (codR p x l xs)).take ((code1 k u ++ codesG k (codR p x l xs)).length - 1) = code1 k u ++ (codesG k (codR p x l xs)).take ((codesG k (codR p x l xs)).length - 1) := by
        rw [List.length_append, List.take_append, List.take_of_length_le (by omega)]
        congr 2
        omega
      rw [ht]
      obtain ⟨c1, c2, _⟩ := code1_read hk hu ((codesG k (codR p x l xs)).take ((codesG k (codR p x l xs)).length - 1))
      rw [unpE_s, c2, ih, Bool.or_true]

/-! ### The whole -/
theorem pow_pack (xs : List Int) : packG xs = bitsN (bestG xs).2.1 2 ++ (bitsN (bestG xs).2.2 5 ++ codesG (bestG xs).2.2 (codG (bestG xs).2.1 xs)) := by
  unfold packG; rw [List.append_assoc]
theorem heads (p k : Int) (hp : 0 ≤ p ∧ p ≤ 2) (hk : 0 ≤ k ∧ k ≤ 17) (cs : List Int) :
    prG (bitsN p 2 ++ (bitsN k 5 ++ cs)) = p ∧ paG (bitsN p 2 ++ (bitsN k 5 ++ cs)) = k ∧ (bitsN p 2 ++ (bitsN k 5 ++ cs)).drop 7 = cs ∧ (bitsN p 2 ++ (bitsN k 5 ++ cs)).drop 2 = bitsN k 5 ++ cs ∧ (bitsN p 2 ++ (bitsN k 5 ++ cs)).length = 7 + cs.length := by
  have e2 : (bitsN p 2 ++ (bitsN k 5 ++ cs)).drop 2 = bitsN k 5 ++ cs := List.drop_left' (bitsN_length p 2)
  refine ⟨?_, ?_, ?_, e2, ?_⟩
  · unfold prG
    rw [readV_bits hp.1 (by omega) 2 0 _ (by decide) (by decide) (by decide)]
    have : (2 : Int) ^ 2 = 4 := by decide
    rw [this]
    omega
  · unfold paG
    rw [e2, readV_bits hk.1 (by omega) 5 0 _ (by decide) (by decide) (by decide)]
    have : (2 : Int) ^ 5 = 32 := by decide
    rw [this]
    omega
  · rw [← List.append_assoc]
    exact List.drop_left' (by rw [List.length_append, bitsN_length, bitsN_length])
  · rw [List.length_append, List.length_append, bitsN_length, bitsN_length]
    omega
theorem best_first3 (xs : List Int) : 0 ≤ (bestG xs).2.1 ∧ (bestG xs).2.1 ≤ 2 := by
  have := best_first xs
  omega
theorem pack_unpack {xs : List Int} (h : xs.all sampleG = true) (h8 : xs.length = 8) : unpackE (packG xs) = 0 ∧ unpackX (packG xs) = xs ∧ prG (packG xs) = (bestG xs).2.1 ∧ paG (packG xs) = (bestG xs).2.2 := by
  have hb := pack_bounds h h8
  have hbits := pack_bits h
  have hp := best_first3 xs
  have hk := best_range xs
  obtain ⟨q1, q2, q3, _, _⟩ := heads (bestG xs).2.1 (bestG xs).2.2 hp hk (codesG (bestG xs).2.2 (codG (bestG xs).2.1 xs))
  rw [← pow_pack] at q1 q2 q3
  have hx : ∀ x ∈ xs, -32767 ≤ x ∧ x ≤ 32767 := fun x hx => sample_range (List.all_eq_true.1 h x hx)
  obtain ⟨u1, u2, u3⟩ := unp_codes (p := (bestG xs).2.1) hk xs 0 0 [] hx (by decide) (by decide)
  rw [List.append_nil, h8] at u1 u2 u3
  have hX : unpackX (packG xs) = xs := by
    unfold unpackX
    rw [q1, q2, q3]
    exact u1
  refine ⟨?_, hX, q1, q2⟩
  unfold unpackE
  have hbad : badE (packG xs) = 0 := by
    unfold badE
    rw [idx_of_any, hbits]
    have c1 : ((packG xs).length : Int) ≤ 3000 := by omega
    have c2 : ((packG xs).length : Int) ≥ 7 := by omega
    simp only [c1, c2, decide_true, Bool.not_false, cond_true]
    rfl
  rw [hbad, hX, q1, q2, q3]
  unfold codG
  rw [u2, u3, h]
  have c3 : ¬ (bestG xs).2.1 ≥ 3 := by omega
  have c4 : ¬ (bestG xs).2.2 ≥ 18 := by omega
  simp only [c3, c4, decide_false]
  rfl
theorem pack_short {xs : List Int} (h : xs.all sampleG = true) (h8 : xs.length = 8) : unpackE ((packG xs).take ((packG xs).length - 1)) = 10 := by
  have hb := pack_bounds h h8
  have hbits := pack_bits h
  have hp := best_first3 xs
  have hk := best_range xs
  have hx : ∀ x ∈ xs, -32767 ≤ x ∧ x ≤ 32767 := fun x hx => sample_range (List.all_eq_true.1 h x hx)
  have us := unp_short (p := (bestG xs).2.1) hk xs 0 0 (by intro e; rw [e] at h8; exact absurd h8 (by decide)) hx (by decide) (by decide)
  rw [h8] at us
  have hl := (heads (bestG xs).2.1 (bestG xs).2.2 hp hk (codesG (bestG xs).2.2 (codG (bestG xs).2.1 xs))).2.2.2.2
  rw [← pow_pack] at hl
  have e : (packG xs).take ((packG xs).length - 1) = bitsN (bestG xs).2.1 2 ++ (bitsN (bestG xs).2.2 5 ++ (codesG (bestG xs).2.2 (codG (bestG xs).2.1 xs)).take ((codesG (bestG xs).2.2 (codG (bestG xs).2.1 xs)).length - 1)) := by
    rw [hl, pow_pack, List.take_append, bitsN_length, List.take_append, bitsN_length, List.take_of_length_le (by rw [bitsN_length]; omega), List.take_of_length_le (by rw [bitsN_length]; omega)]
    congr 3
    omega
  obtain ⟨q1, q2, q3, _, _⟩ := heads (bestG xs).2.1 (bestG xs).2.2 hp hk ((codesG (bestG xs).2.2 (codG (bestG xs).2.1 xs)).take ((codesG (bestG xs).2.2 (codG (bestG xs).2.1 xs)).length - 1))
  have hlen : ((packG xs).take ((packG xs).length - 1)).length = (packG xs).length - 1 := by rw [List.length_take]; omega
  have hbits' : ((packG xs).take ((packG xs).length - 1)).any oddB = false := by
    rw [List.any_eq_false] at hbits ⊢
    exact fun x hx => hbits x (List.mem_of_mem_take hx)
  unfold unpackE
  have hbad : badE ((packG xs).take ((packG xs).length - 1)) = 0 := by
    unfold badE
    rw [idx_of_any, hbits', hlen]
    have c1 : (((packG xs).length - 1 : Nat) : Int) ≤ 3000 := by omega
    have c2 : (((packG xs).length - 1 : Nat) : Int) ≥ 7 := by omega
    simp only [c1, c2, decide_true, Bool.not_false, cond_true]
    rfl
  rw [hbad, e, q1, q2, q3]
  unfold codG
  rw [us]
  have c3 : ¬ (bestG xs).2.1 ≥ 3 := by omega
  have c4 : ¬ (bestG xs).2.2 ≥ 18 := by omega
  simp only [c3, c4, decide_false]
  rfl

theorem ok28V : SpecOK Try.prog 28 packedVS := ok28.weak fun args σ K h => by
  unfold packedVS at h
  split at h
  · exact h _ _ rfl rfl
  · exact h.elim
theorem ok47V : SpecOK Try.prog 47 unpackVS := ok47.weak fun args σ K h => by
  unfold unpackVS at h
  split at h
  · exact ⟨h.1, by have := h.2 _ _ rfl rfl; exact this⟩
  · exact h.elim

def bitByBitLawS : Spec := fun args σ K => match args, σ with
  | [.agg [.int .i64 x0, .int .i64 x1, .int .i64 x2, .int .i64 x3, .int .i64 x4, .int .i64 x5, .int .i64 x6, .int .i64 x7], .one (.int .i64 _), .one (.int .i64 _)], [] => K (.one (.bool true)) []
  | _, _ => False
theorem ok10 : SpecOK Try.prog 10 bitByBitLawS := by
  refine specOK (n := 111) (m := 0) (lps := []) (.cons ok15 (.cons ok29 (.cons ok32 (.cons ok28V (.cons ok25 (.cons ok49 (.cons ok35 (.cons ok47V (.cons ok27 (.cons ok50 .nil)))))))))) Try.func10 (by kernel_rfl) (by kernel_rfl) (noLoops (by kernel_rfl)) fun args σ K h => ?_
  unfold bitByBitLawS at h
  split at h
  · rename_i x0 x1 x2 x3 x4 x5 x6 x7 p k
    rw [ex10 x0 x1 x2 x3 x4 x5 x6 x7 p k K]
    have h8 : [x0, x1, x2, x3, x4, x5, x6, x7].length = 8 := rfl
    have hys : ∀ ys : List Int, ys = [x0, x1, x2, x3, x4, x5, x6, x7] → (ys.getD 0 0 == x0 && (ys.getD 1 0 == x1 && (ys.getD 2 0 == x2 && (ys.getD 3 0 == x3 && (ys.getD 4 0 == x4 && (ys.getD 5 0 == x5 && (ys.getD 6 0 == x6 && ys.getD 7 0 == x7))))))) = true := by
      intro ys e; subst e; simp
    generalize [x0, x1, x2, x3, x4, x5, x6, x7] = xs at *
    cases hs : xs.all sampleG with
    | false => exact h
    | true =>
      cases hpk : paramG p k with
      | false => exact h
      | true =>
        simp only [cond_true, bne_self_eq_false, cond_false]
        intro c B hc hB
        subst hc
        have hb := pack_bounds hs h8
        obtain ⟨u1, u2, u3, u4⟩ := pack_unpack hs h8
        have us := pack_short hs h8
        have hbits := pack_bits hs
        obtain ⟨m1, m2⟩ := best_least hs
        have hl := pack_len hs
        have hpar : (0 ≤ p ∧ p ≤ 2) ∧ (0 ≤ k ∧ k ≤ 17) := by
          unfold paramG withinG at hpk
          simp at hpk
          omega
        have m3 := m2 p k hpar.1.1 hpar.1.2 hpar.2.1 hpar.2.2
        have hf := best_first3 xs
        have hr := best_range xs
        have hE1 : bitsForE xs p k = 0 := by
          unfold bitsForE
          rw [hs]
          unfold paramG at hpk
          rw [hpk]
          rfl
        have hE2 : bitsForE xs (bestG xs).2.1 (bestG xs).2.2 = 0 := by
          unfold bitsForE
          rw [hs]
          have : withinG (bestG xs).2.1 0 2 = true ∧ withinG (bestG xs).2.2 0 17 = true := by
            unfold withinG
            simp
            omega
          rw [this.1, this.2]
          rfl
        rw [← hB] at hb u1 u2 u3 u4 us hbits hl
        have e1 : readV (B.take 2).length 0 (B.take 2) = prG B := by rw [List.length_take, Nat.min_eq_left (by omega), readV_take]; rfl
        have e2 : readV ((B.drop 2).take 5).length 0 ((B.drop 2).take 5) = paG B := by
          rw [List.length_take, List.length_drop, Nat.min_eq_left (by omega), readV_take]; rfl
        have w1 : IntKind.i64.wrap ((B.length : Int) - 1) = ((B.length - 1 : Nat) : Int) := by rw [wrap_id (by omega) (by omega)]; omega
        have w2 : (((B.length - 1 : Nat) : Int)).toNat = B.length - 1 := by omega
        rw [e1, e2, u3, u4]
        simp only [hE1, hE2, w1, w2, Nat.sub_zero]
        have d1 : decide ((15 : Int) ≤ (B.length : Int)) = true := decide_eq_true (by omega)
        have d2 : decide ((B.length : Int) ≤ 159) = true := decide_eq_true (by omega)
        have d3 : decide (2 ≤ B.length) = true := decide_eq_true (by omega)
        have d4 : decide (7 ≤ B.length) = true := decide_eq_true (by omega)
        have d5 : decide ((0 : Int) ≤ ((B.length - 1 : Nat) : Int)) = true := decide_eq_true (by omega)
        have d6 : decide (B.length - 1 ≤ B.length) = true := decide_eq_true (by omega)
        have d7 : decide (0 ≤ B.length - 1) = true := decide_eq_true (by omega)
        have d8 : decide (0 + (B.length - 1) ≤ B.length) = true := decide_eq_true (by omega)
        have d9 : decide (lenG p k xs ≥ (B.length : Int)) = true := decide_eq_true (by omega)
        have d10 : (lenG (bestG xs).2.1 (bestG xs).2.2 xs == (B.length : Int)) = true := by rw [hl]; exact beq_self_eq_true _
        simp only [d1, d2, d3, d4, d5, d6, d7, d8, d9, d10, hbits, cond_true, cond_false, Bool.and_self, Bool.not_true, Bool.not_false, Bool.and_true, beq_self_eq_true,
          show decide ((0 : Int) ≤ 2) = true by decide, show decide (0 ≤ 2) = true by decide, show decide ((0 : Int) ≤ 7) = true by decide, show decide (2 ≤ 7) = true by decide]
        refine ⟨by omega, by omega, by omega, fun e ys he hy => ?_⟩
        rw [u1] at he
        rw [u2] at hy
        subst he
        have hc := hys ys hy
        simp only [beq_self_eq_true, cond_true]
        refine ⟨by rw [List.length_take]; omega, by rw [List.length_take, List.length_drop]; omega, by rw [List.length_take]; omega, by rw [List.length_take]; omega, fun e' ys' he' hy' => ?_⟩
        rw [us] at he'
        subst he'
        simp only [hc, show ((10 : Int) == 0) = false by decide, show ((10 : Int) == 10) = true by decide, cond_true, cond_false]
        exact h
  · exact h.elim
end Go.Ev
