/-
  Part of the proof of a law.
-/
import Derived.Test.YtmailpnpjcpodaaGreatDoorC1F
import Derived.KernelRfl
set_option linter.unusedVariables false
set_option linter.unusedSimpArgs false
set_option linter.unusedSectionVars false
/-
  Chapter 1, contracts: packed samples; the examples.
-/
namespace Go.Ev
open Go Go.Proofs
set_option maxRecDepth 20000
abbrev Tri := Int × Int × Int
def bst (xs : List Int) (p k : Int) (s : Tri) : Tri := bif s.1 == 0 then (lenG p k xs, p, k) else bif decide (lenG p k xs < s.1) then (lenG p k xs, p, k) else s
def bestK (xs : List Int) (p : Int) : Nat → Int → Tri → Tri
  | 0, _, s => s
  | n + 1, k, s => bestK xs p n (k + 1) (bst xs p k s)
def bestP (xs : List Int) : Nat → Int → Tri → Tri
  | 0, _, s => s
  | n + 1, p, s => bestP xs n (p + 1) (bestK xs p 18 0 s)
def bestG (xs : List Int) : Tri := bestP xs 3 0 (0, 0, 0)
def codesG (k : Int) : List Int → List Int
  | [] => []
  | u :: l => (List.replicate (u.fdiv (2 ^ min k.toNat 64)).toNat 1 ++ [0] ++ bitsN u k.toNat) ++ codesG k l
def packG (xs : List Int) : List Int := bitsN (bestG xs).2.1 2 ++ bitsN (bestG xs).2.2 5 ++ codesG (bestG xs).2.2 (codG (bestG xs).2.1 xs)
def innerL : LSpec := fun vs σ k => match vs, σ with
  | [.one (.ptr 0 1 0 0), .one (.int .i64 b), .one (.int .i64 bp), .one (.int .i64 bk), .one (.int .i64 p), .one (.int .i64 q), .one (.int .i64 i)], [.row 22 (.ints .i64 [x0, x1, x2, x3, x4, x5, x6, x7])] =>
    ([x0, x1, x2, x3, x4, x5, x6, x7].all sampleG = true ∧ 0 ≤ i ∧ i ≤ 18) ∧ k (.exit 2) [.one (.ptr 0 1 0 0), .one (.int .i64 (bestK [x0, x1, x2, x3, x4, x5, x6, x7] p (18 - i).toNat i (b, bp, bk)).1), .one (.int .i64 (bestK [x0, x1, x2, x3, x4, x5, x6, x7] p (18 - i).toNat i (b, bp, bk)).2.1),
      .one (.int .i64 (bestK [x0, x1, x2, x3, x4, x5, x6, x7] p (18 - i).toNat i (b, bp, bk)).2.2), .one (.int .i64 q)] [.row 22 (.ints .i64 [x0, x1, x2, x3, x4, x5, x6, x7])]
  | _, _ => False
def outerL : LSpec := fun vs σ k => match vs, σ with
  | [.one (.ptr 0 1 0 0), .one (.int .i64 b), .one (.int .i64 bp), .one (.int .i64 bk), .one (.int .i64 p)], [.row 22 (.ints .i64 [x0, x1, x2, x3, x4, x5, x6, x7])] =>
    ([x0, x1, x2, x3, x4, x5, x6, x7].all sampleG = true ∧ 0 ≤ p ∧ p ≤ 3) ∧ k (.exit 0) [.one (.ptr 0 1 0 0), .one (.int .i64 (bestP [x0, x1, x2, x3, x4, x5, x6, x7] (3 - p).toNat p (b, bp, bk)).2.1), .one (.int .i64 (bestP [x0, x1, x2, x3, x4, x5, x6, x7] (3 - p).toNat p (b, bp, bk)).2.2)] [.row 22 (.ints .i64 [x0, x1, x2, x3, x4, x5, x6, x7])]
  | _, _ => False
def okU (u : Int) : Bool := decide (0 ≤ u) && decide (u ≤ 262136)
def codesL : LSpec := fun vs σ k => match vs, σ with
  | [.one (.int .i64 c), .one (.ptr 0 1 0 0), .agg [.int .i64 u0, .int .i64 u1, .int .i64 u2, .int .i64 u3, .int .i64 u4, .int .i64 u5, .int .i64 u6, .int .i64 u7], .one (.int .i64 i)], [.cells [.own 1 1], .row 3 (.ints .i64 xs)] =>
    (0 ≤ c ∧ c ≤ 17 ∧ 0 ≤ i ∧ i ≤ 8 ∧ (xs.length : Int) ≤ 1000000 * (i + 1) ∧ [u0, u1, u2, u3, u4, u5, u6, u7].all okU = true) ∧
    k (.exit 4) [.one (.ptr 0 1 0 0)] [.cells [.own 1 1], .row 3 (.ints .i64 (xs ++ codesG c ([u0, u1, u2, u3, u4, u5, u6, u7].drop i.toNat)))]
  | _, _ => False
def packedS : Spec := fun args σ K => match args, σ with
  | [.agg [.int .i64 x0, .int .i64 x1, .int .i64 x2, .int .i64 x3, .int .i64 x4, .int .i64 x5, .int .i64 x6, .int .i64 x7]], [] => bif [x0, x1, x2, x3, x4, x5, x6, x7].all sampleG then K (.tup [.one (.own 0 1), .one (.int .i64 0)]) [.row 3 (.ints .i64 (packG [x0, x1, x2, x3, x4, x5, x6, x7]))] else K (.tup [.one .nil, .one (.int .i64 2)]) []
  | _, _ => False
noncomputable abbrev E28 : Env := envOf Tryz.prog [(65, samplesS), (66, lengthS), (67, byS writeS1 writeS2), (68, codedS), (69, repeatS)] [(6, .spec [1, 5, 6, 7, 19] [1, 6, 7] outerL), (9, .spec [1, 5, 6, 7, 8, 19, 22] [1, 5, 6, 7, 19] innerL), (20, .spec [7, 11, 47, 48] [11] codesL)] 66 0
end Go.Ev

namespace Go.Ev
open Go Go.Proofs
set_option maxRecDepth 100000
theorem ex28 (x0 x1 x2 x3 x4 x5 x6 x7 : Int) (K : AV → List Blk → Prop) : evFn E28 Tryz.f22 [.agg [.int .i64 x0, .int .i64 x1, .int .i64 x2, .int .i64 x3, .int .i64 x4, .int .i64 x5, .int .i64 x6, .int .i64 x7]] [] K = ( bif (bif [x0, x1, x2, x3, x4, x5, x6, x7].all sampleG then (0 :Int) else (2 :Int)) != 0 then K (AV.tup [.one .nil, .one (.int .i64 (bif [x0, x1, x2, x3, x4, x5, x6, x7].all sampleG then (0 :Int) else (2 :Int)))]) [] else ([x0, x1, x2, x3, x4, x5, x6, x7].all sampleG = true ∧ (0 :Int) ≤ (0 :Int) ∧ (0 :Int) ≤ (3 :Int)) ∧ ((0 :Int) ≤ (2 :Int) ∧ (2 :Int) ≤ (100 :Int)) ∧ ((0 :Int) ≤ (5 :Int) ∧ (5 :Int) ≤ (100 :Int) ∧ (bitsN (bestP [x0, x1, x2, x3, x4, x5, x6, x7] 3 0 (0, 0, 0)).snd.fst 2).length ≤ 1000000000) ∧ (0 ≤ (bestP [x0, x1, x2, x3, x4, x5, x6, x7] 3 0 (0, 0, 0)).snd.snd ∧ (bestP [x0, x1, x2, x3, x4, x5, x6, x7] 3 0 (0, 0, 0)).snd.snd ≤ 17 ∧ (0 :Int) ≤ (0 :Int) ∧ (0 :Int) ≤ (8 :Int) ∧ (↑(bitsN (bestP [x0, x1, x2, x3, x4, x5, x6, x7] 3 0 (0, 0, 0)).snd.fst 2 ++ bitsN (bestP [x0, x1, x2, x3, x4, x5, x6, x7] 3 0 (0, 0, 0)).snd.snd 5).length : Int) ≤ 1000000 ∧ [(codG (bestP [x0, x1, x2, x3, x4, x5, x6, x7] 3 0 (0, 0, 0)).snd.fst [x0, x1, x2, x3, x4, x5, x6, x7]).getD 0 0, (codG (bestP [x0, x1, x2, x3, x4, x5, x6, x7] 3 0 (0, 0, 0)).snd.fst [x0, x1, x2, x3, x4, x5, x6, x7]).getD 1 0, (codG (bestP [x0, x1, x2, x3, x4, x5, x6, x7] 3 0 (0, 0, 0)).snd.fst [x0, x1, x2, x3, x4, x5, x6, x7]).getD 2 0, (codG (bestP [x0, x1, x2, x3, x4, x5, x6, x7] 3 0 (0, 0, 0)).snd.fst [x0, x1, x2, x3, x4, x5, x6, x7]).getD 3 0, (codG (bestP [x0, x1, x2, x3, x4, x5, x6, x7] 3 0 (0, 0, 0)).snd.fst [x0, x1, x2, x3, x4, x5, x6, x7]).getD 4 0, (codG (bestP [x0, x1, x2, x3, x4, x5, x6, x7] 3 0 (0, 0, 0)).snd.fst [x0, x1, x2, x3, x4, x5, x6, x7]).getD 5 0, (codG (bestP [x0, x1, x2, x3, x4, x5, x6, x7] 3 0 (0, 0, 0)).snd.fst [x0, x1, x2, x3, x4, x5, x6, x7]).getD 6 0, (codG (bestP [x0, x1, x2, x3, x4, x5, x6, x7] 3 0 (0, 0, 0)).snd.fst [x0, x1, x2, x3, x4, x5, x6, x7]).getD 7 0].all okU = true) ∧ K (AV.tup [.one (.own 0 1), .one (.int .i64 0)]) [Blk.row 3 (Row.ints .i64 (bitsN (bestP [x0, x1, x2, x3, x4, x5, x6, x7] 3 0 (0, 0, 0)).snd.fst 2 ++ bitsN (bestP [x0, x1, x2, x3, x4, x5, x6, x7] 3 0 (0, 0, 0)).snd.snd 5 ++ codesG (bestP [x0, x1, x2, x3, x4, x5, x6, x7] 3 0 (0, 0, 0)).snd.snd [(codG (bestP [x0, x1, x2, x3, x4, x5, x6, x7] 3 0 (0, 0, 0)).snd.fst [x0, x1, x2, x3, x4, x5, x6, x7]).getD 0 0, (codG (bestP [x0, x1, x2, x3, x4, x5, x6, x7] 3 0 (0, 0, 0)).snd.fst [x0, x1, x2, x3, x4, x5, x6, x7]).getD 1 0, (codG (bestP [x0, x1, x2, x3, x4, x5, x6, x7] 3 0 (0, 0, 0)).snd.fst [x0, x1, x2, x3, x4, x5, x6, x7]).getD 2 0, (codG (bestP [x0, x1, x2, x3, x4, x5, x6, x7] 3 0 (0, 0, 0)).snd.fst [x0, x1, x2, x3, x4, x5, x6, x7]).getD 3 0, (codG (bestP [x0, x1, x2, x3, x4, x5, x6, x7] 3 0 (0, 0, 0)).snd.fst [x0, x1, x2, x3, x4, x5, x6, x7]).getD 4 0, (codG (bestP [x0, x1, x2, x3, x4, x5, x6, x7] 3 0 (0, 0, 0)).snd.fst [x0, x1, x2, x3, x4, x5, x6, x7]).getD 5 0, (codG (bestP [x0, x1, x2, x3, x4, x5, x6, x7] 3 0 (0, 0, 0)).snd.fst [x0, x1, x2, x3, x4, x5, x6, x7]).getD 6 0, (codG (bestP [x0, x1, x2, x3, x4, x5, x6, x7] 3 0 (0, 0, 0)).snd.fst [x0, x1, x2, x3, x4, x5, x6, x7]).getD 7 0]))]) := by kernel_rfl
theorem ex28a (x0 x1 x2 x3 x4 x5 x6 x7 b bp bk p : Int) (K : Ex → List AV → List Blk → Prop) : evBody E28 (lb Tryz.f22 0) [1, 5, 6, 7, 19] [1, 6, 7] [.one (.ptr 0 1 0 0), .one (.int .i64 b), .one (.int .i64 bp), .one (.int .i64 bk), .one (.int .i64 p)] [.row 22 (.ints .i64 [x0, x1, x2, x3, x4, x5, x6, x7])] K = ( bif decide (p < 3) then ([x0, x1, x2, x3, x4, x5, x6, x7].all sampleG = true ∧ (0 :Int) ≤ (0 :Int) ∧ (0 :Int) ≤ (18 :Int)) ∧ K .normal [.one (.ptr 0 1 0 0), .one (.int .i64 (bestK [x0, x1, x2, x3, x4, x5, x6, x7] p 18 0 (b, bp, bk)).fst), .one (.int .i64 (bestK [x0, x1, x2, x3, x4, x5, x6, x7] p 18 0 (b, bp, bk)).snd.fst), .one (.int .i64 (bestK [x0, x1, x2, x3, x4, x5, x6, x7] p 18 0 (b, bp, bk)).snd.snd), .one (.int .i64 (IntKind.i64.wrap (p + 1)))] [Blk.row 22 (Row.ints .i64 [x0, x1, x2, x3, x4, x5, x6, x7])] else K (.exit 0) [.one (.ptr 0 1 0 0), .one (.int .i64 bp), .one (.int .i64 bk)] [Blk.row 22 (Row.ints .i64 [x0, x1, x2, x3, x4, x5, x6, x7])]) := by kernel_rfl
theorem ex28b (x0 x1 x2 x3 x4 x5 x6 x7 b bp bk p q i : Int) (K : Ex → List AV → List Blk → Prop) : evBody E28 (lb Tryz.f22 1) [1, 5, 6, 7, 8, 19, 22] [1, 5, 6, 7, 19] [.one (.ptr 0 1 0 0), .one (.int .i64 b), .one (.int .i64 bp), .one (.int .i64 bk), .one (.int .i64 p), .one (.int .i64 q), .one (.int .i64 i)] [.row 22 (.ints .i64 [x0, x1, x2, x3, x4, x5, x6, x7])] K = ( bif decide (i < 18) then ([x0, x1, x2, x3, x4, x5, x6, x7].all sampleG = true ∧ 0 ≤ i ∧ i ≤ 17) ∧ bif b == 0 then K .normal [.one (.ptr 0 1 0 0), .one (.int .i64 (lenG p i [x0, x1, x2, x3, x4, x5, x6, x7])), .one (.int .i64 p), .one (.int .i64 i), .one (.int .i64 p), .one (.int .i64 q), .one (.int .i64 (IntKind.i64.wrap (i + 1)))] [Blk.row 22 (Row.ints .i64 [x0, x1, x2, x3, x4, x5, x6, x7])] else bif decide (lenG p i [x0, x1, x2, x3, x4, x5, x6, x7] < b) then K .normal [.one (.ptr 0 1 0 0), .one (.int .i64 (lenG p i [x0, x1, x2, x3, x4, x5, x6, x7])), .one (.int .i64 p), .one (.int .i64 i), .one (.int .i64 p), .one (.int .i64 q), .one (.int .i64 (IntKind.i64.wrap (i + 1)))] [Blk.row 22 (Row.ints .i64 [x0, x1, x2, x3, x4, x5, x6, x7])] else K .normal [.one (.ptr 0 1 0 0), .one (.int .i64 b), .one (.int .i64 bp), .one (.int .i64 bk), .one (.int .i64 p), .one (.int .i64 q), .one (.int .i64 (IntKind.i64.wrap (i + 1)))] [Blk.row 22 (Row.ints .i64 [x0, x1, x2, x3, x4, x5, x6, x7])] else K (.exit 2) [.one (.ptr 0 1 0 0), .one (.int .i64 b), .one (.int .i64 bp), .one (.int .i64 bk), .one (.int .i64 q)] [Blk.row 22 (Row.ints .i64 [x0, x1, x2, x3, x4, x5, x6, x7])]) := by kernel_rfl
theorem ex28c (c u0 u1 u2 u3 u4 u5 u6 u7 i : Int) (xs : List Int) (K : Ex → List AV → List Blk → Prop) : evBody E28 (lb Tryz.f22 2) [7, 11, 47, 48] [11] [.one (.int .i64 c), .one (.ptr 0 1 0 0), .agg [.int .i64 u0, .int .i64 u1, .int .i64 u2, .int .i64 u3, .int .i64 u4, .int .i64 u5, .int .i64 u6, .int .i64 u7], .one (.int .i64 i)] [.cells [.own 1 1], .row 3 (.ints .i64 xs)] K = ( bif decide (i < 8) then bif decide (0 ≤ i) && decide (i < 8) then bif !decide (c < 0) then (0 ≤ ([u0, u1, u2, u3, u4, u5, u6, u7].getD i.toNat (0 :Int)).fdiv (2 ^ min c.toNat 64) ∧ ([u0, u1, u2, u3, u4, u5, u6, u7].getD i.toNat (0 :Int)).fdiv (2 ^ min c.toNat 64) ≤ 1000000000) ∧ bif decide ((xs ++ List.replicate (([u0, u1, u2, u3, u4, u5, u6, u7].getD i.toNat (0 :Int)).fdiv (2 ^ min c.toNat 64)).toNat (1 :Int)).length * 8 ≤ 140737488355328 ∧ (xs ++ List.replicate (([u0, u1, u2, u3, u4, u5, u6, u7].getD i.toNat (0 :Int)).fdiv (2 ^ min c.toNat 64)).toNat (1 :Int)).length ≤ 140737488355328) then bif decide ((xs ++ List.replicate (([u0, u1, u2, u3, u4, u5, u6, u7].getD i.toNat (0 :Int)).fdiv (2 ^ min c.toNat 64)).toNat (1 :Int) ++ [0]).length * 8 ≤ 140737488355328 ∧ (xs ++ List.replicate (([u0, u1, u2, u3, u4, u5, u6, u7].getD i.toNat (0 :Int)).fdiv (2 ^ min c.toNat 64)).toNat (1 :Int) ++ [0]).length ≤ 140737488355328) then (0 ≤ c ∧ c ≤ 100 ∧ (xs ++ List.replicate (([u0, u1, u2, u3, u4, u5, u6, u7].getD i.toNat (0 :Int)).fdiv (2 ^ min c.toNat 64)).toNat (1 :Int) ++ [0]).length ≤ 1000000000) ∧ bif decide (c > 0) then K .normal [.one (.int .i64 c), .one (.ptr 0 1 0 0), AV.agg [SV.int .i64 u0, SV.int .i64 u1, SV.int .i64 u2, SV.int .i64 u3, SV.int .i64 u4, SV.int .i64 u5, SV.int .i64 u6, SV.int .i64 u7], .one (.int .i64 (IntKind.i64.wrap (i + 1)))] [Blk.cells [SV.own 1 1], Blk.row 3 (Row.ints .i64 (xs ++ List.replicate (([u0, u1, u2, u3, u4, u5, u6, u7].getD i.toNat (0 :Int)).fdiv (2 ^ min c.toNat 64)).toNat (1 :Int) ++ [0] ++ bitsN ([u0, u1, u2, u3, u4, u5, u6, u7].getD i.toNat (0 :Int)) c.toNat))] else K .normal [.one (.int .i64 c), .one (.ptr 0 1 0 0), AV.agg [SV.int .i64 u0, SV.int .i64 u1, SV.int .i64 u2, SV.int .i64 u3, SV.int .i64 u4, SV.int .i64 u5, SV.int .i64 u6, SV.int .i64 u7], .one (.int .i64 (IntKind.i64.wrap (i + 1)))] [Blk.cells [SV.own 1 1], Blk.row 3 (Row.ints .i64 (xs ++ List.replicate (([u0, u1, u2, u3, u4, u5, u6, u7].getD i.toNat (0 :Int)).fdiv (2 ^ min c.toNat 64)).toNat (1 :Int) ++ [0]))] else False else False else False else False else K (.exit 4) [.one (.ptr 0 1 0 0)] [Blk.cells [SV.own 1 1], Blk.row 3 (Row.ints .i64 xs)]) := by kernel_rfl
end Go.Ev

/-
  Chapter 1: the contracts of C1G are kept.
-/
namespace Go.Ev
open Go Go.Proofs
attribute [local irreducible] evFn evBody
set_option maxRecDepth 20000
theorem ok28L : AllOK Tryz.prog [(65, samplesS), (66, lengthS), (67, byS writeS1 writeS2), (68, codedS), (69, repeatS)] := .cons ok82 (.cons ok83 (.cons ok84 (.cons ok85 (.cons ok86 .nil))))
theorem lok28b : LoopOK E28 (lb Tryz.f22 1) [1, 5, 6, 7, 8, 19, 22] [1, 5, 6, 7, 19] innerL := by
  refine loopOK ok28L (noInner (by kernel_rfl)) (fun vs _ => match vs with
    | [_, _, _, _, _, _, .one (.int .i64 i)] => (18 - i).toNat
    | _ => 0) fun vs σ k h => ?_
  unfold innerL at h
  split at h
  · rename_i b bp bk p q i x0 x1 x2 x3 x4 x5 x6 x7
    rw [ex28b x0 x1 x2 x3 x4 x5 x6 x7 b bp bk p q i _]
    obtain ⟨⟨h1, h2, h3⟩, h⟩ := h
    by_cases hi : i < 18
    · have hw : IntKind.i64.wrap (i + 1) = i + 1 := wrap_id (by omega) (by omega)
      have e1 : (18 - i).toNat = (18 - (i + 1)).toNat + 1 := by omega
      have hmu : (18 - (i + 1)).toNat < (18 - i).toNat := by omega
      rw [e1] at h
      simp only [bestK] at h
      unfold bst at h
      simp only [hi, decide_true, cond_true, hw]
      refine ⟨⟨h1, h2, by omega⟩, ?_⟩
      cases hb : b == 0 with
      | true =>
        rw [hb] at h
        exact ⟨⟨⟨h1, by omega, by omega⟩, h⟩, hmu⟩
      | false =>
        rw [hb] at h
        cases hl : decide (lenG p i [x0, x1, x2, x3, x4, x5, x6, x7] < b) with
        | true =>
          rw [hl] at h
          exact ⟨⟨⟨h1, by omega, by omega⟩, h⟩, hmu⟩
        | false =>
          rw [hl] at h
          exact ⟨⟨⟨h1, by omega, by omega⟩, h⟩, hmu⟩
    · have e : i = 18 := by omega
      subst e
      simp only [hi, decide_false, cond_false]
      exact h
  · exact h.elim
theorem inner28 : ∀ b' ∈ loopsOf (lb Tryz.f22 0), LoopHyp E28 b' := by
  have hl : loopsOf (lb Tryz.f22 0) = [lb Tryz.f22 1] := by kernel_rfl
  rw [hl]
  intro b' hb
  rw [List.mem_singleton] at hb
  subst hb
  exact loopHyp_of (key := 9) (by kernel_rfl) rfl lok28b
theorem lok28a : LoopOK E28 (lb Tryz.f22 0) [1, 5, 6, 7, 19] [1, 6, 7] outerL := by
  refine loopOK ok28L inner28 (fun vs _ => match vs with
    | [_, _, _, _, .one (.int .i64 i)] => (3 - i).toNat
    | _ => 0) fun vs σ k h => ?_
  unfold outerL at h
  split at h
  · rename_i b bp bk p x0 x1 x2 x3 x4 x5 x6 x7
    rw [ex28a x0 x1 x2 x3 x4 x5 x6 x7 b bp bk p _]
    obtain ⟨⟨h1, h2, h3⟩, h⟩ := h
    by_cases hi : p < 3
    · have hw : IntKind.i64.wrap (p + 1) = p + 1 := wrap_id (by omega) (by omega)
      have e1 : (3 - p).toNat = (3 - (p + 1)).toNat + 1 := by omega
      have hmu : (3 - (p + 1)).toNat < (3 - p).toNat := by omega
      rw [e1] at h
      simp only [hi, decide_true, cond_true, hw]
      exact ⟨⟨h1, by omega, by omega⟩, ⟨⟨h1, by omega, by omega⟩, h⟩, hmu⟩
    · have e : p = 3 := by omega
      subst e
      simp only [hi, decide_false, cond_false]
      exact h
  · exact h.elim
theorem codes_step {k : Int} {us : List Int} {i : Int} (h0 : 0 ≤ i) (hi : i < us.length) (xs : List Int) : xs ++ codesG k (us.drop i.toNat) =
    (xs ++ List.replicate ((us.getD i.toNat 0).fdiv (2 ^ min k.toNat 64)).toNat 1 ++ [0] ++ bitsN (us.getD i.toNat 0) k.toNat) ++ codesG k (us.drop (i + 1).toNat) := by
  rw [drop_step 0 (by omega), show (i + 1).toNat = i.toNat + 1 by omega]
  simp only [codesG, List.append_assoc]
theorem bitsN_length (n : Int) : ∀ c, (bitsN n c).length = c
  | 0 => rfl
  | c + 1 => by simp [bitsN, bitsN_length n c]
theorem lok28c : LoopOK E28 (lb Tryz.f22 2) [7, 11, 47, 48] [11] codesL := by
  refine loopOK ok28L (noInner (by kernel_rfl)) (fun vs _ => match vs with
    | [_, _, _, .one (.int .i64 i)] => (8 - i).toNat
    | _ => 0) fun vs σ k h => ?_
  unfold codesL at h
  split at h
  · rename_i c u0 u1 u2 u3 u4 u5 u6 u7 i xs
    rw [ex28c c u0 u1 u2 u3 u4 u5 u6 u7 i xs _]
    obtain ⟨⟨h1, h2, h3, h4, h5, h6⟩, h⟩ := h
    by_cases hi : i < 8
    · have hw : IntKind.i64.wrap (i + 1) = i + 1 := wrap_id (by omega) (by omega)
      have hmu : (8 - (i + 1)).toNat < (8 - i).toNat := by omega
      have hc : ¬ c < 0 := by omega
      rw [codes_step h3 (by simpa using hi)] at h
      have hr := getD_range (B := 262136) (by decide) (fun u hu => by
        have := List.all_eq_true.1 h6 u hu
        unfold okU at this
        simpa using this) i.toNat
      generalize [u0, u1, u2, u3, u4, u5, u6, u7].getD i.toNat 0 = u at *
      have hf := fdiv_range (min c.toNat 64) hr
      generalize u.fdiv (2 ^ min c.toNat 64) = s at *
      have hs : (List.replicate s.toNat (1 : Int)).length = s.toNat := by simp
      generalize List.replicate s.toNat (1 : Int) = rep at *
      have hb1 : (xs ++ rep).length * 8 ≤ 140737488355328 ∧ (xs ++ rep).length ≤ 140737488355328 := by rw [List.length_append]; omega
      have hb2 : (xs ++ rep ++ [0]).length * 8 ≤ 140737488355328 ∧ (xs ++ rep ++ [0]).length ≤ 140737488355328 := by rw [List.length_append, List.length_append]; simp; omega
      have hb3 : (xs ++ rep ++ [0]).length ≤ 1000000000 := by rw [List.length_append, List.length_append]; simp; omega
      simp only [hi, hc, hw, h3, hb1, hb2, decide_true, decide_false, Bool.not_false, Bool.and_self, cond_true, and_self]
      refine ⟨⟨by omega, by omega⟩, ⟨h1, by omega, hb3⟩, ?_⟩
      by_cases hcp : c > 0
      · simp only [hcp, decide_true, cond_true]
        refine ⟨⟨⟨h1, h2, by omega, by omega, ?_, h6⟩, h⟩, hmu⟩
        simp only [List.length_append, List.length_cons, List.length_nil, bitsN_length]
        omega
      · have e : c = 0 := by omega
        subst e
        simp only [hcp, decide_false, cond_false]
        have e2 : bitsN u (0 : Int).toNat = [] := rfl
        rw [e2, List.append_nil] at h
        refine ⟨⟨⟨h1, h2, by omega, by omega, ?_, h6⟩, h⟩, hmu⟩
        simp only [List.length_append, List.length_cons, List.length_nil]
        omega
    · have e : i = 8 := by omega
      subst e
      simp only [hi, decide_false, cond_false]
      have e2 : xs ++ codesG c ([u0, u1, u2, u3, u4, u5, u6, u7].drop (8 : Int).toNat) = xs := by
        show xs ++ [] = xs
        rw [List.append_nil]
      rw [e2] at h
      exact h
  · exact h.elim
theorem bestK_range {xs : List Int} {p : Int} : ∀ (n : Nat) (k : Int) (s : Tri), 0 ≤ k → k + n ≤ 18 → (0 ≤ s.2.2 ∧ s.2.2 ≤ 17) → (0 ≤ (bestK xs p n k s).2.2 ∧ (bestK xs p n k s).2.2 ≤ 17)
  | 0, _, _, _, _, h => h
  | n + 1, k, s, h0, h1, h => by
    refine bestK_range n (k + 1) _ (by omega) (by omega) ?_
    unfold bst
    cases s.1 == 0 with
    | true => exact ⟨h0, by show k ≤ 17; omega⟩
    | false =>
      cases decide (lenG p k xs < s.1) with
      | true => exact ⟨h0, by show k ≤ 17; omega⟩
      | false => exact h
theorem bestP_range {xs : List Int} : ∀ (n : Nat) (p : Int) (s : Tri), (0 ≤ s.2.2 ∧ s.2.2 ≤ 17) → (0 ≤ (bestP xs n p s).2.2 ∧ (bestP xs n p s).2.2 ≤ 17)
  | 0, _, _, h => h
  | n + 1, p, s, h => bestP_range n (p + 1) _ (bestK_range 18 0 s (by decide) (by decide) h)
theorem ok28 : SpecOK Tryz.prog 22 packedS := by
  refine specOK (n := 66) (m := 0) (lps := [(6, .spec [1, 5, 6, 7, 19] [1, 6, 7] outerL), (9, .spec [1, 5, 6, 7, 8, 19, 22] [1, 5, 6, 7, 19] innerL), (20, .spec [7, 11, 47, 48] [11] codesL)]) ok28L Tryz.func22 (by kernel_rfl) (by kernel_rfl) (theLoops (n := 3) (by kernel_rfl) fun i hi => ?_) fun args σ K h => ?_
  · match i, hi with
    | 0, _ => exact loopHyp_of (key := 6) (by kernel_rfl) rfl lok28a
    | 1, _ => exact loopHyp_of (key := 9) (by kernel_rfl) rfl lok28b
    | 2, _ => exact loopHyp_of (key := 20) (by kernel_rfl) rfl lok28c
  · unfold packedS at h
    split at h
    · rename_i x0 x1 x2 x3 x4 x5 x6 x7
      rw [ex28 x0 x1 x2 x3 x4 x5 x6 x7 K]
      cases hs : [x0, x1, x2, x3, x4, x5, x6, x7].all sampleG with
      | false => rw [hs] at h; exact h
      | true =>
        rw [hs] at h
        have hbr : 0 ≤ (bestP [x0, x1, x2, x3, x4, x5, x6, x7] 3 0 (0, 0, 0)).2.2 ∧ (bestP [x0, x1, x2, x3, x4, x5, x6, x7] 3 0 (0, 0, 0)).2.2 ≤ 17 := bestP_range 3 0 _ (by decide)
        have hall : (codG (bestP [x0, x1, x2, x3, x4, x5, x6, x7] 3 0 (0, 0, 0)).2.1 [x0, x1, x2, x3, x4, x5, x6, x7]).all okU = true := List.all_eq_true.2 fun u hu => by
          have := cod_range hs u hu
          unfold okU
          simpa using this
        obtain ⟨u0, u1, u2, u3, u4, u5, u6, u7, e⟩ := cod_eight (bestP [x0, x1, x2, x3, x4, x5, x6, x7] 3 0 (0, 0, 0)).2.1 x0 x1 x2 x3 x4 x5 x6 x7
        unfold packG bestG at h
        rw [e] at h hall
        have h' : K (.tup [.one (.own 0 1), .one (.int .i64 0)]) [.row 3 (.ints .i64 (bitsN (bestP [x0, x1, x2, x3, x4, x5, x6, x7] 3 0 (0, 0, 0)).2.1 2 ++ bitsN (bestP [x0, x1, x2, x3, x4, x5, x6, x7] 3 0 (0, 0, 0)).2.2 5 ++ codesG (bestP [x0, x1, x2, x3, x4, x5, x6, x7] 3 0 (0, 0, 0)).2.2 [u0, u1, u2, u3, u4, u5, u6, u7]))] := h
        rw [e]
        refine ⟨⟨rfl, by decide, by decide⟩, ⟨by decide, by decide⟩, ⟨by decide, by decide, by rw [bitsN_length]; decide⟩, ⟨hbr.1, hbr.2, by decide, by decide, by rw [List.length_append, bitsN_length, bitsN_length]; decide, hall⟩, h'⟩
    · exact h.elim
end Go.Ev

/-
  Chapter 1, contracts: the examples; the law of carriers.
-/
namespace Go.Ev
open Go Go.Proofs
set_option maxRecDepth 20000
def trueS : Spec := fun args σ K => match args, σ with
  | [], [] => K (.one (.bool true)) []
  | _, _ => False
noncomputable abbrev E15 : Env := envOf Tryz.prog [(32, turnS), (22, packedS), (33, inverseOfS), (34, sumOfS), (35, wholeS), (29, intsS)] [] 61 0
end Go.Ev

namespace Go.Ev
open Go Go.Proofs
set_option maxRecDepth 100000
theorem ex15 (K : AV → List Blk → Prop) : evFn E15 Tryz.f6 [] [] K = ( 2 ≤ 1000000 ∧ (100 :Int) ≠ (0 :Int) ∧ 24 ≤ 1000000000 ∧ K (.one (.bool true)) []) := by kernel_rfl
end Go.Ev

/-
  Chapter 1: the examples hold; the law of carriers.
-/
namespace Go.Ev
open Go Go.Proofs
attribute [local irreducible] evFn evBody
set_option maxRecDepth 20000
theorem ok15 : SpecOK Tryz.prog 6 trueS := by
  refine specOK (n := 61) (m := 0) (lps := []) (.cons ok16 (.cons ok28 (.cons ok39 (.cons ok20 (.cons ok68 (.cons ok30 .nil)))))) Tryz.func6 (by kernel_rfl) (by kernel_rfl) (noLoops (by kernel_rfl)) fun args σ K h => ?_
  unfold trueS at h
  split at h
  · rw [ex15 K]
    exact ⟨by decide, by decide, by decide, h⟩
  · exact h.elim
end Go.Ev
