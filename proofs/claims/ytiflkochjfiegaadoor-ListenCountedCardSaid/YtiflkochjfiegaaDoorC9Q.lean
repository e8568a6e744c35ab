/-
  Chapter 9, contracts: peaks, the reference, headroom.
-/
import Derived.Test.YtiflkochjfiegaaDoorC9V
import Derived.Test.YtiflkochjfiegaaDoorC9M
import Derived.Test.YtiflkochjfiegaaDoorC9P
import Derived.KernelRfl
set_option linter.unusedVariables false
set_option linter.unusedSimpArgs false
set_option linter.unusedSectionVars false
namespace Go.Ev
open Go Go.Proofs
set_option maxRecDepth 20000

/-! ### In whole numbers -/
def okS (x : List Int) : Prop := x.length ≤ 200 ∧ x.all sampleG = true
def peak2S : Spec := fun args σ K => match args, σ with
  | [.one (.data (.ints .i64 x))], [] => okS x ∧ K (.one (.int .i64 (pkI x))) []
  | _, _ => False
def tq (x : List Int) : Int := bif sigE x == 0 then wi ((pkI x).tdiv (gcdG (pkI x) 128)) else 0
def tr (x : List Int) : Int := bif sigE x == 0 then wi ((128 : Int).tdiv (gcdG (pkI x) 128)) else 0
def true3S : Spec := fun args σ K => match args, σ with
  | [.one (.data (.ints .i64 x))], [] => x.length ≤ 1000000000 ∧ K (.tup [.agg [.int .i64 (tq x), .int .i64 (tr x)], .one (.int .i64 (sigE x))]) []
  | _, _ => False
def hdE (x : List Int) : Int := bif sigE x == 0 then (bif pkI x == 0 then 11 else 0) else sigE x
def hdP (x : List Int) : Int := bif hdE x == 0 then wi ((4194176 : Int).tdiv (gcdG 4194176 (pkI x))) else 0
def hdQ (x : List Int) : Int := bif hdE x == 0 then wi ((pkI x).tdiv (gcdG 4194176 (pkI x))) else 0
def headS : Spec := fun args σ K => match args, σ with
  | [.one (.data (.ints .i64 x))], [] => x.length ≤ 1000000000 ∧ K (.tup [.agg [.int .i64 (hdP x), .int .i64 (hdQ x)], .one (.int .i64 (hdE x))]) []
  | _, _ => False

/-! ### The reference -/
def rsampS : Spec := fun args σ K => match args, σ with
  | [.one (.data (.ints .i64 x)), .one (.int .i64 i)], [] => x.length ≤ 1000000000 ∧ K (.one (.int .i64 (atI x i))) []
  | _, _ => False
def kI (x : List Int) (i k : Int) : Int := if k = 0 then k1I x i else if k = 1 then k2I x i else k3I x i
def kL (x : List Int) (i k : Int) : List Int := if k = 0 then [absI (k1I x i), absI (k2I x i), absI (k3I x i)] else if k = 1 then [absI (k2I x i), absI (k3I x i)] else if k = 2 then [absI (k3I x i)] else []
def wts : List (List Int) := [[-7, 105, 35, -5], [-8, 72, 72, -8], [-5, 35, 105, -7]]
def rpkI : LSpec := fun vs σ k => match vs, σ with
  | [.one (.data (.ints .i64 x)), .one (.own 0 4), .one (.int .i64 m), .one (.int .i64 i), .one (.int .i64 j)], [.row 191 (.mat .i64 4 [[-7, 105, 35, -5], [-8, 72, 72, -8], [-5, 35, 105, -7]])] =>
    (okS x ∧ 0 ≤ i ∧ i < x.length ∧ 0 ≤ j ∧ j ≤ 3 ∧ 0 ≤ m ∧ m ≤ 13762140) ∧
    k (.exit 2) [.one (.data (.ints .i64 x)), .one (.own 0 4), .one (.int .i64 (bif decide (i + 1 < x.length) then maxL m (kL x i j) else m)), .one (.int .i64 i)] [.row 191 (.mat .i64 4 [[-7, 105, 35, -5], [-8, 72, 72, -8], [-5, 35, 105, -7]])]
  | _, _ => False
def rpkO : LSpec := fun vs σ k => match vs, σ with
  | [.one (.data (.ints .i64 x)), .one (.own 0 4), .one (.int .i64 m), .one (.int .i64 i)], [.row 191 (.mat .i64 4 [[-7, 105, 35, -5], [-8, 72, 72, -8], [-5, 35, 105, -7]])] =>
    (okS x ∧ 0 ≤ i ∧ i ≤ x.length ∧ 0 ≤ m ∧ m ≤ 13762140) ∧ k (.exit 0) [.one (.int .i64 (maxL m (fineI x (x.length - i).toNat i)))] []
  | _, _ => False
def rtq (x : List Int) : Int := wi ((pkI x).tdiv (divG (pkI x) 128))
def rtr (x : List Int) : Int := wi ((128 : Int).tdiv (divG (pkI x) 128))
def rtrueS : Spec := fun args σ K => match args, σ with
  | [.one (.data (.ints .i64 x))], [] => okS x ∧ K (.agg [.int .i64 (rtq x), .int .i64 (rtr x)]) []
  | _, _ => False
def rhdP (x : List Int) : Int := bif pkI x == 0 then 0 else wi ((4194176 : Int).tdiv (divG 4194176 (pkI x)))
def rhdQ (x : List Int) : Int := bif pkI x == 0 then 0 else wi ((pkI x).tdiv (divG 4194176 (pkI x)))
def rheadS : Spec := fun args σ K => match args, σ with
  | [.one (.data (.ints .i64 x))], [] => okS x ∧ K (.tup [.agg [.int .i64 (rhdP x), .int .i64 (rhdQ x)], .one (.bool (!(pkI x == 0)))]) []
  | _, _ => False
noncomputable abbrev Ehdr : Env := envOf Tryd.prog [(99, sigS), (109, peak2S), (102, lowS)] [] 19 0
noncomputable abbrev Ersm : Env := envOf Tryd.prog [] [] 17 0
noncomputable abbrev Erpk : Env := envOf Tryd.prog [(38, sizeS), (148, rsampS)] [(4, .spec [0, 3, 4, 5] [4] rpkO), (8, .spec [0, 3, 4, 5, 6] [0, 3, 4, 5] rpkI)] 77 0
noncomputable abbrev Ertp : Env := envOf Tryd.prog [(110, peak2S), (48, lowestS)] [] 6 0
noncomputable abbrev Erhd : Env := envOf Tryd.prog [(110, peak2S), (48, lowestS)] [] 12 0
end Go.Ev

namespace Go.Ev
open Go Go.Proofs
set_option maxRecDepth 100000
theorem exhdr (x : List Int) (K : AV → List Blk → Prop) : evFn Ehdr Tryd.f35 [.one (.data (.ints .i64 x))] [] K = (
 x.length ≤ (1000000000 : Nat) ∧
 bif sigE x != (0 : Int) then
 K
 (AV.tup
 [TV.agg [SV.int IntKind.i64 (0 : Int), SV.int IntKind.i64 (0 : Int)], TV.one (SV.int IntKind.i64 (sigE x))])
 []
 else
 (x.length ≤ (200 : Nat) ∧ x.all sampleG = true) ∧
 bif pkI x == (0 : Int) then
 K
 (AV.tup
 [TV.agg [SV.int IntKind.i64 (0 : Int), SV.int IntKind.i64 (0 : Int)],
 TV.one (SV.int IntKind.i64 (11 : Int))])
 []
 else
 gcdG (4194176 : Int) (pkI x) ≠ (0 : Int) ∧
 K
 (AV.tup
 [TV.agg
 [SV.int IntKind.i64 (wi (Int.tdiv (4194176 : Int) (gcdG (4194176 : Int) (pkI x)))),
 SV.int IntKind.i64 (wi ((pkI x).tdiv (gcdG (4194176 : Int) (pkI x))))],
 TV.one (SV.int IntKind.i64 (0 : Int))])
 []) := by kernel_rfl
theorem exrsm (x : List Int) (i : Int) (K : AV → List Blk → Prop) : evFn Ersm Tryd.f148 [.one (.data (.ints .i64 x)), .one (.int .i64 i)] [] K = (
 bif decide (i < (0 : Int)) then K (AV.one (SV.int IntKind.i64 (0 : Int))) []
 else
 bif decide (i ≥ (↑x.length : Int)) then K (AV.one (SV.int IntKind.i64 (0 : Int))) []
 else
 bif decide ((0 : Int) ≤ i) && decide (i < (↑x.length : Int)) then
 bif decide (i.toNat + (0 : Nat) < x.length) then
 K (AV.one (SV.int IntKind.i64 (x.getD (i.toNat + (0 : Nat)) (0 : Int)))) []
 else False
 else False) := by kernel_rfl
theorem exrpk (x : List Int) (K : AV → List Blk → Prop) : evFn Erpk Tryd.f110 [.one (.data (.ints .i64 x))] [] K = (
 ((x.length ≤ (200 : Nat) ∧ x.all sampleG = true) ∧
 (0 : Int) ≤ (0 : Int) ∧ (0 : Int) ≤ (↑x.length : Int) ∧ (0 : Int) ≤ (0 : Int) ∧ (0 : Int) ≤ (13762140 : Int)) ∧
 K (AV.one (SV.int IntKind.i64 (maxL (0 : Int) (fineI x ((↑x.length : Int) - (0 : Int)).toNat (0 : Int))))) []) := by kernel_rfl
theorem exrpkl0a (x : List Int) (m i : Int) (K : Ex → List AV → List Blk → Prop) : evBody Erpk (lb Tryd.f110 0) [0, 3, 4, 5] [4] [.one (.data (.ints .i64 x)), .one (.own 0 4), .one (.int .i64 m), .one (.int .i64 i)] [.row 191 (.mat .i64 4 [[-7, 105, 35, -5], [-8, 72, 72, -8], [-5, 35, 105, -7]])] K = (
 bif decide (i < (↑x.length : Int)) then
 bif decide ((0 : Int) ≤ i) && decide (i < (↑x.length : Int)) then
 bif decide (i.toNat + (0 : Nat) < x.length) then
 ((x.length ≤ (200 : Nat) ∧ x.all sampleG = true) ∧
 (0 : Int) ≤ i ∧
 i < (↑x.length : Int) ∧
 (0 : Int) ≤ (0 : Int) ∧
 (0 : Int) ≤ (3 : Int) ∧
 ((0 : Int) ≤
 if IntKind.i64.wrap ((128 : Int) * sizeG (x.getD (i.toNat + (0 : Nat)) (0 : Int))) > m then
 IntKind.i64.wrap ((128 : Int) * sizeG (x.getD (i.toNat + (0 : Nat)) (0 : Int)))
 else m) ∧
 (if IntKind.i64.wrap ((128 : Int) * sizeG (x.getD (i.toNat + (0 : Nat)) (0 : Int))) > m then
 IntKind.i64.wrap ((128 : Int) * sizeG (x.getD (i.toNat + (0 : Nat)) (0 : Int)))
 else m) ≤
 (13762140 : Int)) ∧
 K Ex.normal
 [AV.one (SV.data (Row.ints IntKind.i64 x)), AV.one (SV.own (0 : Nat) (4 : Nat)),
 AV.one
 (SV.int IntKind.i64
 (bif decide (i + (1 : Int) < (↑x.length : Int)) then
 maxL
 (if IntKind.i64.wrap ((128 : Int) * sizeG (x.getD (i.toNat + (0 : Nat)) (0 : Int))) > m then
 IntKind.i64.wrap ((128 : Int) * sizeG (x.getD (i.toNat + (0 : Nat)) (0 : Int)))
 else m)
 (kL x i (0 : Int))
 else
 if IntKind.i64.wrap ((128 : Int) * sizeG (x.getD (i.toNat + (0 : Nat)) (0 : Int))) > m then
 IntKind.i64.wrap ((128 : Int) * sizeG (x.getD (i.toNat + (0 : Nat)) (0 : Int)))
 else m)),
 AV.one (SV.int IntKind.i64 (IntKind.i64.wrap (i + (1 : Int))))]
 [Blk.row (191 : TypeId)
 (Row.mat IntKind.i64 (4 : Nat)
 [[(-7 : Int), (105 : Int), (35 : Int), (-5 : Int)], [(-8 : Int), (72 : Int), (72 : Int), (-8 : Int)],
 [(-5 : Int), (35 : Int), (105 : Int), (-7 : Int)]])]
 else False
 else False
 else K (Ex.exit (0 : Nat)) [AV.one (SV.int IntKind.i64 m)] []) := by kernel_rfl
theorem exrpkl1a (x : List Int) (m i j : Int) (K : Ex → List AV → List Blk → Prop) : evBody Erpk (lb Tryd.f110 1) [0, 3, 4, 5, 6] [0, 3, 4, 5] [.one (.data (.ints .i64 x)), .one (.own 0 4), .one (.int .i64 m), .one (.int .i64 i), .one (.int .i64 j)] [.row 191 (.mat .i64 4 [[-7, 105, 35, -5], [-8, 72, 72, -8], [-5, 35, 105, -7]])] K = (
 bif decide (j < (3 : Int)) then
 bif decide (IntKind.i64.wrap (i + (1 : Int)) < (↑x.length : Int)) then
 bif decide ((0 : Int) ≤ j) && decide (j < (3 : Int)) then
 bif decide ((3 : Nat) < (4 : Nat)) && decide (j.toNat < (3 : Nat)) then
 bif decide ((0 : Int) ≤ i) && decide (i < (↑x.length : Int)) then
 bif decide (i.toNat + (0 : Nat) < x.length) then
 bif
 decide ((0 : Int) ≤ IntKind.i64.wrap (i + (1 : Int))) &&
 decide (IntKind.i64.wrap (i + (1 : Int)) < (↑x.length : Int)) then
 bif decide ((IntKind.i64.wrap (i + (1 : Int))).toNat + (0 : Nat) < x.length) then
 x.length ≤ (1000000000 : Nat) ∧
 x.length ≤ (1000000000 : Nat) ∧
 K Ex.normal
 [AV.one (SV.data (Row.ints IntKind.i64 x)), AV.one (SV.own (0 : Nat) (4 : Nat)),
 AV.one
 (SV.int IntKind.i64
 (if
 sizeG
 (IntKind.i64.wrap
 (IntKind.i64.wrap
 (IntKind.i64.wrap
 (IntKind.i64.wrap
 (([[(-7 : Int), (105 : Int), (35 : Int), (-5 : Int)],
 [(-8 : Int), (72 : Int), (72 : Int), (-8 : Int)],
 [(-5 : Int), (35 : Int), (105 : Int), (-7 : Int)]].getD
 j.toNat []).getD
 (0 : Nat) (0 : Int) *
 atI x (IntKind.i64.wrap (i - (1 : Int)))) +
 IntKind.i64.wrap
 (([[(-7 : Int), (105 : Int), (35 : Int), (-5 : Int)],
 [(-8 : Int), (72 : Int), (72 : Int), (-8 : Int)],
 [(-5 : Int), (35 : Int), (105 : Int), (-7 : Int)]].getD
 j.toNat []).getD
 (1 : Nat) (0 : Int) *
 x.getD (i.toNat + (0 : Nat)) (0 : Int))) +
 IntKind.i64.wrap
 (([[(-7 : Int), (105 : Int), (35 : Int), (-5 : Int)],
 [(-8 : Int), (72 : Int), (72 : Int), (-8 : Int)],
 [(-5 : Int), (35 : Int), (105 : Int), (-7 : Int)]].getD
 j.toNat []).getD
 (2 : Nat) (0 : Int) *
 x.getD ((IntKind.i64.wrap (i + (1 : Int))).toNat + (0 : Nat))
 (0 : Int))) +
 IntKind.i64.wrap
 (([[(-7 : Int), (105 : Int), (35 : Int), (-5 : Int)],
 [(-8 : Int), (72 : Int), (72 : Int), (-8 : Int)],
 [(-5 : Int), (35 : Int), (105 : Int), (-7 : Int)]].getD
 j.toNat []).getD
 (3 : Nat) (0 : Int) *
 atI x (IntKind.i64.wrap (i + (2 : Int)))))) >
 m then
 sizeG
 (IntKind.i64.wrap
 (IntKind.i64.wrap
 (IntKind.i64.wrap
 (IntKind.i64.wrap
 (([[(-7 : Int), (105 : Int), (35 : Int), (-5 : Int)],
 [(-8 : Int), (72 : Int), (72 : Int), (-8 : Int)],
 [(-5 : Int), (35 : Int), (105 : Int), (-7 : Int)]].getD
 j.toNat []).getD
 (0 : Nat) (0 : Int) *
 atI x (IntKind.i64.wrap (i - (1 : Int)))) +
 IntKind.i64.wrap
 (([[(-7 : Int), (105 : Int), (35 : Int), (-5 : Int)],
 [(-8 : Int), (72 : Int), (72 : Int), (-8 : Int)],
 [(-5 : Int), (35 : Int), (105 : Int), (-7 : Int)]].getD
 j.toNat []).getD
 (1 : Nat) (0 : Int) *
 x.getD (i.toNat + (0 : Nat)) (0 : Int))) +
 IntKind.i64.wrap
 (([[(-7 : Int), (105 : Int), (35 : Int), (-5 : Int)],
 [(-8 : Int), (72 : Int), (72 : Int), (-8 : Int)],
 [(-5 : Int), (35 : Int), (105 : Int), (-7 : Int)]].getD
 j.toNat []).getD
 (2 : Nat) (0 : Int) *
 x.getD ((IntKind.i64.wrap (i + (1 : Int))).toNat + (0 : Nat)) (0 : Int))) +
 IntKind.i64.wrap
 (([[(-7 : Int), (105 : Int), (35 : Int), (-5 : Int)],
 [(-8 : Int), (72 : Int), (72 : Int), (-8 : Int)],
 [(-5 : Int), (35 : Int), (105 : Int), (-7 : Int)]].getD
 j.toNat []).getD
 (3 : Nat) (0 : Int) *
 atI x (IntKind.i64.wrap (i + (2 : Int))))))
 else m)),
 AV.one (SV.int IntKind.i64 i), AV.one (SV.int IntKind.i64 (IntKind.i64.wrap (j + (1 : Int))))]
 [Blk.row (191 : TypeId)
 (Row.mat IntKind.i64 (4 : Nat)
 [[(-7 : Int), (105 : Int), (35 : Int), (-5 : Int)],
 [(-8 : Int), (72 : Int), (72 : Int), (-8 : Int)],
 [(-5 : Int), (35 : Int), (105 : Int), (-7 : Int)]])]
 else False
 else False
 else False
 else False
 else False
 else False
 else
 K (Ex.exit (2 : Nat))
 [AV.one (SV.data (Row.ints IntKind.i64 x)), AV.one (SV.own (0 : Nat) (4 : Nat)), AV.one (SV.int IntKind.i64 m),
 AV.one (SV.int IntKind.i64 i)]
 [Blk.row (191 : TypeId)
 (Row.mat IntKind.i64 (4 : Nat)
 [[(-7 : Int), (105 : Int), (35 : Int), (-5 : Int)], [(-8 : Int), (72 : Int), (72 : Int), (-8 : Int)],
 [(-5 : Int), (35 : Int), (105 : Int), (-7 : Int)]])]
 else
 K (Ex.exit (2 : Nat))
 [AV.one (SV.data (Row.ints IntKind.i64 x)), AV.one (SV.own (0 : Nat) (4 : Nat)), AV.one (SV.int IntKind.i64 m),
 AV.one (SV.int IntKind.i64 i)]
 [Blk.row (191 : TypeId)
 (Row.mat IntKind.i64 (4 : Nat)
 [[(-7 : Int), (105 : Int), (35 : Int), (-5 : Int)], [(-8 : Int), (72 : Int), (72 : Int), (-8 : Int)],
 [(-5 : Int), (35 : Int), (105 : Int), (-7 : Int)]])]) := by kernel_rfl
theorem exrtp (x : List Int) (K : AV → List Blk → Prop) : evFn Ertp Tryd.f36 [.one (.data (.ints .i64 x))] [] K = (
 (x.length ≤ (200 : Nat) ∧ x.all sampleG = true) ∧
 divG (pkI x) (128 : Int) ≠ (0 : Int) ∧
 K
 (AV.agg
 [SV.int IntKind.i64 (wi ((pkI x).tdiv (divG (pkI x) (128 : Int)))),
 SV.int IntKind.i64 (wi (Int.tdiv (128 : Int) (divG (pkI x) (128 : Int))))])
 []) := by kernel_rfl
theorem exrhd (x : List Int) (K : AV → List Blk → Prop) : evFn Erhd Tryd.f37 [.one (.data (.ints .i64 x))] [] K = (
 (x.length ≤ (200 : Nat) ∧ x.all sampleG = true) ∧
 bif pkI x == (0 : Int) then
 K (AV.tup [TV.agg [SV.int IntKind.i64 (0 : Int), SV.int IntKind.i64 (0 : Int)], TV.one (SV.bool false)]) []
 else
 divG (4194176 : Int) (pkI x) ≠ (0 : Int) ∧
 K
 (AV.tup
 [TV.agg
 [SV.int IntKind.i64 (wi (Int.tdiv (4194176 : Int) (divG (4194176 : Int) (pkI x)))),
 SV.int IntKind.i64 (wi ((pkI x).tdiv (divG (4194176 : Int) (pkI x))))],
 TV.one (SV.bool true)])
 []) := by kernel_rfl
end Go.Ev

namespace Go.Ev
open Go Go.Proofs
attribute [local irreducible] evFn evBody evRound
set_option maxRecDepth 20000

theorem okpk2 : SpecOK Tryd.prog 109 peak2S := by
  refine okpk.weak fun args σ K h => ?_
  unfold peak2S at h
  split at h
  · obtain ⟨⟨h1, h2⟩, h⟩ := h
    obtain ⟨e1, e2, _⟩ := peak_whole h2
    exact ⟨⟨h1, e1⟩, by rw [e2]; exact h⟩
  · exact h.elim
theorem oktrue3 : SpecOK Tryd.prog 34 true3S := by
  refine oktrue2.weak fun args σ K h => ?_
  unfold true3S at h
  split at h
  · rename_i x
    obtain ⟨h1, h⟩ := h
    refine ⟨⟨h1, fun h0 => (peak_whole (sigE_zero h0).2).1⟩, ?_⟩
    unfold tq tr at h
    unfold tpP tpQ
    by_cases h0 : sigE x = 0
    · rw [(peak_whole (sigE_zero h0).2).2.1]; exact h
    · have e1 : (sigE x == 0) = false := beq_eq_false_iff_ne.2 h0
      rw [e1] at h ⊢
      exact h
  · exact h.elim
theorem gcd_ne (a : Int) {b : Int} (hb : b ≠ 0) : gcdG a b ≠ 0 := by
  intro h
  have := natAbs_gcdG a b
  rw [h] at this
  have h2 := Nat.gcd_pos_of_pos_right a.natAbs (show 0 < b.natAbs by omega)
  simp only [Int.natAbs_zero] at this
  omega
theorem okhdr : SpecOK Tryd.prog 35 headS := by
  refine specOK (n := 19) (m := 0) (lps := []) (.cons oksig (.cons okpk2 (.cons oklow .nil))) Tryd.func35 (by kernel_rfl) (by kernel_rfl) (noLoops (by kernel_rfl)) fun args σ K h => ?_
  unfold headS at h
  split at h
  rotate_right
  · exact h.elim
  rename_i x
  rw [exhdr x K]
  obtain ⟨h1, h⟩ := h
  refine ⟨h1, ?_⟩
  unfold hdP hdQ hdE at h
  by_cases h0 : sigE x = 0
  · have hs := sigE_zero h0
    rw [h0] at h ⊢
    by_cases hp : pkI x = 0
    · rw [hp] at h ⊢
      exact ⟨hs, h⟩
    · have e1 : (pkI x == 0) = false := beq_eq_false_iff_ne.2 hp
      rw [e1] at h ⊢
      exact ⟨hs, gcd_ne _ hp, h⟩
  · have e1 : (sigE x == 0) = false := beq_eq_false_iff_ne.2 h0
    have e2 : (sigE x != 0) = true := by rw [bne, e1]; rfl
    rw [e1] at h
    simp only [cond_false, e1] at h
    rw [e2]
    exact h
theorem okrsm : SpecOK Tryd.prog 148 rsampS := by
  refine specOK (n := 17) (m := 0) (lps := []) .nil Tryd.func148 (by kernel_rfl) (by kernel_rfl) (noLoops (by kernel_rfl)) fun args σ K h => ?_
  unfold rsampS at h
  split at h
  rotate_right
  · exact h.elim
  rename_i x i
  rw [exrsm x i K]
  obtain ⟨h1, h⟩ := h
  unfold atI at h
  by_cases hi : i < 0
  · rw [decide_eq_true hi] at h ⊢; exact h
  · by_cases hj : i ≥ x.length
    · rw [decide_eq_false hi, decide_eq_true hj] at h ⊢; exact h
    · rw [decide_eq_false hi, decide_eq_false hj] at h ⊢
      rw [decide_eq_true (show (0 : Int) ≤ i by omega), decide_eq_true (show i < (x.length : Int) by omega), decide_eq_true (show i.toNat + 0 < x.length by omega)]
      exact h
theorem sizeG_abs {a : Int} (h : -13762140 ≤ a ∧ a ≤ 13762140) : sizeG a = absI a := by
  unfold sizeG absI maxI
  have : wi (0 - a) = -a := by
    have e : wi (0 - a) = 0 - a := wi_id (by omega) (by omega)
    rw [e]; omega
  rw [this]
theorem atI_get {x : List Int} {i : Int} (h0 : 0 ≤ i) (h1 : i < x.length) : x.getD i.toNat 0 = atI x i := by
  unfold atI
  rw [decide_eq_false (show ¬ i < 0 by omega), decide_eq_false (show ¬ i ≥ (x.length : Int) by omega)]
  rfl
theorem ks_wrap {x : List Int} (hx : x.all sampleG = true) (i : Int) {a b c d : Int} (ra : -105 ≤ a ∧ a ≤ 105) (rb : -105 ≤ b ∧ b ≤ 105) (rc : -105 ≤ c ∧ c ≤ 105) (rd : -105 ≤ d ∧ d ≤ 105) :
    IntKind.i64.wrap (IntKind.i64.wrap (IntKind.i64.wrap (IntKind.i64.wrap (a * atI x (i - 1)) + IntKind.i64.wrap (b * atI x i)) + IntKind.i64.wrap (c * atI x (i + 1))) + IntKind.i64.wrap (d * atI x (i + 2))) = ksI x i a b c d ∧
    (-13762140 ≤ ksI x i a b c d ∧ ksI x i a b c d ≤ 13762140) := by
  have p1 := mul_range ra.1 ra.2 (atI_range hx (i - 1))
  have p2 := mul_range rb.1 rb.2 (atI_range hx i)
  have p3 := mul_range rc.1 rc.2 (atI_range hx (i + 1))
  have p4 := mul_range rd.1 rd.2 (atI_range hx (i + 2))
  unfold ksI
  generalize a * atI x (i - 1) = u at *
  generalize b * atI x i = v at *
  generalize c * atI x (i + 1) = y at *
  generalize d * atI x (i + 2) = z at *
  rw [wrap_id (n := u) (by omega) (by omega), wrap_id (n := v) (by omega) (by omega), wrap_id (n := y) (by omega) (by omega), wrap_id (n := z) (by omega) (by omega),
    wrap_id (n := u + v) (by omega) (by omega), wrap_id (n := u + v + y) (by omega) (by omega), wrap_id (n := u + v + y + z) (by omega) (by omega)]
  exact ⟨by omega, by omega, by omega⟩
theorem one_wrap {x : List Int} (hx : x.all sampleG = true) (i : Int) : IntKind.i64.wrap (128 * sizeG (atI x i)) = absI (oneI x i) ∧ 0 ≤ absI (oneI x i) ∧ absI (oneI x i) ≤ 13762140 := by
  have hr := atI_range hx i
  have e : sizeG (atI x i) = absI (atI x i) := sizeG_abs (by omega)
  rw [e]
  unfold oneI absI maxI
  have : IntKind.i64.wrap (128 * (if atI x i < -atI x i then -atI x i else atI x i)) = 128 * (if atI x i < -atI x i then -atI x i else atI x i) := wrap_id (by split <;> omega) (by split <;> omega)
  rw [this]
  refine ⟨?_, ?_, ?_⟩
  · split <;> split <;> omega
  · split <;> omega
  · split <;> omega
theorem maxI_range {a b B : Int} (h1 : 0 ≤ a ∧ a ≤ B) (h2 : 0 ≤ b ∧ b ≤ B) : 0 ≤ maxI a b ∧ maxI a b ≤ B := by unfold maxI; split <;> omega
theorem lokrpk_1 : LoopOK Erpk (lb Tryd.f110 1) [0, 3, 4, 5, 6] [0, 3, 4, 5] rpkI := by
  refine loopOK (.cons ok137 (.cons okrsm .nil)) (noInner (by kernel_rfl)) (fun vs σ => match vs, σ with
    | [.one (.data (.ints .i64 _)), .one (.own 0 4), .one (.int .i64 _), .one (.int .i64 _), .one (.int .i64 j)], [.row 191 (.mat .i64 4 [[-7, 105, 35, -5], [-8, 72, 72, -8], [-5, 35, 105, -7]])] => (3 - j).toNat
    | _, _ => 0) fun vs σ k h => ?_
  unfold rpkI at h
  split at h
  rotate_right
  · exact h.elim
  rename_i x m i j
  rw [exrpkl1a x m i j _]
  obtain ⟨⟨⟨h1, hx⟩, h2, h3, h4, h5, h6, h7⟩, h⟩ := h
  have w1 : IntKind.i64.wrap (i + 1) = i + 1 := wrap_id (by omega) (by omega)
  by_cases hj : j < 3
  rotate_left
  · rw [decide_eq_false hj, cond_false]
    have hj3 : j = 3 := by omega
    subst hj3
    have e : kL x i 3 = [] := rfl
    rw [e] at h
    cases hc : decide (i + 1 < (x.length : Int)) with
    | true => rw [hc] at h; exact h
    | false => rw [hc] at h; exact h
  rw [decide_eq_true hj, cond_true, w1]
  by_cases hl : i + 1 < (x.length : Int)
  rotate_left
  · rw [decide_eq_false hl] at h ⊢
    exact h
  have w2 : IntKind.i64.wrap (i - 1) = i - 1 := wrap_id (by omega) (by omega)
  have w3 : IntKind.i64.wrap (i + 2) = i + 2 := wrap_id (by omega) (by omega)
  have w4 : IntKind.i64.wrap (j + 1) = j + 1 := wrap_id (by omega) (by omega)
  have g1 := atI_get (x := x) h2 h3
  have g2 := atI_get (x := x) (i := i + 1) (by omega) hl
  rw [decide_eq_true hl, cond_true] at h
  rw [decide_eq_true hl, decide_eq_true h4, decide_eq_true (show j.toNat < 3 by omega), decide_eq_true h2, decide_eq_true h3, decide_eq_true (show i.toNat + 0 < x.length by omega), decide_eq_true (show (0 : Int) ≤ i + 1 by omega),
    decide_eq_true (show (i + 1).toNat + 0 < x.length by omega), w2, w3, w4]
  simp only [Nat.add_zero, g1, g2, cond_true, Bool.and_self]
  refine ⟨by omega, by omega, ?_⟩
  have hcase : j = 0 ∨ j = 1 ∨ j = 2 := by omega
  rcases hcase with rfl | rfl | rfl
  · obtain ⟨k1, k2⟩ := ks_wrap hx i (a := -7) (b := 105) (c := 35) (d := -5) (by omega) (by omega) (by omega) (by omega)
    have k3 := sizeG_abs k2
    have k4 := absI_range k2
    have hm := maxI_range (a := m) (B := 13762140) ⟨h6, h7⟩ k4
    have e : kL x i 0 = absI (k1I x i) :: kL x i (0 + 1) := rfl
    rw [e] at h
    have t1 : ([[(-7 : Int), (105 : Int), (35 : Int), (-5 : Int)], [(-8 : Int), (72 : Int), (72 : Int), (-8 : Int)], [(-5 : Int), (35 : Int), (105 : Int), (-7 : Int)]].getD (0 : Int).toNat []).getD (0 : Nat) (0 : Int) = -7 := rfl
    have t2 : ([[(-7 : Int), (105 : Int), (35 : Int), (-5 : Int)], [(-8 : Int), (72 : Int), (72 : Int), (-8 : Int)], [(-5 : Int), (35 : Int), (105 : Int), (-7 : Int)]].getD (0 : Int).toNat []).getD (1 : Nat) (0 : Int) = 105 := rfl
    have t3 : ([[(-7 : Int), (105 : Int), (35 : Int), (-5 : Int)], [(-8 : Int), (72 : Int), (72 : Int), (-8 : Int)], [(-5 : Int), (35 : Int), (105 : Int), (-7 : Int)]].getD (0 : Int).toNat []).getD (2 : Nat) (0 : Int) = 35 := rfl
    have t4 : ([[(-7 : Int), (105 : Int), (35 : Int), (-5 : Int)], [(-8 : Int), (72 : Int), (72 : Int), (-8 : Int)], [(-5 : Int), (35 : Int), (105 : Int), (-7 : Int)]].getD (0 : Int).toNat []).getD (3 : Nat) (0 : Int) = -5 := rfl
    rw [t1, t2, t3, t4, k1, k3]
    refine ⟨⟨⟨⟨h1, hx⟩, h2, h3, by omega, by omega, hm.1, hm.2⟩, ?_⟩, by show (3 - (0 + 1) : Int).toNat < (3 - 0 : Int).toNat; decide⟩
    rw [decide_eq_true hl, cond_true]
    exact h
  · obtain ⟨k1, k2⟩ := ks_wrap hx i (a := -8) (b := 72) (c := 72) (d := -8) (by omega) (by omega) (by omega) (by omega)
    have k3 := sizeG_abs k2
    have k4 := absI_range k2
    have hm := maxI_range (a := m) (B := 13762140) ⟨h6, h7⟩ k4
    have e : kL x i 1 = absI (k2I x i) :: kL x i (1 + 1) := rfl
    rw [e] at h
    have t1 : ([[(-7 : Int), (105 : Int), (35 : Int), (-5 : Int)], [(-8 : Int), (72 : Int), (72 : Int), (-8 : Int)], [(-5 : Int), (35 : Int), (105 : Int), (-7 : Int)]].getD (1 : Int).toNat []).getD (0 : Nat) (0 : Int) = -8 := rfl
    have t2 : ([[(-7 : Int), (105 : Int), (35 : Int), (-5 : Int)], [(-8 : Int), (72 : Int), (72 : Int), (-8 : Int)], [(-5 : Int), (35 : Int), (105 : Int), (-7 : Int)]].getD (1 : Int).toNat []).getD (1 : Nat) (0 : Int) = 72 := rfl
    have t3 : ([[(-7 : Int), (105 : Int), (35 : Int), (-5 : Int)], [(-8 : Int), (72 : Int), (72 : Int), (-8 : Int)], [(-5 : Int), (35 : Int), (105 : Int), (-7 : Int)]].getD (1 : Int).toNat []).getD (2 : Nat) (0 : Int) = 72 := rfl
    have t4 : ([[(-7 : Int), (105 : Int), (35 : Int), (-5 : Int)], [(-8 : Int), (72 : Int), (72 : Int), (-8 : Int)], [(-5 : Int), (35 : Int), (105 : Int), (-7 : Int)]].getD (1 : Int).toNat []).getD (3 : Nat) (0 : Int) = -8 := rfl
    rw [t1, t2, t3, t4, k1, k3]
    refine ⟨⟨⟨⟨h1, hx⟩, h2, h3, by omega, by omega, hm.1, hm.2⟩, ?_⟩, by show (3 - (1 + 1) : Int).toNat < (3 - 1 : Int).toNat; decide⟩
    rw [decide_eq_true hl, cond_true]
    exact h
  · obtain ⟨k1, k2⟩ := ks_wrap hx i (a := -5) (b := 35) (c := 105) (d := -7) (by omega) (by omega) (by omega) (by omega)
    have k3 := sizeG_abs k2
    have k4 := absI_range k2
    have hm := maxI_range (a := m) (B := 13762140) ⟨h6, h7⟩ k4
    have e : kL x i 2 = absI (k3I x i) :: kL x i (2 + 1) := rfl
    rw [e] at h
    have t1 : ([[(-7 : Int), (105 : Int), (35 : Int), (-5 : Int)], [(-8 : Int), (72 : Int), (72 : Int), (-8 : Int)], [(-5 : Int), (35 : Int), (105 : Int), (-7 : Int)]].getD (2 : Int).toNat []).getD (0 : Nat) (0 : Int) = -5 := rfl
    have t2 : ([[(-7 : Int), (105 : Int), (35 : Int), (-5 : Int)], [(-8 : Int), (72 : Int), (72 : Int), (-8 : Int)], [(-5 : Int), (35 : Int), (105 : Int), (-7 : Int)]].getD (2 : Int).toNat []).getD (1 : Nat) (0 : Int) = 35 := rfl
    have t3 : ([[(-7 : Int), (105 : Int), (35 : Int), (-5 : Int)], [(-8 : Int), (72 : Int), (72 : Int), (-8 : Int)], [(-5 : Int), (35 : Int), (105 : Int), (-7 : Int)]].getD (2 : Int).toNat []).getD (2 : Nat) (0 : Int) = 105 := rfl
    have t4 : ([[(-7 : Int), (105 : Int), (35 : Int), (-5 : Int)], [(-8 : Int), (72 : Int), (72 : Int), (-8 : Int)], [(-5 : Int), (35 : Int), (105 : Int), (-7 : Int)]].getD (2 : Int).toNat []).getD (3 : Nat) (0 : Int) = -7 := rfl
    rw [t1, t2, t3, t4, k1, k3]
    refine ⟨⟨⟨⟨h1, hx⟩, h2, h3, by omega, by omega, hm.1, hm.2⟩, ?_⟩, by show (3 - (2 + 1) : Int).toNat < (3 - 2 : Int).toNat; decide⟩
    rw [decide_eq_true hl, cond_true]
    exact h
theorem lokrpk_0 : LoopOK Erpk (lb Tryd.f110 0) [0, 3, 4, 5] [4] rpkO := by
  refine loopOK (.cons ok137 (.cons okrsm .nil)) (fun b' hb => by
    have hl : loopsOf (lb Tryd.f110 0) = [lb Tryd.f110 1] := by kernel_rfl
    rw [hl] at hb
    simp only [List.mem_cons, List.not_mem_nil, or_false] at hb
    subst hb
    exact loopHyp_of (key := 8) (by kernel_rfl) rfl lokrpk_1) (fun vs σ => match vs, σ with
    | [.one (.data (.ints .i64 x)), .one (.own 0 4), .one (.int .i64 _), .one (.int .i64 i)], [.row 191 (.mat .i64 4 [[-7, 105, 35, -5], [-8, 72, 72, -8], [-5, 35, 105, -7]])] => (x.length - i).toNat
    | _, _ => 0) fun vs σ k h => ?_
  unfold rpkO at h
  split at h
  rotate_right
  · exact h.elim
  rename_i x m i
  rw [exrpkl0a x m i _]
  obtain ⟨⟨⟨h1, hx⟩, h2, h3, h6, h7⟩, h⟩ := h
  by_cases hi : i < (x.length : Int)
  rotate_left
  · rw [decide_eq_false hi]
    rw [show ((x.length : Int) - i).toNat = 0 by omega] at h
    exact h
  have w1 : IntKind.i64.wrap (i + 1) = i + 1 := wrap_id (by omega) (by omega)
  have g1 := atI_get (x := x) h2 hi
  obtain ⟨o1, o2⟩ := one_wrap hx i
  have hm := maxI_range (a := m) (B := 13762140) ⟨h6, h7⟩ o2
  rw [decide_eq_true hi, decide_eq_true h2, decide_eq_true (show i.toNat + 0 < x.length by omega), w1]
  simp only [Nat.add_zero, g1, o1, cond_true, Bool.and_self]
  have hmax : (if absI (oneI x i) > m then absI (oneI x i) else m) = maxI m (absI (oneI x i)) := rfl
  rw [hmax]
  refine ⟨⟨⟨h1, hx⟩, h2, hi, by decide, by decide, hm.1, hm.2⟩, ?_, by show ((x.length : Int) - (i + 1)).toNat < ((x.length : Int) - i).toNat; omega⟩
  have he : ((x.length : Int) - i).toNat = ((x.length : Int) - (i + 1)).toNat + 1 := by omega
  rw [he] at h
  simp only [fineI] at h
  have ek : kL x i 0 = [absI (k1I x i), absI (k2I x i), absI (k3I x i)] := rfl
  rw [ek]
  obtain ⟨f1, f2, f3⟩ := fine_rep hx 1 i
  by_cases hl : i + 1 < (x.length : Int)
  · rw [beq_eq_false_iff_ne.2 (show i + 1 ≠ (x.length : Int) by omega)] at h
    rw [decide_eq_true hl, cond_true]
    simp only [fineI, beq_eq_false_iff_ne.2 (show i + 1 ≠ (x.length : Int) by omega), cond_false] at f3
    have hr := maxL_range (B := 13762140) (a := maxI m (absI (oneI x i))) (l := [absI (k1I x i), absI (k2I x i), absI (k3I x i)]) (fun v hv => f3 v (by simp only [List.mem_cons, List.not_mem_nil, or_false] at hv ⊢; exact .inr hv)) hm.1 hm.2
    exact ⟨⟨⟨h1, hx⟩, by omega, by omega, hr.1, hr.2⟩, h⟩
  · rw [beq_iff_eq.2 (show i + 1 = (x.length : Int) by omega)] at h
    rw [decide_eq_false hl, cond_false]
    refine ⟨⟨⟨h1, hx⟩, by omega, by omega, hm.1, hm.2⟩, ?_⟩
    rw [show ((x.length : Int) - (i + 1)).toNat = 0 by omega]
    exact h
theorem okrpk : SpecOK Tryd.prog 110 peak2S := by
  refine specOK (n := 77) (m := 0) (lps := [(4, .spec [0, 3, 4, 5] [4] rpkO), (8, .spec [0, 3, 4, 5, 6] [0, 3, 4, 5] rpkI)]) (.cons ok137 (.cons okrsm .nil)) Tryd.func110 (by kernel_rfl) (by kernel_rfl) (theLoops (n := 2) (by kernel_rfl) fun i hi => ?_) fun args σ K h => ?_
  · match i, hi with
    | 0, _ => exact loopHyp_of (key := 4) (by kernel_rfl) rfl lokrpk_0
    | 1, _ => exact loopHyp_of (key := 8) (by kernel_rfl) rfl lokrpk_1
  unfold peak2S at h
  split at h
  rotate_right
  · exact h.elim
  rename_i x
  rw [exrpk x K]
  obtain ⟨⟨h1, hx⟩, h⟩ := h
  refine ⟨⟨⟨h1, hx⟩, by decide, by omega, by decide, by decide⟩, ?_⟩
  rw [show ((x.length : Int) - 0).toNat = x.length by omega]
  exact h
theorem okrtp : SpecOK Tryd.prog 36 rtrueS := by
  refine specOK (n := 6) (m := 0) (lps := []) (.cons okrpk (.cons ok76 .nil)) Tryd.func36 (by kernel_rfl) (by kernel_rfl) (noLoops (by kernel_rfl)) fun args σ K h => ?_
  unfold rtrueS at h
  split at h
  rotate_right
  · exact h.elim
  rename_i x
  rw [exrtp x K]
  obtain ⟨h1, h⟩ := h
  obtain ⟨_, _, p1, p2⟩ := peak_whole h1.2
  obtain ⟨d1, d2, _⟩ := divG_gcdG (a := pkI x) (b := 128) p1 (by decide) (by decide)
  exact ⟨h1, by omega, h⟩
theorem okrhd : SpecOK Tryd.prog 37 rheadS := by
  refine specOK (n := 12) (m := 0) (lps := []) (.cons okrpk (.cons ok76 .nil)) Tryd.func37 (by kernel_rfl) (by kernel_rfl) (noLoops (by kernel_rfl)) fun args σ K h => ?_
  unfold rheadS at h
  split at h
  rotate_right
  · exact h.elim
  rename_i x
  rw [exrhd x K]
  obtain ⟨h1, h⟩ := h
  obtain ⟨_, _, p1, p2⟩ := peak_whole h1.2
  refine ⟨h1, ?_⟩
  unfold rhdP rhdQ at h
  by_cases hp : pkI x = 0
  · rw [hp] at h ⊢; exact h
  · have e1 : (pkI x == 0) = false := beq_eq_false_iff_ne.2 hp
    obtain ⟨d1, d2, _⟩ := divG_gcdG (a := 4194176) (b := pkI x) (by decide) (by omega) (by omega)
    rw [e1] at h ⊢
    exact ⟨by omega, h⟩
end Go.Ev
