/-
  Chapter 9, contracts: rankings, the reference and the errors.
-/
import Derived.Test.YtiflkochjfiegaaDoorC9V
import Derived.Test.YtiflkochjfiegaaDoorC9M
import Derived.Test.YtiflkochjfiegaaDoorC9Z
import Derived.KernelRfl
set_option linter.unusedVariables false
set_option linter.unusedSimpArgs false
set_option linter.unusedSectionVars false
namespace Go.Ev
open Go Go.Proofs
set_option maxRecDepth 20000

/-! ### Copies, shapes -/
def okL (p : List (List D)) : Prop := p.length ≤ 1000000000 ∧ ∀ d ∈ p, d = [.ints (rowI d)] ∧ (rowI d).length ≤ 1000000000000
def clL : LSpec := fun vs σ k => match vs, σ with
  | [.one (.data (.recs [.sints .i64] p)), .one .nil, .one (.int .i64 i)], [] => (okL p ∧ i = 0) ∧ bif p.isEmpty then k (.exit 0) [.one .nil] [] else k (.exit 0) [.one (.own 0 1)] [.row 24 (.recs [.sints .i64] p)]
  | [.one (.data (.recs [.sints .i64] p)), .one (.own 0 1), .one (.int .i64 i)], [.row 24 (.recs [.sints .i64] q)] => (okL p ∧ 0 ≤ i ∧ i ≤ p.length ∧ q = p.take i.toNat) ∧ k (.exit 0) [.one (.own 0 1)] [.row 24 (.recs [.sints .i64] p)]
  | _, _ => False
def clS : Spec := fun args σ K => match args, σ with
  | [.one (.data (.recs [.sints .i64] p))], [] => okL p ∧ bif p.isEmpty then K (.one .nil) [] else K (.one (.own 0 1)) [.row 24 (.recs [.sints .i64] p)]
  | _, _ => False
def clDS : Spec := fun args σ K => match args, σ with
  | [.one (.data (.recs [.sints .i64] p))], [] => okL p ∧ K (.one (.data (.recs [.sints .i64] p))) []
  | _, _ => False
def rowOk8 (d : List D) : Bool := decide (((rowI d).length : Int) ≤ 8)
def shortP (p : List (List D)) : Bool := decide ((p.length : Int) ≤ 8) && p.all rowOk8
def shpL : LSpec := fun vs σ k => match vs, σ with
  | [.one (.data (.recs [.sints .i64] p)), .one (.int .i64 i)], [] => (p.length ≤ 8 ∧ 0 ≤ i) ∧ bif (p.drop i.toNat).all rowOk8 then k (.exit 0) [.any] [] else k .ret [.one (.bool false)] []
  | _, _ => False
def shpS : Spec := fun args σ K => match args, σ with
  | [.one (.data (.recs [.sints .i64] p))], [] => K (.one (.bool (shortP p))) []
  | _, _ => False

/-! ### Preferences and orders, the reference -/
def rprA : LSpec := fun vs σ k => match vs, σ with
  | [.one (.data (.recs [.sints .i64] p)), .one (.int .i64 i)], [] => (p.length ≤ 6 ∧ 0 ≤ i) ∧ bif anySh p.length (p.drop i.toNat) then k .ret [.one (.data (.recs [.sints .i64] p)), .one (.int .i64 10)] [] else k (.exit 0) [.one (.data (.recs [.sints .i64] p)), .any] []
  | _, _ => False
def rprB : LSpec := fun vs σ k => match vs, σ with
  | [.one (.data (.recs [.sints .i64] p)), .one (.int .i64 i)], [] => (okSh p ∧ 0 ≤ i ∧ i ≤ p.length) ∧ bif rowsE i (p.drop i.toNat) == 0 then k (.exit 2) [.any] [] else k .ret [.one (.int .i64 (rowsE i (p.drop i.toNat)))] []
  | _, _ => False
def rprC : LSpec := fun vs σ k => match vs, σ with
  | [.one (.data (.recs [.sints .i64] p)), .one (.int .i64 i), .one (.int .i64 j)], [] => (okSh p ∧ 0 ≤ i ∧ i < p.length ∧ 0 ≤ j ∧ j ≤ p.length) ∧
    bif rowE i j ((rowD p i.toNat).drop j.toNat) == 0 then k (.exit 4) [.one (.data (.recs [.sints .i64] p)), .any, .one (.int .i64 i)] [] else k .ret [.one (.data (.recs [.sints .i64] p)), .one (.int .i64 (rowE i j ((rowD p i.toNat).drop j.toNat))), .one (.int .i64 i)] []
  | _, _ => False
def ordF (c : Int) : List Int → List Int → Int
  | _, [] => 0
  | pre, x :: l => bif withinG x 0 (c - 1) then (bif memB x pre then 25 else ordF c (pre ++ [x]) l) else 6
def ordE (c : Int) (o : List Int) : Int := bif (o.length : Int) != c then 10 else ordF c [] o
def ordL : LSpec := fun vs σ k => match vs, σ with
  | [.one (.data (.recs [.sints .i64] p)), .one (.data (.ints .i64 o)), .one (.int .i64 i)], [] => (p.length ≤ 1000000000 ∧ o.length ≤ 1000000000 ∧ 0 ≤ i) ∧
    bif ordF p.length (o.take i.toNat) (o.drop i.toNat) == 0 then k (.exit 0) [.any] [] else k .ret [.one (.int .i64 (ordF p.length (o.take i.toNat) (o.drop i.toNat)))] []
  | _, _ => False
def ordSp : Spec := fun args σ K => match args, σ with
  | [.one (.data (.recs [.sints .i64] p)), .one (.data (.ints .i64 o))], [] => (p.length ≤ 1000000000 ∧ o.length ≤ 1000000000) ∧ K (.one (.int .i64 (ordE p.length o))) []
  | _, _ => False

/-! ### Disagreements -/
def rdA : LSpec := fun vs σ k => match vs, σ with
  | [.one (.data (.recs [.sints .i64] p)), .one (.data (.ints .i64 o)), .one (.int .i64 s), .one (.int .i64 i)], [] => (okP p ∧ okO p o ∧ 0 ≤ i ∧ i ≤ o.length ∧ 0 ≤ s ∧ s ≤ 6000 * i) ∧ k (.exit 0) [.one (.int .i64 (s + triR (celP p) (o.drop i.toNat)))] []
  | _, _ => False
def rdB : LSpec := fun vs σ k => match vs, σ with
  | [.one (.data (.recs [.sints .i64] p)), .one (.data (.ints .i64 o)), .one (.int .i64 s), .one (.int .i64 i), .one (.int .i64 j)], [] => (okP p ∧ okO p o ∧ 0 ≤ i ∧ i < o.length ∧ i + 1 ≤ j ∧ j ≤ o.length ∧ 0 ≤ s ∧ s ≤ 6000 * i + 1000 * j) ∧
    k (.exit 2) [.one (.data (.recs [.sints .i64] p)), .one (.data (.ints .i64 o)), .one (.int .i64 (s + colS (celP p) (o.getD i.toNat 0) (o.drop j.toNat))), .one (.int .i64 i)] []
  | _, _ => False
def diE (p : List (List D)) (o : List Int) : Int := firstE [prefE p, bif (o.length : Int) == (p.length : Int) then 0 else 10]
def diF (p : List (List D)) (o : List Int) : Int := bif diE p o == 0 then ordF p.length [] o else diE p o
def diV (p : List (List D)) (o : List Int) : Int := bif diF p o == 0 then disG p o else 0
def diL : LSpec := fun vs σ k => match vs, σ with
  | [.one (.data (.recs [.sints .i64] p)), .one (.data (.ints .i64 o)), .one (.data (.ints .i64 o2)), .one (.int .i64 n), .one (.int .i64 i)], [] => (p.length ≤ 6 ∧ o2 = o ∧ n = o.length ∧ o.length = p.length ∧ 0 ≤ i ∧ i ≤ n) ∧
    bif ordF p.length (o.take i.toNat) (o.drop i.toNat) == 0 then k (.exit 0) [.one (.data (.recs [.sints .i64] p)), .one (.data (.ints .i64 o)), .any, .any] [] else k .ret [.one (.data (.recs [.sints .i64] p)), .one (.data (.ints .i64 o)), .one (.int .i64 0), .one (.int .i64 (ordF p.length (o.take i.toNat) (o.drop i.toNat)))] []
  | _, _ => False
def diS : Spec := fun args σ K => match args, σ with
  | [.one (.data (.recs [.sints .i64] p)), .one (.data (.ints .i64 o))], [] => (p.length ≤ 1000000000 ∧ o.length ≤ 1000000000) ∧ K (.tup [.one (.int .i64 (diV p o)), .one (.int .i64 (diF p o))]) []
  | _, _ => False

/-! ### Bounds -/
def bdA : LSpec := fun vs σ k => match vs, σ with
  | [.one (.data (.recs [.sints .i64] p)), .one (.int .i64 s), .one (.int .i64 n), .one (.int .i64 i)], [] => (okP p ∧ n = p.length ∧ 0 ≤ i ∧ i ≤ n ∧ 0 ≤ s ∧ s ≤ 6000 * i) ∧ k (.exit 0) [.one (.int .i64 (s + triL (minP p) (upTo i.toNat) ((upTo p.length).drop i.toNat)))] []
  | _, _ => False
def bdB : LSpec := fun vs σ k => match vs, σ with
  | [.one (.data (.recs [.sints .i64] p)), .one (.int .i64 s), .one (.int .i64 i), .one (.int .i64 n), .one (.int .i64 g), .one (.int .i64 m), .one (.int .i64 j)], [] => (okP p ∧ n = p.length ∧ m = i ∧ 0 ≤ i ∧ i < n ∧ 0 ≤ j ∧ j ≤ i ∧ 0 ≤ s ∧ s ≤ 6000 * i + 1000 * j) ∧
    k (.exit 2) [.one (.data (.recs [.sints .i64] p)), .one (.int .i64 (s + rowS (minP p) i ((upTo i.toNat).drop j.toNat))), .one (.int .i64 n), .one (.int .i64 g)] []
  | _, _ => False
def bdV (p : List (List D)) : Int := bif prefE p == 0 then bndG p else 0
def bdS : Spec := fun args σ K => match args, σ with
  | [.one (.data (.recs [.sints .i64] p))], [] => p.length ≤ 1000000000 ∧ K (.tup [.one (.int .i64 (bdV p)), .one (.int .i64 (prefE p))]) []
  | _, _ => False
def rbA : LSpec := fun vs σ k => match vs, σ with
  | [.one (.data (.recs [.sints .i64] p)), .one (.int .i64 s), .one (.int .i64 i)], [] => (okP p ∧ 0 ≤ i ∧ i ≤ p.length ∧ 0 ≤ s ∧ s ≤ 6000 * i) ∧ k (.exit 0) [.one (.int .i64 (s + triR (minP p) ((upTo p.length).drop i.toNat)))] []
  | _, _ => False
def rbB : LSpec := fun vs σ k => match vs, σ with
  | [.one (.data (.recs [.sints .i64] p)), .one (.int .i64 s), .one (.int .i64 i), .one (.int .i64 j)], [] => (okP p ∧ 0 ≤ i ∧ i < p.length ∧ i + 1 ≤ j ∧ j ≤ p.length ∧ 0 ≤ s ∧ s ≤ 6000 * i + 1000 * j) ∧
    k (.exit 2) [.one (.data (.recs [.sints .i64] p)), .one (.int .i64 (s + colS (minP p) i ((upTo p.length).drop j.toNat))), .one (.int .i64 i)] []
  | _, _ => False
def rbS : Spec := fun args σ K => match args, σ with
  | [.one (.data (.recs [.sints .i64] p))], [] => okP p ∧ K (.one (.int .i64 (bndG p))) []
  | _, _ => False

/-! ### Which list comes first -/
def difG : List Int → List Int → Bool
  | x :: a, y :: b => x != y || difG a b
  | _, _ => false
def befL : LSpec := fun vs σ k => match vs, σ with
  | [.one (.data (.ints .i64 a)), .one (.data (.ints .i64 b)), .one (.int .i64 i)], [] => (a.length ≤ 1000000000 ∧ b.length ≤ 1000000000 ∧ 0 ≤ i) ∧
    bif difG (a.drop i.toNat) (b.drop i.toNat) then k .ret [.one (.data (.ints .i64 a)), .one (.data (.ints .i64 b)), .one (.bool (befG (a.drop i.toNat) (b.drop i.toNat)))] [] else k (.exit 0) [.one (.data (.ints .i64 a)), .one (.data (.ints .i64 b)), .any] []
  | _, _ => False
def befS : Spec := fun args σ K => match args, σ with
  | [.one (.data (.ints .i64 a)), .one (.data (.ints .i64 b))], [] => (a.length ≤ 1000000000 ∧ b.length ≤ 1000000000) ∧ K (.one (.bool (befG a b))) []
  | _, _ => False

/-! ### All orders, and the best one -/
def ordD (o : List Int) : List D := [.ints o]
def rordS (m : Nat) : Spec := fun args σ K => match args, σ with
  | [.one (.int .i64 n), .one (.data (.ints .i64 b))], [] => (0 ≤ n ∧ n ≤ 6 ∧ ((b.length + m : Nat) : Int) = n) ∧ K (.one (.data (.recs [.sints .i64] ((extG n.toNat m b).map ordD)))) []
  | _, _ => False
def rordO (m : Nat) : Spec := fun args σ K => match args, σ with
  | [.one (.int .i64 n), .one (.data (.ints .i64 b))], [] => (0 ≤ n ∧ n ≤ 6 ∧ ((b.length + m : Nat) : Int) = n) ∧
    bif (extG n.toNat m b).isEmpty then K (.one .nil) [] else K (.one (.own 0 1)) [.row 24 (.recs [.sints .i64] ((extG n.toNat m b).map ordD))]
  | _, _ => False
def rordL (m : Nat) : LSpec := fun vs σ k => match vs, σ with
  | [.one (.int .i64 n), .one (.data (.ints .i64 b)), .one .nil, .one (.int .i64 i)], [] => (0 ≤ n ∧ n ≤ 6 ∧ ((b.length + m + 1 : Nat) : Int) = n ∧ 0 ≤ i ∧ i ≤ n ∧ (extR n.toNat m b i.toNat).length ≤ 1000000) ∧
    bif (extR n.toNat m b i.toNat).isEmpty then k (.exit 0) [.one .nil] [] else k (.exit 0) [.one (.own 0 1)] [.row 24 (.recs [.sints .i64] ((extR n.toNat m b i.toNat).map ordD))]
  | [.one (.int .i64 n), .one (.data (.ints .i64 b)), .one (.own 0 1), .one (.int .i64 i)], [.row 24 (.recs [.sints .i64] q)] => (0 ≤ n ∧ n ≤ 6 ∧ ((b.length + m + 1 : Nat) : Int) = n ∧ 0 ≤ i ∧ i ≤ n ∧ q.length + (extR n.toNat m b i.toNat).length ≤ 1000000) ∧
    k (.exit 0) [.one (.own 0 1)] [.row 24 (.recs [.sints .i64] (q ++ (extR n.toNat m b i.toNat).map ordD))]
  | _, _ => False
noncomputable abbrev Eorz : Env := envOf Tryd.prog [(31, hasS), (22, copyIntsS)] [(5, .spec [0, 1, 5, 6] [5] noL)] 32 0
noncomputable abbrev Eorn (m : Nat) : Env := envOf Tryd.prog [(31, hasS), (22, copyIntsS), (122, rordS m)] [(5, .spec [0, 1, 5, 6] [5] (rordL m))] 32 0
def rordA : Spec := fun args σ K => match args, σ with
  | [.one (.int .i64 n), .one (.data (.ints .i64 b))], [] => (0 ≤ n ∧ n ≤ 6 ∧ b.length = 0) ∧ K (.one (.data (.recs [.sints .i64] ((allO n).map ordD)))) []
  | _, _ => False
def rbF (p : List (List D)) : List Int → List (List D) → List Int
  | b, [] => b
  | b, d :: l => bif decide (disG p (rowI d) < disG p b) then rbF p (rowI d) l else rbF p b l
def okOb (c : Nat) (o : List Int) : Bool := decide (o.length ≤ 6) && o.all fun j => decide (0 ≤ j) && decide (j < (c : Int))
def okOd (c : Nat) (d : List D) : Bool := okOb c (rowI d)
def rdiS : Spec := fun args σ K => match args, σ with
  | [.one (.data (.recs [.sints .i64] p)), .one (.data (.ints .i64 o))], [] => (okP p ∧ okOb p.length o = true) ∧ K (.one (.int .i64 (disG p o))) []
  | _, _ => False
def rbeL : LSpec := fun vs σ k => match vs, σ with
  | [.one (.data (.recs [.sints .i64] p)), .one (.data (.recs [.sints .i64] a)), .one (.data (.ints .i64 b)), .one (.int .i64 i)], [] => (okP p ∧ okOb p.length b = true ∧ a.all (okOd p.length) = true ∧ a.length ≤ 1000000 ∧ 0 ≤ i ∧ i ≤ a.length) ∧
    k (.exit 0) [.one (.data (.recs [.sints .i64] p)), .one (.data (.ints .i64 (rbF p b (a.drop i.toNat))))] []
  | _, _ => False
def rbeS : Spec := fun args σ K => match args, σ with
  | [.one (.data (.recs [.sints .i64] p))], [] => okP p ∧ K (.tup [.one (.data (.ints .i64 ((bestG p).1))), .one (.int .i64 (disG p (bestG p).1))]) []
  | _, _ => False
noncomputable abbrev Ecls : Env := envOf Tryd.prog [(22, copyDS)] [(3, .spec [0, 3, 4] [3] clL)] 20 0
noncomputable abbrev Eshr : Env := envOf Tryd.prog [] [(4, .spec [0, 3] [2] shpL)] 19 0
noncomputable abbrev Erpr : Env := envOf Tryd.prog [(30, withinS)] [(4, .spec [0, 3] [0, 2] rprA), (9, .spec [0, 4] [2] rprB), (12, .spec [0, 4, 5] [0, 2, 4] rprC)] 57 0
noncomputable abbrev Eore : Env := envOf Tryd.prog [(30, withinS), (31, hasS)] [(4, .spec [0, 1, 5] [4] ordL)] 34 0
noncomputable abbrev Erdi : Env := envOf Tryd.prog [] [(3, .spec [0, 1, 5, 6] [5] rdA), (6, .spec [0, 1, 5, 6, 7] [0, 1, 5, 6] rdB)] 38 0
noncomputable abbrev Edis2 : Env := envOf Tryd.prog [(118, prefS), (104, unlessS), (98, firstS), (103, withinS), (119, containsS), (120, disS)] [(5, .spec [0, 1, 23, 24, 25] [0, 1, 4, 5] diL)] 52 0
noncomputable abbrev Ebnd : Env := envOf Tryd.prog [(118, prefS)] [(6, .spec [0, 5, 14, 15] [5] bdA), (9, .spec [0, 5, 6, 14, 15, 18, 19] [0, 5, 14, 15] bdB)] 42 0
noncomputable abbrev Erbn : Env := envOf Tryd.prog [] [(3, .spec [0, 3, 4] [3] rbA), (6, .spec [0, 3, 4, 5] [0, 3, 4] rbB)] 38 0
noncomputable abbrev Ebef : Env := envOf Tryd.prog [] [(2, .spec [0, 1, 5] [0, 1, 4] befL)] 41 0
noncomputable abbrev Erbe : Env := envOf Tryd.prog [(122, rordA), (59, rdiS)] [(4, .spec [0, 4, 5, 6] [0, 5] rbeL)] 37 0
end Go.Ev

namespace Go.Ev
open Go Go.Proofs
set_option maxRecDepth 100000
theorem exorz (n : Int) (b : List Int) (K : AV → List Blk → Prop) : evFn Eorz Tryd.f122 [.one (.int .i64 n), .one (.data (.ints .i64 b))] [] K = (
 bif (↑b.length : Int) == n then
 K (AV.one (SV.own (0 : Nat) (1 : Nat))) [Blk.row (24 : Nat) (Row.recs [CK.sints IntKind.i64] [[D.ints b]])]
 else False) := by kernel_rfl
theorem exorn (m : Nat) (n : Int) (b : List Int) (K : AV → List Blk → Prop) : evFn (Eorn m) Tryd.f122 [.one (.int .i64 n), .one (.data (.ints .i64 b))] [] K = (
 bif (↑b.length : Int) == n then
 K (AV.one (SV.own (0 : Nat) (1 : Nat)))
 [Blk.row (24 : Nat) (Row.recs [CK.sints IntKind.i64] [[D.ints b]])]
 else
 ((0 : Int) ≤ n ∧
 n ≤ (6 : Int) ∧
 (↑(b.length + m + (1 : Nat)) : Int) = n ∧
 (0 : Int) ≤ (0 : Int) ∧ (0 : Int) ≤ n ∧ (extR n.toNat m b (0 : Nat)).length ≤ (1000000 : Nat)) ∧
 bif (extR n.toNat m b (0 : Nat)).isEmpty then K (AV.one SV.nil) []
 else
 K (AV.one (SV.own (0 : Nat) (1 : Nat)))
 [Blk.row (24 : TypeId) (Row.recs [CK.sints IntKind.i64] (List.map ordD (extR n.toNat m b (0 : Nat))))]) := by kernel_rfl
theorem exorna (m : Nat) (n i : Int) (b : List Int) (K : Ex → List AV → List Blk → Prop) : evBody (Eorn m) (lb Tryd.f122 0) [0, 1, 5, 6] [5] [.one (.int .i64 n), .one (.data (.ints .i64 b)), .one .nil, .one (.int .i64 i)] [] K = (
 bif decide (i < n) then
 b.length ≤ (1000000000 : Nat) ∧
 bif !memB i b then
 b.length ≤ (1000000000000 : Nat) ∧
 bif
 decide
 ((b ++ [i]).length * (8 : Nat) ≤ (140737488355328 : Nat) ∧
 (b ++ [i]).length ≤ (140737488355328 : Nat)) then
 ((0 : Int) ≤ n ∧ n ≤ (6 : Int) ∧ (↑((b ++ [i]).length + m) : Int) = n) ∧
 bif
 decide
 ((List.map ordD (extG n.toNat m (b ++ [i]))).length * (24 : Nat) ≤
 (140737488355328 : Nat) ∧
 (List.map ordD (extG n.toNat m (b ++ [i]))).length ≤ (140737488355328 : Nat)) then
 bif decide ((List.map ordD (extG n.toNat m (b ++ [i]))).length = (0 : Nat)) then
 K Ex.normal
 [AV.one (SV.int IntKind.i64 n), AV.one (SV.data (Row.ints IntKind.i64 b)), AV.one SV.nil,
 AV.one (SV.int IntKind.i64 (IntKind.i64.wrap (i + (1 : Int))))]
 []
 else
 K Ex.normal
 [AV.one (SV.int IntKind.i64 n), AV.one (SV.data (Row.ints IntKind.i64 b)),
 AV.one (SV.own (0 : Nat) (1 : Nat)), AV.one (SV.int IntKind.i64 (IntKind.i64.wrap (i + (1 : Int))))]
 [Blk.row (24 : Nat) (Row.recs [CK.sints IntKind.i64] (List.map ordD (extG n.toNat m (b ++ [i]))))]
 else False
 else False
 else
 K Ex.normal
 [AV.one (SV.int IntKind.i64 n), AV.one (SV.data (Row.ints IntKind.i64 b)), AV.one SV.nil,
 AV.one (SV.int IntKind.i64 (IntKind.i64.wrap (i + (1 : Int))))]
 []
 else K (Ex.exit (0 : Nat)) [AV.one SV.nil] []) := by kernel_rfl
theorem exornb (m : Nat) (n i : Int) (b : List Int) (q : List (List D)) (K : Ex → List AV → List Blk → Prop) : evBody (Eorn m) (lb Tryd.f122 0) [0, 1, 5, 6] [5] [.one (.int .i64 n), .one (.data (.ints .i64 b)), .one (.own 0 1), .one (.int .i64 i)] [.row 24 (.recs [.sints .i64] q)] K = (
 bif decide (i < n) then
 b.length ≤ (1000000000 : Nat) ∧
 bif !memB i b then
 b.length ≤ (1000000000000 : Nat) ∧
 bif
 decide
 ((b ++ [i]).length * (8 : Nat) ≤ (140737488355328 : Nat) ∧
 (b ++ [i]).length ≤ (140737488355328 : Nat)) then
 ((0 : Int) ≤ n ∧ n ≤ (6 : Int) ∧ (↑((b ++ [i]).length + m) : Int) = n) ∧
 bif
 decide
 ((q ++ List.map ordD (extG n.toNat m (b ++ [i]))).length * (24 : Nat) ≤
 (140737488355328 : Nat) ∧
 (q ++ List.map ordD (extG n.toNat m (b ++ [i]))).length ≤ (140737488355328 : Nat)) then
 K Ex.normal
 [AV.one (SV.int IntKind.i64 n), AV.one (SV.data (Row.ints IntKind.i64 b)),
 AV.one (SV.own (0 : Nat) (1 : Nat)), AV.one (SV.int IntKind.i64 (IntKind.i64.wrap (i + (1 : Int))))]
 [Blk.row (24 : Nat) (Row.recs [CK.sints IntKind.i64] (q ++ List.map ordD (extG n.toNat m (b ++ [i]))))]
 else False
 else False
 else
 K Ex.normal
 [AV.one (SV.int IntKind.i64 n), AV.one (SV.data (Row.ints IntKind.i64 b)), AV.one (SV.own (0 : Nat) (1 : Nat)),
 AV.one (SV.int IntKind.i64 (IntKind.i64.wrap (i + (1 : Int))))]
 [Blk.row (24 : TypeId) (Row.recs [CK.sints IntKind.i64] q)]
 else
 K (Ex.exit (0 : Nat)) [AV.one (SV.own (0 : Nat) (1 : Nat))]
 [Blk.row (24 : TypeId) (Row.recs [CK.sints IntKind.i64] q)]) := by kernel_rfl
theorem excls (p : List (List D)) (K : AV → List Blk → Prop) : evFn Ecls Tryd.f52 [.one (.data (.recs [.sints .i64] p))] [] K = (
 ((p.length ≤ (1000000000 : Nat) ∧
 ∀ (d : List D), d ∈ p → d = [D.ints (rowI d)] ∧ (rowI d).length ≤ (1000000000000 : Nat)) ∧
 (0 : Int) = (0 : Int)) ∧
 bif p.isEmpty then K (AV.one SV.nil) []
 else K (AV.one (SV.own (0 : Nat) (1 : Nat))) [Blk.row (24 : TypeId) (Row.recs [CK.sints IntKind.i64] p)]) := by kernel_rfl
theorem exclsl0a (p : List (List D)) (i : Int) (K : Ex → List AV → List Blk → Prop) : evBody Ecls (lb Tryd.f52 0) [0, 3, 4] [3] [.one (.data (.recs [.sints .i64] p)), .one .nil, .one (.int .i64 i)] [] K = (
 bif decide (i < (↑p.length : Int)) then
 bif decide ((0 : Int) ≤ i) && decide (i < (↑p.length : Int)) then
 bif decide ((0 : Nat) < (1 : Nat)) && decide (i.toNat < p.length) then
 ((p.getD i.toNat []).getD (0 : Nat) (D.int (0 : Int))).toInts.length ≤ (1000000000000 : Nat) ∧
 K Ex.normal
 [AV.one (SV.data (Row.recs [CK.sints IntKind.i64] p)), AV.one (SV.own (0 : Nat) (1 : Nat)),
 AV.one (SV.int IntKind.i64 (IntKind.i64.wrap (i + (1 : Int))))]
 [Blk.row (24 : Nat)
 (Row.recs [CK.sints IntKind.i64]
 [[D.ints ((p.getD i.toNat []).getD (0 : Nat) (D.int (0 : Int))).toInts]])]
 else False
 else False
 else K (Ex.exit (0 : Nat)) [AV.one SV.nil] []) := by kernel_rfl
theorem exclsl0b (p : List (List D)) (i : Int) (q : List (List D)) (K : Ex → List AV → List Blk → Prop) : evBody Ecls (lb Tryd.f52 0) [0, 3, 4] [3] [.one (.data (.recs [.sints .i64] p)), .one (.own 0 1), .one (.int .i64 i)] [.row 24 (.recs [.sints .i64] q)] K = (
 bif decide (i < (↑p.length : Int)) then
 bif decide ((0 : Int) ≤ i) && decide (i < (↑p.length : Int)) then
 bif decide ((0 : Nat) < (1 : Nat)) && decide (i.toNat < p.length) then
 ((p.getD i.toNat []).getD (0 : Nat) (D.int (0 : Int))).toInts.length ≤ (1000000000000 : Nat) ∧
 bif
 decide
 ((q ++ [[D.ints ((p.getD i.toNat []).getD (0 : Nat) (D.int (0 : Int))).toInts]]).length * (24 : Nat) ≤
 (140737488355328 : Nat) ∧
 (q ++ [[D.ints ((p.getD i.toNat []).getD (0 : Nat) (D.int (0 : Int))).toInts]]).length ≤
 (140737488355328 : Nat)) then
 K Ex.normal
 [AV.one (SV.data (Row.recs [CK.sints IntKind.i64] p)), AV.one (SV.own (0 : Nat) (1 : Nat)),
 AV.one (SV.int IntKind.i64 (IntKind.i64.wrap (i + (1 : Int))))]
 [Blk.row (24 : Nat)
 (Row.recs [CK.sints IntKind.i64]
 (q ++ [[D.ints ((p.getD i.toNat []).getD (0 : Nat) (D.int (0 : Int))).toInts]]))]
 else False
 else False
 else False
 else
 K (Ex.exit (0 : Nat)) [AV.one (SV.own (0 : Nat) (1 : Nat))]
 [Blk.row (24 : TypeId) (Row.recs [CK.sints IntKind.i64] q)]) := by kernel_rfl
theorem exshr (p : List (List D)) (K : AV → List Blk → Prop) : evFn Eshr Tryd.f50 [.one (.data (.recs [.sints .i64] p))] [] K = (
 bif decide ((↑p.length : Int) > (8 : Int)) then K (AV.one (SV.bool false)) []
 else
 (p.length ≤ (8 : Nat) ∧ (0 : Int) ≤ (0 : Int)) ∧
 bif p.all rowOk8 then K (AV.one (SV.bool true)) [] else K (AV.one (SV.bool false)) []) := by kernel_rfl
theorem exshrl0a (p : List (List D)) (i : Int) (K : Ex → List AV → List Blk → Prop) : evBody Eshr (lb Tryd.f50 0) [0, 3] [2] [.one (.data (.recs [.sints .i64] p)), .one (.int .i64 i)] [] K = (
 bif decide (i < (↑p.length : Int)) then
 bif decide ((0 : Int) ≤ i) && decide (i < (↑p.length : Int)) then
 bif decide ((0 : Nat) < (1 : Nat)) && decide (i.toNat < p.length) then
 bif decide ((↑((p.getD i.toNat []).getD (0 : Nat) (D.int (0 : Int))).toInts.length : Int) > (8 : Int)) then
 K Ex.ret [AV.one (SV.bool false)] []
 else
 K Ex.normal
 [AV.one (SV.data (Row.recs [CK.sints IntKind.i64] p)),
 AV.one (SV.int IntKind.i64 (IntKind.i64.wrap (i + (1 : Int))))]
 []
 else False
 else False
 else K (Ex.exit (0 : Nat)) [AV.any] []) := by kernel_rfl
theorem exrpr (p : List (List D)) (K : AV → List Blk → Prop) : evFn Erpr Tryd.f55 [.one (.data (.recs [.sints .i64] p))] [] K = (
 bif decide ((↑p.length : Int) > (6 : Int)) then K (AV.one (SV.int IntKind.i64 (8 : Int))) []
 else
 (p.length ≤ (6 : Nat) ∧ (0 : Int) ≤ (0 : Int)) ∧
 bif anySh (↑p.length : Int) p then K (AV.one (SV.int IntKind.i64 (10 : Int))) []
 else
 ((p.length ≤ (6 : Nat) ∧ ∀ (d : List D), d ∈ p → (rowI d).length = p.length) ∧
 (0 : Int) ≤ (0 : Int) ∧ (0 : Int) ≤ (↑p.length : Int)) ∧
 bif rowsE (0 : Int) p == (0 : Int) then K (AV.one (SV.int IntKind.i64 (0 : Int))) []
 else K (AV.one (SV.int IntKind.i64 (rowsE (0 : Int) p))) []) := by kernel_rfl
theorem exrprl0a (p : List (List D)) (i : Int) (K : Ex → List AV → List Blk → Prop) : evBody Erpr (lb Tryd.f55 0) [0, 3] [0, 2] [.one (.data (.recs [.sints .i64] p)), .one (.int .i64 i)] [] K = (
 bif decide (i < (↑p.length : Int)) then
 bif decide ((0 : Int) ≤ i) && decide (i < (↑p.length : Int)) then
 bif decide ((0 : Nat) < (1 : Nat)) && decide (i.toNat < p.length) then
 bif (↑((p.getD i.toNat []).getD (0 : Nat) (D.int (0 : Int))).toInts.length : Int) != (↑p.length : Int) then
 K Ex.ret [AV.one (SV.data (Row.recs [CK.sints IntKind.i64] p)), AV.one (SV.int IntKind.i64 (10 : Int))] []
 else
 K Ex.normal
 [AV.one (SV.data (Row.recs [CK.sints IntKind.i64] p)),
 AV.one (SV.int IntKind.i64 (IntKind.i64.wrap (i + (1 : Int))))]
 []
 else False
 else False
 else K (Ex.exit (0 : Nat)) [AV.one (SV.data (Row.recs [CK.sints IntKind.i64] p)), AV.any] []) := by kernel_rfl
theorem exrprl1a (p : List (List D)) (i : Int) (K : Ex → List AV → List Blk → Prop) : evBody Erpr (lb Tryd.f55 1) [0, 4] [2] [.one (.data (.recs [.sints .i64] p)), .one (.int .i64 i)] [] K = (
 bif decide (i < (↑p.length : Int)) then
 ((p.length ≤ (6 : Nat) ∧ ∀ (d : List D), d ∈ p → (rowI d).length = p.length) ∧
 (0 : Int) ≤ i ∧ i < (↑p.length : Int) ∧ (0 : Int) ≤ (0 : Int) ∧ (0 : Int) ≤ (↑p.length : Int)) ∧
 bif rowE i (0 : Int) (rowD p i.toNat) == (0 : Int) then
 K Ex.normal
 [AV.one (SV.data (Row.recs [CK.sints IntKind.i64] p)),
 AV.one (SV.int IntKind.i64 (IntKind.i64.wrap (i + (1 : Int))))]
 []
 else K Ex.ret [AV.one (SV.int IntKind.i64 (rowE i (0 : Int) (rowD p i.toNat)))] []
 else K (Ex.exit (2 : Nat)) [AV.any] []) := by kernel_rfl
theorem exrprl2a (p : List (List D)) (i j : Int) (K : Ex → List AV → List Blk → Prop) : evBody Erpr (lb Tryd.f55 2) [0, 4, 5] [0, 2, 4] [.one (.data (.recs [.sints .i64] p)), .one (.int .i64 i), .one (.int .i64 j)] [] K = (
 bif decide (j < (↑p.length : Int)) then
 bif decide ((0 : Int) ≤ i) && decide (i < (↑p.length : Int)) then
 bif decide ((0 : Nat) < (1 : Nat)) && decide (i.toNat < p.length) then
 bif
 decide ((0 : Int) ≤ j) &&
 decide (j < (↑((p.getD i.toNat []).getD (0 : Nat) (D.int (0 : Int))).toInts.length : Int)) then
 bif decide (j.toNat + (0 : Nat) < ((p.getD i.toNat []).getD (0 : Nat) (D.int (0 : Int))).toInts.length) then
 bif
 !(decide
 ((0 : Int) ≤
 ((p.getD i.toNat []).getD (0 : Nat) (D.int (0 : Int))).toInts.getD (j.toNat + (0 : Nat))
 (0 : Int)) &&
 decide
 (((p.getD i.toNat []).getD (0 : Nat) (D.int (0 : Int))).toInts.getD (j.toNat + (0 : Nat))
 (0 : Int) ≤
 (1000 : Int))) then
 K Ex.ret
 [AV.one (SV.data (Row.recs [CK.sints IntKind.i64] p)), AV.one (SV.int IntKind.i64 (2 : Int)),
 AV.one (SV.int IntKind.i64 i)]
 []
 else
 bif i == j then
 bif decide ((0 : Int) ≤ i) && decide (i < (↑p.length : Int)) then
 bif decide ((0 : Nat) < (1 : Nat)) && decide (i.toNat < p.length) then
 bif
 decide ((0 : Int) ≤ j) &&
 decide (j < (↑((p.getD i.toNat []).getD (0 : Nat) (D.int (0 : Int))).toInts.length : Int)) then
 bif
 decide
 (j.toNat + (0 : Nat) <
 ((p.getD i.toNat []).getD (0 : Nat) (D.int (0 : Int))).toInts.length) then
 bif
 ((p.getD i.toNat []).getD (0 : Nat) (D.int (0 : Int))).toInts.getD (j.toNat + (0 : Nat))
 (0 : Int) !=
 (0 : Int) then
 K Ex.ret
 [AV.one (SV.data (Row.recs [CK.sints IntKind.i64] p)), AV.one (SV.int IntKind.i64 (3 : Int)),
 AV.one (SV.int IntKind.i64 i)]
 []
 else
 K Ex.normal
 [AV.one (SV.data (Row.recs [CK.sints IntKind.i64] p)), AV.one (SV.int IntKind.i64 i),
 AV.one (SV.int IntKind.i64 (IntKind.i64.wrap (j + (1 : Int))))]
 []
 else False
 else False
 else False
 else False
 else
 K Ex.normal
 [AV.one (SV.data (Row.recs [CK.sints IntKind.i64] p)), AV.one (SV.int IntKind.i64 i),
 AV.one (SV.int IntKind.i64 (IntKind.i64.wrap (j + (1 : Int))))]
 []
 else False
 else False
 else False
 else False
 else
 K (Ex.exit (4 : Nat)) [AV.one (SV.data (Row.recs [CK.sints IntKind.i64] p)), AV.any, AV.one (SV.int IntKind.i64 i)] []) := by kernel_rfl
theorem exore (p : List (List D)) (o : List Int) (K : AV → List Blk → Prop) : evFn Eore Tryd.f58 [.one (.data (.recs [.sints .i64] p)), .one (.data (.ints .i64 o))] [] K = (
 bif (↑o.length : Int) != (↑p.length : Int) then K (AV.one (SV.int IntKind.i64 (10 : Int))) []
 else
 (p.length ≤ (1000000000 : Nat) ∧ o.length ≤ (1000000000 : Nat) ∧ (0 : Int) ≤ (0 : Int)) ∧
 bif ordF (↑p.length : Int) [] o == (0 : Int) then K (AV.one (SV.int IntKind.i64 (0 : Int))) []
 else K (AV.one (SV.int IntKind.i64 (ordF (↑p.length : Int) [] o))) []) := by kernel_rfl
theorem exorel0a (p : List (List D)) (o : List Int) (i : Int) (K : Ex → List AV → List Blk → Prop) : evBody Eore (lb Tryd.f58 0) [0, 1, 5] [4] [.one (.data (.recs [.sints .i64] p)), .one (.data (.ints .i64 o)), .one (.int .i64 i)] [] K = (
 bif decide (i < (↑o.length : Int)) then
 bif decide ((0 : Int) ≤ i) && decide (i < (↑o.length : Int)) then
 bif decide (i.toNat + (0 : Nat) < o.length) then
 bif
 !(decide ((0 : Int) ≤ o.getD (i.toNat + (0 : Nat)) (0 : Int)) &&
 decide (o.getD (i.toNat + (0 : Nat)) (0 : Int) ≤ IntKind.i64.wrap ((↑p.length : Int) - (1 : Int)))) then
 K Ex.ret [AV.one (SV.int IntKind.i64 (6 : Int))] []
 else
 bif decide ((0 : Int) ≤ i) && (decide (i.toNat ≤ o.length) && decide ((0 : Nat) ≤ i.toNat)) then
 bif decide ((0 : Int) ≤ i) && decide (i < (↑o.length : Int)) then
 bif decide (i.toNat + (0 : Nat) < o.length) then
 (List.take (i.toNat - (0 : Nat)) o).length ≤ (1000000000 : Nat) ∧
 bif memB (o.getD (i.toNat + (0 : Nat)) (0 : Int)) (List.take (i.toNat - (0 : Nat)) o) then
 K Ex.ret [AV.one (SV.int IntKind.i64 (25 : Int))] []
 else
 K Ex.normal
 [AV.one (SV.data (Row.recs [CK.sints IntKind.i64] p)), AV.one (SV.data (Row.ints IntKind.i64 o)),
 AV.one (SV.int IntKind.i64 (IntKind.i64.wrap (i + (1 : Int))))]
 []
 else False
 else False
 else False
 else False
 else False
 else K (Ex.exit (0 : Nat)) [AV.any] []) := by kernel_rfl
theorem exrdi (p : List (List D)) (o : List Int) (K : AV → List Blk → Prop) : evFn Erdi Tryd.f59 [.one (.data (.recs [.sints .i64] p)), .one (.data (.ints .i64 o))] [] K = (
 ((p.length ≤ (6 : Nat) ∧
 ∀ (d : List D), d ∈ p → (rowI d).length = p.length ∧ ∀ (n : Int), n ∈ rowI d → (0 : Int) ≤ n ∧ n ≤ (1000 : Int)) ∧
 (o.length ≤ (6 : Nat) ∧ ∀ (j : Int), j ∈ o → (0 : Int) ≤ j ∧ j < (↑p.length : Int)) ∧
 (0 : Int) ≤ (0 : Int) ∧ (0 : Int) ≤ (↑o.length : Int) ∧ (0 : Int) ≤ (0 : Int) ∧ (0 : Int) ≤ (0 : Int)) ∧
 K (AV.one (SV.int IntKind.i64 ((0 : Int) + triR (celP p) o))) []) := by kernel_rfl
theorem exrdil0a (p : List (List D)) (o : List Int) (s i : Int) (K : Ex → List AV → List Blk → Prop) : evBody Erdi (lb Tryd.f59 0) [0, 1, 5, 6] [5] [.one (.data (.recs [.sints .i64] p)), .one (.data (.ints .i64 o)), .one (.int .i64 s), .one (.int .i64 i)] [] K = (
 bif decide (i < (↑o.length : Int)) then
 ((p.length ≤ (6 : Nat) ∧
 ∀ (d : List D),
 d ∈ p → (rowI d).length = p.length ∧ ∀ (n : Int), n ∈ rowI d → (0 : Int) ≤ n ∧ n ≤ (1000 : Int)) ∧
 (o.length ≤ (6 : Nat) ∧ ∀ (j : Int), j ∈ o → (0 : Int) ≤ j ∧ j < (↑p.length : Int)) ∧
 (0 : Int) ≤ i ∧
 i < (↑o.length : Int) ∧
 i + (1 : Int) ≤ IntKind.i64.wrap (i + (1 : Int)) ∧
 IntKind.i64.wrap (i + (1 : Int)) ≤ (↑o.length : Int) ∧
 (0 : Int) ≤ s ∧ s ≤ (6000 : Int) * i + (1000 : Int) * IntKind.i64.wrap (i + (1 : Int))) ∧
 K Ex.normal
 [AV.one (SV.data (Row.recs [CK.sints IntKind.i64] p)), AV.one (SV.data (Row.ints IntKind.i64 o)),
 AV.one
 (SV.int IntKind.i64
 (s + colS (celP p) (o.getD i.toNat (0 : Int)) (List.drop (IntKind.i64.wrap (i + (1 : Int))).toNat o))),
 AV.one (SV.int IntKind.i64 (IntKind.i64.wrap (i + (1 : Int))))]
 []
 else K (Ex.exit (0 : Nat)) [AV.one (SV.int IntKind.i64 s)] []) := by kernel_rfl
theorem exrdil1a (p : List (List D)) (o : List Int) (s i j : Int) (K : Ex → List AV → List Blk → Prop) : evBody Erdi (lb Tryd.f59 1) [0, 1, 5, 6, 7] [0, 1, 5, 6] [.one (.data (.recs [.sints .i64] p)), .one (.data (.ints .i64 o)), .one (.int .i64 s), .one (.int .i64 i), .one (.int .i64 j)] [] K = (
 bif decide (j < (↑o.length : Int)) then
 bif decide ((0 : Int) ≤ j) && decide (j < (↑o.length : Int)) then
 bif decide (j.toNat + (0 : Nat) < o.length) then
 bif
 decide ((0 : Int) ≤ o.getD (j.toNat + (0 : Nat)) (0 : Int)) &&
 decide (o.getD (j.toNat + (0 : Nat)) (0 : Int) < (↑p.length : Int)) then
 bif decide ((0 : Nat) < (1 : Nat)) && decide ((o.getD (j.toNat + (0 : Nat)) (0 : Int)).toNat < p.length) then
 bif decide ((0 : Int) ≤ i) && decide (i < (↑o.length : Int)) then
 bif decide (i.toNat + (0 : Nat) < o.length) then
 bif
 decide ((0 : Int) ≤ o.getD (i.toNat + (0 : Nat)) (0 : Int)) &&
 decide
 (o.getD (i.toNat + (0 : Nat)) (0 : Int) <
 (↑((p.getD (o.getD (j.toNat + (0 : Nat)) (0 : Int)).toNat []).getD (0 : Nat)
 (D.int (0 : Int))).toInts.length :
 Int)) then
 bif
 decide
 ((o.getD (i.toNat + (0 : Nat)) (0 : Int)).toNat + (0 : Nat) <
 ((p.getD (o.getD (j.toNat + (0 : Nat)) (0 : Int)).toNat []).getD (0 : Nat)
 (D.int (0 : Int))).toInts.length) then
 K Ex.normal
 [AV.one (SV.data (Row.recs [CK.sints IntKind.i64] p)), AV.one (SV.data (Row.ints IntKind.i64 o)),
 AV.one
 (SV.int IntKind.i64
 (IntKind.i64.wrap
 (s +
 ((p.getD (o.getD (j.toNat + (0 : Nat)) (0 : Int)).toNat []).getD (0 : Nat)
 (D.int (0 : Int))).toInts.getD
 ((o.getD (i.toNat + (0 : Nat)) (0 : Int)).toNat + (0 : Nat)) (0 : Int)))),
 AV.one (SV.int IntKind.i64 i), AV.one (SV.int IntKind.i64 (IntKind.i64.wrap (j + (1 : Int))))]
 []
 else False
 else False
 else False
 else False
 else False
 else False
 else False
 else False
 else
 K (Ex.exit (2 : Nat))
 [AV.one (SV.data (Row.recs [CK.sints IntKind.i64] p)), AV.one (SV.data (Row.ints IntKind.i64 o)),
 AV.one (SV.int IntKind.i64 s), AV.one (SV.int IntKind.i64 i)]
 []) := by kernel_rfl
theorem exdis2 (p : List (List D)) (o : List Int) (K : AV → List Blk → Prop) : evFn Edis2 Tryd.f51 [.one (.data (.recs [.sints .i64] p)), .one (.data (.ints .i64 o))] [] K = (
 p.length ≤ (1000000000 : Nat) ∧
 [prefE p, bif (↑o.length : Int) == (↑p.length : Int) then (0 : Int) else (10 : Int)].length ≤ (1000 : Nat) ∧
 bif firstE [prefE p, bif (↑o.length : Int) == (↑p.length : Int) then (0 : Int) else (10 : Int)] != (0 : Int) then
 K
 (AV.tup
 [TV.one (SV.int IntKind.i64 (0 : Int)),
 TV.one
 (SV.int IntKind.i64
 (firstE [prefE p, bif (↑o.length : Int) == (↑p.length : Int) then (0 : Int) else (10 : Int)]))])
 []
 else
 (p.length ≤ (6 : Nat) ∧
 o = o ∧
 (↑o.length : Int) = (↑o.length : Int) ∧
 o.length = p.length ∧ (0 : Int) ≤ (0 : Int) ∧ (0 : Int) ≤ (↑o.length : Int)) ∧
 bif ordF (↑p.length : Int) [] o == (0 : Int) then
 ((p.length ≤ (6 : Nat) ∧
 ∀ (d : List D),
 d ∈ p → (rowI d).length = p.length ∧ ∀ (n : Int), n ∈ rowI d → (0 : Int) ≤ n ∧ n ≤ (1000 : Int)) ∧
 o.length ≤ (6 : Nat) ∧ ∀ (j : Int), j ∈ o → (0 : Int) ≤ j ∧ j < (↑p.length : Int)) ∧
 K (AV.tup [TV.one (SV.int IntKind.i64 (disG p o)), TV.one (SV.int IntKind.i64 (0 : Int))]) []
 else
 K (AV.tup [TV.one (SV.int IntKind.i64 (0 : Int)), TV.one (SV.int IntKind.i64 (ordF (↑p.length : Int) [] o))])
 []) := by kernel_rfl
theorem exdis2l0a (p : List (List D)) (o o2 : List Int) (n i : Int) (K : Ex → List AV → List Blk → Prop) : evBody Edis2 (lb Tryd.f51 0) [0, 1, 23, 24, 25] [0, 1, 4, 5] [.one (.data (.recs [.sints .i64] p)), .one (.data (.ints .i64 o)), .one (.data (.ints .i64 o2)), .one (.int .i64 n), .one (.int .i64 i)] [] K = (
 bif decide (i < n) then
 bif decide ((0 : Int) ≤ i) && decide (i < (↑o2.length : Int)) then
 bif decide (i.toNat + (0 : Nat) < o2.length) then
 bif decide ((0 : Int) ≤ i) && (decide (i.toNat ≤ o.length) && decide ((0 : Nat) ≤ i.toNat)) then
 (List.take (i.toNat - (0 : Nat)) o).length ≤ (1000000000 : Nat) ∧
 [bif
 decide ((0 : Int) ≤ o2.getD (i.toNat + (0 : Nat)) (0 : Int)) &&
 decide
 (o2.getD (i.toNat + (0 : Nat)) (0 : Int) ≤
 IntKind.i64.wrap ((↑p.length : Int) - (1 : Int))) then
 (0 : Int)
 else (6 : Int),
 bif !memB (o2.getD (i.toNat + (0 : Nat)) (0 : Int)) (List.take (i.toNat - (0 : Nat)) o) then (0 : Int)
 else (25 : Int)].length ≤
 (1000 : Nat) ∧
 bif
 firstE
 [bif
 decide ((0 : Int) ≤ o2.getD (i.toNat + (0 : Nat)) (0 : Int)) &&
 decide
 (o2.getD (i.toNat + (0 : Nat)) (0 : Int) ≤
 IntKind.i64.wrap ((↑p.length : Int) - (1 : Int))) then
 (0 : Int)
 else (6 : Int),
 bif !memB (o2.getD (i.toNat + (0 : Nat)) (0 : Int)) (List.take (i.toNat - (0 : Nat)) o) then
 (0 : Int)
 else (25 : Int)] !=
 (0 : Int) then
 K Ex.ret
 [AV.one (SV.data (Row.recs [CK.sints IntKind.i64] p)), AV.one (SV.data (Row.ints IntKind.i64 o)),
 AV.one (SV.int IntKind.i64 (0 : Int)),
 AV.one
 (SV.int IntKind.i64
 (firstE
 [bif
 decide ((0 : Int) ≤ o2.getD (i.toNat + (0 : Nat)) (0 : Int)) &&
 decide
 (o2.getD (i.toNat + (0 : Nat)) (0 : Int) ≤
 IntKind.i64.wrap ((↑p.length : Int) - (1 : Int))) then
 (0 : Int)
 else (6 : Int),
 bif !memB (o2.getD (i.toNat + (0 : Nat)) (0 : Int)) (List.take (i.toNat - (0 : Nat)) o) then
 (0 : Int)
 else (25 : Int)]))]
 []
 else
 K Ex.normal
 [AV.one (SV.data (Row.recs [CK.sints IntKind.i64] p)), AV.one (SV.data (Row.ints IntKind.i64 o)),
 AV.one (SV.data (Row.ints IntKind.i64 o2)), AV.one (SV.int IntKind.i64 n),
 AV.one (SV.int IntKind.i64 (IntKind.i64.wrap (i + (1 : Int))))]
 []
 else False
 else False
 else False
 else
 K (Ex.exit (0 : Nat))
 [AV.one (SV.data (Row.recs [CK.sints IntKind.i64] p)), AV.one (SV.data (Row.ints IntKind.i64 o)), AV.any, AV.any] []) := by kernel_rfl
theorem exbnd (p : List (List D)) (K : AV → List Blk → Prop) : evFn Ebnd Tryd.f54 [.one (.data (.recs [.sints .i64] p))] [] K = (
 p.length ≤ (1000000000 : Nat) ∧
 bif prefE p != (0 : Int) then
 K (AV.tup [TV.one (SV.int IntKind.i64 (0 : Int)), TV.one (SV.int IntKind.i64 (prefE p))]) []
 else
 ((p.length ≤ (6 : Nat) ∧
 ∀ (d : List D),
 d ∈ p → (rowI d).length = p.length ∧ ∀ (n : Int), n ∈ rowI d → (0 : Int) ≤ n ∧ n ≤ (1000 : Int)) ∧
 (↑p.length : Int) = (↑p.length : Int) ∧
 (0 : Int) ≤ (0 : Int) ∧ (0 : Int) ≤ (↑p.length : Int) ∧ (0 : Int) ≤ (0 : Int) ∧ (0 : Int) ≤ (0 : Int)) ∧
 K
 (AV.tup
 [TV.one (SV.int IntKind.i64 ((0 : Int) + triL (minP p) (upTo (0 : Nat)) (upTo p.length))),
 TV.one (SV.int IntKind.i64 (0 : Int))])
 []) := by kernel_rfl
theorem exbndl0a (p : List (List D)) (s n i : Int) (K : Ex → List AV → List Blk → Prop) : evBody Ebnd (lb Tryd.f54 0) [0, 5, 14, 15] [5] [.one (.data (.recs [.sints .i64] p)), .one (.int .i64 s), .one (.int .i64 n), .one (.int .i64 i)] [] K = (
 bif decide (i < n) then
 ((p.length ≤ (6 : Nat) ∧
 ∀ (d : List D),
 d ∈ p → (rowI d).length = p.length ∧ ∀ (n : Int), n ∈ rowI d → (0 : Int) ≤ n ∧ n ≤ (1000 : Int)) ∧
 n = (↑p.length : Int) ∧
 i = i ∧
 (0 : Int) ≤ i ∧
 i < n ∧ (0 : Int) ≤ (0 : Int) ∧ (0 : Int) ≤ i ∧ (0 : Int) ≤ s ∧ s ≤ (6000 : Int) * i + (0 : Int)) ∧
 K Ex.normal
 [AV.one (SV.data (Row.recs [CK.sints IntKind.i64] p)),
 AV.one (SV.int IntKind.i64 (s + rowS (minP p) i (upTo i.toNat))), AV.one (SV.int IntKind.i64 n),
 AV.one (SV.int IntKind.i64 (IntKind.i64.wrap (i + (1 : Int))))]
 []
 else K (Ex.exit (0 : Nat)) [AV.one (SV.int IntKind.i64 s)] []) := by kernel_rfl
theorem exbndl1a (p : List (List D)) (s i n g m j : Int) (K : Ex → List AV → List Blk → Prop) : evBody Ebnd (lb Tryd.f54 1) [0, 5, 6, 14, 15, 18, 19] [0, 5, 14, 15] [.one (.data (.recs [.sints .i64] p)), .one (.int .i64 s), .one (.int .i64 i), .one (.int .i64 n), .one (.int .i64 g), .one (.int .i64 m), .one (.int .i64 j)] [] K = (
 bif decide (j < m) then
 bif decide ((0 : Int) ≤ i) && decide (i < (↑p.length : Int)) then
 bif decide ((0 : Nat) < (1 : Nat)) && decide (i.toNat < p.length) then
 bif
 decide ((0 : Int) ≤ j) &&
 decide (j < (↑((p.getD i.toNat []).getD (0 : Nat) (D.int (0 : Int))).toInts.length : Int)) then
 bif decide (j.toNat + (0 : Nat) < ((p.getD i.toNat []).getD (0 : Nat) (D.int (0 : Int))).toInts.length) then
 bif decide ((0 : Int) ≤ j) && decide (j < (↑p.length : Int)) then
 bif decide ((0 : Nat) < (1 : Nat)) && decide (j.toNat < p.length) then
 bif
 decide ((0 : Int) ≤ i) &&
 decide (i < (↑((p.getD j.toNat []).getD (0 : Nat) (D.int (0 : Int))).toInts.length : Int)) then
 bif
 decide
 (i.toNat + (0 : Nat) < ((p.getD j.toNat []).getD (0 : Nat) (D.int (0 : Int))).toInts.length) then
 K Ex.normal
 [AV.one (SV.data (Row.recs [CK.sints IntKind.i64] p)),
 AV.one
 (SV.int IntKind.i64
 (IntKind.i64.wrap
 (s +
 if
 ((p.getD j.toNat []).getD (0 : Nat) (D.int (0 : Int))).toInts.getD
 (i.toNat + (0 : Nat)) (0 : Int) <
 ((p.getD i.toNat []).getD (0 : Nat) (D.int (0 : Int))).toInts.getD
 (j.toNat + (0 : Nat)) (0 : Int) then
 ((p.getD j.toNat []).getD (0 : Nat) (D.int (0 : Int))).toInts.getD (i.toNat + (0 : Nat))
 (0 : Int)
 else
 ((p.getD i.toNat []).getD (0 : Nat) (D.int (0 : Int))).toInts.getD (j.toNat + (0 : Nat))
 (0 : Int)))),
 AV.one (SV.int IntKind.i64 i), AV.one (SV.int IntKind.i64 n), AV.one (SV.int IntKind.i64 g),
 AV.one (SV.int IntKind.i64 m), AV.one (SV.int IntKind.i64 (IntKind.i64.wrap (j + (1 : Int))))]
 []
 else False
 else False
 else False
 else False
 else False
 else False
 else False
 else False
 else
 K (Ex.exit (2 : Nat))
 [AV.one (SV.data (Row.recs [CK.sints IntKind.i64] p)), AV.one (SV.int IntKind.i64 s), AV.one (SV.int IntKind.i64 n),
 AV.one (SV.int IntKind.i64 g)]
 []) := by kernel_rfl
theorem exrbn (p : List (List D)) (K : AV → List Blk → Prop) : evFn Erbn Tryd.f57 [.one (.data (.recs [.sints .i64] p))] [] K = (
 ((p.length ≤ (6 : Nat) ∧
 ∀ (d : List D), d ∈ p → (rowI d).length = p.length ∧ ∀ (n : Int), n ∈ rowI d → (0 : Int) ≤ n ∧ n ≤ (1000 : Int)) ∧
 (0 : Int) ≤ (0 : Int) ∧ (0 : Int) ≤ (↑p.length : Int) ∧ (0 : Int) ≤ (0 : Int) ∧ (0 : Int) ≤ (0 : Int)) ∧
 K (AV.one (SV.int IntKind.i64 ((0 : Int) + triR (minP p) (upTo p.length)))) []) := by kernel_rfl
theorem exrbnl0a (p : List (List D)) (s i : Int) (K : Ex → List AV → List Blk → Prop) : evBody Erbn (lb Tryd.f57 0) [0, 3, 4] [3] [.one (.data (.recs [.sints .i64] p)), .one (.int .i64 s), .one (.int .i64 i)] [] K = (
 bif decide (i < (↑p.length : Int)) then
 ((p.length ≤ (6 : Nat) ∧
 ∀ (d : List D),
 d ∈ p → (rowI d).length = p.length ∧ ∀ (n : Int), n ∈ rowI d → (0 : Int) ≤ n ∧ n ≤ (1000 : Int)) ∧
 (0 : Int) ≤ i ∧
 i < (↑p.length : Int) ∧
 i + (1 : Int) ≤ IntKind.i64.wrap (i + (1 : Int)) ∧
 IntKind.i64.wrap (i + (1 : Int)) ≤ (↑p.length : Int) ∧
 (0 : Int) ≤ s ∧ s ≤ (6000 : Int) * i + (1000 : Int) * IntKind.i64.wrap (i + (1 : Int))) ∧
 K Ex.normal
 [AV.one (SV.data (Row.recs [CK.sints IntKind.i64] p)),
 AV.one
 (SV.int IntKind.i64
 (s + colS (minP p) i (List.drop (IntKind.i64.wrap (i + (1 : Int))).toNat (upTo p.length)))),
 AV.one (SV.int IntKind.i64 (IntKind.i64.wrap (i + (1 : Int))))]
 []
 else K (Ex.exit (0 : Nat)) [AV.one (SV.int IntKind.i64 s)] []) := by kernel_rfl
theorem exrbnl1a (p : List (List D)) (s i j : Int) (K : Ex → List AV → List Blk → Prop) : evBody Erbn (lb Tryd.f57 1) [0, 3, 4, 5] [0, 3, 4] [.one (.data (.recs [.sints .i64] p)), .one (.int .i64 s), .one (.int .i64 i), .one (.int .i64 j)] [] K = (
 bif decide (j < (↑p.length : Int)) then
 bif decide ((0 : Int) ≤ i) && decide (i < (↑p.length : Int)) then
 bif decide ((0 : Nat) < (1 : Nat)) && decide (i.toNat < p.length) then
 bif
 decide ((0 : Int) ≤ j) &&
 decide (j < (↑((p.getD i.toNat []).getD (0 : Nat) (D.int (0 : Int))).toInts.length : Int)) then
 bif decide (j.toNat + (0 : Nat) < ((p.getD i.toNat []).getD (0 : Nat) (D.int (0 : Int))).toInts.length) then
 bif decide ((0 : Int) ≤ j) && decide (j < (↑p.length : Int)) then
 bif decide ((0 : Nat) < (1 : Nat)) && decide (j.toNat < p.length) then
 bif
 decide ((0 : Int) ≤ i) &&
 decide (i < (↑((p.getD j.toNat []).getD (0 : Nat) (D.int (0 : Int))).toInts.length : Int)) then
 bif
 decide
 (i.toNat + (0 : Nat) < ((p.getD j.toNat []).getD (0 : Nat) (D.int (0 : Int))).toInts.length) then
 K Ex.normal
 [AV.one (SV.data (Row.recs [CK.sints IntKind.i64] p)),
 AV.one
 (SV.int IntKind.i64
 (IntKind.i64.wrap
 (s +
 if
 ((p.getD j.toNat []).getD (0 : Nat) (D.int (0 : Int))).toInts.getD
 (i.toNat + (0 : Nat)) (0 : Int) <
 ((p.getD i.toNat []).getD (0 : Nat) (D.int (0 : Int))).toInts.getD
 (j.toNat + (0 : Nat)) (0 : Int) then
 ((p.getD j.toNat []).getD (0 : Nat) (D.int (0 : Int))).toInts.getD (i.toNat + (0 : Nat))
 (0 : Int)
 else
 ((p.getD i.toNat []).getD (0 : Nat) (D.int (0 : Int))).toInts.getD (j.toNat + (0 : Nat))
 (0 : Int)))),
 AV.one (SV.int IntKind.i64 i), AV.one (SV.int IntKind.i64 (IntKind.i64.wrap (j + (1 : Int))))]
 []
 else False
 else False
 else False
 else False
 else False
 else False
 else False
 else False
 else
 K (Ex.exit (2 : Nat))
 [AV.one (SV.data (Row.recs [CK.sints IntKind.i64] p)), AV.one (SV.int IntKind.i64 s), AV.one (SV.int IntKind.i64 i)]
 []) := by kernel_rfl
theorem exbef (a b : List Int) (K : AV → List Blk → Prop) : evFn Ebef Tryd.f60 [.one (.data (.ints .i64 a)), .one (.data (.ints .i64 b))] [] K = (
 (a.length ≤ (1000000000 : Nat) ∧ b.length ≤ (1000000000 : Nat) ∧ (0 : Int) ≤ (0 : Int)) ∧
 bif difG a b then K (AV.one (SV.bool (befG a b))) []
 else K (AV.one (SV.bool (decide ((↑a.length : Int) < (↑b.length : Int))))) []) := by kernel_rfl
theorem exbefl0a (a b : List Int) (i : Int) (K : Ex → List AV → List Blk → Prop) : evBody Ebef (lb Tryd.f60 0) [0, 1, 5] [0, 1, 4] [.one (.data (.ints .i64 a)), .one (.data (.ints .i64 b)), .one (.int .i64 i)] [] K = (
 bif decide (i < (↑a.length : Int)) then
 bif decide (i < (↑b.length : Int)) then
 bif decide ((0 : Int) ≤ i) && decide (i < (↑a.length : Int)) then
 bif decide (i.toNat + (0 : Nat) < a.length) then
 bif decide ((0 : Int) ≤ i) && decide (i < (↑b.length : Int)) then
 bif decide (i.toNat + (0 : Nat) < b.length) then
 bif a.getD (i.toNat + (0 : Nat)) (0 : Int) != b.getD (i.toNat + (0 : Nat)) (0 : Int) then
 bif decide ((0 : Int) ≤ i) && decide (i < (↑a.length : Int)) then
 bif decide (i.toNat + (0 : Nat) < a.length) then
 bif decide ((0 : Int) ≤ i) && decide (i < (↑b.length : Int)) then
 bif decide (i.toNat + (0 : Nat) < b.length) then
 K Ex.ret
 [AV.one (SV.data (Row.ints IntKind.i64 a)), AV.one (SV.data (Row.ints IntKind.i64 b)),
 AV.one
 (SV.bool
 (decide
 (a.getD (i.toNat + (0 : Nat)) (0 : Int) < b.getD (i.toNat + (0 : Nat)) (0 : Int))))]
 []
 else False
 else False
 else False
 else False
 else
 K Ex.normal
 [AV.one (SV.data (Row.ints IntKind.i64 a)), AV.one (SV.data (Row.ints IntKind.i64 b)),
 AV.one (SV.int IntKind.i64 (IntKind.i64.wrap (i + (1 : Int))))]
 []
 else False
 else False
 else False
 else False
 else
 K (Ex.exit (0 : Nat)) [AV.one (SV.data (Row.ints IntKind.i64 a)), AV.one (SV.data (Row.ints IntKind.i64 b)), AV.any]
 []
 else
 K (Ex.exit (0 : Nat)) [AV.one (SV.data (Row.ints IntKind.i64 a)), AV.one (SV.data (Row.ints IntKind.i64 b)), AV.any]
 []) := by kernel_rfl
theorem exrbe (p : List (List D)) (K : AV → List Blk → Prop) : evFn Erbe Tryd.f56 [.one (.data (.recs [.sints .i64] p))] [] K = (
 ((0 : Int) ≤ (↑p.length : Int) ∧ (↑p.length : Int) ≤ (6 : Int) ∧ (0 : Nat) = (0 : Nat)) ∧
 bif
 decide ((0 : Int) ≤ (0 : Int)) &&
 decide ((0 : Int) < (↑(List.map ordD (allO (↑p.length : Int))).length : Int)) then
 bif decide ((0 : Nat) < (1 : Nat)) && decide ((0 : Nat) < (List.map ordD (allO (↑p.length : Int))).length) then
 ((p.length ≤ (6 : Nat) ∧
 ∀ (d : List D),
 d ∈ p → (rowI d).length = p.length ∧ ∀ (n : Int), n ∈ rowI d → (0 : Int) ≤ n ∧ n ≤ (1000 : Int)) ∧
 okOb p.length
 (((List.map ordD (allO (↑p.length : Int))).getD (0 : Nat) []).getD (0 : Nat) (D.int (0 : Int))).toInts =
 true ∧
 (List.map ordD (allO (↑p.length : Int))).all (okOd p.length) = true ∧
 (List.map ordD (allO (↑p.length : Int))).length ≤ (1000000 : Nat) ∧
 (0 : Int) ≤ (1 : Int) ∧ (1 : Int) ≤ (↑(List.map ordD (allO (↑p.length : Int))).length : Int)) ∧
 ((p.length ≤ (6 : Nat) ∧
 ∀ (d : List D),
 d ∈ p → (rowI d).length = p.length ∧ ∀ (n : Int), n ∈ rowI d → (0 : Int) ≤ n ∧ n ≤ (1000 : Int)) ∧
 okOb p.length
 (rbF p
 (((List.map ordD (allO (↑p.length : Int))).getD (0 : Nat) []).getD (0 : Nat) (D.int (0 : Int))).toInts
 (List.drop (1 : Nat) (List.map ordD (allO (↑p.length : Int))))) =
 true) ∧
 K
 (AV.tup
 [TV.one
 (SV.data
 (Row.ints IntKind.i64
 (rbF p
 (((List.map ordD (allO (↑p.length : Int))).getD (0 : Nat) []).getD (0 : Nat)
 (D.int (0 : Int))).toInts
 (List.drop (1 : Nat) (List.map ordD (allO (↑p.length : Int))))))),
 TV.one
 (SV.int IntKind.i64
 (disG p
 (rbF p
 (((List.map ordD (allO (↑p.length : Int))).getD (0 : Nat) []).getD (0 : Nat)
 (D.int (0 : Int))).toInts
 (List.drop (1 : Nat) (List.map ordD (allO (↑p.length : Int)))))))])
 []
 else False
 else False) := by kernel_rfl
theorem exrbel0a (p a : List (List D)) (b : List Int) (i : Int) (K : Ex → List AV → List Blk → Prop) : evBody Erbe (lb Tryd.f56 0) [0, 4, 5, 6] [0, 5] [.one (.data (.recs [.sints .i64] p)), .one (.data (.recs [.sints .i64] a)), .one (.data (.ints .i64 b)), .one (.int .i64 i)] [] K = (
 bif decide (i < (↑a.length : Int)) then
 bif decide ((0 : Int) ≤ i) && decide (i < (↑a.length : Int)) then
 bif decide ((0 : Nat) < (1 : Nat)) && decide (i.toNat < a.length) then
 ((p.length ≤ (6 : Nat) ∧
 ∀ (d : List D),
 d ∈ p → (rowI d).length = p.length ∧ ∀ (n : Int), n ∈ rowI d → (0 : Int) ≤ n ∧ n ≤ (1000 : Int)) ∧
 okOb p.length ((a.getD i.toNat []).getD (0 : Nat) (D.int (0 : Int))).toInts = true) ∧
 ((p.length ≤ (6 : Nat) ∧
 ∀ (d : List D),
 d ∈ p → (rowI d).length = p.length ∧ ∀ (n : Int), n ∈ rowI d → (0 : Int) ≤ n ∧ n ≤ (1000 : Int)) ∧
 okOb p.length b = true) ∧
 bif decide (disG p ((a.getD i.toNat []).getD (0 : Nat) (D.int (0 : Int))).toInts < disG p b) then
 bif decide ((0 : Int) ≤ i) && decide (i < (↑a.length : Int)) then
 bif decide ((0 : Nat) < (1 : Nat)) && decide (i.toNat < a.length) then
 K Ex.normal
 [AV.one (SV.data (Row.recs [CK.sints IntKind.i64] p)),
 AV.one (SV.data (Row.recs [CK.sints IntKind.i64] a)),
 AV.one
 (SV.data (Row.ints IntKind.i64 ((a.getD i.toNat []).getD (0 : Nat) (D.int (0 : Int))).toInts)),
 AV.one (SV.int IntKind.i64 (IntKind.i64.wrap (i + (1 : Int))))]
 []
 else False
 else False
 else
 K Ex.normal
 [AV.one (SV.data (Row.recs [CK.sints IntKind.i64] p)),
 AV.one (SV.data (Row.recs [CK.sints IntKind.i64] a)), AV.one (SV.data (Row.ints IntKind.i64 b)),
 AV.one (SV.int IntKind.i64 (IntKind.i64.wrap (i + (1 : Int))))]
 []
 else False
 else False
 else
 K (Ex.exit (0 : Nat))
 [AV.one (SV.data (Row.recs [CK.sints IntKind.i64] p)), AV.one (SV.data (Row.ints IntKind.i64 b))] []) := by kernel_rfl
end Go.Ev

namespace Go.Ev
open Go Go.Proofs
attribute [local irreducible] evFn evBody evRound
set_option maxRecDepth 20000

theorem and2 {a b : Bool} (h1 : a = true) (h2 : b = true) : (a && b) = true := by rw [h1, h2]; rfl
theorem getD_mem {α : Type} {l : List α} {i : Nat} {d : α} (h : i < l.length) : l.getD i d ∈ l := by rw [getD_of_lt h]; exact List.getElem_mem h
theorem take_step {α : Type} {l : List α} {i : Nat} (d : α) (h : i < l.length) : l.take (i + 1) = l.take i ++ [l.getD i d] := by rw [getD_of_lt h, List.take_succ_eq_append_getElem h]

/-! ### Copies, shapes -/
theorem clstep {p : List (List D)} (hp : okL p) {i : Nat} (h : i < p.length) : p.take i ++ [[D.ints (rowD p i)]] = p.take (i + 1) ∧ (rowD p i).length ≤ 1000000000000 := by
  obtain ⟨e1, e2⟩ := hp.2 _ (getD_mem (d := []) h)
  rw [take_step [] h]
  exact ⟨by congr 2; exact e1.symm, e2⟩
theorem lokcls_0 : LoopOK Ecls (lb Tryd.f52 0) [0, 3, 4] [3] clL := by
  refine loopOK (.cons okcopyD .nil) (noInner (by kernel_rfl)) (fun vs σ => match vs, σ with
    | [.one (.data (.recs [.sints .i64] p)), .one .nil, .one (.int .i64 i)], [] => (p.length - i).toNat
    | [.one (.data (.recs [.sints .i64] p)), .one (.own 0 1), .one (.int .i64 i)], [.row 24 (.recs [.sints .i64] _)] => (p.length - i).toNat
    | _, _ => 0) fun vs σ k h => ?_
  unfold clL at h
  split at h
  rotate_right
  · exact h.elim
  · rename_i p i
    rw [exclsl0a p i _]
    obtain ⟨⟨hp, rfl⟩, h⟩ := h
    by_cases hi : 0 < p.length
    · have he : p.isEmpty = false := by cases p with | nil => simp at hi | cons a l => rfl
      rw [he] at h
      obtain ⟨c1, c2⟩ := clstep hp hi
      have w2 : IntKind.i64.wrap ((0 : Int) + 1) = 0 + 1 := by decide
      rw [w2, decide_eq_true (show (0 : Int) < (p.length : Int) by omega), decide_eq_true (show (0 : Int).toNat < p.length from hi), decide_eq_true (show (0 : Int) ≤ 0 by decide)]
      exact ⟨c2, ⟨⟨hp, by decide, by omega, c1⟩, h⟩, by show ((p.length : Int) - (0 + 1)).toNat < ((p.length : Int) - 0).toNat; omega⟩
    · have he : p.isEmpty = true := by cases p with | nil => rfl | cons a l => simp at hi
      rw [he] at h
      rw [decide_eq_false (show ¬ (0 : Int) < (p.length : Int) by omega)]
      exact h
  · rename_i p i q
    rw [exclsl0b p i q _]
    obtain ⟨⟨hp, h0, h1, rfl⟩, h⟩ := h
    by_cases hi : i < (p.length : Int)
    · obtain ⟨c1, c2⟩ := clstep hp (show i.toNat < p.length by omega)
      have hp1 := hp.1
      have w2 : IntKind.i64.wrap (i + 1) = i + 1 := wrap_id (by omega) (by omega)
      rw [w2, decide_eq_true hi, decide_eq_true (show i.toNat < p.length by omega), decide_eq_true h0]
      have hlen : (p.take i.toNat ++ [[D.ints (rowD p i.toNat)]]).length = i.toNat + 1 := by rw [c1, List.length_take]; omega
      refine ⟨c2, cond_in (decide_eq_true ?_) ⟨⟨⟨hp, by omega, by omega, by rw [show (i + 1).toNat = i.toNat + 1 by omega]; exact c1⟩, h⟩, by show ((p.length : Int) - (i + 1)).toNat < ((p.length : Int) - i).toNat; omega⟩⟩
      show (p.take i.toNat ++ [[D.ints (rowD p i.toNat)]]).length * 24 ≤ _ ∧ (p.take i.toNat ++ [[D.ints (rowD p i.toNat)]]).length ≤ _
      rw [hlen]
      omega
    · rw [decide_eq_false hi]
      rw [List.take_of_length_le (by omega)]
      exact h
theorem okcls : SpecOK Tryd.prog 52 clS := by
  refine specOK (n := 20) (m := 0) (lps := [(3, .spec [0, 3, 4] [3] clL)]) (.cons okcopyD .nil) Tryd.func52 (by kernel_rfl) (by kernel_rfl) (theLoops (n := 1) (by kernel_rfl) fun i hi => ?_) fun args σ K h => ?_
  · match i, hi with
    | 0, _ => exact loopHyp_of (key := 3) (by kernel_rfl) rfl lokcls_0
  unfold clS at h
  split at h
  rotate_right
  · exact h.elim
  rename_i p
  rw [excls p K]
  obtain ⟨hp, h⟩ := h
  exact ⟨⟨hp, rfl⟩, h⟩
theorem okclD : SpecOK Tryd.prog 52 clDS := by
  refine okcls.froze fun args σ K h => ?_
  unfold clDS at h
  split at h
  · rename_i p
    obtain ⟨h1, h⟩ := h
    refine ⟨rfl, h1, ?_⟩
    cases hg : p.isEmpty with
    | true =>
      refine ⟨_, ?_, h⟩
      exact .inr ⟨_, (by show p.length = 0; rw [List.isEmpty_iff.1 hg]; rfl), rfl⟩
    | false =>
      refine ⟨_, ?_, h⟩
      exact ⟨_, _, rfl, rfl, rfl⟩
  · exact h.elim
theorem lokshr_0 : LoopOK Eshr (lb Tryd.f50 0) [0, 3] [2] shpL := by
  refine loopOK .nil (noInner (by kernel_rfl)) (fun vs σ => match vs, σ with
    | [.one (.data (.recs [.sints .i64] p)), .one (.int .i64 i)], [] => (p.length - i).toNat
    | _, _ => 0) fun vs σ k h => ?_
  unfold shpL at h
  split at h
  rotate_right
  · exact h.elim
  · rename_i p i
    rw [exshrl0a p i _]
    obtain ⟨⟨h1, h2⟩, h⟩ := h
    by_cases hi : i < (p.length : Int)
    · have w2 : IntKind.i64.wrap (i + 1) = i + 1 := wrap_id (by omega) (by omega)
      rw [w2, decide_eq_true hi, decide_eq_true (show i.toNat < p.length by omega), decide_eq_true h2]
      rw [drop_step [] (show i.toNat < p.length by omega), List.all_cons, show i.toNat + 1 = (i + 1).toNat by omega] at h
      have er : ((p.getD i.toNat []).getD (0 : Nat) (D.int 0)).toInts = rowD p i.toNat := rfl
      simp only [er, cond_true, Bool.and_self, decide_true, Nat.zero_lt_one]
      by_cases hr : ((rowD p i.toNat).length : Int) > 8
      · have e : rowOk8 (p.getD i.toNat []) = false := decide_eq_false (show ¬ ((rowD p i.toNat).length : Int) ≤ 8 by omega)
        rw [e] at h
        exact cond_then (decide_eq_true hr) h
      · have e : rowOk8 (p.getD i.toNat []) = true := decide_eq_true (show ((rowD p i.toNat).length : Int) ≤ 8 by omega)
        rw [e, Bool.true_and] at h
        exact cond_else (decide_eq_false hr) ⟨⟨⟨h1, by omega⟩, h⟩, by show ((p.length : Int) - (i + 1)).toNat < ((p.length : Int) - i).toNat; omega⟩
    · rw [decide_eq_false hi]
      rw [List.drop_eq_nil_of_le (by omega)] at h
      exact h
theorem okshr : SpecOK Tryd.prog 50 shpS := by
  refine specOK (n := 19) (m := 0) (lps := [(4, .spec [0, 3] [2] shpL)]) .nil Tryd.func50 (by kernel_rfl) (by kernel_rfl) (theLoops (n := 1) (by kernel_rfl) fun i hi => ?_) fun args σ K h => ?_
  · match i, hi with
    | 0, _ => exact loopHyp_of (key := 4) (by kernel_rfl) rfl lokshr_0
  unfold shpS at h
  split at h
  rotate_right
  · exact h.elim
  rename_i p
  rw [exshr p K]
  unfold shortP at h
  by_cases hl : (p.length : Int) > 8
  · rw [decide_eq_true hl]
    rw [decide_eq_false (show ¬ (p.length : Int) ≤ 8 by omega)] at h
    exact h
  · rw [decide_eq_false hl]
    rw [decide_eq_true (show (p.length : Int) ≤ 8 by omega), Bool.true_and] at h
    refine ⟨⟨by omega, by decide⟩, ?_⟩
    cases ha : p.all rowOk8 with
    | true => rw [ha] at h; exact h
    | false => rw [ha] at h; exact h

/-! ### Preferences, the reference -/
theorem okSh_row {p : List (List D)} (hp : okSh p) {i : Nat} (h : i < p.length) : (rowD p i).length = p.length := hp.2 _ (getD_mem (d := []) h)
theorem lokrpr_2 : LoopOK Erpr (lb Tryd.f55 2) [0, 4, 5] [0, 2, 4] rprC := by
  refine loopOK (.cons ok25 .nil) (noInner (by kernel_rfl)) (fun vs σ => match vs, σ with
    | [.one (.data (.recs [.sints .i64] p)), .one (.int .i64 _), .one (.int .i64 j)], [] => (p.length - j).toNat
    | _, _ => 0) fun vs σ k h => ?_
  unfold rprC at h
  split at h
  rotate_right
  · exact h.elim
  · rename_i p i j
    rw [exrprl2a p i j _]
    obtain ⟨⟨hp, h0, h1, h2, h3⟩, h⟩ := h
    have hp6 := hp.1
    have hlen := okSh_row hp (show i.toNat < p.length by omega)
    by_cases hj : j < (p.length : Int)
    · have w2 : IntKind.i64.wrap (j + 1) = j + 1 := wrap_id (by omega) (by omega)
      rw [rowE_step h2 (by rw [hlen]; exact hj)] at h
      have er : ((p.getD i.toNat []).getD (0 : Nat) (D.int 0)).toInts = rowD p i.toNat := rfl
      rw [w2, decide_eq_true hj, er, decide_eq_true h0, decide_eq_true h1, decide_eq_true (show i.toNat < p.length by omega), decide_eq_true h2, decide_eq_true (show j < ((rowD p i.toNat).length : Int) by rw [hlen]; exact hj),
        decide_eq_true (show j.toNat + 0 < (rowD p i.toNat).length by omega)]
      simp only [cond_true, Bool.and_self, Nat.add_zero, decide_true, Nat.zero_lt_one]
      unfold cellE withinG at h
      generalize (rowD p i.toNat).getD j.toNat 0 = v at *
      have hmu : ((p.length : Int) - (j + 1)).toNat < ((p.length : Int) - j).toNat := by omega
      cases hr : (decide (0 ≤ v) && decide (v ≤ 1000)) with
      | false => rw [hr] at h; exact h
      | true =>
        rw [hr] at h
        by_cases hij : i = j
        · subst hij
          have b1 : (i == i) = true := beq_self_eq_true i
          have b2 : (i != i) = false := bne_self_eq_false i
          rw [b1]
          rw [b2] at h
          by_cases hv : v = 0
          · subst hv
            exact ⟨⟨⟨hp, h0, h1, by omega, by omega⟩, h⟩, hmu⟩
          · have c1 : (v == 0) = false := beq_eq_false_iff_ne.2 hv
            have c2 : (v != 0) = true := by rw [bne, c1]; rfl
            rw [c1] at h
            rw [c2]
            exact h
        · have b1 : (i == j) = false := beq_eq_false_iff_ne.2 hij
          have b2 : (i != j) = true := by rw [bne, b1]; rfl
          rw [b1]
          rw [b2] at h
          exact ⟨⟨⟨hp, h0, h1, by omega, by omega⟩, h⟩, hmu⟩
    · rw [decide_eq_false hj]
      rw [List.drop_eq_nil_of_le (by omega)] at h
      exact h
theorem lokrpr_1 : LoopOK Erpr (lb Tryd.f55 1) [0, 4] [2] rprB := by
  refine loopOK (.cons ok25 .nil) (fun b' hb => by
    have hl : loopsOf (lb Tryd.f55 1) = [lb Tryd.f55 2] := by kernel_rfl
    rw [hl] at hb
    simp only [List.mem_cons, List.not_mem_nil, or_false] at hb
    subst hb
    exact loopHyp_of (key := 12) (by kernel_rfl) rfl lokrpr_2) (fun vs σ => match vs, σ with
    | [.one (.data (.recs [.sints .i64] p)), .one (.int .i64 i)], [] => (p.length - i).toNat
    | _, _ => 0) fun vs σ k h => ?_
  unfold rprB at h
  split at h
  rotate_right
  · exact h.elim
  · rename_i p i
    rw [exrprl1a p i _]
    obtain ⟨⟨hp, h0, h1⟩, h⟩ := h
    have hp6 := hp.1
    by_cases hi : i < (p.length : Int)
    · have w2 : IntKind.i64.wrap (i + 1) = i + 1 := wrap_id (by omega) (by omega)
      rw [rowsE_step h0 hi] at h
      rw [w2, decide_eq_true hi]
      refine ⟨⟨hp, h0, hi, by decide, by omega⟩, ?_⟩
      by_cases hr : rowE i 0 (rowD p i.toNat) = 0
      · rw [hr] at h ⊢
        exact ⟨⟨⟨hp, by omega, by omega⟩, h⟩, by show ((p.length : Int) - (i + 1)).toNat < ((p.length : Int) - i).toNat; omega⟩
      · have c1 : (rowE i 0 (rowD p i.toNat) == 0) = false := beq_eq_false_iff_ne.2 hr
        rw [c1] at h ⊢
        simp only [cond_false, c1] at h
        exact h
    · rw [decide_eq_false hi]
      rw [List.drop_eq_nil_of_le (by omega)] at h
      exact h
theorem lokrpr_0 : LoopOK Erpr (lb Tryd.f55 0) [0, 3] [0, 2] rprA := by
  refine loopOK (.cons ok25 .nil) (noInner (by kernel_rfl)) (fun vs σ => match vs, σ with
    | [.one (.data (.recs [.sints .i64] p)), .one (.int .i64 i)], [] => (p.length - i).toNat
    | _, _ => 0) fun vs σ k h => ?_
  unfold rprA at h
  split at h
  rotate_right
  · exact h.elim
  · rename_i p i
    rw [exrprl0a p i _]
    obtain ⟨⟨h1, h0⟩, h⟩ := h
    by_cases hi : i < (p.length : Int)
    · have w2 : IntKind.i64.wrap (i + 1) = i + 1 := wrap_id (by omega) (by omega)
      rw [anySh_step h0 hi] at h
      rw [w2, decide_eq_true hi, decide_eq_true h0, decide_eq_true (show i.toNat < p.length by omega)]
      have er : ((p.getD i.toNat []).getD (0 : Nat) (D.int 0)).toInts = rowD p i.toNat := rfl
      simp only [er, cond_true, Bool.and_self, decide_true, Nat.zero_lt_one]
      cases hr : (((rowD p i.toNat).length : Int) != (p.length : Int)) with
      | true => rw [hr] at h; exact h
      | false =>
        rw [hr, Bool.false_or] at h
        exact ⟨⟨⟨h1, by omega⟩, h⟩, by show ((p.length : Int) - (i + 1)).toNat < ((p.length : Int) - i).toNat; omega⟩
    · rw [decide_eq_false hi]
      rw [List.drop_eq_nil_of_le (by omega)] at h
      exact h
theorem okrpr : SpecOK Tryd.prog 55 prefS := by
  refine specOK (n := 57) (m := 0) (lps := [(4, .spec [0, 3] [0, 2] rprA), (9, .spec [0, 4] [2] rprB), (12, .spec [0, 4, 5] [0, 2, 4] rprC)]) (.cons ok25 .nil) Tryd.func55 (by kernel_rfl) (by kernel_rfl) (theLoops (n := 3) (by kernel_rfl) fun i hi => ?_) fun args σ K h => ?_
  · match i, hi with
    | 0, _ => exact loopHyp_of (key := 4) (by kernel_rfl) rfl lokrpr_0
    | 1, _ => exact loopHyp_of (key := 9) (by kernel_rfl) rfl lokrpr_1
    | 2, _ => exact loopHyp_of (key := 12) (by kernel_rfl) rfl lokrpr_2
  unfold prefS at h
  split at h
  rotate_right
  · exact h.elim
  rename_i p
  rw [exrpr p K]
  obtain ⟨h1, h⟩ := h
  by_cases hl : (p.length : Int) > 6
  · have e1 : headE p = 8 := by unfold headE; rw [decide_eq_false (show ¬ (p.length : Int) ≤ 6 by omega)]; rfl
    have e2 : prefE p = 8 := by unfold prefE; rw [e1]; rfl
    rw [e2] at h
    rw [decide_eq_true hl]
    exact h
  · rw [decide_eq_false hl]
    refine ⟨⟨by omega, by decide⟩, ?_⟩
    cases ha : anySh (p.length : Int) p with
    | true =>
      have e1 : headE p = 10 := by unfold headE; rw [decide_eq_true (show (p.length : Int) ≤ 6 by omega), ha]; rfl
      have e2 : prefE p = 10 := by unfold prefE; rw [e1]; rfl
      rw [e2] at h
      exact h
    | false =>
      have e1 : headE p = 0 := by unfold headE; rw [decide_eq_true (show (p.length : Int) ≤ 6 by omega), ha]; rfl
      have e2 : prefE p = rowsE 0 p := by unfold prefE; rw [e1]; rfl
      rw [e2] at h
      refine ⟨⟨headE_zero e1, by decide, by omega⟩, ?_⟩
      by_cases hr : rowsE 0 p = 0
      · rw [hr] at h ⊢; exact h
      · have c1 : (rowsE 0 p == 0) = false := beq_eq_false_iff_ne.2 hr
        rw [c1]; exact h

/-! ### Orders: errors -/
theorem ordF_step {c : Int} {o : List Int} {i : Nat} (h : i < o.length) : ordF c (o.take i) (o.drop i) =
    bif withinG (o.getD i 0) 0 (c - 1) then (bif memB (o.getD i 0) (o.take i) then 25 else ordF c (o.take (i + 1)) (o.drop (i + 1))) else 6 := by
  rw [take_step 0 h]
  conv => lhs; rw [drop_step 0 h]
  rfl
theorem lokore_0 : LoopOK Eore (lb Tryd.f58 0) [0, 1, 5] [4] ordL := by
  refine loopOK (.cons ok25 (.cons okhav .nil)) (noInner (by kernel_rfl)) (fun vs σ => match vs, σ with
    | [.one (.data (.recs [.sints .i64] _)), .one (.data (.ints .i64 o)), .one (.int .i64 i)], [] => (o.length - i).toNat
    | _, _ => 0) fun vs σ k h => ?_
  unfold ordL at h
  split at h
  rotate_right
  · exact h.elim
  · rename_i p o i
    rw [exorel0a p o i _]
    obtain ⟨⟨h1, h2, h0⟩, h⟩ := h
    by_cases hi : i < (o.length : Int)
    · have w2 : IntKind.i64.wrap (i + 1) = i + 1 := wrap_id (by omega) (by omega)
      have w3 : IntKind.i64.wrap ((p.length : Int) - 1) = (p.length : Int) - 1 := wrap_id (by omega) (by omega)
      rw [ordF_step (show i.toNat < o.length by omega), show i.toNat + 1 = (i + 1).toNat by omega] at h
      unfold withinG at h
      rw [w2, w3, decide_eq_true hi, decide_eq_true h0, decide_eq_true (show i.toNat + 0 < o.length by omega), decide_eq_true (show i.toNat ≤ o.length by omega), decide_eq_true (show 0 ≤ i.toNat by omega)]
      simp only [cond_true, Bool.and_self, Nat.add_zero, Nat.sub_zero]
      cases hr : (decide (0 ≤ o.getD i.toNat 0) && decide (o.getD i.toNat 0 ≤ (p.length : Int) - 1)) with
      | false => rw [hr] at h; exact h
      | true =>
        rw [hr] at h
        refine ⟨by rw [List.length_take]; omega, ?_⟩
        cases hm : memB (o.getD i.toNat 0) (o.take i.toNat) with
        | true => rw [hm] at h; exact h
        | false =>
          rw [hm] at h
          exact ⟨⟨⟨h1, h2, by omega⟩, h⟩, by show ((o.length : Int) - (i + 1)).toNat < ((o.length : Int) - i).toNat; omega⟩
    · rw [decide_eq_false hi]
      rw [List.drop_eq_nil_of_le (by omega)] at h
      exact h
theorem okore : SpecOK Tryd.prog 58 ordSp := by
  refine specOK (n := 34) (m := 0) (lps := [(4, .spec [0, 1, 5] [4] ordL)]) (.cons ok25 (.cons okhav .nil)) Tryd.func58 (by kernel_rfl) (by kernel_rfl) (theLoops (n := 1) (by kernel_rfl) fun i hi => ?_) fun args σ K h => ?_
  · match i, hi with
    | 0, _ => exact loopHyp_of (key := 4) (by kernel_rfl) rfl lokore_0
  unfold ordSp at h
  split at h
  rotate_right
  · exact h.elim
  rename_i p o
  rw [exore p o K]
  obtain ⟨⟨h1, h2⟩, h⟩ := h
  unfold ordE at h
  cases hn : ((o.length : Int) != (p.length : Int)) with
  | true => rw [hn] at h; exact h
  | false =>
    rw [hn] at h
    refine ⟨⟨h1, h2, by decide⟩, ?_⟩
    by_cases hr : ordF (p.length : Int) [] o = 0
    · simp only [cond_false] at h
      rw [hr] at h ⊢; exact h
    · have c1 : (ordF (p.length : Int) [] o == 0) = false := beq_eq_false_iff_ne.2 hr
      rw [c1]; exact h
theorem ordF_zero {c : Int} : ∀ (l pre : List Int), ordF c pre l = 0 → (∀ x ∈ l, 0 ≤ x ∧ x < c) ∧ l.Nodup ∧ ∀ x ∈ l, x ∉ pre
  | [], pre, _ => ⟨fun x h => by simp at h, List.nodup_nil, fun x h => by simp at h⟩
  | x :: l, pre, h => by
    simp only [ordF] at h
    cases hw : withinG x 0 (c - 1) with
    | false => rw [hw] at h; simp at h
    | true =>
      rw [hw, cond_true] at h
      cases hm : memB x pre with
      | true => rw [hm] at h; simp at h
      | false =>
        rw [hm, cond_false] at h
        obtain ⟨h1, h2, h3⟩ := ordF_zero l (pre ++ [x]) h
        unfold withinG at hw
        simp only [Bool.and_eq_true, decide_eq_true_eq] at hw
        refine ⟨fun y hy => ?_, List.nodup_cons.2 ⟨fun hx => h3 x hx (by simp), h2⟩, fun y hy => ?_⟩
        · rcases List.mem_cons.1 hy with rfl | hy
          · omega
          · exact h1 y hy
        · rcases List.mem_cons.1 hy with rfl | hy
          · exact memB_not.1 hm
          · exact fun hp => h3 y hy (by simp [hp])
theorem ordE_ord {c : Nat} {o : List Int} (h : ordE c o = 0) : isOrd c o := by
  unfold ordE at h
  by_cases hl : (o.length : Int) = (c : Int)
  · rw [show ((o.length : Int) != (c : Int)) = false by rw [hl]; exact bne_self_eq_false _, cond_false] at h
    obtain ⟨h1, h2, _⟩ := ordF_zero o [] h
    exact ⟨by omega, h1, h2⟩
  · rw [show ((o.length : Int) != (c : Int)) = true by rw [bne, beq_eq_false_iff_ne.2 hl]; rfl] at h
    simp at h
theorem isOrd_ok {p : List (List D)} (hp : p.length ≤ 6) {o : List Int} (h : isOrd p.length o) : okO p o := ⟨by have := h.1; omega, h.2.1⟩

/-! ### Disagreements, the reference -/
theorem okOb_iff {p : List (List D)} {o : List Int} : okOb p.length o = true ↔ okO p o := by
  unfold okOb okO
  simp only [Bool.and_eq_true, decide_eq_true_eq, List.all_eq_true]
theorem celP_range {p : List (List D)} (hp : okP p) {j i : Int} (h0 : 0 ≤ j) (h1 : j < p.length) : 0 ≤ celP p j i ∧ celP p j i ≤ 1000 := by
  obtain ⟨_, h⟩ := okP_row hp h0 h1
  exact getD_range (by decide) h i.toNat
theorem colS_range {p : List (List D)} (hp : okP p) (x : Int) : ∀ {l : List Int}, (∀ j ∈ l, 0 ≤ j ∧ j < (p.length : Int)) → 0 ≤ colS (celP p) x l ∧ colS (celP p) x l ≤ 1000 * l.length
  | [], _ => ⟨Int.le_refl _, by simp [colS]⟩
  | y :: l, h => by
    have h1 := celP_range hp (j := y) (i := x) (h y (by simp)).1 (h y (by simp)).2
    have h2 := colS_range hp x (l := l) fun j hj => h j (by simp [hj])
    simp only [colS, List.length_cons]
    omega
theorem lokrdi_1 : LoopOK Erdi (lb Tryd.f59 1) [0, 1, 5, 6, 7] [0, 1, 5, 6] rdB := by
  refine loopOK .nil (noInner (by kernel_rfl)) (fun vs σ => match vs, σ with
    | [.one (.data (.recs [.sints .i64] _)), .one (.data (.ints .i64 o)), .one (.int .i64 _), .one (.int .i64 _), .one (.int .i64 j)], [] => (o.length - j).toNat
    | _, _ => 0) fun vs σ k h => ?_
  unfold rdB at h
  split at h
  rotate_right
  · exact h.elim
  · rename_i p o s i j
    rw [exrdil1a p o s i j _]
    obtain ⟨⟨hp, ho, h0, h1, h2, h3, h4, h5⟩, h⟩ := h
    have ho6 := ho.1
    by_cases hj : j < (o.length : Int)
    · have w2 : IntKind.i64.wrap (j + 1) = j + 1 := wrap_id (by omega) (by omega)
      have gj := okO_get ho (show j.toNat < o.length by omega)
      have gi := okO_get ho (show i.toNat < o.length by omega)
      obtain ⟨r1, r2⟩ := okP_row hp gj.1 gj.2
      have cr := celP_range hp (i := o.getD i.toNat 0) gj.1 gj.2
      have er : ((p.getD (o.getD j.toNat 0).toNat []).getD (0 : Nat) (D.int 0)).toInts = rowD p (o.getD j.toNat 0).toNat := rfl
      have ec : (rowD p (o.getD j.toNat 0).toNat).getD (o.getD i.toNat 0).toNat 0 = celP p (o.getD j.toNat 0) (o.getD i.toNat 0) := rfl
      have w3 : IntKind.i64.wrap (s + celP p (o.getD j.toNat 0) (o.getD i.toNat 0)) = s + celP p (o.getD j.toNat 0) (o.getD i.toNat 0) := wrap_id (by omega) (by omega)
      simp only [Nat.add_zero, er, ec]
      rw [w2, w3, decide_eq_true hj, decide_eq_true (show (0 : Int) ≤ j by omega), decide_eq_true (show j.toNat < o.length by omega), decide_eq_true gj.1, decide_eq_true gj.2,
        decide_eq_true (show (o.getD j.toNat 0).toNat < p.length by omega), decide_eq_true h0, decide_eq_true h1, decide_eq_true (show i.toNat < o.length by omega), decide_eq_true gi.1,
        decide_eq_true (show o.getD i.toNat 0 < ((rowD p (o.getD j.toNat 0).toNat).length : Int) by rw [r1]; exact gi.2), decide_eq_true (show (o.getD i.toNat 0).toNat < (rowD p (o.getD j.toNat 0).toNat).length by rw [r1]; omega)]
      rw [drop_step 0 (show j.toNat < o.length by omega), show j.toNat + 1 = (j + 1).toNat by omega] at h
      simp only [colS] at h
      rw [← Int.add_assoc] at h
      exact ⟨⟨⟨hp, ho, h0, h1, by omega, by omega, by omega, by omega⟩, h⟩, by show ((o.length : Int) - (j + 1)).toNat < ((o.length : Int) - j).toNat; omega⟩
    · rw [decide_eq_false hj]
      rw [List.drop_eq_nil_of_le (by omega)] at h
      simp only [colS, Int.add_zero] at h
      exact h
theorem lokrdi_0 : LoopOK Erdi (lb Tryd.f59 0) [0, 1, 5, 6] [5] rdA := by
  refine loopOK .nil (fun b' hb => by
    have hl : loopsOf (lb Tryd.f59 0) = [lb Tryd.f59 1] := by kernel_rfl
    rw [hl] at hb
    simp only [List.mem_cons, List.not_mem_nil, or_false] at hb
    subst hb
    exact loopHyp_of (key := 6) (by kernel_rfl) rfl lokrdi_1) (fun vs σ => match vs, σ with
    | [.one (.data (.recs [.sints .i64] _)), .one (.data (.ints .i64 o)), .one (.int .i64 _), .one (.int .i64 i)], [] => (o.length - i).toNat
    | _, _ => 0) fun vs σ k h => ?_
  unfold rdA at h
  split at h
  rotate_right
  · exact h.elim
  · rename_i p o s i
    rw [exrdil0a p o s i _]
    obtain ⟨⟨hp, ho, h0, h1, h4, h5⟩, h⟩ := h
    have ho6 := ho.1
    by_cases hi : i < (o.length : Int)
    · have w2 : IntKind.i64.wrap (i + 1) = i + 1 := wrap_id (by omega) (by omega)
      rw [w2, decide_eq_true hi]
      have cr := colS_range hp (o.getD i.toNat 0) (l := o.drop (i + 1).toNat) fun j hj => ho.2 j (List.mem_of_mem_drop hj)
      rw [List.length_drop] at cr
      rw [drop_step 0 (show i.toNat < o.length by omega), show i.toNat + 1 = (i + 1).toNat by omega] at h
      simp only [triR] at h
      rw [← Int.add_assoc] at h
      exact ⟨⟨hp, ho, h0, hi, by omega, by omega, by omega, by omega⟩, ⟨⟨hp, ho, by omega, by omega, by omega, by omega⟩, h⟩, by show ((o.length : Int) - (i + 1)).toNat < ((o.length : Int) - i).toNat; omega⟩
    · rw [decide_eq_false hi]
      rw [List.drop_eq_nil_of_le (by omega)] at h
      simp only [triR, Int.add_zero] at h
      exact h
theorem okrdi : SpecOK Tryd.prog 59 rdiS := by
  refine specOK (n := 38) (m := 0) (lps := [(3, .spec [0, 1, 5, 6] [5] rdA), (6, .spec [0, 1, 5, 6, 7] [0, 1, 5, 6] rdB)]) .nil Tryd.func59 (by kernel_rfl) (by kernel_rfl) (theLoops (n := 2) (by kernel_rfl) fun i hi => ?_) fun args σ K h => ?_
  · match i, hi with
    | 0, _ => exact loopHyp_of (key := 3) (by kernel_rfl) rfl lokrdi_0
    | 1, _ => exact loopHyp_of (key := 6) (by kernel_rfl) rfl lokrdi_1
  unfold rdiS at h
  split at h
  rotate_right
  · exact h.elim
  rename_i p o
  rw [exrdi p o K]
  obtain ⟨⟨hp, ho⟩, h⟩ := h
  rw [dis_r] at h
  rw [Int.zero_add]
  exact ⟨⟨hp, okOb_iff.1 ho, by decide, by omega, by decide, by decide⟩, h⟩

/-! ### Disagreements -/
theorem ordF_firstE {x : Int} {c : Int} {pre : List Int} {r : Int} : firstE [bif withinG x 0 (c - 1) then 0 else 6, bif !memB x pre then 0 else 25] = 0 ∧ (bif withinG x 0 (c - 1) then (bif memB x pre then 25 else r) else 6) = r ∨
    firstE [bif withinG x 0 (c - 1) then 0 else 6, bif !memB x pre then 0 else 25] ≠ 0 ∧ (bif withinG x 0 (c - 1) then (bif memB x pre then 25 else r) else 6) = firstE [bif withinG x 0 (c - 1) then 0 else 6, bif !memB x pre then 0 else 25] := by
  cases withinG x 0 (c - 1) <;> cases memB x pre
  · exact .inr ⟨by decide, rfl⟩
  · exact .inr ⟨by decide, rfl⟩
  · exact .inl ⟨rfl, rfl⟩
  · exact .inr ⟨by decide, rfl⟩
theorem lokdis2_0 : LoopOK Edis2 (lb Tryd.f51 0) [0, 1, 23, 24, 25] [0, 1, 4, 5] diL := by
  refine loopOK (.cons okprf (.cons ok70 (.cons ok69 (.cons ok71 (.cons ok113 (.cons okdis .nil)))))) (noInner (by kernel_rfl)) (fun vs σ => match vs, σ with
    | [.one (.data (.recs [.sints .i64] _)), .one (.data (.ints .i64 _)), .one (.data (.ints .i64 _)), .one (.int .i64 n), .one (.int .i64 i)], [] => (n - i).toNat
    | _, _ => 0) fun vs σ k h => ?_
  unfold diL at h
  split at h
  rotate_right
  · exact h.elim
  · rename_i p o o2 n i
    rw [exdis2l0a p o o2 n i _]
    obtain ⟨⟨h1, rfl, rfl, h4, h0, h5⟩, h⟩ := h
    by_cases hi : i < (o2.length : Int)
    · have w2 : IntKind.i64.wrap (i + 1) = i + 1 := wrap_id (by omega) (by omega)
      have w3 : IntKind.i64.wrap ((p.length : Int) - 1) = (p.length : Int) - 1 := wrap_id (by omega) (by omega)
      rw [ordF_step (show i.toNat < o2.length by omega), show i.toNat + 1 = (i + 1).toNat by omega] at h
      simp only [Nat.add_zero, Nat.sub_zero]
      rw [w2, w3, decide_eq_true hi, decide_eq_true h0, decide_eq_true (show i.toNat < o2.length by omega), decide_eq_true (show i.toNat ≤ o2.length by omega), decide_eq_true (show 0 ≤ i.toNat by omega)]
      refine ⟨by rw [List.length_take]; omega, by simp, ?_⟩
      have hmu : ((o2.length : Int) - (i + 1)).toNat < ((o2.length : Int) - i).toNat := by omega
      rcases ordF_firstE (x := o2.getD i.toNat 0) (c := p.length) (pre := o2.take i.toNat) (r := ordF p.length (o2.take (i + 1).toNat) (o2.drop (i + 1).toNat)) with ⟨e1, e2⟩ | ⟨e1, e2⟩
      · rw [e2] at h
        refine cond_else (by show (firstE [bif withinG (o2.getD i.toNat 0) 0 ((p.length : Int) - 1) then 0 else 6, bif !memB (o2.getD i.toNat 0) (o2.take i.toNat) then 0 else 25] != 0) = false; rw [e1]; rfl) ?_
        exact ⟨⟨⟨h1, rfl, rfl, h4, by omega, by omega⟩, h⟩, hmu⟩
      · rw [e2] at h
        have c1 : (firstE [bif withinG (o2.getD i.toNat 0) 0 ((p.length : Int) - 1) then 0 else 6, bif !memB (o2.getD i.toNat 0) (o2.take i.toNat) then 0 else 25] == 0) = false := beq_eq_false_iff_ne.2 e1
        rw [c1] at h
        exact cond_then (by show (firstE [bif withinG (o2.getD i.toNat 0) 0 ((p.length : Int) - 1) then 0 else 6, bif !memB (o2.getD i.toNat 0) (o2.take i.toNat) then 0 else 25] != 0) = true; rw [bne, c1]; rfl) h
    · rw [decide_eq_false hi]
      rw [List.drop_eq_nil_of_le (by omega)] at h
      exact h
theorem okdis2 : SpecOK Tryd.prog 51 diS := by
  refine specOK (n := 52) (m := 0) (lps := [(5, .spec [0, 1, 23, 24, 25] [0, 1, 4, 5] diL)]) (.cons okprf (.cons ok70 (.cons ok69 (.cons ok71 (.cons ok113 (.cons okdis .nil)))))) Tryd.func51 (by kernel_rfl) (by kernel_rfl) (theLoops (n := 1) (by kernel_rfl) fun i hi => ?_) fun args σ K h => ?_
  · match i, hi with
    | 0, _ => exact loopHyp_of (key := 5) (by kernel_rfl) rfl lokdis2_0
  unfold diS at h
  split at h
  rotate_right
  · exact h.elim
  rename_i p o
  rw [exdis2 p o K]
  obtain ⟨⟨h1, h2⟩, h⟩ := h
  refine ⟨h1, by simp, ?_⟩
  have hE : firstE [prefE p, bif (o.length : Int) == (p.length : Int) then 0 else 10] = diE p o := rfl
  rw [hE]
  unfold diV diF at h
  by_cases hd : diE p o = 0
  · rw [hd] at h ⊢
    obtain ⟨d1, d2⟩ := firstE2 hd
    have hl : (o.length : Int) = (p.length : Int) := by
      cases hb : ((o.length : Int) == (p.length : Int)) with
      | true => exact eq_of_beq hb
      | false => rw [hb] at d2; exact absurd d2 (by decide)
    have hp := prefE_zero d1
    refine ⟨⟨hp.1, rfl, rfl, by omega, by decide, by omega⟩, ?_⟩
    by_cases hr : ordF (p.length : Int) [] o = 0
    · have hO : isOrd p.length o := ordE_ord (by unfold ordE; rw [show ((o.length : Int) != (p.length : Int)) = false by rw [hl]; exact bne_self_eq_false _]; exact hr)
      rw [hr]
      simp only [beq_self_eq_true, cond_true, hr] at h
      exact ⟨⟨hp, isOrd_ok hp.1 hO⟩, h⟩
    · have c1 : (ordF (p.length : Int) [] o == 0) = false := beq_eq_false_iff_ne.2 hr
      simp only [beq_self_eq_true, cond_true, c1, cond_false] at h
      rw [c1]
      exact h
  · have c1 : (diE p o == 0) = false := beq_eq_false_iff_ne.2 hd
    simp only [c1, cond_false] at h
    rw [show (diE p o != 0) = true by rw [bne, c1]; rfl]
    exact h

/-! ### Bounds -/
theorem upTo_length (c : Nat) : (upTo c).length = c := by simp [upTo]
theorem upTo_succ (c : Nat) : upTo (c + 1) = upTo c ++ [(c : Int)] := by
  unfold upTo
  rw [List.range_succ, List.map_append]
  rfl
theorem upTo_drop {c i : Nat} (h : i < c) : (upTo c).drop i = (i : Int) :: (upTo c).drop (i + 1) := by
  rw [drop_step 0 (show i < (upTo c).length by rw [upTo_length]; exact h), upTo_get h]
theorem minP_range {p : List (List D)} (hp : okP p) {j i : Int} (h0 : 0 ≤ j) (h1 : j < p.length) (h2 : 0 ≤ i) (h3 : i < p.length) : 0 ≤ minP p j i ∧ minP p j i ≤ 1000 := by
  have a := celP_range hp (j := j) (i := i) h0 h1
  have b := celP_range hp (j := i) (i := j) h2 h3
  unfold minP
  split <;> omega
theorem rowS_range {p : List (List D)} (hp : okP p) {x : Int} (h0 : 0 ≤ x) (h1 : x < p.length) : ∀ {l : List Int}, (∀ j ∈ l, 0 ≤ j ∧ j < (p.length : Int)) → 0 ≤ rowS (minP p) x l ∧ rowS (minP p) x l ≤ 1000 * l.length
  | [], _ => ⟨Int.le_refl _, by simp [rowS]⟩
  | y :: l, h => by
    have a := minP_range hp (j := x) (i := y) h0 h1 (h y (by simp)).1 (h y (by simp)).2
    have b := rowS_range hp h0 h1 (l := l) fun j hj => h j (by simp [hj])
    simp only [rowS, List.length_cons]
    omega
theorem colM_range {p : List (List D)} (hp : okP p) {x : Int} (h0 : 0 ≤ x) (h1 : x < p.length) : ∀ {l : List Int}, (∀ j ∈ l, 0 ≤ j ∧ j < (p.length : Int)) → 0 ≤ colS (minP p) x l ∧ colS (minP p) x l ≤ 1000 * l.length
  | [], _ => ⟨Int.le_refl _, by simp [colS]⟩
  | y :: l, h => by
    have a := minP_range hp (j := y) (i := x) (h y (by simp)).1 (h y (by simp)).2 h0 h1
    have b := colM_range hp h0 h1 (l := l) fun j hj => h j (by simp [hj])
    simp only [colS, List.length_cons]
    omega
theorem lokbnd_1 : LoopOK Ebnd (lb Tryd.f54 1) [0, 5, 6, 14, 15, 18, 19] [0, 5, 14, 15] bdB := by
  refine loopOK (.cons okprf .nil) (noInner (by kernel_rfl)) (fun vs σ => match vs, σ with
    | [.one (.data (.recs [.sints .i64] _)), .one (.int .i64 _), .one (.int .i64 _), .one (.int .i64 _), .one (.int .i64 _), .one (.int .i64 m), .one (.int .i64 j)], [] => (m - j).toNat
    | _, _ => 0) fun vs σ k h => ?_
  unfold bdB at h
  split at h
  rotate_right
  · exact h.elim
  · rename_i p s i n g m j
    rw [exbndl1a p s i n g m j _]
    obtain ⟨⟨hp, rfl, rfl, h0, h1, h2, h3, h4, h5⟩, h⟩ := h
    have hp6 := hp.1
    by_cases hj : j < m
    · have w2 : IntKind.i64.wrap (j + 1) = j + 1 := wrap_id (by omega) (by omega)
      obtain ⟨r1, _⟩ := okP_row hp h0 h1
      obtain ⟨r2, _⟩ := okP_row hp h2 (show j < (p.length : Int) by omega)
      have mr := minP_range hp (j := m) (i := j) h0 h1 h2 (by omega)
      have er1 : ((p.getD m.toNat []).getD (0 : Nat) (D.int 0)).toInts = rowD p m.toNat := rfl
      have er2 : ((p.getD j.toNat []).getD (0 : Nat) (D.int 0)).toInts = rowD p j.toNat := rfl
      have ec : (if (rowD p j.toNat).getD m.toNat 0 < (rowD p m.toNat).getD j.toNat 0 then (rowD p j.toNat).getD m.toNat 0 else (rowD p m.toNat).getD j.toNat 0) = minP p m j := rfl
      have w3 : IntKind.i64.wrap (s + minP p m j) = s + minP p m j := wrap_id (by omega) (by omega)
      simp only [Nat.add_zero, er1, er2, ec]
      rw [w2, w3, decide_eq_true hj, decide_eq_true h0, decide_eq_true h1, decide_eq_true (show m.toNat < p.length by omega), decide_eq_true h2, decide_eq_true (show j < ((rowD p m.toNat).length : Int) by rw [r1]; omega),
        decide_eq_true (show j.toNat < (rowD p m.toNat).length by rw [r1]; omega), decide_eq_true (show j < (p.length : Int) by omega), decide_eq_true (show j.toNat < p.length by omega), decide_eq_true (show m < ((rowD p j.toNat).length : Int) by rw [r2]; omega),
        decide_eq_true (show m.toNat < (rowD p j.toNat).length by rw [r2]; omega)]
      rw [upTo_drop (show j.toNat < m.toNat by omega), show ((j.toNat : Nat) : Int) = j by omega, show j.toNat + 1 = (j + 1).toNat by omega] at h
      simp only [rowS] at h
      rw [← Int.add_assoc] at h
      exact ⟨⟨⟨hp, rfl, rfl, h0, h1, by omega, by omega, by omega, by omega⟩, h⟩, by show (m - (j + 1)).toNat < (m - j).toNat; omega⟩
    · rw [decide_eq_false hj]
      rw [List.drop_eq_nil_of_le (by rw [upTo_length]; omega)] at h
      simp only [rowS, Int.add_zero] at h
      exact h
theorem lokbnd_0 : LoopOK Ebnd (lb Tryd.f54 0) [0, 5, 14, 15] [5] bdA := by
  refine loopOK (.cons okprf .nil) (fun b' hb => by
    have hl : loopsOf (lb Tryd.f54 0) = [lb Tryd.f54 1] := by kernel_rfl
    rw [hl] at hb
    simp only [List.mem_cons, List.not_mem_nil, or_false] at hb
    subst hb
    exact loopHyp_of (key := 9) (by kernel_rfl) rfl lokbnd_1) (fun vs σ => match vs, σ with
    | [.one (.data (.recs [.sints .i64] _)), .one (.int .i64 _), .one (.int .i64 n), .one (.int .i64 i)], [] => (n - i).toNat
    | _, _ => 0) fun vs σ k h => ?_
  unfold bdA at h
  split at h
  rotate_right
  · exact h.elim
  · rename_i p s n i
    rw [exbndl0a p s n i _]
    obtain ⟨⟨hp, rfl, h0, h1, h4, h5⟩, h⟩ := h
    have hp6 := hp.1
    by_cases hi : i < (p.length : Int)
    · have w2 : IntKind.i64.wrap (i + 1) = i + 1 := wrap_id (by omega) (by omega)
      rw [w2, decide_eq_true hi]
      have cr := rowS_range hp h0 hi (l := upTo i.toNat) fun j hj => by have := mem_upTo.1 hj; omega
      rw [upTo_length] at cr
      rw [upTo_drop (show i.toNat < p.length by omega), show ((i.toNat : Nat) : Int) = i by omega] at h
      simp only [triL] at h
      have eu : upTo i.toNat ++ [i] = upTo (i + 1).toNat := by
        rw [show (i + 1).toNat = i.toNat + 1 by omega, upTo_succ, show ((i.toNat : Nat) : Int) = i by omega]
      rw [eu, show i.toNat + 1 = (i + 1).toNat by omega, ← Int.add_assoc] at h
      exact ⟨⟨hp, rfl, by rfl, h0, hi, by decide, h0, by omega, by omega⟩, ⟨⟨hp, rfl, by omega, by omega, by omega, by omega⟩, h⟩, by show ((p.length : Int) - (i + 1)).toNat < ((p.length : Int) - i).toNat; omega⟩
    · rw [decide_eq_false hi]
      rw [List.drop_eq_nil_of_le (by rw [upTo_length]; omega)] at h
      simp only [triL, Int.add_zero] at h
      exact h
theorem okbnd : SpecOK Tryd.prog 54 bdS := by
  refine specOK (n := 42) (m := 0) (lps := [(6, .spec [0, 5, 14, 15] [5] bdA), (9, .spec [0, 5, 6, 14, 15, 18, 19] [0, 5, 14, 15] bdB)]) (.cons okprf .nil) Tryd.func54 (by kernel_rfl) (by kernel_rfl) (theLoops (n := 2) (by kernel_rfl) fun i hi => ?_) fun args σ K h => ?_
  · match i, hi with
    | 0, _ => exact loopHyp_of (key := 6) (by kernel_rfl) rfl lokbnd_0
    | 1, _ => exact loopHyp_of (key := 9) (by kernel_rfl) rfl lokbnd_1
  unfold bdS at h
  split at h
  rotate_right
  · exact h.elim
  rename_i p
  rw [exbnd p K]
  obtain ⟨h1, h⟩ := h
  refine ⟨h1, ?_⟩
  unfold bdV at h
  by_cases hd : prefE p = 0
  · have hp := prefE_zero hd
    rw [hd] at h ⊢
    unfold bndG at h
    rw [← tri_eq] at h
    refine ⟨⟨hp, rfl, by decide, by omega, by decide, by decide⟩, ?_⟩
    rw [Int.zero_add]
    exact h
  · have c1 : (prefE p == 0) = false := beq_eq_false_iff_ne.2 hd
    rw [c1] at h
    rw [show (prefE p != 0) = true by rw [bne, c1]; rfl]
    exact h
theorem lokrbn_1 : LoopOK Erbn (lb Tryd.f57 1) [0, 3, 4, 5] [0, 3, 4] rbB := by
  refine loopOK .nil (noInner (by kernel_rfl)) (fun vs σ => match vs, σ with
    | [.one (.data (.recs [.sints .i64] p)), .one (.int .i64 _), .one (.int .i64 _), .one (.int .i64 j)], [] => (p.length - j).toNat
    | _, _ => 0) fun vs σ k h => ?_
  unfold rbB at h
  split at h
  rotate_right
  · exact h.elim
  · rename_i p s i j
    rw [exrbnl1a p s i j _]
    obtain ⟨⟨hp, h0, h1, h2, h3, h4, h5⟩, h⟩ := h
    have hp6 := hp.1
    by_cases hj : j < (p.length : Int)
    · have w2 : IntKind.i64.wrap (j + 1) = j + 1 := wrap_id (by omega) (by omega)
      obtain ⟨r1, _⟩ := okP_row hp h0 h1
      obtain ⟨r2, _⟩ := okP_row hp (show 0 ≤ j by omega) hj
      have mr := minP_range hp (j := i) (i := j) h0 h1 (by omega) hj
      have er1 : ((p.getD i.toNat []).getD (0 : Nat) (D.int 0)).toInts = rowD p i.toNat := rfl
      have er2 : ((p.getD j.toNat []).getD (0 : Nat) (D.int 0)).toInts = rowD p j.toNat := rfl
      have ec : (if (rowD p j.toNat).getD i.toNat 0 < (rowD p i.toNat).getD j.toNat 0 then (rowD p j.toNat).getD i.toNat 0 else (rowD p i.toNat).getD j.toNat 0) = minP p i j := rfl
      have w3 : IntKind.i64.wrap (s + minP p i j) = s + minP p i j := wrap_id (by omega) (by omega)
      simp only [Nat.add_zero, er1, er2, ec]
      rw [w2, w3, decide_eq_true hj, decide_eq_true h0, decide_eq_true h1, decide_eq_true (show i.toNat < p.length by omega), decide_eq_true (show (0 : Int) ≤ j by omega), decide_eq_true (show j < ((rowD p i.toNat).length : Int) by rw [r1]; omega),
        decide_eq_true (show j.toNat < (rowD p i.toNat).length by rw [r1]; omega), decide_eq_true (show j.toNat < p.length by omega), decide_eq_true (show i < ((rowD p j.toNat).length : Int) by rw [r2]; omega),
        decide_eq_true (show i.toNat < (rowD p j.toNat).length by rw [r2]; omega)]
      rw [upTo_drop (show j.toNat < p.length by omega), show ((j.toNat : Nat) : Int) = j by omega, show j.toNat + 1 = (j + 1).toNat by omega] at h
      simp only [colS] at h
      rw [← Int.add_assoc, minP_comm p j i] at h
      exact ⟨⟨⟨hp, h0, h1, by omega, by omega, by omega, by omega⟩, h⟩, by show ((p.length : Int) - (j + 1)).toNat < ((p.length : Int) - j).toNat; omega⟩
    · rw [decide_eq_false hj]
      rw [List.drop_eq_nil_of_le (by rw [upTo_length]; omega)] at h
      simp only [colS, Int.add_zero] at h
      exact h
theorem lokrbn_0 : LoopOK Erbn (lb Tryd.f57 0) [0, 3, 4] [3] rbA := by
  refine loopOK .nil (fun b' hb => by
    have hl : loopsOf (lb Tryd.f57 0) = [lb Tryd.f57 1] := by kernel_rfl
    rw [hl] at hb
    simp only [List.mem_cons, List.not_mem_nil, or_false] at hb
    subst hb
    exact loopHyp_of (key := 6) (by kernel_rfl) rfl lokrbn_1) (fun vs σ => match vs, σ with
    | [.one (.data (.recs [.sints .i64] p)), .one (.int .i64 _), .one (.int .i64 i)], [] => (p.length - i).toNat
    | _, _ => 0) fun vs σ k h => ?_
  unfold rbA at h
  split at h
  rotate_right
  · exact h.elim
  · rename_i p s i
    rw [exrbnl0a p s i _]
    obtain ⟨⟨hp, h0, h1, h4, h5⟩, h⟩ := h
    have hp6 := hp.1
    by_cases hi : i < (p.length : Int)
    · have w2 : IntKind.i64.wrap (i + 1) = i + 1 := wrap_id (by omega) (by omega)
      rw [w2, decide_eq_true hi]
      have cr := colM_range hp h0 hi (l := (upTo p.length).drop (i + 1).toNat) fun j hj => mem_upTo.1 (List.mem_of_mem_drop hj)
      rw [List.length_drop, upTo_length] at cr
      rw [upTo_drop (show i.toNat < p.length by omega), show ((i.toNat : Nat) : Int) = i by omega, show i.toNat + 1 = (i + 1).toNat by omega] at h
      simp only [triR] at h
      rw [← Int.add_assoc] at h
      exact ⟨⟨hp, h0, hi, by omega, by omega, by omega, by omega⟩, ⟨⟨hp, by omega, by omega, by omega, by omega⟩, h⟩, by show ((p.length : Int) - (i + 1)).toNat < ((p.length : Int) - i).toNat; omega⟩
    · rw [decide_eq_false hi]
      rw [List.drop_eq_nil_of_le (by rw [upTo_length]; omega)] at h
      simp only [triR, Int.add_zero] at h
      exact h
theorem okrbn : SpecOK Tryd.prog 57 rbS := by
  refine specOK (n := 38) (m := 0) (lps := [(3, .spec [0, 3, 4] [3] rbA), (6, .spec [0, 3, 4, 5] [0, 3, 4] rbB)]) .nil Tryd.func57 (by kernel_rfl) (by kernel_rfl) (theLoops (n := 2) (by kernel_rfl) fun i hi => ?_) fun args σ K h => ?_
  · match i, hi with
    | 0, _ => exact loopHyp_of (key := 3) (by kernel_rfl) rfl lokrbn_0
    | 1, _ => exact loopHyp_of (key := 6) (by kernel_rfl) rfl lokrbn_1
  unfold rbS at h
  split at h
  rotate_right
  · exact h.elim
  rename_i p
  rw [exrbn p K]
  obtain ⟨hp, h⟩ := h
  rw [Int.zero_add]
  exact ⟨⟨hp, by decide, by omega, by decide, by decide⟩, h⟩

/-! ### Which list comes first -/
theorem difG_nil_right : ∀ a : List Int, difG a [] = false
  | [] => rfl
  | _ :: _ => rfl
theorem befG_same : ∀ {a b : List Int}, difG a b = false → befG a b = decide ((a.length : Int) < (b.length : Int))
  | [], [], _ => rfl
  | [], y :: b, _ => by
    show true = _
    rw [decide_eq_true (by simp only [List.length_nil, List.length_cons]; omega)]
  | x :: a, [], _ => by
    show false = _
    rw [decide_eq_false (by simp only [List.length_nil, List.length_cons]; omega)]
  | x :: a, y :: b, h => by
    simp only [difG, Bool.or_eq_false_iff] at h
    have hxy : (x == y) = true := by
      cases hb : (x == y) with
      | true => rfl
      | false => rw [bne, hb] at h; simp at h
    show (bif x == y then befG a b else decide (x < y)) = _
    rw [hxy, cond_true, befG_same h.2]
    simp only [List.length_cons]
    refine decide_eq_decide.2 ?_
    omega
theorem lokbef_0 : LoopOK Ebef (lb Tryd.f60 0) [0, 1, 5] [0, 1, 4] befL := by
  refine loopOK .nil (noInner (by kernel_rfl)) (fun vs σ => match vs, σ with
    | [.one (.data (.ints .i64 a)), .one (.data (.ints .i64 _)), .one (.int .i64 i)], [] => (a.length - i).toNat
    | _, _ => 0) fun vs σ k h => ?_
  unfold befL at h
  split at h
  rotate_right
  · exact h.elim
  · rename_i a b i
    rw [exbefl0a a b i _]
    obtain ⟨⟨h1, h2, h0⟩, h⟩ := h
    by_cases ha : i < (a.length : Int)
    · by_cases hb : i < (b.length : Int)
      · have w2 : IntKind.i64.wrap (i + 1) = i + 1 := wrap_id (by omega) (by omega)
        rw [drop_step 0 (show i.toNat < a.length by omega), drop_step 0 (show i.toNat < b.length by omega), show i.toNat + 1 = (i + 1).toNat by omega] at h
        simp only [difG, befG] at h
        simp only [Nat.add_zero]
        rw [w2, decide_eq_true ha, decide_eq_true hb, decide_eq_true h0, decide_eq_true (show i.toNat < a.length by omega), decide_eq_true (show i.toNat < b.length by omega)]
        cases hx : (a.getD i.toNat 0 == b.getD i.toNat 0) with
        | true =>
          have hn : (a.getD i.toNat 0 != b.getD i.toNat 0) = false := by rw [bne, hx]; rfl
          rw [hn, hx, Bool.false_or] at h
          rw [hn]
          exact ⟨⟨⟨h1, h2, by omega⟩, h⟩, by show ((a.length : Int) - (i + 1)).toNat < ((a.length : Int) - i).toNat; omega⟩
        | false =>
          have hn : (a.getD i.toNat 0 != b.getD i.toNat 0) = true := by rw [bne, hx]; rfl
          rw [hn, hx, Bool.true_or] at h
          rw [hn]
          exact h
      · rw [decide_eq_true ha, decide_eq_false hb]
        rw [@List.drop_eq_nil_of_le _ b _ (by omega), difG_nil_right] at h
        exact h
    · rw [decide_eq_false ha]
      rw [@List.drop_eq_nil_of_le _ a _ (by omega)] at h
      exact h
theorem okbef : SpecOK Tryd.prog 60 befS := by
  refine specOK (n := 41) (m := 0) (lps := [(2, .spec [0, 1, 5] [0, 1, 4] befL)]) .nil Tryd.func60 (by kernel_rfl) (by kernel_rfl) (theLoops (n := 1) (by kernel_rfl) fun i hi => ?_) fun args σ K h => ?_
  · match i, hi with
    | 0, _ => exact loopHyp_of (key := 2) (by kernel_rfl) rfl lokbef_0
  unfold befS at h
  split at h
  rotate_right
  · exact h.elim
  rename_i a b
  rw [exbef a b K]
  obtain ⟨⟨h1, h2⟩, h⟩ := h
  refine ⟨⟨h1, h2, by decide⟩, ?_⟩
  cases hd : difG a b with
  | false => rw [befG_same hd] at h; exact h
  | true => exact h

/-! ### All orders -/
theorem flat_le {α : Type} {B : Nat} {f : Int → List α} : ∀ {l : List Int}, (∀ i ∈ l, (f i).length ≤ B) → (l.flatMap f).length ≤ l.length * B
  | [], _ => by simp
  | x :: l, h => by
    have h1 := h x (by simp)
    have h2 := flat_le (l := l) fun i hi => h i (by simp [hi])
    rw [List.flatMap_cons, List.length_append, List.length_cons, Nat.add_mul, Nat.one_mul]
    omega
theorem extG_le {c : Nat} (hc : c ≤ 6) : ∀ (n : Nat) (l : List Int), (extG c n l).length ≤ 6 ^ n
  | 0, l => by simp [extG]
  | n + 1, l => by
    have h := flat_le (l := upTo c) (B := 6 ^ n) (f := fun i => bif memB i l then [] else extG c n (l ++ [i])) fun i _ => by
      cases memB i l with
      | true => simp
      | false => exact extG_le hc n _
    rw [upTo_length] at h
    have h2 : c * 6 ^ n ≤ 6 * 6 ^ n := Nat.mul_le_mul_right _ hc
    have e : 6 ^ (n + 1) = 6 * 6 ^ n := by rw [Nat.pow_succ, Nat.mul_comm]
    simp only [extG]
    omega
theorem extR_zero {c n : Nat} {l : List Int} : extR c n l 0 = extG c (n + 1) l := rfl
theorem pow_le6 {m : Nat} (h : m ≤ 6) : 6 ^ m ≤ 46656 := Nat.le_trans (Nat.pow_le_pow_right (by decide) h) (by decide)
theorem extR_le {c n : Nat} {l : List Int} {i : Nat} (hi : i < c) : (extR c n l (i + 1)).length ≤ (extR c n l i).length := by
  rw [extR_step hi, List.length_append]
  omega
theorem lokorn (m : Nat) (ih : SpecOK Tryd.prog 122 (rordS m)) : LoopOK (Eorn m) (lb Tryd.f122 0) [0, 1, 5, 6] [5] (rordL m) := by
  refine loopOK (.cons okhav (.cons ok35 (.cons ih .nil))) (noInner (by kernel_rfl)) (fun vs _ => match vs with
    | [.one (.int .i64 n), _, _, .one (.int .i64 i)] => (n - i).toNat
    | _ => 0) fun vs σ k h => ?_
  unfold rordL at h
  split at h
  rotate_right
  · exact h.elim
  · rename_i n b i
    rw [exorna m n i b _]
    obtain ⟨⟨h1, h2, h3, h4, h5, h6⟩, h⟩ := h
    by_cases hi : i < n
    · have hw : IntKind.i64.wrap (i + 1) = i + 1 := wrap_id (by omega) (by omega)
      have hmu : (n - (i + 1)).toNat < (n - i).toNat := by omega
      have hil : ((i.toNat : Nat) : Int) = i := by omega
      have e := extR_step (c := n.toNat) (n := m) (l := b) (i := i.toNat) (by omega)
      have hle := extR_le (c := n.toNat) (n := m) (l := b) (i := i.toNat) (by omega)
      rw [hil, show i.toNat + 1 = (i + 1).toNat by omega] at e
      rw [show i.toNat + 1 = (i + 1).toNat by omega] at hle
      have hlen : (((b ++ [i]).length + m : Nat) : Int) = n := by simp only [List.length_append, List.length_cons, List.length_nil]; omega
      have hbl : (b ++ [i]).length ≤ 6 := by omega
      rw [hw, decide_eq_true hi]
      refine ⟨by omega, ?_⟩
      cases hb : memB i b with
      | true =>
        rw [hb, cond_true, List.nil_append] at e
        rw [e] at h
        exact ⟨⟨⟨h1, h2, h3, by omega, by omega, by omega⟩, h⟩, hmu⟩
      | false =>
        rw [hb, cond_false] at e
        rw [e] at h h6
        rw [List.length_append] at h6
        have hg : (List.map ordD (extG n.toNat m (b ++ [i]))).length = (extG n.toNat m (b ++ [i])).length := List.length_map _
        refine ⟨by omega, cond_in (decide_eq_true (by omega)) ⟨⟨h1, h2, hlen⟩, cond_in (decide_eq_true (by rw [hg]; omega)) ?_⟩⟩
        by_cases hz : (List.map ordD (extG n.toNat m (b ++ [i]))).length = 0
        · rw [decide_eq_true hz]
          have hz2 : extG n.toNat m (b ++ [i]) = [] := List.length_eq_zero_iff.1 (by rw [← hg]; exact hz)
          rw [hz2, List.nil_append] at h
          exact ⟨⟨⟨h1, h2, h3, by omega, by omega, by omega⟩, h⟩, hmu⟩
        · rw [decide_eq_false hz]
          have hne : (extG n.toNat m (b ++ [i]) ++ extR n.toNat m b (i + 1).toNat).isEmpty = false := by
            cases hx : extG n.toNat m (b ++ [i]) with
            | nil => rw [hx] at hz; simp at hz
            | cons a l => rfl
          rw [hne, List.map_append] at h
          exact ⟨⟨⟨h1, h2, h3, by omega, by omega, by rw [hg]; omega⟩, h⟩, hmu⟩
    · rw [decide_eq_false hi]
      rw [extR_nil (by omega)] at h
      exact h
  · rename_i n b i q
    rw [exornb m n i b q _]
    obtain ⟨⟨h1, h2, h3, h4, h5, h6⟩, h⟩ := h
    by_cases hi : i < n
    · have hw : IntKind.i64.wrap (i + 1) = i + 1 := wrap_id (by omega) (by omega)
      have hmu : (n - (i + 1)).toNat < (n - i).toNat := by omega
      have hil : ((i.toNat : Nat) : Int) = i := by omega
      have e := extR_step (c := n.toNat) (n := m) (l := b) (i := i.toNat) (by omega)
      have hle := extR_le (c := n.toNat) (n := m) (l := b) (i := i.toNat) (by omega)
      rw [hil, show i.toNat + 1 = (i + 1).toNat by omega] at e
      rw [show i.toNat + 1 = (i + 1).toNat by omega] at hle
      have hlen : (((b ++ [i]).length + m : Nat) : Int) = n := by simp only [List.length_append, List.length_cons, List.length_nil]; omega
      have hbl : (b ++ [i]).length ≤ 6 := by omega
      rw [hw, decide_eq_true hi]
      refine ⟨by omega, ?_⟩
      cases hb : memB i b with
      | true =>
        rw [hb, cond_true, List.nil_append] at e
        rw [e] at h
        exact ⟨⟨⟨h1, h2, h3, by omega, by omega, by omega⟩, h⟩, hmu⟩
      | false =>
        rw [hb, cond_false] at e
        rw [e] at h h6
        rw [List.length_append] at h6
        rw [List.map_append, ← List.append_assoc] at h
        have hg : (q ++ List.map ordD (extG n.toNat m (b ++ [i]))).length = q.length + (extG n.toNat m (b ++ [i])).length := by rw [List.length_append, List.length_map]
        refine ⟨by omega, cond_in (decide_eq_true (by omega)) ⟨⟨h1, h2, hlen⟩, cond_in (decide_eq_true (by rw [hg]; omega)) ?_⟩⟩
        exact ⟨⟨⟨h1, h2, h3, by omega, by omega, by rw [hg]; omega⟩, h⟩, hmu⟩
    · rw [decide_eq_false hi]
      rw [extR_nil (by omega)] at h
      simp only [List.map_nil, List.append_nil] at h
      exact h
theorem rord_data {m : Nat} (h1 : SpecOK Tryd.prog 122 (rordO m)) : SpecOK Tryd.prog 122 (rordS m) := by
  refine h1.froze fun args σ K h => ?_
  unfold rordS at h
  split at h
  · rename_i n b
    obtain ⟨h1, h⟩ := h
    refine ⟨rfl, h1, ?_⟩
    cases hg : (extG n.toNat m b).isEmpty with
    | true =>
      refine ⟨_, ?_, h⟩
      exact .inr ⟨_, (by show ((extG n.toNat m b).map ordD).length = 0; rw [List.isEmpty_iff.1 hg]; rfl), rfl⟩
    | false =>
      refine ⟨_, ?_, h⟩
      exact ⟨_, _, rfl, rfl, rfl⟩
  · exact h.elim
theorem okordS : ∀ m : Nat, SpecOK Tryd.prog 122 (rordS m)
  | 0 => by
    refine rord_data (specOK (n := 32) (m := 0) (lps := [(5, .spec [0, 1, 5, 6] [5] noL)]) (.cons okhav (.cons ok35 .nil)) Tryd.func122 (by kernel_rfl) (by kernel_rfl) (theLoops (n := 1) (by kernel_rfl) fun i hi => ?_) fun args σ K h => ?_)
    · match i, hi with
      | 0, _ => exact loopHyp_of (key := 5) (by kernel_rfl) rfl (loopOK (.cons okhav (.cons ok35 .nil)) (noInner (by kernel_rfl)) (fun _ _ => 0) fun vs σ k h => h.elim)
    · unfold rordO at h
      split at h
      · rename_i n b
        rw [exorz n b K]
        obtain ⟨⟨h1, h2, h3⟩, h⟩ := h
        refine cond_in (beq_iff_eq.2 (by omega)) ?_
        exact h
      · exact h.elim
  | m + 1 => by
    refine rord_data (specOK (n := 32) (m := 0) (lps := [(5, .spec [0, 1, 5, 6] [5] (rordL m))]) (.cons okhav (.cons ok35 (.cons (okordS m) .nil))) Tryd.func122 (by kernel_rfl) (by kernel_rfl) (theLoops (n := 1) (by kernel_rfl) fun i hi => ?_) fun args σ K h => ?_)
    · match i, hi with
      | 0, _ => exact loopHyp_of (key := 5) (by kernel_rfl) rfl (lokorn m (okordS m))
    · unfold rordO at h
      split at h
      · rename_i n b
        rw [exorn m n b K]
        obtain ⟨⟨h1, h2, h3⟩, h⟩ := h
        have hle := extG_le (c := n.toNat) (by omega) (m + 1) b
        have hp := pow_le6 (m := m + 1) (by omega)
        refine cond_else (beq_eq_false_iff_ne.2 (by omega)) ?_
        exact ⟨⟨h1, h2, by omega, by decide, h1, by rw [extR_zero]; omega⟩, h⟩
      · exact h.elim
theorem okrdA : SpecOK Tryd.prog 122 rordA := by
  refine ⟨(okordS 0).body, fun args σ K h => ?_⟩
  unfold rordA at h
  split at h
  · rename_i n b
    obtain ⟨⟨h1, h2, h3⟩, h⟩ := h
    have hb : b = [] := List.length_eq_zero_iff.1 h3
    subst hb
    exact (okordS n.toNat).sound _ _ _ (show rordS n.toNat [_, _] [] K from ⟨⟨h1, h2, by simp only [List.length_nil]; omega⟩, h⟩)
  · exact h.elim

/-! ### The best one, the reference -/
theorem rbF_best (p : List (List D)) : ∀ (os : List (List Int)) (b : List Int) (l : Int), 0 ≤ l → l = disG p b → (∀ o ∈ os, 0 ≤ disG p o) → rbF p b (os.map ordD) = (bestF p b l os).1
  | [], _, _, _, _, _ => rfl
  | o :: os, b, l, h0, hl, hn => by
    simp only [List.map_cons, rbF, bestF]
    have e : rowI (ordD o) = o := rfl
    rw [e, decide_eq_false (show ¬ l < 0 by omega), Bool.false_or, ← hl]
    cases decide (disG p o < l) with
    | true => exact rbF_best p os o _ (hn o (by simp)) rfl fun x hx => hn x (by simp [hx])
    | false => exact rbF_best p os b l h0 hl fun x hx => hn x (by simp [hx])
theorem rbF_ok {c : Nat} {p : List (List D)} : ∀ {a : List (List D)} {b : List Int}, okOb c b = true → a.all (okOd c) = true → okOb c (rbF p b a) = true
  | [], _, h, _ => h
  | d :: a, b, h, ha => by
    rw [List.all_cons, Bool.and_eq_true] at ha
    simp only [rbF]
    cases decide (disG p (rowI d) < disG p b) with
    | true => exact rbF_ok ha.1 ha.2
    | false => exact rbF_ok h ha.2
theorem lokrbe_0 : LoopOK Erbe (lb Tryd.f56 0) [0, 4, 5, 6] [0, 5] rbeL := by
  refine loopOK (.cons okrdA (.cons okrdi .nil)) (noInner (by kernel_rfl)) (fun vs σ => match vs, σ with
    | [.one (.data (.recs [.sints .i64] _)), .one (.data (.recs [.sints .i64] a)), .one (.data (.ints .i64 _)), .one (.int .i64 i)], [] => (a.length - i).toNat
    | _, _ => 0) fun vs σ k h => ?_
  unfold rbeL at h
  split at h
  rotate_right
  · exact h.elim
  · rename_i p a b i
    rw [exrbel0a p a b i _]
    obtain ⟨⟨hp, hb, ha, h1, h0, h2⟩, h⟩ := h
    by_cases hi : i < (a.length : Int)
    · have hw : IntKind.i64.wrap (i + 1) = i + 1 := wrap_id (by omega) (by omega)
      have er : ((a.getD i.toNat []).getD (0 : Nat) (D.int 0)).toInts = rowI (a.getD i.toNat []) := rfl
      have ho : okOb p.length (rowI (a.getD i.toNat [])) = true := List.all_eq_true.1 ha _ (getD_mem (by omega))
      simp only [er]
      rw [hw, decide_eq_true hi, decide_eq_true h0, decide_eq_true (show i.toNat < a.length by omega)]
      rw [drop_step [] (show i.toNat < a.length by omega), show i.toNat + 1 = (i + 1).toNat by omega] at h
      simp only [rbF] at h
      refine ⟨⟨hp, ho⟩, ⟨hp, hb⟩, ?_⟩
      have hmu : ((a.length : Int) - (i + 1)).toNat < ((a.length : Int) - i).toNat := by omega
      cases hd : decide (disG p (rowI (a.getD i.toNat [])) < disG p b) with
      | true =>
        rw [hd] at h
        exact ⟨⟨⟨hp, ho, ha, h1, by omega, by omega⟩, h⟩, hmu⟩
      | false =>
        rw [hd] at h
        exact ⟨⟨⟨hp, hb, ha, h1, by omega, by omega⟩, h⟩, hmu⟩
    · rw [decide_eq_false hi]
      rw [List.drop_eq_nil_of_le (by omega)] at h
      exact h
theorem okrbe : SpecOK Tryd.prog 56 rbeS := by
  refine specOK (n := 37) (m := 0) (lps := [(4, .spec [0, 4, 5, 6] [0, 5] rbeL)]) (.cons okrdA (.cons okrdi .nil)) Tryd.func56 (by kernel_rfl) (by kernel_rfl) (theLoops (n := 1) (by kernel_rfl) fun i hi => ?_) fun args σ K h => ?_
  · match i, hi with
    | 0, _ => exact loopHyp_of (key := 4) (by kernel_rfl) rfl lokrbe_0
  unfold rbeS at h
  split at h
  rotate_right
  · exact h.elim
  rename_i p
  rw [exrbe p K]
  obtain ⟨hp, h⟩ := h
  have hp6 := hp.1
  obtain ⟨a1, a2⟩ := allO_ok p.length hp6
  have hall : ∀ o ∈ allO (p.length : Int), okOb p.length o = true := fun o ho => okOb_iff.2 (isOrd_ok hp6 (mem_allO.1 ho))
  have hn : ∀ o ∈ allO (p.length : Int), 0 ≤ disG p o := fun o ho => disG_nn hp (okOb_iff.1 (hall o ho))
  have hmp : (List.map ordD (allO (p.length : Int))).length = (allO (p.length : Int)).length := List.length_map _
  have hle : (allO (p.length : Int)).length ≤ 46656 := by
    have := extG_le hp6 p.length []
    have h2 := pow_le6 hp6
    unfold allO
    rw [Int.toNat_natCast]
    omega
  cases hA : allO (p.length : Int) with
  | nil => rw [hA] at a1; simp at a1
  | cons o0 os =>
    rw [hA] at hall hn hle hmp
    have hb : bestG p = bestF p o0 (disG p o0) os := by unfold bestG; rw [hA]; rfl
    have hr := rbF_best p os o0 (disG p o0) (hn o0 (by simp)) rfl fun x hx => hn x (by simp [hx])
    rw [hb, ← hr] at h
    have h0 : okOb p.length o0 = true := hall o0 (by simp)
    have haa : (List.map ordD (o0 :: os)).all (okOd p.length) = true := by
      rw [List.all_eq_true]
      intro d hd
      obtain ⟨o, ho, rfl⟩ := List.mem_map.1 hd
      exact hall o ho
    have haa2 : (List.map ordD os).all (okOd p.length) = true := by
      rw [List.map_cons, List.all_cons, Bool.and_eq_true] at haa
      exact haa.2
    simp only [List.length_cons] at hle hmp
    refine ⟨⟨by omega, by omega, rfl⟩, ?_⟩
    rw [decide_eq_true (show (0 : Int) < ((List.map ordD (o0 :: os)).length : Int) by simp only [List.map_cons, List.length_cons]; omega), decide_eq_true (show 0 < (List.map ordD (o0 :: os)).length by simp)]
    refine ⟨⟨hp, h0, haa, by simp only [List.map_cons, List.length_cons, List.length_map]; omega, by decide, by simp only [List.map_cons, List.length_cons]; omega⟩, ⟨hp, rbF_ok h0 haa2⟩, h⟩
end Go.Ev
