/-
  Part of the proof of a law.
-/
import Derived.Test.YtiflkochjfiegaaDoorC9C
import Derived.KernelRfl
set_option linter.unusedVariables false
set_option linter.unusedSimpArgs false
set_option linter.unusedSectionVars false
/-
  Chapter 9, contracts: rankings.
-/
namespace Go.Ev
open Go Go.Proofs
set_option maxRecDepth 20000
def rowI (d : List D) : List Int := (d.getD 0 (.int 0)).toInts
def rowD (p : List (List D)) (i : Nat) : List Int := rowI (p.getD i [])
def shapeS : Spec := fun args σ K => match args, σ with
  | [.one (.data (.ints .i64 r)), .one (.ptr 0 1 0 0)], [.cells [.data (.recs [.sints .i64] p)]] => K (.one (.bool ((r.length : Int) != (p.length : Int)))) [.cells [.data (.recs [.sints .i64] p)]]
  | _, _ => False
def idxSh (m : Int) : Int → List (List D) → Int
  | _, [] => -1
  | i, d :: l => bif ((rowI d).length : Int) != m then i else idxSh m (i + 1) l
def anySh (m : Int) (l : List (List D)) : Bool := l.any fun d => ((rowI d).length : Int) != m
def idxShL : LSpec := fun vs σ k => match vs, σ with
  | [.one (.data (.recs [.sints .i64] q)), .one (.func 150 [0]), .one (.int .i64 n), .one (.int .i64 i)], [.cells [.data (.recs [.sints .i64] p)]] =>
    (q.length ≤ 1000000000 ∧ 0 ≤ i ∧ n = q.length) ∧ bif anySh p.length (q.drop i.toNat) then k .ret [.one (.int .i64 (idxSh p.length i (q.drop i.toNat)))] [.cells [.data (.recs [.sints .i64] p)]] else k (.exit 0) [.any] [.cells [.data (.recs [.sints .i64] p)]]
  | _, _ => False
def idxShS : Spec := fun args σ K => match args, σ with
  | [.one (.data (.recs [.sints .i64] q)), .one (.func 150 [0])], [.cells [.data (.recs [.sints .i64] p)]] => q.length ≤ 1000000000 ∧ K (.one (.int .i64 (idxSh p.length 0 q))) [.cells [.data (.recs [.sints .i64] p)]]
  | _, _ => False
def hasShS : Spec := fun args σ K => match args, σ with
  | [.one (.data (.recs [.sints .i64] q)), .one (.func 150 [0])], [.cells [.data (.recs [.sints .i64] p)]] => q.length ≤ 1000000000 ∧ K (.one (.bool (anySh p.length q))) [.cells [.data (.recs [.sints .i64] p)]]
  | _, _ => False
def cellE (i j n : Int) : Int := firstE [bif withinG n 0 1000 then 0 else 2, bif i != j then 0 else (bif n == 0 then 0 else 3)]
def rowE (i : Int) : Int → List Int → Int
  | _, [] => 0
  | j, n :: l => bif cellE i j n == 0 then rowE i (j + 1) l else cellE i j n
def rowsE : Int → List (List D) → Int
  | _, [] => 0
  | i, d :: l => bif rowE i 0 (rowI d) == 0 then rowsE (i + 1) l else rowE i 0 (rowI d)
def headE (p : List (List D)) : Int := firstE [bif decide ((p.length : Int) ≤ 6) then 0 else 8, bif !anySh p.length p then 0 else 10]
def prefE (p : List (List D)) : Int := bif headE p == 0 then rowsE 0 p else headE p
def okSh (p : List (List D)) : Prop := p.length ≤ 6 ∧ ∀ d ∈ p, (rowI d).length = p.length
def prfOutL : LSpec := fun vs σ k => match vs, σ with
  | [.one (.data (.recs [.sints .i64] p)), .one (.int .i64 n), .one (.int .i64 i)], [] =>
    (okSh p ∧ n = p.length ∧ 0 ≤ i ∧ i ≤ n) ∧ bif rowsE i (p.drop i.toNat) == 0 then k (.exit 0) [.any] [] else k .ret [.one (.int .i64 (rowsE i (p.drop i.toNat)))] []
  | _, _ => False
def prfInL : LSpec := fun vs σ k => match vs, σ with
  | [.one (.int .i64 i), .one (.data (.recs [.sints .i64] p)), .one (.int .i64 n), .one (.int .i64 i2), .one (.data (.ints .i64 r)), .one (.int .i64 m), .one (.int .i64 j)], [] =>
    (r.length ≤ 6 ∧ m = r.length ∧ 0 ≤ j ∧ j ≤ m) ∧ bif rowE i j (r.drop j.toNat) == 0 then k (.exit 2) [.any, .one (.data (.recs [.sints .i64] p)), .one (.int .i64 n), .one (.int .i64 i2)] [] else k .ret [.one (.int .i64 (rowE i j (r.drop j.toNat))), .one (.data (.recs [.sints .i64] p)), .one (.int .i64 n), .one (.int .i64 i2)] []
  | _, _ => False
def prefS : Spec := fun args σ K => match args, σ with
  | [.one (.data (.recs [.sints .i64] p))], [] => p.length ≤ 1000000000 ∧ K (.one (.int .i64 (prefE p))) []
  | _, _ => False
def okP (p : List (List D)) : Prop := p.length ≤ 6 ∧ ∀ d ∈ p, (rowI d).length = p.length ∧ ∀ n ∈ rowI d, 0 ≤ n ∧ n ≤ 1000
def okO (p : List (List D)) (o : List Int) : Prop := o.length ≤ 6 ∧ ∀ j ∈ o, 0 ≤ j ∧ j < (p.length : Int)
def disI (row : List Int) : List Int → Int
  | [] => 0
  | i :: l => row.getD i.toNat 0 + disI row l
def disF (p : List (List D)) (o : List Int) : Nat → List Int → Int
  | _, [] => 0
  | i, j :: l => disI (rowD p j.toNat) (o.take i) + disF p o (i + 1) l
def disG (p : List (List D)) (o : List Int) : Int := disF p o 0 o
def disOutL : LSpec := fun vs σ k => match vs, σ with
  | [.one (.data (.recs [.sints .i64] p)), .one (.data (.ints .i64 o)), .one (.int .i64 s), .one (.data (.ints .i64 o2)), .one (.int .i64 n), .one (.int .i64 i)], [] =>
    (okP p ∧ okO p o ∧ o2 = o ∧ n = o.length ∧ 0 ≤ i ∧ i ≤ n ∧ 0 ≤ s ∧ s ≤ 6000 * i) ∧ k (.exit 0) [.one (.int .i64 (s + disF p o i.toNat (o.drop i.toNat)))] []
  | _, _ => False
def disInL : LSpec := fun vs σ k => match vs, σ with
  | [.one (.data (.recs [.sints .i64] p)), .one (.data (.ints .i64 o)), .one (.int .i64 s), .one (.int .i64 j), .one (.data (.ints .i64 o2)), .one (.int .i64 n), .one (.int .i64 i), .one (.data (.ints .i64 q)), .one (.int .i64 m), .one (.int .i64 h)], [] =>
    (okP p ∧ okO p q ∧ 0 ≤ j ∧ j < (p.length : Int) ∧ m = q.length ∧ 0 ≤ h ∧ h ≤ m ∧ 0 ≤ s ∧ s ≤ 30000 + 1000 * h) ∧
    k (.exit 2) [.one (.data (.recs [.sints .i64] p)), .one (.data (.ints .i64 o)), .one (.int .i64 (s + disI (rowD p j.toNat) (q.drop h.toNat))), .one (.data (.ints .i64 o2)), .one (.int .i64 n), .one (.int .i64 i)] []
  | _, _ => False
def disS : Spec := fun args σ K => match args, σ with
  | [.one (.data (.recs [.sints .i64] p)), .one (.data (.ints .i64 o))], [] => (okP p ∧ okO p o) ∧ K (.one (.int .i64 (disG p o))) []
  | _, _ => False
def cloneS : Spec := fun args σ K => match args, σ with
  | [.one (.data (.ints .i64 l))], [] => l.length ≤ 1000000 ∧ (K (.one (.own 0 1)) [.row 3 (.ints .i64 l)] ∧ (l = [] → K (.one .nil) []))
  | _, _ => False
def ordV (o : List Int) : List AV := [.one (.data (.ints .i64 o))]
def upTo (c : Nat) : List Int := (List.range c).map Int.ofNat
def extG (c : Nat) : Nat → List Int → List (List Int)
  | 0, l => [l]
  | n + 1, l => (upTo c).flatMap fun i => bif memB i l then [] else extG c n (l ++ [i])
def extR (c n : Nat) (l : List Int) (i : Nat) : List (List Int) := ((upTo c).drop i).flatMap fun i => bif memB i l then [] else extG c n (l ++ [i])
def leadsTo (L : List (List AV)) (X : List (List Int)) : Prop := L = X.map ordV ++ L.drop X.length
def extS (n : Nat) : Spec := fun args σ K => match args, σ with
  | [.one (.data (.ints .i64 l)), .one (.ptr 0 1 0 0), .one (.ptr 1 1 0 0), .one (.ptr 3 1 0 0)], [.cells [.int .i64 c], .cells [.yld 2], .ghost P J D (some L), .cells [.func 153 [0, 1, 3]]] =>
    (P = Tryd.prog ∧ 0 ≤ c ∧ c ≤ 6 ∧ ((l.length + n : Nat) : Int) = c ∧ leadsTo L (extG c.toNat n l)) ∧
    ∀ D', K (.one (.bool true)) [.cells [.int .i64 c], .cells [.yld 2], .ghost P J D' (some (L.drop (extG c.toNat n l).length)), .cells [.func 153 [0, 1, 3]]] ∧
      K (.one (.bool false)) [.cells [.int .i64 c], .cells [.yld 2], .ghost P J D' none, .cells [.func 153 [0, 1, 3]]]
  | _, _ => False
def extL (n : Nat) : LSpec := fun vs σ k => match vs, σ with
  | [.one (.data (.ints .i64 l)), .one (.ptr 3 1 0 0), .one (.int .i64 m), .one (.int .i64 i)], [.cells [.int .i64 c], .cells [.yld 2], .ghost P J D (some L), .cells [.func 153 [0, 1, 3]]] =>
    (P = Tryd.prog ∧ m = c ∧ 0 ≤ c ∧ c ≤ 6 ∧ ((l.length + n + 1 : Nat) : Int) = c ∧ 0 ≤ i ∧ i ≤ c ∧ leadsTo L (extR c.toNat n l i.toNat)) ∧
    ∀ D', k (.exit 0) [.any] [.cells [.int .i64 c], .cells [.yld 2], .ghost P J D' (some (L.drop (extR c.toNat n l i.toNat).length)), .cells [.func 153 [0, 1, 3]]] ∧
      k .ret [.one (.bool false)] [.cells [.int .i64 c], .cells [.yld 2], .ghost P J D' none, .cells [.func 153 [0, 1, 3]]]
  | _, _ => False
def noL : LSpec := fun _ _ _ => False
def extA : Spec := fun args σ K => match args, σ with
  | [.one (.data (.ints .i64 l)), .one (.ptr 0 1 0 0), .one (.ptr 1 1 0 0), .one (.ptr 3 1 0 0)], [.cells [.int .i64 c], .cells [.yld 2], .ghost P J D (some L), .cells [.func 153 [0, 1, 3]]] =>
    (P = Tryd.prog ∧ 0 ≤ c ∧ c ≤ 6 ∧ (l.length : Int) ≤ c ∧ leadsTo L (extG c.toNat (c.toNat - l.length) l)) ∧
    ∀ D', K (.one (.bool true)) [.cells [.int .i64 c], .cells [.yld 2], .ghost P J D' (some (L.drop (extG c.toNat (c.toNat - l.length) l).length)), .cells [.func 153 [0, 1, 3]]] ∧
      K (.one (.bool false)) [.cells [.int .i64 c], .cells [.yld 2], .ghost P J D' none, .cells [.func 153 [0, 1, 3]]]
  | _, _ => False
def allO (c : Int) : List (List Int) := extG c.toNat c.toNat []
def ordersSq : SeqSpec := fun caps lent => match caps, lent with
  | [.one (.ptr 1 1 0 0)], [.cells [.int .i64 c]] => some (decide (0 ≤ c) && decide (c ≤ 6), (allO c).map ordV)
  | _, _ => none
def ordersS : Spec := fun args σ K => match args, σ with
  | [.one (.int .i64 n)], [] => K (.one (.func 152 [0])) [.cells [.int .i64 n]]
  | _, _ => False
def bestF (p : List (List D)) : List Int → Int → List (List Int) → List Int × Int
  | b, l, [] => (b, l)
  | b, l, o :: os => bif decide (l < 0) || decide (disG p o < l) then bestF p o (disG p o) os else bestF p b l os
def bestL (xs : List (List AV)) : LSpec := fun vs σ k => match vs, σ with
  | [.one (.ptr 0 1 0 0), .one (.ptr 1 1 0 0), .one (.ptr 2 1 0 0)], [.cells [.data (.recs [.sints .i64] p)], .cells [.nil], .cells [.int .i64 l]] =>
    ∃ os : List (List Int), xs = os.map ordV ∧ (okP p ∧ l = -1 ∧ os ≠ [] ∧ ∀ o ∈ os, okO p o) ∧
    k .normal [.one (.ptr 0 1 0 0), .one (.ptr 1 1 0 0), .one (.ptr 2 1 0 0)] [.cells [.data (.recs [.sints .i64] p)], .cells [.data (.ints .i64 (bestF p [] l os).1)], .cells [.int .i64 (bestF p [] l os).2]]
  | [.one (.ptr 0 1 0 0), .one (.ptr 1 1 0 0), .one (.ptr 2 1 0 0)], [.cells [.data (.recs [.sints .i64] p)], .cells [.data (.ints .i64 b)], .cells [.int .i64 l]] =>
    ∃ os : List (List Int), xs = os.map ordV ∧ (okP p ∧ 0 ≤ l ∧ ∀ o ∈ os, okO p o) ∧
    k .normal [.one (.ptr 0 1 0 0), .one (.ptr 1 1 0 0), .one (.ptr 2 1 0 0)] [.cells [.data (.recs [.sints .i64] p)], .cells [.data (.ints .i64 (bestF p b l os).1)], .cells [.int .i64 (bestF p b l os).2]]
  | _, _ => False
def bestG (p : List (List D)) : List Int × Int := bestF p [] (-1) (allO p.length)
def bestS : Spec := fun args σ K => match args, σ with
  | [.one (.data (.recs [.sints .i64] p))], [] => p.length ≤ 1000000000 ∧
    bif prefE p == 0 then K (.tup [.one (.data (.ints .i64 (bestG p).1)), .one (.int .i64 (bestG p).2), .one (.int .i64 0)]) []
    else K (.tup [.one .nil, .one (.int .i64 0), .one (.int .i64 (prefE p))]) []
  | _, _ => False
noncomputable abbrev Eshp : Env := envOf Tryd.prog [] [] 9 1
noncomputable abbrev Eixs : Env := envOf Tryd.prog [(150, shapeS)] [(2, .spec [0, 1, 7, 8] [4] idxShL)] 19 1
noncomputable abbrev Ehsh : Env := envOf Tryd.prog [(172, idxShS)] [] 9 1
noncomputable abbrev Eprf : Env := envOf Tryd.prog [(103, withinS), (104, unlessS), (98, firstS), (149, hasShS)] [(6, .spec [25, 26, 27] [2] prfOutL), (9, .spec [5, 25, 26, 27, 32, 33, 34] [2, 25, 26, 27] prfInL)] 57 0
noncomputable abbrev Edis : Env := envOf Tryd.prog [] [(3, .spec [0, 1, 5, 10, 11, 12] [5] disOutL), (6, .spec [0, 1, 5, 7, 10, 11, 12, 19, 20, 21] [0, 1, 5, 10, 11, 12] disInL)] 37 0
noncomputable abbrev Ecln : Env := envOf Tryd.prog [] [] 8 0
noncomputable abbrev Eexz : Env := envOf Tryd.prog [(154, cloneS), (119, containsS)] [(4, .spec [0, 3, 15, 16] [5] noL)] 34 4
noncomputable abbrev Eext (n : Nat) : Env := envOf Tryd.prog [(154, cloneS), (119, containsS), (153, extS n)] [(4, .spec [0, 3, 15, 16] [5] (extL n))] 34 4
noncomputable abbrev Eor1 : Env := envOf Tryd.prog [(153, extA)] [] 7 2
noncomputable abbrev Eord : Env := envOf Tryd.prog [] [] 4 0
noncomputable abbrev Ebst : Env := envOf Tryd.prog [(118, prefS), (121, ordersS), (120, disS)] [(1000007, .range 152 ordersSq [1, 6, 7] bestL)] 33 0
end Go.Ev

namespace Go.Ev
open Go Go.Proofs
set_option maxRecDepth 100000
theorem exshp (r : List Int) (p : List (List D)) (K : AV → List Blk → Prop) : evFn Eshp Tryd.f150 [.one (.data (.ints .i64 r)), .one (.ptr 0 1 0 0)] [.cells [.data (.recs [.sints .i64] p)]] K = ( K (.one (.bool ((↑r.length : Int) != (↑p.length : Int)))) [Blk.cells [SV.data (Row.recs [CK.sints .i64] p)]]) := by kernel_rfl
theorem exixs (q p : List (List D)) (K : AV → List Blk → Prop) : evFn Eixs Tryd.f172 [.one (.data (.recs [.sints .i64] q)), .one (.func 150 [0])] [.cells [.data (.recs [.sints .i64] p)]] K = ( (q.length ≤ 1000000000 ∧ (0 :Int) ≤ (0 :Int) ∧ (↑q.length : Int) = (↑q.length : Int)) ∧ bif anySh (↑p.length : Int) q then K (.one (.int .i64 (idxSh (↑p.length : Int) 0 q))) [Blk.cells [SV.data (Row.recs [CK.sints .i64] p)]] else K (.one (.int .i64 (-1 : Int))) [Blk.cells [SV.data (Row.recs [CK.sints .i64] p)]]) := by kernel_rfl
theorem exixsa (q p : List (List D)) (n i : Int) (K : Ex → List AV → List Blk → Prop) : evBody Eixs (lb Tryd.f172 0) [0, 1, 7, 8] [4] [.one (.data (.recs [.sints .i64] q)), .one (.func 150 [0]), .one (.int .i64 n), .one (.int .i64 i)] [.cells [.data (.recs [.sints .i64] p)]] K = ( bif decide (i < n) then bif decide (0 ≤ i) && decide (i < (↑q.length : Int)) then bif decide (0 < 1) && decide (i.toNat < q.length) then bif (↑((q.getD i.toNat []).getD 0 (D.int 0)).toInts.length : Int) != (↑p.length : Int) then K .ret [.one (.int .i64 i)] [Blk.cells [SV.data (Row.recs [CK.sints .i64] p)]] else K .normal [.one (.data (Row.recs [CK.sints .i64] q)), .one (.func (150 : FuncId) [0]), .one (.int .i64 n), .one (.int .i64 (IntKind.i64.wrap (i + 1)))] [Blk.cells [SV.data (Row.recs [CK.sints .i64] p)]] else False else False else K (.exit 0) [AV.any] [Blk.cells [SV.data (Row.recs [CK.sints .i64] p)]]) := by kernel_rfl
theorem exhsh (q p : List (List D)) (K : AV → List Blk → Prop) : evFn Ehsh Tryd.f149 [.one (.data (.recs [.sints .i64] q)), .one (.func 150 [0])] [.cells [.data (.recs [.sints .i64] p)]] K = ( q.length ≤ 1000000000 ∧ K (.one (.bool (decide (idxSh (↑p.length : Int) 0 q ≥ 0)))) [Blk.cells [SV.data (Row.recs [CK.sints .i64] p)]]) := by kernel_rfl
theorem exprf (p : List (List D)) (K : AV → List Blk → Prop) : evFn Eprf Tryd.f118 [.one (.data (.recs [.sints .i64] p))] [] K = ( p.length ≤ 1000000000 ∧ [bif decide ((↑p.length : Int) ≤ 6) then (0 :Int) else (8 :Int), bif !anySh (↑p.length : Int) p then (0 :Int) else (10 :Int)].length ≤ 1000 ∧ bif firstE [bif decide ((↑p.length : Int) ≤ 6) then (0 :Int) else (8 :Int), bif !anySh (↑p.length : Int) p then (0 :Int) else (10 :Int)] != 0 then K (.one (.int .i64 (firstE [bif decide ((↑p.length : Int) ≤ 6) then (0 :Int) else (8 :Int), bif !anySh (↑p.length : Int) p then (0 :Int) else (10 :Int)]))) [] else ((p.length ≤ 6 ∧ ∀ (d : List D), d ∈ p → (rowI d).length = p.length) ∧ (↑p.length : Int) = (↑p.length : Int) ∧ (0 :Int) ≤ (0 :Int) ∧ 0 ≤ (↑p.length : Int)) ∧ bif rowsE 0 p == 0 then K (.one (.int .i64 0)) [] else K (.one (.int .i64 (rowsE 0 p))) []) := by kernel_rfl
theorem exprfa (p : List (List D)) (n i : Int) (K : Ex → List AV → List Blk → Prop) : evBody Eprf (lb Tryd.f118 0) [25, 26, 27] [2] [.one (.data (.recs [.sints .i64] p)), .one (.int .i64 n), .one (.int .i64 i)] [] K = ( bif decide (i < n) then bif decide (0 ≤ i) && decide (i < (↑p.length : Int)) then bif decide (0 < 1) && decide (i.toNat < p.length) then (((p.getD i.toNat []).getD 0 (D.int 0)).toInts.length ≤ 6 ∧ (↑((p.getD i.toNat []).getD 0 (D.int 0)).toInts.length : Int) = (↑((p.getD i.toNat []).getD 0 (D.int 0)).toInts.length : Int) ∧ (0 :Int) ≤ (0 :Int) ∧ 0 ≤ (↑((p.getD i.toNat []).getD 0 (D.int 0)).toInts.length : Int)) ∧ bif rowE i 0 (match (p.getD i.toNat []).getD 0 (D.int 0) with | D.ints xs => xs | x => []) == 0 then K .normal [.one (.data (Row.recs [CK.sints .i64] p)), .one (.int .i64 n), .one (.int .i64 (IntKind.i64.wrap (i + 1)))] [] else K .ret [.one (.int .i64 (rowE i 0 (match (p.getD i.toNat []).getD 0 (D.int 0) with | D.ints xs => xs | x => [])))] [] else False else False else K (.exit 0) [AV.any] []) := by kernel_rfl
theorem exprfb (p : List (List D)) (r : List Int) (i n i2 m j : Int) (K : Ex → List AV → List Blk → Prop) : evBody Eprf (lb Tryd.f118 1) [5, 25, 26, 27, 32, 33, 34] [2, 25, 26, 27] [.one (.int .i64 i), .one (.data (.recs [.sints .i64] p)), .one (.int .i64 n), .one (.int .i64 i2), .one (.data (.ints .i64 r)), .one (.int .i64 m), .one (.int .i64 j)] [] K = ( bif decide (j < m) then bif decide (0 ≤ j) && decide (j < (↑r.length : Int)) then bif decide (j.toNat + 0 < r.length) then bif i != j then [bif decide (0 ≤ r.getD (j.toNat + 0) 0) && decide (r.getD (j.toNat + 0) (0 :Int) ≤ (1000 :Int)) then (0 :Int) else (2 :Int), 0].length ≤ 1000 ∧ bif firstE [bif decide (0 ≤ r.getD (j.toNat + 0) 0) && decide (r.getD (j.toNat + 0) (0 :Int) ≤ (1000 :Int)) then (0 :Int) else (2 :Int), 0] != 0 then K .ret [.one (.int .i64 (firstE [bif decide (0 ≤ r.getD (j.toNat + 0) 0) && decide (r.getD (j.toNat + 0) (0 :Int) ≤ (1000 :Int)) then (0 :Int) else (2 :Int), 0])), .one (.data (Row.recs [CK.sints .i64] p)), .one (.int .i64 n), .one (.int .i64 i2)] [] else K .normal [.one (.int .i64 i), .one (.data (Row.recs [CK.sints .i64] p)), .one (.int .i64 n), .one (.int .i64 i2), .one (.data (Row.ints .i64 r)), .one (.int .i64 m), .one (.int .i64 (IntKind.i64.wrap (j + 1)))] [] else [bif decide (0 ≤ r.getD (j.toNat + 0) 0) && decide (r.getD (j.toNat + 0) (0 :Int) ≤ (1000 :Int)) then (0 :Int) else (2 :Int), bif r.getD (j.toNat + 0) (0 :Int) == (0 :Int) then (0 :Int) else (3 :Int)].length ≤ 1000 ∧ bif firstE [bif decide (0 ≤ r.getD (j.toNat + 0) 0) && decide (r.getD (j.toNat + 0) (0 :Int) ≤ (1000 :Int)) then (0 :Int) else (2 :Int), bif r.getD (j.toNat + 0) (0 :Int) == (0 :Int) then (0 :Int) else (3 :Int)] != 0 then K .ret [.one (.int .i64 (firstE [bif decide (0 ≤ r.getD (j.toNat + 0) 0) && decide (r.getD (j.toNat + 0) (0 :Int) ≤ (1000 :Int)) then (0 :Int) else (2 :Int), bif r.getD (j.toNat + 0) (0 :Int) == (0 :Int) then (0 :Int) else (3 :Int)])), .one (.data (Row.recs [CK.sints .i64] p)), .one (.int .i64 n), .one (.int .i64 i2)] [] else K .normal [.one (.int .i64 i), .one (.data (Row.recs [CK.sints .i64] p)), .one (.int .i64 n), .one (.int .i64 i2), .one (.data (Row.ints .i64 r)), .one (.int .i64 m), .one (.int .i64 (IntKind.i64.wrap (j + 1)))] [] else False else False else K (.exit 2) [AV.any, .one (.data (Row.recs [CK.sints .i64] p)), .one (.int .i64 n), .one (.int .i64 i2)] []) := by kernel_rfl
theorem exdis (p : List (List D)) (o : List Int) (K : AV → List Blk → Prop) : evFn Edis Tryd.f120 [.one (.data (.recs [.sints .i64] p)), .one (.data (.ints .i64 o))] [] K = ( ((p.length ≤ 6 ∧ ∀ (d : List D), d ∈ p → (rowI d).length = p.length ∧ ∀ (n : Int), n ∈ rowI d → 0 ≤ n ∧ n ≤ 1000) ∧ (o.length ≤ 6 ∧ ∀ (j : Int), j ∈ o → 0 ≤ j ∧ j < (↑p.length : Int)) ∧ o = o ∧ (↑o.length : Int) = (↑o.length : Int) ∧ (0 :Int) ≤ (0 :Int) ∧ 0 ≤ (↑o.length : Int) ∧ (0 :Int) ≤ (0 :Int) ∧ (0 :Int) ≤ (0 :Int)) ∧ K (.one (.int .i64 (0 + disF p o 0 o))) []) := by kernel_rfl
theorem exdisa (p : List (List D)) (o o2 : List Int) (s n i : Int) (K : Ex → List AV → List Blk → Prop) : evBody Edis (lb Tryd.f120 0) [0, 1, 5, 10, 11, 12] [5] [.one (.data (.recs [.sints .i64] p)), .one (.data (.ints .i64 o)), .one (.int .i64 s), .one (.data (.ints .i64 o2)), .one (.int .i64 n), .one (.int .i64 i)] [] K = ( bif decide (i < n) then bif decide (0 ≤ i) && decide (i < (↑o2.length : Int)) then bif decide (i.toNat + 0 < o2.length) then bif decide (0 ≤ i) && (decide (i.toNat ≤ o.length) && decide (0 ≤ i.toNat)) then ((p.length ≤ 6 ∧ ∀ (d : List D), d ∈ p → (rowI d).length = p.length ∧ ∀ (n : Int), n ∈ rowI d → 0 ≤ n ∧ n ≤ 1000) ∧ ((List.take (i.toNat - 0) o).length ≤ 6 ∧ ∀ (j : Int), j ∈ List.take (i.toNat - 0) (List.drop 0 o) → 0 ≤ j ∧ j < (↑p.length : Int)) ∧ 0 ≤ o2.getD (i.toNat + 0) 0 ∧ o2.getD (i.toNat + 0) 0 < (↑p.length : Int) ∧ (↑(List.take (i.toNat - 0) o).length : Int) = (↑(List.take (i.toNat - 0) o).length : Int) ∧ (0 :Int) ≤ (0 :Int) ∧ 0 ≤ (↑(List.take (i.toNat - 0) o).length : Int) ∧ 0 ≤ s ∧ s ≤ 30000) ∧ K .normal [.one (.data (Row.recs [CK.sints .i64] p)), .one (.data (Row.ints .i64 o)), .one (.int .i64 (s + disI (rowD p (o2.getD (i.toNat + 0) 0).toNat) (List.take (i.toNat - 0) o))), .one (.data (Row.ints .i64 o2)), .one (.int .i64 n), .one (.int .i64 (IntKind.i64.wrap (i + 1)))] [] else False else False else False else K (.exit 0) [.one (.int .i64 s)] []) := by kernel_rfl
theorem exdisb (p : List (List D)) (o o2 q : List Int) (s j n i m h : Int) (K : Ex → List AV → List Blk → Prop) : evBody Edis (lb Tryd.f120 1) [0, 1, 5, 7, 10, 11, 12, 19, 20, 21] [0, 1, 5, 10, 11, 12] [.one (.data (.recs [.sints .i64] p)), .one (.data (.ints .i64 o)), .one (.int .i64 s), .one (.int .i64 j), .one (.data (.ints .i64 o2)), .one (.int .i64 n), .one (.int .i64 i), .one (.data (.ints .i64 q)), .one (.int .i64 m), .one (.int .i64 h)] [] K = ( bif decide (h < m) then bif decide (0 ≤ h) && decide (h < (↑q.length : Int)) then bif decide (h.toNat + 0 < q.length) then bif decide (0 ≤ j) && decide (j < (↑p.length : Int)) then bif decide (0 < 1) && decide (j.toNat < p.length) then bif decide (0 ≤ q.getD (h.toNat + 0) 0) && decide (q.getD (h.toNat + 0) 0 < (↑((p.getD j.toNat []).getD 0 (D.int 0)).toInts.length : Int)) then bif decide ((q.getD (h.toNat + 0) 0).toNat + 0 < ((p.getD j.toNat []).getD 0 (D.int 0)).toInts.length) then K .normal [.one (.data (Row.recs [CK.sints .i64] p)), .one (.data (Row.ints .i64 o)), .one (.int .i64 (IntKind.i64.wrap (s + ((p.getD j.toNat []).getD 0 (D.int 0)).toInts.getD ((q.getD (h.toNat + 0) 0).toNat + 0) 0))), .one (.int .i64 j), .one (.data (Row.ints .i64 o2)), .one (.int .i64 n), .one (.int .i64 i), .one (.data (Row.ints .i64 q)), .one (.int .i64 m), .one (.int .i64 (IntKind.i64.wrap (h + 1)))] [] else False else False else False else False else False else False else K (.exit 2) [.one (.data (Row.recs [CK.sints .i64] p)), .one (.data (Row.ints .i64 o)), .one (.int .i64 s), .one (.data (Row.ints .i64 o2)), .one (.int .i64 n), .one (.int .i64 i)] []) := by kernel_rfl
theorem excln (l : List Int) (K : AV → List Blk → Prop) : evFn Ecln Tryd.f154 [.one (.data (.ints .i64 l))] [] K = ( bif decide (l.length = 0) then K (.one .nil) [] ∧ bif decide (l.length * 8 ≤ 140737488355328 ∧ l.length ≤ 140737488355328) then K (.one (.own 0 1)) [Blk.row 3 (Row.ints .i64 l)] else False else bif decide (l.length * 8 ≤ 140737488355328 ∧ l.length ≤ 140737488355328) then K (.one (.own 0 1)) [Blk.row 3 (Row.ints .i64 l)] else False) := by kernel_rfl
theorem exexz (l : List Int) (c : Int) (P : Program) (J : GJ) (D : Nat → Prop) (L : List (List AV)) (K : AV → List Blk → Prop) : evFn Eexz Tryd.f153 [.one (.data (.ints .i64 l)), .one (.ptr 0 1 0 0), .one (.ptr 1 1 0 0), .one (.ptr 3 1 0 0)] [.cells [.int .i64 c], .cells [.yld 2], .ghost P J D (some L), .cells [.func 153 [0, 1, 3]]] K = ( bif (↑l.length : Int) == c then l.length ≤ 1000000 ∧ (P = Eexz.P ∧ (L = [.one (.data (Row.ints .i64 l))] :: match L with | [] => [] | head :: tl0 => tl0) ∧ ∀ (D' : Nat → Prop), K (.one (.bool true)) [Blk.cells [SV.int .i64 c], Blk.cells [SV.yld 2], Blk.ghost P J D' (some (match L with | [] => [] | head :: tl0 => tl0)), Blk.cells [SV.func (153 : FuncId) [0, 1, 3]]] ∧ K (.one (.bool false)) [Blk.cells [SV.int .i64 c], Blk.cells [SV.yld 2], Blk.ghost P J D' none, Blk.cells [SV.func (153 : FuncId) [0, 1, 3]]]) ∧ (l = [] → P = Eexz.P ∧ (L = [.one (.data (Row.ints .i64 []))] :: match L with | [] => [] | head :: tl0 => tl0) ∧ ∀ (D' : Nat → Prop), K (.one (.bool true)) [Blk.cells [SV.int .i64 c], Blk.cells [SV.yld 2], Blk.ghost P J D' (some (match L with | [] => [] | head :: tl0 => tl0)), Blk.cells [SV.func (153 : FuncId) [0, 1, 3]]] ∧ K (.one (.bool false)) [Blk.cells [SV.int .i64 c], Blk.cells [SV.yld 2], Blk.ghost P J D' none, Blk.cells [SV.func (153 : FuncId) [0, 1, 3]]]) else False) := by kernel_rfl
theorem exext (n : Nat) (l : List Int) (c : Int) (P : Program) (J : GJ) (D : Nat → Prop) (L : List (List AV)) (K : AV → List Blk → Prop) : evFn (Eext n) Tryd.f153 [.one (.data (.ints .i64 l)), .one (.ptr 0 1 0 0), .one (.ptr 1 1 0 0), .one (.ptr 3 1 0 0)] [.cells [.int .i64 c], .cells [.yld 2], .ghost P J D (some L), .cells [.func 153 [0, 1, 3]]] K = ( bif (↑l.length : Int) == c then l.length ≤ 1000000 ∧ (P = (Eext n).P ∧ (L = [.one (.data (Row.ints .i64 l))] :: match L with | [] => [] | head :: tl0 => tl0) ∧ ∀ (D' : Nat → Prop), K (.one (.bool true)) [Blk.cells [SV.int .i64 c], Blk.cells [SV.yld 2], Blk.ghost P J D' (some (match L with | [] => [] | head :: tl0 => tl0)), Blk.cells [SV.func (153 : FuncId) [0, 1, 3]]] ∧ K (.one (.bool false)) [Blk.cells [SV.int .i64 c], Blk.cells [SV.yld 2], Blk.ghost P J D' none, Blk.cells [SV.func (153 : FuncId) [0, 1, 3]]]) ∧ (l = [] → P = (Eext n).P ∧ (L = [.one (.data (Row.ints .i64 []))] :: match L with | [] => [] | head :: tl0 => tl0) ∧ ∀ (D' : Nat → Prop), K (.one (.bool true)) [Blk.cells [SV.int .i64 c], Blk.cells [SV.yld 2], Blk.ghost P J D' (some (match L with | [] => [] | head :: tl0 => tl0)), Blk.cells [SV.func (153 : FuncId) [0, 1, 3]]] ∧ K (.one (.bool false)) [Blk.cells [SV.int .i64 c], Blk.cells [SV.yld 2], Blk.ghost P J D' none, Blk.cells [SV.func (153 : FuncId) [0, 1, 3]]]) else (P = Tryd.prog ∧ c = c ∧ 0 ≤ c ∧ c ≤ 6 ∧ (↑(l.length + n + 1) : Int) = c ∧ (0 :Int) ≤ (0 :Int) ∧ 0 ≤ c ∧ leadsTo L (extR c.toNat n l (Int.toNat (0 :Int)))) ∧ ∀ (D' : Nat → Prop), K (.one (.bool true)) [Blk.cells [SV.int .i64 c], Blk.cells [SV.yld 2], Blk.ghost P J D' (some (List.drop (extR c.toNat n l 0).length L)), Blk.cells [SV.func (153 : FuncId) [0, 1, 3]]] ∧ K (.one (.bool false)) [Blk.cells [SV.int .i64 c], Blk.cells [SV.yld 2], Blk.ghost P J D' none, Blk.cells [SV.func (153 : FuncId) [0, 1, 3]]]) := by kernel_rfl
theorem exexta (n : Nat) (l : List Int) (m i c : Int) (P : Program) (J : GJ) (D : Nat → Prop) (L : List (List AV)) (K : Ex → List AV → List Blk → Prop) : evBody (Eext n) (lb Tryd.f153 0) [0, 3, 15, 16] [5] [.one (.data (.ints .i64 l)), .one (.ptr 3 1 0 0), .one (.int .i64 m), .one (.int .i64 i)] [.cells [.int .i64 c], .cells [.yld 2], .ghost P J D (some L), .cells [.func 153 [0, 1, 3]]] K = ( bif decide (i < m) then l.length ≤ 1000000000 ∧ bif !memB i l then ((l.length ≤ 1000000 ∧ (bif decide ((l ++ [i]).length * 8 ≤ 140737488355328 ∧ (l ++ [i]).length ≤ 140737488355328) then (P = Tryd.prog ∧ 0 ≤ c ∧ c ≤ 6 ∧ (↑((l ++ [i]).length + n) : Int) = c ∧ leadsTo L (extG c.toNat n (l ++ (fun x => i :: x) []))) ∧ ∀ (D' : Nat → Prop), K .normal [.one (.data (Row.ints .i64 l)), .one (.ptr 3 1 0 0), .one (.int .i64 m), .one (.int .i64 (IntKind.i64.wrap (i + 1)))] [Blk.cells [SV.int .i64 c], Blk.cells [SV.yld 2], Blk.ghost P J D' (some (List.drop (extG c.toNat n (l ++ [i])).length L)), Blk.cells [SV.func (153 : FuncId) [0, 1, 3]]] ∧ K .ret [.one (.bool false)] [Blk.cells [SV.int .i64 c], Blk.cells [SV.yld 2], Blk.ghost P J D' none, Blk.cells [SV.func (153 : FuncId) [0, 1, 3]]] else False) ∧ (l = [] → (P = Tryd.prog ∧ 0 ≤ c ∧ c ≤ 6 ∧ (↑([i].length + n) : Int) = c ∧ leadsTo L (extG c.toNat n ((fun x => i :: x) []))) ∧ ∀ (D' : Nat → Prop), K .normal [.one (.data (Row.ints .i64 l)), .one (.ptr 3 1 0 0), .one (.int .i64 m), .one (.int .i64 (IntKind.i64.wrap (i + 1)))] [Blk.cells [SV.int .i64 c], Blk.cells [SV.yld 2], Blk.ghost P J D' (some (List.drop (extG c.toNat n [i]).length L)), Blk.cells [SV.func (153 : FuncId) [0, 1, 3]]] ∧ K .ret [.one (.bool false)] [Blk.cells [SV.int .i64 c], Blk.cells [SV.yld 2], Blk.ghost P J D' none, Blk.cells [SV.func (153 : FuncId) [0, 1, 3]]])) ∧ l.length ≤ 1000000 ∧ (bif decide ((l ++ [i]).length * 8 ≤ 140737488355328 ∧ (l ++ [i]).length ≤ 140737488355328) then (P = Tryd.prog ∧ 0 ≤ c ∧ c ≤ 6 ∧ (↑((l ++ [i]).length + n) : Int) = c ∧ leadsTo L (extG c.toNat n (l ++ (fun x => i :: x) []))) ∧ ∀ (D' : Nat → Prop), K .normal [.one (.data (Row.ints .i64 l)), .one (.ptr 3 1 0 0), .one (.int .i64 m), .one (.int .i64 (IntKind.i64.wrap (i + 1)))] [Blk.cells [SV.int .i64 c], Blk.cells [SV.yld 2], Blk.ghost P J D' (some (List.drop (extG c.toNat n (l ++ [i])).length L)), Blk.cells [SV.func (153 : FuncId) [0, 1, 3]]] ∧ K .ret [.one (.bool false)] [Blk.cells [SV.int .i64 c], Blk.cells [SV.yld 2], Blk.ghost P J D' none, Blk.cells [SV.func (153 : FuncId) [0, 1, 3]]] else False) ∧ (l = [] → (P = Tryd.prog ∧ 0 ≤ c ∧ c ≤ 6 ∧ (↑([i].length + n) : Int) = c ∧ leadsTo L (extG c.toNat n ((fun x => i :: x) []))) ∧ ∀ (D' : Nat → Prop), K .normal [.one (.data (Row.ints .i64 l)), .one (.ptr 3 1 0 0), .one (.int .i64 m), .one (.int .i64 (IntKind.i64.wrap (i + 1)))] [Blk.cells [SV.int .i64 c], Blk.cells [SV.yld 2], Blk.ghost P J D' (some (List.drop (extG c.toNat n [i]).length L)), Blk.cells [SV.func (153 : FuncId) [0, 1, 3]]] ∧ K .ret [.one (.bool false)] [Blk.cells [SV.int .i64 c], Blk.cells [SV.yld 2], Blk.ghost P J D' none, Blk.cells [SV.func (153 : FuncId) [0, 1, 3]]])) ∧ (l.length ≤ 1000000 ∧ ((bif decide ((l ++ [i]).length * 8 ≤ 140737488355328 ∧ (l ++ [i]).length ≤ 140737488355328) then (P = Tryd.prog ∧ 0 ≤ c ∧ c ≤ 6 ∧ (↑((l ++ [i]).length + n) : Int) = c ∧ leadsTo L (extG c.toNat n (l ++ (fun x => i :: x) []))) ∧ ∀ (D' : Nat → Prop), K .normal [.one (.data (Row.ints .i64 l)), .one (.ptr 3 1 0 0), .one (.int .i64 m), .one (.int .i64 (IntKind.i64.wrap (i + 1)))] [Blk.cells [SV.int .i64 c], Blk.cells [SV.yld 2], Blk.ghost P J D' (some (List.drop (extG c.toNat n (l ++ [i])).length L)), Blk.cells [SV.func (153 : FuncId) [0, 1, 3]]] ∧ K .ret [.one (.bool false)] [Blk.cells [SV.int .i64 c], Blk.cells [SV.yld 2], Blk.ghost P J D' none, Blk.cells [SV.func (153 : FuncId) [0, 1, 3]]] else False) ∧ (bif decide ((l ++ [i]).length * 8 ≤ 140737488355328 ∧ (l ++ [i]).length ≤ 140737488355328) then (P = Tryd.prog ∧ 0 ≤ c ∧ c ≤ 6 ∧ (↑((l ++ [i]).length + n) : Int) = c ∧ leadsTo L (extG c.toNat n (l ++ (fun x => i :: x) []))) ∧ ∀ (D' : Nat → Prop), K .normal [.one (.data (Row.ints .i64 l)), .one (.ptr 3 1 0 0), .one (.int .i64 m), .one (.int .i64 (IntKind.i64.wrap (i + 1)))] [Blk.cells [SV.int .i64 c], Blk.cells [SV.yld 2], Blk.ghost P J D' (some (List.drop (extG c.toNat n (l ++ [i])).length L)), Blk.cells [SV.func (153 : FuncId) [0, 1, 3]]] ∧ K .ret [.one (.bool false)] [Blk.cells [SV.int .i64 c], Blk.cells [SV.yld 2], Blk.ghost P J D' none, Blk.cells [SV.func (153 : FuncId) [0, 1, 3]]] else False) ∧ bif decide ((l ++ [i]).length * 8 ≤ 140737488355328 ∧ (l ++ [i]).length ≤ 140737488355328) then (P = Tryd.prog ∧ 0 ≤ c ∧ c ≤ 6 ∧ (↑((l ++ [i]).length + n) : Int) = c ∧ leadsTo L (extG c.toNat n (l ++ (fun x => i :: x) []))) ∧ ∀ (D' : Nat → Prop), K .normal [.one (.data (Row.ints .i64 l)), .one (.ptr 3 1 0 0), .one (.int .i64 m), .one (.int .i64 (IntKind.i64.wrap (i + 1)))] [Blk.cells [SV.int .i64 c], Blk.cells [SV.yld 2], Blk.ghost P J D' (some (List.drop (extG c.toNat n (l ++ [i])).length L)), Blk.cells [SV.func (153 : FuncId) [0, 1, 3]]] ∧ K .ret [.one (.bool false)] [Blk.cells [SV.int .i64 c], Blk.cells [SV.yld 2], Blk.ghost P J D' none, Blk.cells [SV.func (153 : FuncId) [0, 1, 3]]] else False) ∧ (l = [] → ((P = Tryd.prog ∧ 0 ≤ c ∧ c ≤ 6 ∧ (↑([i].length + n) : Int) = c ∧ leadsTo L (extG c.toNat n ((fun x => i :: x) []))) ∧ ∀ (D' : Nat → Prop), K .normal [.one (.data (Row.ints .i64 l)), .one (.ptr 3 1 0 0), .one (.int .i64 m), .one (.int .i64 (IntKind.i64.wrap (i + 1)))] [Blk.cells [SV.int .i64 c], Blk.cells [SV.yld 2], Blk.ghost P J D' (some (List.drop (extG c.toNat n [i]).length L)), Blk.cells [SV.func (153 : FuncId) [0, 1, 3]]] ∧ K .ret [.one (.bool false)] [Blk.cells [SV.int .i64 c], Blk.cells [SV.yld 2], Blk.ghost P J D' none, Blk.cells [SV.func (153 : FuncId) [0, 1, 3]]]) ∧ ((P = Tryd.prog ∧ 0 ≤ c ∧ c ≤ 6 ∧ (↑([i].length + n) : Int) = c ∧ leadsTo L (extG c.toNat n ((fun x => i :: x) []))) ∧ ∀ (D' : Nat → Prop), K .normal [.one (.data (Row.ints .i64 l)), .one (.ptr 3 1 0 0), .one (.int .i64 m), .one (.int .i64 (IntKind.i64.wrap (i + 1)))] [Blk.cells [SV.int .i64 c], Blk.cells [SV.yld 2], Blk.ghost P J D' (some (List.drop (extG c.toNat n [i]).length L)), Blk.cells [SV.func (153 : FuncId) [0, 1, 3]]] ∧ K .ret [.one (.bool false)] [Blk.cells [SV.int .i64 c], Blk.cells [SV.yld 2], Blk.ghost P J D' none, Blk.cells [SV.func (153 : FuncId) [0, 1, 3]]]) ∧ (P = Tryd.prog ∧ 0 ≤ c ∧ c ≤ 6 ∧ (↑([i].length + n) : Int) = c ∧ leadsTo L (extG c.toNat n ((fun x => i :: x) []))) ∧ ∀ (D' : Nat → Prop), K .normal [.one (.data (Row.ints .i64 l)), .one (.ptr 3 1 0 0), .one (.int .i64 m), .one (.int .i64 (IntKind.i64.wrap (i + 1)))] [Blk.cells [SV.int .i64 c], Blk.cells [SV.yld 2], Blk.ghost P J D' (some (List.drop (extG c.toNat n [i]).length L)), Blk.cells [SV.func (153 : FuncId) [0, 1, 3]]] ∧ K .ret [.one (.bool false)] [Blk.cells [SV.int .i64 c], Blk.cells [SV.yld 2], Blk.ghost P J D' none, Blk.cells [SV.func (153 : FuncId) [0, 1, 3]]])) ∧ (l.length ≤ 1000000 ∧ (bif decide ((l ++ [i]).length * 8 ≤ 140737488355328 ∧ (l ++ [i]).length ≤ 140737488355328) then (P = Tryd.prog ∧ 0 ≤ c ∧ c ≤ 6 ∧ (↑((l ++ [i]).length + n) : Int) = c ∧ leadsTo L (extG c.toNat n (l ++ (fun x => i :: x) []))) ∧ ∀ (D' : Nat → Prop), K .normal [.one (.data (Row.ints .i64 l)), .one (.ptr 3 1 0 0), .one (.int .i64 m), .one (.int .i64 (IntKind.i64.wrap (i + 1)))] [Blk.cells [SV.int .i64 c], Blk.cells [SV.yld 2], Blk.ghost P J D' (some (List.drop (extG c.toNat n (l ++ [i])).length L)), Blk.cells [SV.func (153 : FuncId) [0, 1, 3]]] ∧ K .ret [.one (.bool false)] [Blk.cells [SV.int .i64 c], Blk.cells [SV.yld 2], Blk.ghost P J D' none, Blk.cells [SV.func (153 : FuncId) [0, 1, 3]]] else False) ∧ (l = [] → (P = Tryd.prog ∧ 0 ≤ c ∧ c ≤ 6 ∧ (↑([i].length + n) : Int) = c ∧ leadsTo L (extG c.toNat n ((fun x => i :: x) []))) ∧ ∀ (D' : Nat → Prop), K .normal [.one (.data (Row.ints .i64 l)), .one (.ptr 3 1 0 0), .one (.int .i64 m), .one (.int .i64 (IntKind.i64.wrap (i + 1)))] [Blk.cells [SV.int .i64 c], Blk.cells [SV.yld 2], Blk.ghost P J D' (some (List.drop (extG c.toNat n [i]).length L)), Blk.cells [SV.func (153 : FuncId) [0, 1, 3]]] ∧ K .ret [.one (.bool false)] [Blk.cells [SV.int .i64 c], Blk.cells [SV.yld 2], Blk.ghost P J D' none, Blk.cells [SV.func (153 : FuncId) [0, 1, 3]]])) ∧ l.length ≤ 1000000 ∧ ((bif decide ((l ++ [i]).length * 8 ≤ 140737488355328 ∧ (l ++ [i]).length ≤ 140737488355328) then (P = Tryd.prog ∧ 0 ≤ c ∧ c ≤ 6 ∧ (↑((l ++ [i]).length + n) : Int) = c ∧ leadsTo L (extG c.toNat n (l ++ (fun x => i :: x) []))) ∧ ∀ (D' : Nat → Prop), K .normal [.one (.data (Row.ints .i64 l)), .one (.ptr 3 1 0 0), .one (.int .i64 m), .one (.int .i64 (IntKind.i64.wrap (i + 1)))] [Blk.cells [SV.int .i64 c], Blk.cells [SV.yld 2], Blk.ghost P J D' (some (List.drop (extG c.toNat n (l ++ [i])).length L)), Blk.cells [SV.func (153 : FuncId) [0, 1, 3]]] ∧ K .ret [.one (.bool false)] [Blk.cells [SV.int .i64 c], Blk.cells [SV.yld 2], Blk.ghost P J D' none, Blk.cells [SV.func (153 : FuncId) [0, 1, 3]]] else False) ∧ bif decide ((l ++ [i]).length * 8 ≤ 140737488355328 ∧ (l ++ [i]).length ≤ 140737488355328) then (P = Tryd.prog ∧ 0 ≤ c ∧ c ≤ 6 ∧ (↑((l ++ [i]).length + n) : Int) = c ∧ leadsTo L (extG c.toNat n (l ++ (fun x => i :: x) []))) ∧ ∀ (D' : Nat → Prop), K .normal [.one (.data (Row.ints .i64 l)), .one (.ptr 3 1 0 0), .one (.int .i64 m), .one (.int .i64 (IntKind.i64.wrap (i + 1)))] [Blk.cells [SV.int .i64 c], Blk.cells [SV.yld 2], Blk.ghost P J D' (some (List.drop (extG c.toNat n (l ++ [i])).length L)), Blk.cells [SV.func (153 : FuncId) [0, 1, 3]]] ∧ K .ret [.one (.bool false)] [Blk.cells [SV.int .i64 c], Blk.cells [SV.yld 2], Blk.ghost P J D' none, Blk.cells [SV.func (153 : FuncId) [0, 1, 3]]] else False) ∧ (l = [] → ((P = Tryd.prog ∧ 0 ≤ c ∧ c ≤ 6 ∧ (↑([i].length + n) : Int) = c ∧ leadsTo L (extG c.toNat n ((fun x => i :: x) []))) ∧ ∀ (D' : Nat → Prop), K .normal [.one (.data (Row.ints .i64 l)), .one (.ptr 3 1 0 0), .one (.int .i64 m), .one (.int .i64 (IntKind.i64.wrap (i + 1)))] [Blk.cells [SV.int .i64 c], Blk.cells [SV.yld 2], Blk.ghost P J D' (some (List.drop (extG c.toNat n [i]).length L)), Blk.cells [SV.func (153 : FuncId) [0, 1, 3]]] ∧ K .ret [.one (.bool false)] [Blk.cells [SV.int .i64 c], Blk.cells [SV.yld 2], Blk.ghost P J D' none, Blk.cells [SV.func (153 : FuncId) [0, 1, 3]]]) ∧ (P = Tryd.prog ∧ 0 ≤ c ∧ c ≤ 6 ∧ (↑([i].length + n) : Int) = c ∧ leadsTo L (extG c.toNat n ((fun x => i :: x) []))) ∧ ∀ (D' : Nat → Prop), K .normal [.one (.data (Row.ints .i64 l)), .one (.ptr 3 1 0 0), .one (.int .i64 m), .one (.int .i64 (IntKind.i64.wrap (i + 1)))] [Blk.cells [SV.int .i64 c], Blk.cells [SV.yld 2], Blk.ghost P J D' (some (List.drop (extG c.toNat n [i]).length L)), Blk.cells [SV.func (153 : FuncId) [0, 1, 3]]] ∧ K .ret [.one (.bool false)] [Blk.cells [SV.int .i64 c], Blk.cells [SV.yld 2], Blk.ghost P J D' none, Blk.cells [SV.func (153 : FuncId) [0, 1, 3]]]) else (K .normal [.one (.data (Row.ints .i64 l)), .one (.ptr 3 1 0 0), .one (.int .i64 m), .one (.int .i64 (IntKind.i64.wrap (i + 1)))] [Blk.cells [SV.int .i64 c], Blk.cells [SV.yld 2], Blk.ghost P J D (some L), Blk.cells [SV.func (153 : FuncId) [0, 1, 3]]] ∧ K .normal [.one (.data (Row.ints .i64 l)), .one (.ptr 3 1 0 0), .one (.int .i64 m), .one (.int .i64 (IntKind.i64.wrap (i + 1)))] [Blk.cells [SV.int .i64 c], Blk.cells [SV.yld 2], Blk.ghost P J D (some L), Blk.cells [SV.func (153 : FuncId) [0, 1, 3]]]) ∧ (K .normal [.one (.data (Row.ints .i64 l)), .one (.ptr 3 1 0 0), .one (.int .i64 m), .one (.int .i64 (IntKind.i64.wrap (i + 1)))] [Blk.cells [SV.int .i64 c], Blk.cells [SV.yld 2], Blk.ghost P J D (some L), Blk.cells [SV.func (153 : FuncId) [0, 1, 3]]] ∧ K .normal [.one (.data (Row.ints .i64 l)), .one (.ptr 3 1 0 0), .one (.int .i64 m), .one (.int .i64 (IntKind.i64.wrap (i + 1)))] [Blk.cells [SV.int .i64 c], Blk.cells [SV.yld 2], Blk.ghost P J D (some L), Blk.cells [SV.func (153 : FuncId) [0, 1, 3]]] ∧ K .normal [.one (.data (Row.ints .i64 l)), .one (.ptr 3 1 0 0), .one (.int .i64 m), .one (.int .i64 (IntKind.i64.wrap (i + 1)))] [Blk.cells [SV.int .i64 c], Blk.cells [SV.yld 2], Blk.ghost P J D (some L), Blk.cells [SV.func (153 : FuncId) [0, 1, 3]]]) ∧ K .normal [.one (.data (Row.ints .i64 l)), .one (.ptr 3 1 0 0), .one (.int .i64 m), .one (.int .i64 (IntKind.i64.wrap (i + 1)))] [Blk.cells [SV.int .i64 c], Blk.cells [SV.yld 2], Blk.ghost P J D (some L), Blk.cells [SV.func (153 : FuncId) [0, 1, 3]]] ∧ K .normal [.one (.data (Row.ints .i64 l)), .one (.ptr 3 1 0 0), .one (.int .i64 m), .one (.int .i64 (IntKind.i64.wrap (i + 1)))] [Blk.cells [SV.int .i64 c], Blk.cells [SV.yld 2], Blk.ghost P J D (some L), Blk.cells [SV.func (153 : FuncId) [0, 1, 3]]] ∧ K .normal [.one (.data (Row.ints .i64 l)), .one (.ptr 3 1 0 0), .one (.int .i64 m), .one (.int .i64 (IntKind.i64.wrap (i + 1)))] [Blk.cells [SV.int .i64 c], Blk.cells [SV.yld 2], Blk.ghost P J D (some L), Blk.cells [SV.func (153 : FuncId) [0, 1, 3]]] else K (.exit 0) [AV.any] [Blk.cells [SV.int .i64 c], Blk.cells [SV.yld 2], Blk.ghost P J D (some L), Blk.cells [SV.func (153 : FuncId) [0, 1, 3]]]) := by kernel_rfl
theorem exor1 (c : Int) (P : Program) (J : GJ) (D : Nat → Prop) (L : List (List AV)) (K : AV → List Blk → Prop) : evFn Eor1 Tryd.f152 [.one (.yld 0), .one (.ptr 1 1 0 0)] [.ghost P J D (some L), .cells [.int .i64 c]] K = ( (P = Tryd.prog ∧ 0 ≤ c ∧ c ≤ 6 ∧ 0 ≤ c ∧ leadsTo L (extG c.toNat (c.toNat - ([] : List Int).length) [])) ∧ ∀ (D' : Nat → Prop), K (AV.tup []) [Blk.ghost P J D' (some (List.drop (extG c.toNat (c.toNat - 0) []).length L)), Blk.cells [SV.int .i64 c]] ∧ K (AV.tup []) [Blk.ghost P J D' none, Blk.cells [SV.int .i64 c]]) := by kernel_rfl
theorem exord (n : Int) (K : AV → List Blk → Prop) : evFn Eord Tryd.f121 [.one (.int .i64 n)] [] K = ( K (.one (.func 152 [0])) [Blk.cells [SV.int .i64 n]]) := by kernel_rfl
theorem exbst (p : List (List D)) (K : AV → List Blk → Prop) : evFn Ebst Tryd.f53 [.one (.data (.recs [.sints .i64] p))] [] K = ( p.length ≤ 1000000000 ∧ bif prefE p != 0 then K (AV.tup [.one .nil, .one (.int .i64 0), .one (.int .i64 (prefE p))]) [] else bif decide (0 ≤ (↑p.length : Int)) && decide ((↑p.length : Int) ≤ 6) then ∃ os, List.map ordV (allO (↑p.length : Int)) = List.map ordV os ∧ ((p.length ≤ 6 ∧ ∀ (d : List D), d ∈ p → (rowI d).length = p.length ∧ ∀ (n : Int), n ∈ rowI d → 0 ≤ n ∧ n ≤ 1000) ∧ (-1 :Int) = (-1 :Int) ∧ os ≠ [] ∧ ∀ (o : List Int), o ∈ os → o.length ≤ 6 ∧ ∀ (j : Int), j ∈ o → 0 ≤ j ∧ j < (↑p.length : Int)) ∧ K (AV.tup [.one (.data (Row.ints .i64 (bestF p [] (-1 : Int) os).1)), .one (.int .i64 (bestF p [] (-1 : Int) os).snd), .one (.int .i64 0)]) [] else False) := by kernel_rfl
theorem exbsta (p : List (List D)) (o : List Int) (l : Int) (K : Ex → List AV → List Blk → Prop) : evRound Ebst (rangePs (lb Tryd.f53 0)) (rangeAssign (lb Tryd.f53 0)) (rangeBody (lb Tryd.f53 0)) [1, 6, 7] [.one (.ptr 0 1 0 0), .one (.ptr 1 1 0 0), .one (.ptr 2 1 0 0)] [.cells [.data (.recs [.sints .i64] p)], .cells [.nil], .cells [.int .i64 l]] [.one (.data (.ints .i64 o))] K = ( ((p.length ≤ 6 ∧ ∀ (d : List D), d ∈ p → (rowI d).length = p.length ∧ ∀ (n : Int), n ∈ rowI d → 0 ≤ n ∧ n ≤ 1000) ∧ o.length ≤ 6 ∧ ∀ (j : Int), j ∈ o → 0 ≤ j ∧ j < (↑p.length : Int)) ∧ bif decide (l < 0) then K .normal [.one (.ptr 0 1 0 0), .one (.ptr 1 1 0 0), .one (.ptr 2 1 0 0)] [Blk.cells [SV.data (Row.recs [CK.sints .i64] p)], Blk.cells [SV.data (Row.ints .i64 o)], Blk.cells [SV.int .i64 (disG p o)]] else bif decide (disG p o < l) then K .normal [.one (.ptr 0 1 0 0), .one (.ptr 1 1 0 0), .one (.ptr 2 1 0 0)] [Blk.cells [SV.data (Row.recs [CK.sints .i64] p)], Blk.cells [SV.data (Row.ints .i64 o)], Blk.cells [SV.int .i64 (disG p o)]] else K .normal [.one (.ptr 0 1 0 0), .one (.ptr 1 1 0 0), .one (.ptr 2 1 0 0)] [Blk.cells [SV.data (Row.recs [CK.sints .i64] p)], Blk.cells [SV.nil], Blk.cells [SV.int .i64 l]]) := by kernel_rfl
theorem exbstb (p : List (List D)) (o b : List Int) (l : Int) (K : Ex → List AV → List Blk → Prop) : evRound Ebst (rangePs (lb Tryd.f53 0)) (rangeAssign (lb Tryd.f53 0)) (rangeBody (lb Tryd.f53 0)) [1, 6, 7] [.one (.ptr 0 1 0 0), .one (.ptr 1 1 0 0), .one (.ptr 2 1 0 0)] [.cells [.data (.recs [.sints .i64] p)], .cells [.data (.ints .i64 b)], .cells [.int .i64 l]] [.one (.data (.ints .i64 o))] K = ( ((p.length ≤ 6 ∧ ∀ (d : List D), d ∈ p → (rowI d).length = p.length ∧ ∀ (n : Int), n ∈ rowI d → 0 ≤ n ∧ n ≤ 1000) ∧ o.length ≤ 6 ∧ ∀ (j : Int), j ∈ o → 0 ≤ j ∧ j < (↑p.length : Int)) ∧ bif decide (l < 0) then K .normal [.one (.ptr 0 1 0 0), .one (.ptr 1 1 0 0), .one (.ptr 2 1 0 0)] [Blk.cells [SV.data (Row.recs [CK.sints .i64] p)], Blk.cells [SV.data (Row.ints .i64 o)], Blk.cells [SV.int .i64 (disG p o)]] else bif decide (disG p o < l) then K .normal [.one (.ptr 0 1 0 0), .one (.ptr 1 1 0 0), .one (.ptr 2 1 0 0)] [Blk.cells [SV.data (Row.recs [CK.sints .i64] p)], Blk.cells [SV.data (Row.ints .i64 o)], Blk.cells [SV.int .i64 (disG p o)]] else K .normal [.one (.ptr 0 1 0 0), .one (.ptr 1 1 0 0), .one (.ptr 2 1 0 0)] [Blk.cells [SV.data (Row.recs [CK.sints .i64] p)], Blk.cells [SV.data (Row.ints .i64 b)], Blk.cells [SV.int .i64 l]]) := by kernel_rfl
end Go.Ev

/-
  Chapter 9: the contracts of rankings are kept.
-/
namespace Go.Ev
open Go Go.Proofs
attribute [local irreducible] evFn evBody evRound
set_option maxRecDepth 20000
theorem cond_in' {c : Bool} {p : Prop} (h : c = true) (hp : p) : cond c p False := by rw [h]; exact hp
theorem cond_then' {c : Bool} {p q : Prop} (h : c = true) (hp : p) : cond c p q := by rw [h]; exact hp
theorem cond_else' {c : Bool} {p q : Prop} (h : c = false) (hq : q) : cond c p q := by rw [h]; exact hq
theorem and_two {a b : Bool} (h1 : a = true) (h2 : b = true) : (a && b) = true := by rw [h1, h2]; rfl
theorem okshp : SpecOK Tryd.prog 150 shapeS := by
  refine specOK (n := 9) (m := 1) (lps := []) .nil Tryd.func150 (by kernel_rfl) (by kernel_rfl) (noLoops (by kernel_rfl)) fun args σ K h => ?_
  unfold shapeS at h
  split at h
  · rename_i r p
    rw [exshp r p K]; exact h
  · exact h.elim
theorem anySh_step {m : Int} {l : List (List D)} {i : Int} (h0 : 0 ≤ i) (h : i < l.length) : anySh m (l.drop i.toNat) = ((((rowD l i.toNat).length : Int) != m) || anySh m (l.drop (i + 1).toNat)) := by
  rw [drop_step [] (by omega), show (i + 1).toNat = i.toNat + 1 by omega]
  rfl
theorem idxSh_step {m : Int} {l : List (List D)} {i : Int} (h0 : 0 ≤ i) (h : i < l.length) : idxSh m i (l.drop i.toNat) = bif (((rowD l i.toNat).length : Int) != m) then i else idxSh m (i + 1) (l.drop (i + 1).toNat) := by
  rw [drop_step [] (by omega), show (i + 1).toNat = i.toNat + 1 by omega]
  rfl
theorem lokixs : LoopOK Eixs (lb Tryd.f172 0) [0, 1, 7, 8] [4] idxShL := by
  refine loopOK (.cons okshp .nil) (noInner (by kernel_rfl)) (fun vs _ => match vs with
    | [.one (.data (.recs _ l)), _, _, .one (.int .i64 i)] => l.length - i.toNat
    | _ => 0) fun vs σ k h => ?_
  unfold idxShL at h
  split at h
  · rename_i q n i p
    rw [exixsa q p n i _]
    obtain ⟨⟨h1, h2, rfl⟩, h⟩ := h
    by_cases hi : i < q.length
    · have hw : IntKind.i64.wrap (i + 1) = i + 1 := wrap_id (by omega) (by omega)
      have hi' : i.toNat < q.length := by omega
      have hmu : q.length - (i + 1).toNat < q.length - i.toNat := by omega
      rw [anySh_step h2 hi, idxSh_step h2 hi] at h
      rw [hw]
      refine cond_then' (decide_eq_true hi) (cond_in' (and_two (decide_eq_true h2) (decide_eq_true hi)) (cond_in' (and_two rfl (decide_eq_true hi')) ?_))
      cases hs : (((rowD q i.toNat).length : Int) != (p.length : Int)) with
      | true => rw [hs] at h; exact cond_then' hs h
      | false => rw [hs] at h; exact cond_else' hs ⟨⟨⟨h1, by omega, rfl⟩, h⟩, hmu⟩
    · rw [List.drop_eq_nil_of_le (by omega)] at h
      exact cond_else' (decide_eq_false hi) h
  · exact h.elim
theorem idxSh_none {m : Int} : ∀ {l : List (List D)} {i : Int}, anySh m l = false → idxSh m i l = -1
  | [], _, _ => rfl
  | d :: l, i, h => by
    have h' : ((((rowI d).length : Int) != m) || anySh m l) = false := h
    rw [Bool.or_eq_false_iff] at h'
    simp only [idxSh]
    rw [h'.1, cond_false]
    exact idxSh_none h'.2
theorem idxSh_some {m : Int} : ∀ {l : List (List D)} {i : Int}, anySh m l = true → i ≤ idxSh m i l
  | [], _, h => by cases h
  | d :: l, i, h => by
    have h' : ((((rowI d).length : Int) != m) || anySh m l) = true := h
    simp only [idxSh]
    cases hs : (((rowI d).length : Int) != m) with
    | true => rw [cond_true]; exact Int.le_refl _
    | false =>
      rw [hs, Bool.false_or] at h'
      rw [cond_false]
      have := idxSh_some (i := i + 1) h'
      omega
theorem okixs : SpecOK Tryd.prog 172 idxShS := by
  refine specOK (n := 19) (m := 1) (lps := [(2, .spec [0, 1, 7, 8] [4] idxShL)]) (.cons okshp .nil) Tryd.func172 (by kernel_rfl) (by kernel_rfl) (theLoops (n := 1) (by kernel_rfl) fun i hi => ?_) fun args σ K h => ?_
  · match i, hi with
    | 0, _ => exact loopHyp_of (key := 2) (by kernel_rfl) rfl lokixs
  · unfold idxShS at h
    split at h
    · rename_i q p
      rw [exixs q p K]
      refine ⟨⟨h.1, by decide, by first | rfl | trivial⟩, ?_⟩
      cases ha : anySh (p.length : Int) q with
      | true => exact h.2
      | false =>
        have := h.2
        rw [idxSh_none ha] at this
        exact this
    · exact h.elim
theorem okhsh : SpecOK Tryd.prog 149 hasShS := by
  refine specOK (n := 9) (m := 1) (lps := []) (.cons okixs .nil) Tryd.func149 (by kernel_rfl) (by kernel_rfl) (noLoops (by kernel_rfl)) fun args σ K h => ?_
  unfold hasShS at h
  split at h
  · rename_i q p
    rw [exhsh q p K]
    refine ⟨h.1, ?_⟩
    have h2 := h.2
    cases ha : anySh (p.length : Int) q with
    | true =>
      rw [ha] at h2
      rw [decide_eq_true (show idxSh (p.length : Int) 0 q ≥ 0 from idxSh_some ha)]
      exact h2
    | false =>
      rw [ha] at h2
      rw [idxSh_none ha]
      exact h2
  · exact h.elim
theorem rowE_step {i : Int} {r : List Int} {j : Int} (h0 : 0 ≤ j) (h : j < r.length) : rowE i j (r.drop j.toNat) = bif cellE i j (r.getD j.toNat 0) == 0 then rowE i (j + 1) (r.drop (j + 1).toNat) else cellE i j (r.getD j.toNat 0) := by
  rw [drop_step 0 (by omega), show (j + 1).toNat = j.toNat + 1 by omega]
  rfl
theorem rowsE_step {p : List (List D)} {i : Int} (h0 : 0 ≤ i) (h : i < p.length) : rowsE i (p.drop i.toNat) = bif rowE i 0 (rowD p i.toNat) == 0 then rowsE (i + 1) (p.drop (i + 1).toNat) else rowE i 0 (rowD p i.toNat) := by
  rw [drop_step [] (by omega), show (i + 1).toNat = i.toNat + 1 by omega]
  rfl
theorem lokprfb : LoopOK Eprf (lb Tryd.f118 1) [5, 25, 26, 27, 32, 33, 34] [2, 25, 26, 27] prfInL := by
  refine loopOK (.cons ok71 (.cons ok70 (.cons ok69 (.cons okhsh .nil)))) (noInner (by kernel_rfl)) (fun vs _ => match vs with
    | [_, _, _, _, _, .one (.int .i64 m), .one (.int .i64 j)] => (m - j).toNat
    | _ => 0) fun vs σ k h => ?_
  unfold prfInL at h
  split at h
  · rename_i i p n i2 r m j
    rw [exprfb p r i n i2 m j _]
    obtain ⟨⟨h1, rfl, h2, h3⟩, h⟩ := h
    by_cases hj : j < r.length
    · have hw : IntKind.i64.wrap (j + 1) = j + 1 := wrap_id (by omega) (by omega)
      have hj' : j.toNat < r.length := by omega
      have hmu : ((r.length : Int) - (j + 1)).toNat < ((r.length : Int) - j).toNat := by omega
      rw [rowE_step h2 hj] at h
      rw [hw]
      simp only [Nat.add_zero]
      refine cond_then' (decide_eq_true hj) (cond_in' (and_two (decide_eq_true h2) (decide_eq_true hj)) (cond_in' (decide_eq_true hj') ?_))
      cases hc : (i != j) with
      | true =>
        have e : cellE i j (r.getD j.toNat 0) = firstE [bif decide (0 ≤ r.getD j.toNat 0) && decide (r.getD j.toNat 0 ≤ 1000) then 0 else 2, 0] := by unfold cellE; rw [hc]; rfl
        rw [e] at h
        refine cond_then' rfl ⟨by simp, ?_⟩
        by_cases he : firstE [bif decide (0 ≤ r.getD j.toNat 0) && decide (r.getD j.toNat 0 ≤ 1000) then 0 else 2, 0] = 0
        · rw [he] at h ⊢
          exact ⟨⟨⟨h1, rfl, by omega, by omega⟩, h⟩, hmu⟩
        · rw [beq_eq_false_iff_ne.2 he, cond_false, beq_eq_false_iff_ne.2 he] at h
          exact cond_then' (bne_iff_ne.2 he) h
      | false =>
        have e : cellE i j (r.getD j.toNat 0) = firstE [bif decide (0 ≤ r.getD j.toNat 0) && decide (r.getD j.toNat 0 ≤ 1000) then 0 else 2, bif r.getD j.toNat 0 == 0 then 0 else 3] := by unfold cellE; rw [hc]; rfl
        rw [e] at h
        refine cond_else' rfl ⟨by simp, ?_⟩
        by_cases he : firstE [bif decide (0 ≤ r.getD j.toNat 0) && decide (r.getD j.toNat 0 ≤ 1000) then 0 else 2, bif r.getD j.toNat 0 == 0 then 0 else 3] = 0
        · rw [he] at h ⊢
          exact ⟨⟨⟨h1, rfl, by omega, by omega⟩, h⟩, hmu⟩
        · rw [beq_eq_false_iff_ne.2 he, cond_false, beq_eq_false_iff_ne.2 he] at h
          exact cond_then' (bne_iff_ne.2 he) h
    · rw [List.drop_eq_nil_of_le (by omega)] at h
      exact cond_else' (decide_eq_false hj) h
  · exact h.elim
theorem innerprf : ∀ b' ∈ loopsOf (lb Tryd.f118 0), LoopHyp Eprf b' := by
  have hl : loopsOf (lb Tryd.f118 0) = [lb Tryd.f118 1] := by kernel_rfl
  rw [hl]
  intro b' hb
  rw [List.mem_singleton] at hb
  subst hb
  exact loopHyp_of (key := 9) (by kernel_rfl) rfl lokprfb
theorem lokprfa : LoopOK Eprf (lb Tryd.f118 0) [25, 26, 27] [2] prfOutL := by
  refine loopOK (.cons ok71 (.cons ok70 (.cons ok69 (.cons okhsh .nil)))) innerprf (fun vs _ => match vs with
    | [_, .one (.int .i64 n), .one (.int .i64 i)] => (n - i).toNat
    | _ => 0) fun vs σ k h => ?_
  unfold prfOutL at h
  split at h
  · rename_i p n i
    rw [exprfa p n i _]
    obtain ⟨⟨h1, rfl, h2, h3⟩, h⟩ := h
    by_cases hi : i < p.length
    · have hl := h1.1
      have hw : IntKind.i64.wrap (i + 1) = i + 1 := wrap_id (by omega) (by omega)
      have hi' : i.toNat < p.length := by omega
      have hmu : ((p.length : Int) - (i + 1)).toNat < ((p.length : Int) - i).toNat := by omega
      have hr : (rowD p i.toNat).length = p.length := h1.2 _ (by rw [getD_of_lt hi']; exact List.getElem_mem hi')
      rw [rowsE_step h2 hi] at h
      rw [hw]
      refine cond_then' (decide_eq_true hi) (cond_in' (and_two (decide_eq_true h2) (decide_eq_true hi)) (cond_in' (and_two rfl (decide_eq_true hi')) ⟨⟨show (rowD p i.toNat).length ≤ 6 by omega, by first | rfl | trivial, by decide, show (0 : Int) ≤ ((rowD p i.toNat).length : Int) by omega⟩, ?_⟩))
      by_cases he : rowE i 0 (rowD p i.toNat) = 0
      · rw [he] at h
        exact cond_then' (beq_iff_eq.2 (show rowE i 0 (rowD p i.toNat) = 0 from he)) ⟨⟨⟨h1, rfl, by omega, by omega⟩, h⟩, hmu⟩
      · rw [beq_eq_false_iff_ne.2 he, cond_false, beq_eq_false_iff_ne.2 he] at h
        exact cond_else' (beq_eq_false_iff_ne.2 (show ¬ rowE i 0 (rowD p i.toNat) = 0 from he)) h
    · rw [List.drop_eq_nil_of_le (by omega)] at h
      exact cond_else' (decide_eq_false hi) h
  · exact h.elim
theorem anySh_false {m : Int} {l : List (List D)} (h : anySh m l = false) : ∀ d ∈ l, ((rowI d).length : Int) = m := by
  intro d hd
  have := List.any_eq_false.1 h d hd
  simpa using this
theorem headE_zero {p : List (List D)} (h : headE p = 0) : okSh p := by
  obtain ⟨h1, h2⟩ := firstE2 h
  constructor
  · by_cases hl : (p.length : Int) ≤ 6
    · omega
    · rw [decide_eq_false hl] at h1; cases h1
  · cases ha : anySh (p.length : Int) p with
    | true => rw [ha] at h2; cases h2
    | false => exact fun d hd => by have := anySh_false ha d hd; omega
theorem okprf : SpecOK Tryd.prog 118 prefS := by
  refine specOK (n := 57) (m := 0) (lps := [(6, .spec [25, 26, 27] [2] prfOutL), (9, .spec [5, 25, 26, 27, 32, 33, 34] [2, 25, 26, 27] prfInL)]) (.cons ok71 (.cons ok70 (.cons ok69 (.cons okhsh .nil)))) Tryd.func118 (by kernel_rfl) (by kernel_rfl) (theLoops (n := 2) (by kernel_rfl) fun i hi => ?_) fun args σ K h => ?_
  · match i, hi with
    | 0, _ => exact loopHyp_of (key := 6) (by kernel_rfl) rfl lokprfa
    | 1, _ => exact loopHyp_of (key := 9) (by kernel_rfl) rfl lokprfb
  · unfold prefS at h
    split at h
    · rename_i p
      rw [exprf p K]
      obtain ⟨h1, h⟩ := h
      refine ⟨h1, by simp, ?_⟩
      unfold prefE at h
      by_cases he : headE p = 0
      · rw [he] at h
        have h' : K (.one (.int .i64 (rowsE 0 p))) [] := h
        refine cond_else' (bne_eq_false_iff_eq.2 (show headE p = 0 from he)) ⟨⟨headE_zero he, by first | rfl | trivial, by decide, by omega⟩, ?_⟩
        by_cases hr : rowsE 0 p = 0
        · rw [hr] at h'
          exact cond_then' (beq_iff_eq.2 hr) h'
        · exact cond_else' (beq_eq_false_iff_ne.2 hr) h'
      · rw [beq_eq_false_iff_ne.2 he, cond_false] at h
        exact cond_then' (bne_iff_ne.2 (show ¬ headE p = 0 from he)) h
    · exact h.elim
theorem rowE_zero {i : Int} : ∀ {r : List Int} {j : Int}, rowE i j r = 0 → ∀ n ∈ r, 0 ≤ n ∧ n ≤ 1000
  | [], _, _ => fun n hn => absurd hn List.not_mem_nil
  | a :: r, j, h => by
    simp only [rowE] at h
    by_cases hc : cellE i j a = 0
    · rw [hc] at h
      intro n hn
      rcases List.mem_cons.1 hn with rfl | hn
      · obtain ⟨h1, _⟩ := firstE2 hc
        cases hw : withinG n 0 1000 with
        | true => unfold withinG at hw; simpa using hw
        | false => rw [hw] at h1; cases h1
      · exact rowE_zero (j := j + 1) h n hn
    · rw [beq_eq_false_iff_ne.2 hc] at h
      exact absurd h hc
theorem rowsE_zero : ∀ {l : List (List D)} {i : Int}, rowsE i l = 0 → ∀ d ∈ l, ∀ n ∈ rowI d, 0 ≤ n ∧ n ≤ 1000
  | [], _, _ => fun d hd => absurd hd List.not_mem_nil
  | a :: l, i, h => by
    simp only [rowsE] at h
    by_cases hc : rowE i 0 (rowI a) = 0
    · rw [hc] at h
      intro d hd
      rcases List.mem_cons.1 hd with rfl | hd
      · exact rowE_zero hc
      · exact rowsE_zero (i := i + 1) h d hd
    · rw [beq_eq_false_iff_ne.2 hc] at h
      exact absurd h hc
theorem prefE_zero {p : List (List D)} (h : prefE p = 0) : okP p := by
  unfold prefE at h
  by_cases he : headE p = 0
  · rw [he] at h
    have hs := headE_zero he
    exact ⟨hs.1, fun d hd => ⟨hs.2 d hd, rowsE_zero (i := 0) h d hd⟩⟩
  · rw [beq_eq_false_iff_ne.2 he] at h
    exact absurd h he
theorem okP_row {p : List (List D)} (h : okP p) {j : Int} (h0 : 0 ≤ j) (h1 : j < p.length) : (rowD p j.toNat).length = p.length ∧ ∀ n ∈ rowD p j.toNat, 0 ≤ n ∧ n ≤ 1000 := by
  have hj : j.toNat < p.length := by omega
  exact h.2 _ (by rw [getD_of_lt hj]; exact List.getElem_mem hj)
theorem disI_step {row q : List Int} {i : Nat} (h : i < q.length) : disI row (q.drop i) = row.getD (q.getD i 0).toNat 0 + disI row (q.drop (i + 1)) := by
  rw [drop_step 0 h]; rfl
theorem disI_range {row : List Int} (h : ∀ n ∈ row, 0 ≤ n ∧ n ≤ 1000) : ∀ (l : List Int), 0 ≤ disI row l ∧ disI row l ≤ 1000 * l.length
  | [] => by simp [disI]
  | j :: l => by
    obtain ⟨i1, i2⟩ := disI_range h l
    have := getD_range (by decide) h j.toNat
    simp only [disI, List.length_cons]
    omega
theorem disF_step {p : List (List D)} {o : List Int} {i : Nat} (h : i < o.length) : disF p o i (o.drop i) = disI (rowD p (o.getD i 0).toNat) (o.take i) + disF p o (i + 1) (o.drop (i + 1)) := by
  rw [drop_step 0 h]; rfl
theorem okO_take {p : List (List D)} {o : List Int} (h : okO p o) (n : Nat) : okO p (o.take n) := ⟨by rw [List.length_take]; have := h.1; omega, fun j hj => h.2 j (List.mem_of_mem_take hj)⟩
theorem okO_get {p : List (List D)} {o : List Int} (h : okO p o) {i : Nat} (hi : i < o.length) : 0 ≤ o.getD i 0 ∧ o.getD i 0 < p.length := h.2 _ (by rw [getD_of_lt hi]; exact List.getElem_mem hi)
theorem lokdisb : LoopOK Edis (lb Tryd.f120 1) [0, 1, 5, 7, 10, 11, 12, 19, 20, 21] [0, 1, 5, 10, 11, 12] disInL := by
  refine loopOK .nil (noInner (by kernel_rfl)) (fun vs _ => match vs with
    | [_, _, _, _, _, _, _, _, .one (.int .i64 m), .one (.int .i64 j)] => (m - j).toNat
    | _ => 0) fun vs σ k hh => ?_
  unfold disInL at hh
  split at hh
  · rename_i p o s j o2 n i q m h
    rw [exdisb p o o2 q s j n i m h _]
    obtain ⟨⟨h1, h2, h3, h4, rfl, h5, h6, h7, h8⟩, hh⟩ := hh
    obtain ⟨r1, r2⟩ := okP_row h1 h3 h4
    have hql := h2.1
    by_cases hi : h < q.length
    · have hi' : h.toNat < q.length := by omega
      obtain ⟨q1, q2⟩ := okO_get h2 hi'
      have hv := getD_range (by decide) r2 (q.getD h.toNat 0).toNat
      have hmu : ((q.length : Int) - (h + 1)).toNat < ((q.length : Int) - h).toNat := by omega
      rw [disI_step hi'] at hh
      simp only [Nat.add_zero]
      refine cond_then' (decide_eq_true hi) (cond_in' (and_two (decide_eq_true h5) (decide_eq_true hi)) (cond_in' (decide_eq_true hi') (cond_in' (and_two (decide_eq_true h3) (decide_eq_true h4)) (cond_in' (and_two rfl (decide_eq_true (show j.toNat < p.length by omega)))
        (cond_in' (and_two (decide_eq_true q1) (decide_eq_true (show q.getD h.toNat 0 < ((rowD p j.toNat).length : Int) by omega))) (cond_in' (decide_eq_true (show (q.getD h.toNat 0).toNat < (rowD p j.toNat).length by omega)) ?_))))))
      have hw : IntKind.i64.wrap (s + (rowD p j.toNat).getD (q.getD h.toNat 0).toNat 0) = s + (rowD p j.toNat).getD (q.getD h.toNat 0).toNat 0 := wrap_id (by omega) (by omega)
      have hw2 : IntKind.i64.wrap (h + 1) = h + 1 := wrap_id (by omega) (by omega)
      change disInL [_, _, .one (.int .i64 (IntKind.i64.wrap (s + (rowD p j.toNat).getD (q.getD h.toNat 0).toNat 0))), _, _, _, _, _, _, .one (.int .i64 (IntKind.i64.wrap (h + 1)))] _ _ ∧ (_ - IntKind.i64.wrap (h + 1)).toNat < _
      rw [hw, hw2]
      refine ⟨⟨⟨h1, h2, h3, h4, rfl, by omega, by omega, by omega, by omega⟩, ?_⟩, hmu⟩
      rw [show (h + 1).toNat = h.toNat + 1 by omega, Int.add_assoc]
      exact hh
    · rw [List.drop_eq_nil_of_le (by omega)] at hh
      simp only [disI, Int.add_zero] at hh
      exact cond_else' (decide_eq_false hi) hh
  · exact hh.elim
theorem innerdis : ∀ b' ∈ loopsOf (lb Tryd.f120 0), LoopHyp Edis b' := by
  have hl : loopsOf (lb Tryd.f120 0) = [lb Tryd.f120 1] := by kernel_rfl
  rw [hl]
  intro b' hb
  rw [List.mem_singleton] at hb
  subst hb
  exact loopHyp_of (key := 6) (by kernel_rfl) rfl lokdisb
theorem lokdisa : LoopOK Edis (lb Tryd.f120 0) [0, 1, 5, 10, 11, 12] [5] disOutL := by
  refine loopOK .nil innerdis (fun vs _ => match vs with
    | [_, _, _, _, .one (.int .i64 n), .one (.int .i64 i)] => (n - i).toNat
    | _ => 0) fun vs σ k h => ?_
  unfold disOutL at h
  split at h
  · rename_i p o s o2 n i
    rw [exdisa p o o2 s n i _]
    obtain ⟨⟨h1, h2, rfl, rfl, h3, h4, h5, h6⟩, h⟩ := h
    have hol := h2.1
    by_cases hi : i < o2.length
    · have hi' : i.toNat < o2.length := by omega
      obtain ⟨q1, q2⟩ := okO_get h2 hi'
      obtain ⟨r1, r2⟩ := okP_row h1 q1 q2
      have htl : (o2.take i.toNat).length = i.toNat := by rw [List.length_take]; omega
      obtain ⟨d1, d2⟩ := disI_range r2 (o2.take i.toNat)
      have hmu : ((o2.length : Int) - (i + 1)).toNat < ((o2.length : Int) - i).toNat := by omega
      rw [disF_step hi'] at h
      simp only [Nat.add_zero, Nat.sub_zero]
      rw [wrap_id (n := i + 1) (by omega) (by omega)]
      refine cond_then' (decide_eq_true hi) (cond_in' (and_two (decide_eq_true h3) (decide_eq_true hi)) (cond_in' (decide_eq_true hi') (cond_in' (and_two (decide_eq_true h3) (and_two (decide_eq_true (by omega)) (decide_eq_true (Nat.zero_le _))))
        ⟨⟨h1, okO_take h2 i.toNat, q1, q2, by first | rfl | trivial, by decide, by omega, h5, by omega⟩, ?_⟩)))
      refine ⟨⟨⟨h1, h2, rfl, rfl, by omega, by omega, by omega, by omega⟩, ?_⟩, hmu⟩
      rw [show (i + 1).toNat = i.toNat + 1 by omega, Int.add_assoc]
      exact h
    · rw [List.drop_eq_nil_of_le (by omega)] at h
      simp only [disF, Int.add_zero] at h
      exact cond_else' (decide_eq_false hi) h
  · exact h.elim
theorem okdis : SpecOK Tryd.prog 120 disS := by
  refine specOK (n := 37) (m := 0) (lps := [(3, .spec [0, 1, 5, 10, 11, 12] [5] disOutL), (6, .spec [0, 1, 5, 7, 10, 11, 12, 19, 20, 21] [0, 1, 5, 10, 11, 12] disInL)]) .nil Tryd.func120 (by kernel_rfl) (by kernel_rfl) (theLoops (n := 2) (by kernel_rfl) fun i hi => ?_) fun args σ K h => ?_
  · match i, hi with
    | 0, _ => exact loopHyp_of (key := 3) (by kernel_rfl) rfl lokdisa
    | 1, _ => exact loopHyp_of (key := 6) (by kernel_rfl) rfl lokdisb
  · unfold disS at h
    split at h
    · rename_i p o
      rw [exdis p o K]
      obtain ⟨⟨h1, h2⟩, h⟩ := h
      rw [Int.zero_add]
      exact ⟨⟨h1, h2, by first | rfl | trivial, by first | rfl | trivial, by decide, by omega, by decide, by decide⟩, h⟩
    · exact h.elim
end Go.Ev

/-
  Chapter 9: the contracts of orders and of the best ranking are kept.
-/
namespace Go.Ev
open Go Go.Proofs
attribute [local irreducible] evFn evBody evRound
set_option maxRecDepth 20000
theorem okcln : SpecOK Tryd.prog 154 cloneS := by
  refine specOK (n := 8) (m := 0) (lps := []) .nil Tryd.func154 (by kernel_rfl) (by kernel_rfl) (noLoops (by kernel_rfl)) fun args σ K h => ?_
  unfold cloneS at h
  split at h
  · rename_i l
    rw [excln l K]
    obtain ⟨h1, h2, h3⟩ := h
    have c : decide (l.length * 8 ≤ 140737488355328 ∧ l.length ≤ 140737488355328) = true := decide_eq_true (by omega)
    by_cases hl : l.length = 0
    · exact cond_then' (decide_eq_true hl) ⟨h3 (List.length_eq_zero_iff.1 hl), cond_in' c h2⟩
    · exact cond_else' (decide_eq_false hl) (cond_in' c h2)
  · exact h.elim
theorem leads_iff {L : List (List AV)} {X : List (List Int)} : leadsTo L X ↔ ∃ R, L = X.map ordV ++ R := by
  constructor
  · exact fun h => ⟨_, h⟩
  · rintro ⟨R, rfl⟩
    unfold leadsTo
    rw [List.drop_left' (by simp)]
theorem leads_app {L : List (List AV)} {A B : List (List Int)} (h : leadsTo L (A ++ B)) : leadsTo L A ∧ leadsTo (L.drop A.length) B ∧ (L.drop A.length).drop B.length = L.drop (A ++ B).length := by
  obtain ⟨R, rfl⟩ := leads_iff.1 h
  rw [List.map_append, List.append_assoc]
  refine ⟨leads_iff.2 ⟨_, rfl⟩, ?_, by rw [List.drop_drop, List.length_append]⟩
  rw [List.drop_left' (by simp)]
  exact leads_iff.2 ⟨_, rfl⟩
theorem upTo_get {c i : Nat} (h : i < c) : (upTo c).getD i 0 = (i : Int) := by
  have h' : i < (upTo c).length := by simp [upTo, h]
  rw [getD_of_lt h']
  simp [upTo]
theorem extR_step {c n : Nat} {l : List Int} {i : Nat} (h : i < c) : extR c n l i = (bif memB i l then [] else extG c n (l ++ [(i : Int)])) ++ extR c n l (i + 1) := by
  unfold extR
  rw [drop_step 0 (show i < (upTo c).length by simp [upTo, h]), upTo_get h, List.flatMap_cons]
theorem extR_nil {c n : Nat} {l : List Int} {i : Nat} (h : c ≤ i) : extR c n l i = [] := by
  unfold extR
  rw [List.drop_eq_nil_of_le (by simp [upTo, h])]
  rfl
theorem lokext (n : Nat) (ih : SpecOK Tryd.prog 153 (extS n)) : LoopOK (Eext n) (lb Tryd.f153 0) [0, 3, 15, 16] [5] (extL n) := by
  refine loopOK (.cons okcln (.cons ok113 (.cons ih .nil))) (noInner (by kernel_rfl)) (fun vs _ => match vs with
    | [_, _, .one (.int .i64 m), .one (.int .i64 i)] => (m - i).toNat
    | _ => 0) fun vs σ k h => ?_
  unfold extL at h
  split at h
  · rename_i l m i c P J D L
    obtain ⟨⟨h1, hm, h2, h3, h4, h5, h6, h7⟩, h⟩ := h
    subst hm
    rw [exexta n l m i m P J D L _]
    by_cases hi : i < m
    · have hw : IntKind.i64.wrap (i + 1) = i + 1 := wrap_id (by omega) (by omega)
      have hmu : (m - (i + 1)).toNat < (m - i).toNat := by omega
      have hil : ((i.toNat : Nat) : Int) = i := by omega
      have e := extR_step (c := m.toNat) (n := n) (l := l) (i := i.toNat) (by omega)
      rw [hil, show i.toNat + 1 = (i + 1).toNat by omega] at e
      have hlen : (((l ++ [i]).length + n : Nat) : Int) = m := by simp only [List.length_append, List.length_cons, List.length_nil]; omega
      rw [hw]
      refine cond_then' (decide_eq_true hi) ⟨by omega, ?_⟩
      cases hb : memB i l with
      | true =>
        rw [hb, cond_true, List.nil_append] at e
        rw [e] at h h7
        refine cond_else' rfl ?_
        repeat' first
          | exact ⟨⟨⟨h1, rfl, h2, h3, h4, by omega, by omega, h7⟩, h⟩, hmu⟩
          | refine And.intro ?_ ?_
      | false =>
        rw [hb, cond_false] at e
        rw [e] at h h7
        obtain ⟨g1, g2, g3⟩ := leads_app h7
        rw [← g3] at h
        have hd : decide ((l ++ [i]).length * 8 ≤ 140737488355328 ∧ (l ++ [i]).length ≤ 140737488355328) = true := decide_eq_true (by omega)
        refine cond_then' rfl ?_
        repeat' first
          | exact (show l.length ≤ 1000000 by omega)
          | exact cond_in' hd ⟨⟨h1, h2, h3, hlen, g1⟩, fun D' => ⟨⟨⟨⟨h1, rfl, h2, h3, h4, by omega, by omega, g2⟩, h⟩, hmu⟩, (h D').2⟩⟩
          | refine And.intro ?_ ?_
        all_goals
          intro hl
          subst hl
          repeat' first
            | exact ⟨⟨h1, h2, h3, hlen, g1⟩, fun D' => ⟨⟨⟨⟨h1, rfl, h2, h3, h4, by omega, by omega, g2⟩, h⟩, hmu⟩, (h D').2⟩⟩
            | refine And.intro ?_ ?_
    · rw [extR_nil (by omega)] at h
      exact cond_else' (decide_eq_false hi) (h D).1
  · exact h.elim
theorem okext : ∀ n : Nat, SpecOK Tryd.prog 153 (extS n)
  | 0 => by
    refine specOK (n := 34) (m := 4) (lps := [(4, .spec [0, 3, 15, 16] [5] noL)]) (.cons okcln (.cons ok113 .nil)) Tryd.func153 (by kernel_rfl) (by kernel_rfl) (theLoops (n := 1) (by kernel_rfl) fun i hi => ?_) fun args σ K h => ?_
    · match i, hi with
      | 0, _ => exact loopHyp_of (key := 4) (by kernel_rfl) rfl (loopOK (.cons okcln (.cons ok113 .nil)) (noInner (by kernel_rfl)) (fun _ _ => 0) fun vs σ k h => h.elim)
    · unfold extS at h
      split at h
      · rename_i l c P J D L
        rw [exexz l c P J D L K]
        obtain ⟨⟨h1, h2, h3, h4, h5⟩, h⟩ := h
        have e : extG c.toNat 0 l = [l] := rfl
        rw [e] at h h5
        cases L with
        | nil => unfold leadsTo at h5; simp at h5
        | cons a L =>
          have ha : a = ordV l := by unfold leadsTo at h5; simpa using h5
          subst ha
          refine cond_in' (beq_iff_eq.2 (by omega)) ⟨by omega, ⟨h1, rfl, h⟩, fun hl => by subst hl; exact ⟨h1, rfl, h⟩⟩
      · exact h.elim
  | n + 1 => by
    refine specOK (n := 34) (m := 4) (lps := [(4, .spec [0, 3, 15, 16] [5] (extL n))]) (.cons okcln (.cons ok113 (.cons (okext n) .nil))) Tryd.func153 (by kernel_rfl) (by kernel_rfl) (theLoops (n := 1) (by kernel_rfl) fun i hi => ?_) fun args σ K h => ?_
    · match i, hi with
      | 0, _ => exact loopHyp_of (key := 4) (by kernel_rfl) rfl (lokext n (okext n))
    · unfold extS at h
      split at h
      · rename_i l c P J D L
        rw [exext n l c P J D L K]
        obtain ⟨⟨h1, h2, h3, h4, h5⟩, h⟩ := h
        exact cond_else' (beq_eq_false_iff_ne.2 (by omega)) ⟨⟨h1, by first | rfl | trivial, h2, h3, by omega, by decide, h2, h5⟩, h⟩
      · exact h.elim
theorem okextA : SpecOK Tryd.prog 153 extA := by
  refine ⟨(okext 0).body, fun args σ K h => ?_⟩
  unfold extA at h
  split at h
  · rename_i l c P J D L
    obtain ⟨⟨h1, h2, h3, h4, h5⟩, h⟩ := h
    exact (okext (c.toNat - l.length)).sound _ _ K ⟨⟨h1, h2, h3, by omega, h5⟩, h⟩
  · exact h.elim
theorem okor1 : SpecOK Tryd.prog 152 (seqSpec Tryd.prog ordersSq) := by
  refine specOK (n := 7) (m := 2) (lps := []) (.cons okextA .nil) Tryd.func152 (by kernel_rfl) (by kernel_rfl) (noLoops (by kernel_rfl)) fun args σ K h => ?_
  unfold seqSpec at h
  split at h
  · rename_i caps P J D L lent
    split at h
    · rename_i c xs hsq
      unfold ordersSq at hsq
      split at hsq
      · rename_i c
        simp only [Option.some.injEq, Prod.mk.injEq] at hsq
        obtain ⟨rfl, rfl⟩ := hsq
        obtain ⟨hc, h2, h3, h4⟩ := cond_pos h
        simp only [Bool.and_eq_true, decide_eq_true_eq] at hc
        obtain ⟨hl, hok⟩ := hc
        subst h2; subst h3
        rw [exor1 c _ J D _ K]
        have hlead : leadsTo ((allO c).map ordV) (allO c) := leads_iff.2 ⟨[], by simp⟩
        have hdrop : ((allO c).map ordV).drop (allO c).length = [] := List.drop_eq_nil_of_le (by simp)
        refine ⟨⟨rfl, hl, hok, hl, hlead⟩, fun D' => ⟨?_, (h4 D' _).2⟩⟩
        have := (h4 D' [.cells [.int .i64 c]]).1
        rw [← hdrop] at this
        exact this
      · cases hsq
    · exact h.elim
  · exact h.elim
theorem okord : SpecOK Tryd.prog 121 ordersS := by
  refine specOK (n := 4) (m := 0) (lps := []) .nil Tryd.func121 (by kernel_rfl) (by kernel_rfl) (noLoops (by kernel_rfl)) fun args σ K h => ?_
  unfold ordersS at h
  split at h
  · rename_i n
    rw [exord n K]; exact h
  · exact h.elim
theorem disF_nn {p : List (List D)} (hp : okP p) {o : List Int} : ∀ (l : List Int) (i : Nat), (∀ j ∈ l, 0 ≤ j ∧ j < (p.length : Int)) → 0 ≤ disF p o i l
  | [], _, _ => by simp [disF]
  | j :: l, i, h => by
    have hj := h j (by simp)
    have h1 := (disI_range (okP_row hp hj.1 hj.2).2 (o.take i)).1
    have h2 := disF_nn hp (o := o) l (i + 1) fun x hx => h x (by simp [hx])
    simp only [disF]
    omega
theorem disG_nn {p : List (List D)} {o : List Int} (hp : okP p) (ho : okO p o) : 0 ≤ disG p o := disF_nn hp o 0 ho.2
theorem rokbst : RangeOK Ebst 152 ordersSq (rangePs (lb Tryd.f53 0)) (rangeAssign (lb Tryd.f53 0)) (rangeBody (lb Tryd.f53 0)) [1, 6, 7] bestL := by
  refine ⟨okor1, fun x rest vs σ k h => ?_, fun vs σ k h => ?_⟩
  · unfold bestL at h
    split at h
    · rename_i p l
      obtain ⟨os, hos, ⟨h1, hl, h2, h3⟩, h⟩ := h
      subst hl
      cases os with
      | nil => simp at hos
      | cons o os =>
        simp only [List.map_cons, List.cons.injEq] at hos
        obtain ⟨rfl, rfl⟩ := hos
        have ho := h3 o (by simp)
        unfold ordV
        rw [exbsta p o (-1) _]
        exact ⟨⟨h1, ho⟩, cond_then' rfl ⟨os, rfl, ⟨h1, disG_nn h1 ho, fun x hx => h3 x (by simp [hx])⟩, h⟩⟩
    · rename_i p b l
      obtain ⟨os, hos, ⟨h1, h2, h3⟩, h⟩ := h
      cases os with
      | nil => simp at hos
      | cons o os =>
        simp only [List.map_cons, List.cons.injEq] at hos
        obtain ⟨rfl, rfl⟩ := hos
        have ho := h3 o (by simp)
        have hn : decide (l < 0) = false := decide_eq_false (by omega)
        unfold ordV
        rw [exbstb p o b l _]
        simp only [bestF, hn, Bool.false_or] at h
        refine ⟨⟨h1, ho⟩, cond_else' hn ?_⟩
        cases hc : decide (disG p o < l) with
        | true =>
          rw [hc] at h
          exact cond_then' rfl ⟨os, rfl, ⟨h1, disG_nn h1 ho, fun x hx => h3 x (by simp [hx])⟩, h⟩
        | false =>
          rw [hc] at h
          exact cond_else' rfl ⟨os, rfl, ⟨h1, h2, fun x hx => h3 x (by simp [hx])⟩, h⟩
    · exact h.elim
  · unfold bestL at h
    split at h
    · rename_i p l
      obtain ⟨os, hos, ⟨h1, hl, h2, h3⟩, h⟩ := h
      cases os with
      | nil => exact absurd rfl h2
      | cons o os => simp at hos
    · rename_i p b l
      obtain ⟨os, hos, ⟨h1, h2, h3⟩, h⟩ := h
      cases os with
      | nil => exact h
      | cons o os => simp at hos
    · exact h.elim
theorem allO_ok : ∀ c : Nat, c ≤ 6 → (allO c).isEmpty = false ∧ (allO c).all (fun o => decide (o.length ≤ 6) && o.all fun j => decide (0 ≤ j) && decide (j < (c : Int))) = true := by decide +kernel
theorem okbst : SpecOK Tryd.prog 53 bestS := by
  refine specOK (n := 33) (m := 0) (lps := [(1000007, .range 152 ordersSq [1, 6, 7] bestL)]) (.cons okprf (.cons okord (.cons okdis .nil))) Tryd.func53 (by kernel_rfl) (by kernel_rfl) (theLoops (n := 1) (by kernel_rfl) fun i hi => ?_) fun args σ K h => ?_
  · match i, hi with
    | 0, _ => exact loopHyp_range (key := 1000007) (by kernel_rfl) (by kernel_rfl) rfl rokbst
  · unfold bestS at h
    split at h
    · rename_i p
      rw [exbst p K]
      obtain ⟨h1, h⟩ := h
      refine ⟨h1, ?_⟩
      by_cases he : prefE p = 0
      · have hp := prefE_zero he
        rw [he] at h
        obtain ⟨a1, a2⟩ := allO_ok p.length hp.1
        have hl := hp.1
        refine cond_else' (bne_eq_false_iff_eq.2 he) (cond_in' (and_two (decide_eq_true (by omega)) (decide_eq_true (by omega))) ⟨allO p.length, rfl, ⟨hp, rfl, ?_, ?_⟩, h⟩)
        · intro e; rw [e] at a1; cases a1
        · intro o ho
          have := List.all_eq_true.1 a2 o ho
          simp only [Bool.and_eq_true, decide_eq_true_eq, List.all_eq_true] at this
          exact this
      · rw [beq_eq_false_iff_ne.2 he, cond_false] at h
        exact cond_then' (bne_iff_ne.2 he) h
    · exact h.elim
end Go.Ev
