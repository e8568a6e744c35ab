/-
  Part of the proof of a law.
-/
import Derived.Test.YtophekjofpahfaaC9R
import Derived.KernelRfl
set_option linter.unusedVariables false
set_option linter.unusedSimpArgs false
set_option linter.unusedSectionVars false
/-
  Chapter 9, contracts: the layer's law of listeners' orders.
-/
namespace Go.Ev
open Go Go.Proofs
set_option maxRecDepth 20000
set_option linter.unusedVariables false
def agA (x y : Int) : List Int → Int
  | [] => 0
  | z :: l => (bif z == y && memB x (z :: l) then 1 else 0) + agA x y l
def agJ (l : List Int) (x : Int) : List Int → Int
  | [] => 0
  | y :: r => agA x y l + agJ l x r
def agI (l : List Int) : List Int → Int
  | [] => 0
  | x :: r => agJ l x r + agI l r
def agK (o : List Int) : List (List D) → Int
  | [] => 0
  | d :: r => agI (rowI d) o + agK o r
def okQ (p : List (List D)) (o : List Int) : Prop := p.length ≤ 9 ∧ (∀ d ∈ p, (rowI d).length ≤ 8) ∧ o.length ≤ 8
def lgA : LSpec := fun vs σ k => match vs, σ with
  | [.one (.data (.recs [.sints .i64] p)), .one (.data (.ints .i64 o)), .one (.int .i64 n), .one (.int .i64 h), .one (.int .i64 i), .one (.int .i64 j), .one (.int .i64 a)], [] => (okQ p o ∧ 0 ≤ h ∧ h < p.length ∧ 0 ≤ i ∧ i < o.length ∧ 0 ≤ j ∧ j < o.length ∧ 0 ≤ a ∧ a ≤ (rowD p h.toNat).length ∧ 0 ≤ n ∧ n ≤ 512 * h + 64 * i + 8 * j + a) ∧
    k (.exit 6) [.one (.data (.recs [.sints .i64] p)), .one (.data (.ints .i64 o)), .one (.int .i64 (n + agA (o.getD i.toNat 0) (o.getD j.toNat 0) ((rowD p h.toNat).drop a.toNat))), .one (.int .i64 h), .one (.int .i64 i), .one (.int .i64 j)] []
  | _, _ => False
def lgJ : LSpec := fun vs σ k => match vs, σ with
  | [.one (.data (.recs [.sints .i64] p)), .one (.data (.ints .i64 o)), .one (.int .i64 n), .one (.int .i64 h), .one (.int .i64 i), .one (.int .i64 j)], [] => (okQ p o ∧ 0 ≤ h ∧ h < p.length ∧ 0 ≤ i ∧ i < o.length ∧ 0 ≤ j ∧ j ≤ o.length ∧ 0 ≤ n ∧ n ≤ 512 * h + 64 * i + 8 * j) ∧
    k (.exit 4) [.one (.data (.recs [.sints .i64] p)), .one (.data (.ints .i64 o)), .one (.int .i64 (n + agJ (rowD p h.toNat) (o.getD i.toNat 0) (o.drop j.toNat))), .one (.int .i64 h), .one (.int .i64 i)] []
  | _, _ => False
def lgI : LSpec := fun vs σ k => match vs, σ with
  | [.one (.data (.recs [.sints .i64] p)), .one (.data (.ints .i64 o)), .one (.int .i64 n), .one (.int .i64 h), .one (.int .i64 i)], [] => (okQ p o ∧ 0 ≤ h ∧ h < p.length ∧ 0 ≤ i ∧ i ≤ o.length ∧ 0 ≤ n ∧ n ≤ 512 * h + 64 * i) ∧
    k (.exit 2) [.one (.data (.recs [.sints .i64] p)), .one (.data (.ints .i64 o)), .one (.int .i64 (n + agI (rowD p h.toNat) (o.drop i.toNat))), .one (.int .i64 h)] []
  | _, _ => False
def lgK : LSpec := fun vs σ k => match vs, σ with
  | [.one (.data (.recs [.sints .i64] p)), .one (.data (.ints .i64 o)), .one (.int .i64 n), .one (.int .i64 h)], [] => (okQ p o ∧ 0 ≤ h ∧ h ≤ p.length ∧ 0 ≤ n ∧ n ≤ 512 * h) ∧
    k (.exit 0) [.one (.int .i64 (n + agK o (p.drop h.toNat)))] []
  | _, _ => False
def lagS : Spec := fun args σ K => match args, σ with
  | [.one (.data (.recs [.sints .i64] p)), .one (.data (.ints .i64 o))], [] => okQ p o ∧ K (.one (.int .i64 (agK o p))) []
  | _, _ => False
def tawkS : Spec := fun args σ K => match args, σ with
  | [], [] => K (.one (.bool true)) []
  | _, _ => False
def incA (A : List (List Int)) (a b : Int) : List (List Int) := A.set a.toNat ((A.getD a.toNat []).set b.toNat ((A.getD a.toNat []).getD b.toNat 0 + 1))
def cntJ (A : List (List Int)) (x : Int) : List Int → List (List Int)
  | [] => A
  | y :: r => cntJ (incA A x y) x r
def cntI (A : List (List Int)) : List Int → List (List Int)
  | [] => A
  | x :: r => cntI (cntJ A x r) r
def cntK (A : List (List Int)) : List (List D) → List (List Int)
  | [] => A
  | d :: r => cntK (cntI A (rowI d)) r
def ordAll (n : Int) (l : List (List D)) : Bool := l.all fun d => ordE n (rowI d) == 0
def sameAll (o : List Int) (l : List (List D)) : Bool := l.all fun d => rowI d == o
def okA (A : List (List Int)) (m : Int) : Prop := ∀ r ∈ A, r.length = A.length ∧ ∀ x ∈ r, 0 ≤ x ∧ x ≤ m
def ordC0L : LSpec := fun vs σ k => match vs, σ with
  | [.one (.own 0 1), .one (.data (.ints .i64 o)), .one (.int .i64 i)], [.cells []] => (o.length = 0 ∧ 0 ≤ i) ∧ bif ordF 0 (o.take i.toNat) (o.drop i.toNat) == 0 then k (.exit 0) [.any] [.cells []] else k .ret [.one (.int .i64 (ordF 0 (o.take i.toNat) (o.drop i.toNat)))] [.cells []]
  | _, _ => False
def ordC0S : Spec := fun args σ K => match args, σ with
  | [.one (.own 0 1), .one (.data (.ints .i64 o))], [.cells []] => K (.one (.int .i64 (ordE 0 o))) [.cells []]
  | _, _ => False
def ordC1L : LSpec := fun vs σ k => match vs, σ with
  | [.one (.own 0 1), .one (.data (.ints .i64 o)), .one (.int .i64 i)], [.cells [.own 1 1], .row 3 (.ints .i64 a0)] => (o.length = 1 ∧ 0 ≤ i) ∧ bif ordF 1 (o.take i.toNat) (o.drop i.toNat) == 0 then k (.exit 0) [.any] [.cells [.own 1 1], .row 3 (.ints .i64 a0)] else k .ret [.one (.int .i64 (ordF 1 (o.take i.toNat) (o.drop i.toNat)))] [.cells [.own 1 1], .row 3 (.ints .i64 a0)]
  | _, _ => False
def ordC1S : Spec := fun args σ K => match args, σ with
  | [.one (.own 0 1), .one (.data (.ints .i64 o))], [.cells [.own 1 1], .row 3 (.ints .i64 a0)] => K (.one (.int .i64 (ordE 1 o))) [.cells [.own 1 1], .row 3 (.ints .i64 a0)]
  | _, _ => False
def ordC2L : LSpec := fun vs σ k => match vs, σ with
  | [.one (.own 0 1), .one (.data (.ints .i64 o)), .one (.int .i64 i)], [.cells [.own 1 1, .own 2 1], .row 3 (.ints .i64 a0), .row 3 (.ints .i64 a1)] => (o.length = 2 ∧ 0 ≤ i) ∧ bif ordF 2 (o.take i.toNat) (o.drop i.toNat) == 0 then k (.exit 0) [.any] [.cells [.own 1 1, .own 2 1], .row 3 (.ints .i64 a0), .row 3 (.ints .i64 a1)] else k .ret [.one (.int .i64 (ordF 2 (o.take i.toNat) (o.drop i.toNat)))] [.cells [.own 1 1, .own 2 1], .row 3 (.ints .i64 a0), .row 3 (.ints .i64 a1)]
  | _, _ => False
def ordC2S : Spec := fun args σ K => match args, σ with
  | [.one (.own 0 1), .one (.data (.ints .i64 o))], [.cells [.own 1 1, .own 2 1], .row 3 (.ints .i64 a0), .row 3 (.ints .i64 a1)] => K (.one (.int .i64 (ordE 2 o))) [.cells [.own 1 1, .own 2 1], .row 3 (.ints .i64 a0), .row 3 (.ints .i64 a1)]
  | _, _ => False
def ordC3L : LSpec := fun vs σ k => match vs, σ with
  | [.one (.own 0 1), .one (.data (.ints .i64 o)), .one (.int .i64 i)], [.cells [.own 1 1, .own 2 1, .own 3 1], .row 3 (.ints .i64 a0), .row 3 (.ints .i64 a1), .row 3 (.ints .i64 a2)] => (o.length = 3 ∧ 0 ≤ i) ∧ bif ordF 3 (o.take i.toNat) (o.drop i.toNat) == 0 then k (.exit 0) [.any] [.cells [.own 1 1, .own 2 1, .own 3 1], .row 3 (.ints .i64 a0), .row 3 (.ints .i64 a1), .row 3 (.ints .i64 a2)] else k .ret [.one (.int .i64 (ordF 3 (o.take i.toNat) (o.drop i.toNat)))] [.cells [.own 1 1, .own 2 1, .own 3 1], .row 3 (.ints .i64 a0), .row 3 (.ints .i64 a1), .row 3 (.ints .i64 a2)]
  | _, _ => False
def ordC3S : Spec := fun args σ K => match args, σ with
  | [.one (.own 0 1), .one (.data (.ints .i64 o))], [.cells [.own 1 1, .own 2 1, .own 3 1], .row 3 (.ints .i64 a0), .row 3 (.ints .i64 a1), .row 3 (.ints .i64 a2)] => K (.one (.int .i64 (ordE 3 o))) [.cells [.own 1 1, .own 2 1, .own 3 1], .row 3 (.ints .i64 a0), .row 3 (.ints .i64 a1), .row 3 (.ints .i64 a2)]
  | _, _ => False
def ordC4L : LSpec := fun vs σ k => match vs, σ with
  | [.one (.own 0 1), .one (.data (.ints .i64 o)), .one (.int .i64 i)], [.cells [.own 1 1, .own 2 1, .own 3 1, .own 4 1], .row 3 (.ints .i64 a0), .row 3 (.ints .i64 a1), .row 3 (.ints .i64 a2), .row 3 (.ints .i64 a3)] => (o.length = 4 ∧ 0 ≤ i) ∧ bif ordF 4 (o.take i.toNat) (o.drop i.toNat) == 0 then k (.exit 0) [.any] [.cells [.own 1 1, .own 2 1, .own 3 1, .own 4 1], .row 3 (.ints .i64 a0), .row 3 (.ints .i64 a1), .row 3 (.ints .i64 a2), .row 3 (.ints .i64 a3)] else k .ret [.one (.int .i64 (ordF 4 (o.take i.toNat) (o.drop i.toNat)))] [.cells [.own 1 1, .own 2 1, .own 3 1, .own 4 1], .row 3 (.ints .i64 a0), .row 3 (.ints .i64 a1), .row 3 (.ints .i64 a2), .row 3 (.ints .i64 a3)]
  | _, _ => False
def ordC4S : Spec := fun args σ K => match args, σ with
  | [.one (.own 0 1), .one (.data (.ints .i64 o))], [.cells [.own 1 1, .own 2 1, .own 3 1, .own 4 1], .row 3 (.ints .i64 a0), .row 3 (.ints .i64 a1), .row 3 (.ints .i64 a2), .row 3 (.ints .i64 a3)] => K (.one (.int .i64 (ordE 4 o))) [.cells [.own 1 1, .own 2 1, .own 3 1, .own 4 1], .row 3 (.ints .i64 a0), .row 3 (.ints .i64 a1), .row 3 (.ints .i64 a2), .row 3 (.ints .i64 a3)]
  | _, _ => False
def ordC5L : LSpec := fun vs σ k => match vs, σ with
  | [.one (.own 0 1), .one (.data (.ints .i64 o)), .one (.int .i64 i)], [.cells [.own 1 1, .own 2 1, .own 3 1, .own 4 1, .own 5 1], .row 3 (.ints .i64 a0), .row 3 (.ints .i64 a1), .row 3 (.ints .i64 a2), .row 3 (.ints .i64 a3), .row 3 (.ints .i64 a4)] => (o.length = 5 ∧ 0 ≤ i) ∧ bif ordF 5 (o.take i.toNat) (o.drop i.toNat) == 0 then k (.exit 0) [.any] [.cells [.own 1 1, .own 2 1, .own 3 1, .own 4 1, .own 5 1], .row 3 (.ints .i64 a0), .row 3 (.ints .i64 a1), .row 3 (.ints .i64 a2), .row 3 (.ints .i64 a3), .row 3 (.ints .i64 a4)] else k .ret [.one (.int .i64 (ordF 5 (o.take i.toNat) (o.drop i.toNat)))] [.cells [.own 1 1, .own 2 1, .own 3 1, .own 4 1, .own 5 1], .row 3 (.ints .i64 a0), .row 3 (.ints .i64 a1), .row 3 (.ints .i64 a2), .row 3 (.ints .i64 a3), .row 3 (.ints .i64 a4)]
  | _, _ => False
def ordC5S : Spec := fun args σ K => match args, σ with
  | [.one (.own 0 1), .one (.data (.ints .i64 o))], [.cells [.own 1 1, .own 2 1, .own 3 1, .own 4 1, .own 5 1], .row 3 (.ints .i64 a0), .row 3 (.ints .i64 a1), .row 3 (.ints .i64 a2), .row 3 (.ints .i64 a3), .row 3 (.ints .i64 a4)] => K (.one (.int .i64 (ordE 5 o))) [.cells [.own 1 1, .own 2 1, .own 3 1, .own 4 1, .own 5 1], .row 3 (.ints .i64 a0), .row 3 (.ints .i64 a1), .row 3 (.ints .i64 a2), .row 3 (.ints .i64 a3), .row 3 (.ints .i64 a4)]
  | _, _ => False
def clC0S : Spec := fun args σ K => match args, σ with
  | [.one (.own 0 1)], [.cells []] => K (.one .nil) [.cells []]
  | _, _ => False
def clC1S : Spec := fun args σ K => match args, σ with
  | [.one (.own 0 1)], [.cells [.own 1 1], .row 3 (.ints .i64 a0)] => (a0.length ≤ 1000000) ∧ K (.one (.own 2 1)) [.cells [.own 1 1], .row 3 (.ints .i64 a0), .row 23 (.recs [.sints .i64] [[.ints a0]])]
  | _, _ => False
def clC2S : Spec := fun args σ K => match args, σ with
  | [.one (.own 0 1)], [.cells [.own 1 1, .own 2 1], .row 3 (.ints .i64 a0), .row 3 (.ints .i64 a1)] => (a0.length ≤ 1000000 ∧ a1.length ≤ 1000000) ∧ K (.one (.own 3 1)) [.cells [.own 1 1, .own 2 1], .row 3 (.ints .i64 a0), .row 3 (.ints .i64 a1), .row 23 (.recs [.sints .i64] [[.ints a0], [.ints a1]])]
  | _, _ => False
def clC3S : Spec := fun args σ K => match args, σ with
  | [.one (.own 0 1)], [.cells [.own 1 1, .own 2 1, .own 3 1], .row 3 (.ints .i64 a0), .row 3 (.ints .i64 a1), .row 3 (.ints .i64 a2)] => (a0.length ≤ 1000000 ∧ a1.length ≤ 1000000 ∧ a2.length ≤ 1000000) ∧ K (.one (.own 4 1)) [.cells [.own 1 1, .own 2 1, .own 3 1], .row 3 (.ints .i64 a0), .row 3 (.ints .i64 a1), .row 3 (.ints .i64 a2), .row 23 (.recs [.sints .i64] [[.ints a0], [.ints a1], [.ints a2]])]
  | _, _ => False
def clC4S : Spec := fun args σ K => match args, σ with
  | [.one (.own 0 1)], [.cells [.own 1 1, .own 2 1, .own 3 1, .own 4 1], .row 3 (.ints .i64 a0), .row 3 (.ints .i64 a1), .row 3 (.ints .i64 a2), .row 3 (.ints .i64 a3)] => (a0.length ≤ 1000000 ∧ a1.length ≤ 1000000 ∧ a2.length ≤ 1000000 ∧ a3.length ≤ 1000000) ∧ K (.one (.own 5 1)) [.cells [.own 1 1, .own 2 1, .own 3 1, .own 4 1], .row 3 (.ints .i64 a0), .row 3 (.ints .i64 a1), .row 3 (.ints .i64 a2), .row 3 (.ints .i64 a3), .row 23 (.recs [.sints .i64] [[.ints a0], [.ints a1], [.ints a2], [.ints a3]])]
  | _, _ => False
def clC5S : Spec := fun args σ K => match args, σ with
  | [.one (.own 0 1)], [.cells [.own 1 1, .own 2 1, .own 3 1, .own 4 1, .own 5 1], .row 3 (.ints .i64 a0), .row 3 (.ints .i64 a1), .row 3 (.ints .i64 a2), .row 3 (.ints .i64 a3), .row 3 (.ints .i64 a4)] => (a0.length ≤ 1000000 ∧ a1.length ≤ 1000000 ∧ a2.length ≤ 1000000 ∧ a3.length ≤ 1000000 ∧ a4.length ≤ 1000000) ∧ K (.one (.own 6 1)) [.cells [.own 1 1, .own 2 1, .own 3 1, .own 4 1, .own 5 1], .row 3 (.ints .i64 a0), .row 3 (.ints .i64 a1), .row 3 (.ints .i64 a2), .row 3 (.ints .i64 a3), .row 3 (.ints .i64 a4), .row 23 (.recs [.sints .i64] [[.ints a0], [.ints a1], [.ints a2], [.ints a3], [.ints a4]])]
  | _, _ => False
def ordCS : Spec := fun args σ K => match args, σ with
  | [.one (.own 0 1), .one (.data (.ints .i64 o))], [.cells []] => K (.one (.int .i64 (ordE 0 o))) [.cells []]
  | [.one (.own 0 1), .one (.data (.ints .i64 o))], [.cells [.own 1 1], .row 3 (.ints .i64 a0)] => K (.one (.int .i64 (ordE 1 o))) [.cells [.own 1 1], .row 3 (.ints .i64 a0)]
  | [.one (.own 0 1), .one (.data (.ints .i64 o))], [.cells [.own 1 1, .own 2 1], .row 3 (.ints .i64 a0), .row 3 (.ints .i64 a1)] => K (.one (.int .i64 (ordE 2 o))) [.cells [.own 1 1, .own 2 1], .row 3 (.ints .i64 a0), .row 3 (.ints .i64 a1)]
  | [.one (.own 0 1), .one (.data (.ints .i64 o))], [.cells [.own 1 1, .own 2 1, .own 3 1], .row 3 (.ints .i64 a0), .row 3 (.ints .i64 a1), .row 3 (.ints .i64 a2)] => K (.one (.int .i64 (ordE 3 o))) [.cells [.own 1 1, .own 2 1, .own 3 1], .row 3 (.ints .i64 a0), .row 3 (.ints .i64 a1), .row 3 (.ints .i64 a2)]
  | [.one (.own 0 1), .one (.data (.ints .i64 o))], [.cells [.own 1 1, .own 2 1, .own 3 1, .own 4 1], .row 3 (.ints .i64 a0), .row 3 (.ints .i64 a1), .row 3 (.ints .i64 a2), .row 3 (.ints .i64 a3)] => K (.one (.int .i64 (ordE 4 o))) [.cells [.own 1 1, .own 2 1, .own 3 1, .own 4 1], .row 3 (.ints .i64 a0), .row 3 (.ints .i64 a1), .row 3 (.ints .i64 a2), .row 3 (.ints .i64 a3)]
  | [.one (.own 0 1), .one (.data (.ints .i64 o))], [.cells [.own 1 1, .own 2 1, .own 3 1, .own 4 1, .own 5 1], .row 3 (.ints .i64 a0), .row 3 (.ints .i64 a1), .row 3 (.ints .i64 a2), .row 3 (.ints .i64 a3), .row 3 (.ints .i64 a4)] => K (.one (.int .i64 (ordE 5 o))) [.cells [.own 1 1, .own 2 1, .own 3 1, .own 4 1, .own 5 1], .row 3 (.ints .i64 a0), .row 3 (.ints .i64 a1), .row 3 (.ints .i64 a2), .row 3 (.ints .i64 a3), .row 3 (.ints .i64 a4)]
  | _, _ => False
def clCS : Spec := fun args σ K => match args, σ with
  | [.one (.own 0 1)], [.cells []] => K (.one .nil) [.cells []]
  | [.one (.own 0 1)], [.cells [.own 1 1], .row 3 (.ints .i64 a0)] => (a0.length ≤ 1000000) ∧ K (.one (.own 2 1)) [.cells [.own 1 1], .row 3 (.ints .i64 a0), .row 23 (.recs [.sints .i64] [[.ints a0]])]
  | [.one (.own 0 1)], [.cells [.own 1 1, .own 2 1], .row 3 (.ints .i64 a0), .row 3 (.ints .i64 a1)] => (a0.length ≤ 1000000 ∧ a1.length ≤ 1000000) ∧ K (.one (.own 3 1)) [.cells [.own 1 1, .own 2 1], .row 3 (.ints .i64 a0), .row 3 (.ints .i64 a1), .row 23 (.recs [.sints .i64] [[.ints a0], [.ints a1]])]
  | [.one (.own 0 1)], [.cells [.own 1 1, .own 2 1, .own 3 1], .row 3 (.ints .i64 a0), .row 3 (.ints .i64 a1), .row 3 (.ints .i64 a2)] => (a0.length ≤ 1000000 ∧ a1.length ≤ 1000000 ∧ a2.length ≤ 1000000) ∧ K (.one (.own 4 1)) [.cells [.own 1 1, .own 2 1, .own 3 1], .row 3 (.ints .i64 a0), .row 3 (.ints .i64 a1), .row 3 (.ints .i64 a2), .row 23 (.recs [.sints .i64] [[.ints a0], [.ints a1], [.ints a2]])]
  | [.one (.own 0 1)], [.cells [.own 1 1, .own 2 1, .own 3 1, .own 4 1], .row 3 (.ints .i64 a0), .row 3 (.ints .i64 a1), .row 3 (.ints .i64 a2), .row 3 (.ints .i64 a3)] => (a0.length ≤ 1000000 ∧ a1.length ≤ 1000000 ∧ a2.length ≤ 1000000 ∧ a3.length ≤ 1000000) ∧ K (.one (.own 5 1)) [.cells [.own 1 1, .own 2 1, .own 3 1, .own 4 1], .row 3 (.ints .i64 a0), .row 3 (.ints .i64 a1), .row 3 (.ints .i64 a2), .row 3 (.ints .i64 a3), .row 23 (.recs [.sints .i64] [[.ints a0], [.ints a1], [.ints a2], [.ints a3]])]
  | [.one (.own 0 1)], [.cells [.own 1 1, .own 2 1, .own 3 1, .own 4 1, .own 5 1], .row 3 (.ints .i64 a0), .row 3 (.ints .i64 a1), .row 3 (.ints .i64 a2), .row 3 (.ints .i64 a3), .row 3 (.ints .i64 a4)] => (a0.length ≤ 1000000 ∧ a1.length ≤ 1000000 ∧ a2.length ≤ 1000000 ∧ a3.length ≤ 1000000 ∧ a4.length ≤ 1000000) ∧ K (.one (.own 6 1)) [.cells [.own 1 1, .own 2 1, .own 3 1, .own 4 1, .own 5 1], .row 3 (.ints .i64 a0), .row 3 (.ints .i64 a1), .row 3 (.ints .i64 a2), .row 3 (.ints .i64 a3), .row 3 (.ints .i64 a4), .row 23 (.recs [.sints .i64] [[.ints a0], [.ints a1], [.ints a2], [.ints a3], [.ints a4]])]
  | _, _ => False
noncomputable abbrev Elag : Env := envOf Try.prog [(13, hasS)] [(3, .spec [0, 1, 5, 6] [5] lgK), (6, .spec [0, 1, 5, 6, 7] [0, 1, 5, 6] lgI), (9, .spec [0, 1, 5, 6, 7, 8] [0, 1, 5, 6, 7] lgJ), (12, .spec [0, 1, 5, 6, 7, 8, 9] [0, 1, 5, 6, 7, 8] lgA)] 67 0
noncomputable abbrev Etak : Env := envOf Try.prog [(11, tail2S), (7, best2S), (6, intsS)] [] 39 0
noncomputable abbrev Eorc0 : Env := envOf Try.prog [(12, withinS), (13, hasS)] [(4, .spec [0, 1, 5] [4] ordC0L)] 34 1
noncomputable abbrev Eclc0 : Env := envOf Try.prog [(17, copyIntsS)] [(3, .unroll 7)] 20 1
noncomputable abbrev Eorc1 : Env := envOf Try.prog [(12, withinS), (13, hasS)] [(4, .spec [0, 1, 5] [4] ordC1L)] 34 2
noncomputable abbrev Eclc1 : Env := envOf Try.prog [(17, copyIntsS)] [(3, .unroll 7)] 20 2
noncomputable abbrev Eorc2 : Env := envOf Try.prog [(12, withinS), (13, hasS)] [(4, .spec [0, 1, 5] [4] ordC2L)] 34 3
noncomputable abbrev Eclc2 : Env := envOf Try.prog [(17, copyIntsS)] [(3, .unroll 7)] 20 3
noncomputable abbrev Eorc3 : Env := envOf Try.prog [(12, withinS), (13, hasS)] [(4, .spec [0, 1, 5] [4] ordC3L)] 34 4
noncomputable abbrev Eclc3 : Env := envOf Try.prog [(17, copyIntsS)] [(3, .unroll 7)] 20 4
noncomputable abbrev Eorc4 : Env := envOf Try.prog [(12, withinS), (13, hasS)] [(4, .spec [0, 1, 5] [4] ordC4L)] 34 5
noncomputable abbrev Eclc4 : Env := envOf Try.prog [(17, copyIntsS)] [(3, .unroll 7)] 20 5
noncomputable abbrev Eorc5 : Env := envOf Try.prog [(12, withinS), (13, hasS)] [(4, .spec [0, 1, 5] [4] ordC5L)] 34 6
noncomputable abbrev Eclc5 : Env := envOf Try.prog [(17, copyIntsS)] [(3, .unroll 7)] 20 6
end Go.Ev

namespace Go.Ev
open Go Go.Proofs
set_option maxRecDepth 100000
theorem exlag (p : List (List D)) (o : List Int) (K : AV → List Blk → Prop) : evFn Elag Try.f10 [.one (.data (.recs [.sints .i64] p)), .one (.data (.ints .i64 o))] [] K = ( (okQ p o ∧ (0 :Int) ≤ (0 :Int) ∧ 0 ≤ (↑p.length : Int) ∧ (0 :Int) ≤ (0 :Int) ∧ (0 :Int) ≤ (0 :Int)) ∧ K (.one (.int .i64 (0 + agK o p))) []) := by kernel_rfl
theorem exlagl0a (p : List (List D)) (o : List Int) (n h : Int) (K : Ex → List AV → List Blk → Prop) : evBody Elag (lb Try.f10 0) [0, 1, 5, 6] [5] [.one (.data (.recs [.sints .i64] p)), .one (.data (.ints .i64 o)), .one (.int .i64 n), .one (.int .i64 h)] [] K = ( bif decide (h < (↑p.length : Int)) then (okQ p o ∧ 0 ≤ h ∧ h < (↑p.length : Int) ∧ (0 :Int) ≤ (0 :Int) ∧ 0 ≤ (↑o.length : Int) ∧ 0 ≤ n ∧ n ≤ 512 * h + 0) ∧ K .normal [.one (.data (Row.recs [CK.sints .i64] p)), .one (.data (Row.ints .i64 o)), .one (.int .i64 (n + agI (rowD p h.toNat) o)), .one (.int .i64 (IntKind.i64.wrap (h + 1)))] [] else K (.exit 0) [.one (.int .i64 n)] []) := by kernel_rfl
theorem exlagl1a (p : List (List D)) (o : List Int) (n h i : Int) (K : Ex → List AV → List Blk → Prop) : evBody Elag (lb Try.f10 1) [0, 1, 5, 6, 7] [0, 1, 5, 6] [.one (.data (.recs [.sints .i64] p)), .one (.data (.ints .i64 o)), .one (.int .i64 n), .one (.int .i64 h), .one (.int .i64 i)] [] K = ( bif decide (i < (↑o.length : Int)) then (okQ p o ∧ 0 ≤ h ∧ h < (↑p.length : Int) ∧ 0 ≤ i ∧ i < (↑o.length : Int) ∧ 0 ≤ IntKind.i64.wrap (i + 1) ∧ IntKind.i64.wrap (i + 1) ≤ (↑o.length : Int) ∧ 0 ≤ n ∧ n ≤ 512 * h + 64 * i + 8 * IntKind.i64.wrap (i + 1)) ∧ K .normal [.one (.data (Row.recs [CK.sints .i64] p)), .one (.data (Row.ints .i64 o)), .one (.int .i64 (n + agJ (rowD p h.toNat) (o.getD i.toNat (0 :Int)) (List.drop (IntKind.i64.wrap (i + 1)).toNat o))), .one (.int .i64 h), .one (.int .i64 (IntKind.i64.wrap (i + 1)))] [] else K (.exit 2) [.one (.data (Row.recs [CK.sints .i64] p)), .one (.data (Row.ints .i64 o)), .one (.int .i64 n), .one (.int .i64 h)] []) := by kernel_rfl
theorem exlagl2a (p : List (List D)) (o : List Int) (n h i j : Int) (K : Ex → List AV → List Blk → Prop) : evBody Elag (lb Try.f10 2) [0, 1, 5, 6, 7, 8] [0, 1, 5, 6, 7] [.one (.data (.recs [.sints .i64] p)), .one (.data (.ints .i64 o)), .one (.int .i64 n), .one (.int .i64 h), .one (.int .i64 i), .one (.int .i64 j)] [] K = ( bif decide (j < (↑o.length : Int)) then (okQ p o ∧ 0 ≤ h ∧ h < (↑p.length : Int) ∧ 0 ≤ i ∧ i < (↑o.length : Int) ∧ 0 ≤ j ∧ j < (↑o.length : Int) ∧ (0 :Int) ≤ (0 :Int) ∧ 0 ≤ (↑(rowD p h.toNat).length : Int) ∧ 0 ≤ n ∧ n ≤ 512 * h + 64 * i + 8 * j + 0) ∧ K .normal [.one (.data (Row.recs [CK.sints .i64] p)), .one (.data (Row.ints .i64 o)), .one (.int .i64 (n + agA (o.getD i.toNat (0 :Int)) (o.getD j.toNat (0 :Int)) (rowD p h.toNat))), .one (.int .i64 h), .one (.int .i64 i), .one (.int .i64 (IntKind.i64.wrap (j + 1)))] [] else K (.exit 4) [.one (.data (Row.recs [CK.sints .i64] p)), .one (.data (Row.ints .i64 o)), .one (.int .i64 n), .one (.int .i64 h), .one (.int .i64 i)] []) := by kernel_rfl
theorem exlagl3a (p : List (List D)) (o : List Int) (n h i j a : Int) (K : Ex → List AV → List Blk → Prop) : evBody Elag (lb Try.f10 3) [0, 1, 5, 6, 7, 8, 9] [0, 1, 5, 6, 7, 8] [.one (.data (.recs [.sints .i64] p)), .one (.data (.ints .i64 o)), .one (.int .i64 n), .one (.int .i64 h), .one (.int .i64 i), .one (.int .i64 j), .one (.int .i64 a)] [] K = ( bif decide (0 ≤ h) && decide (h < (↑p.length : Int)) then bif decide (0 < 1) && decide (h.toNat < p.length) then bif decide (a < (↑((p.getD h.toNat []).getD 0 (D.int 0)).toInts.length : Int)) then bif decide (0 ≤ h) && decide (h < (↑p.length : Int)) then bif decide (0 < 1) && decide (h.toNat < p.length) then bif decide (0 ≤ a) && decide (a < (↑((p.getD h.toNat []).getD 0 (D.int 0)).toInts.length : Int)) then bif decide (a.toNat + 0 < ((p.getD h.toNat []).getD 0 (D.int 0)).toInts.length) then bif decide (0 ≤ j) && decide (j < (↑o.length : Int)) then bif decide (j.toNat + 0 < o.length) then bif ((p.getD h.toNat []).getD 0 (D.int 0)).toInts.getD (a.toNat + 0) 0 == o.getD (j.toNat + 0) 0 then bif decide (0 ≤ h) && decide (h < (↑p.length : Int)) then bif decide (0 < 1) && decide (h.toNat < p.length) then bif decide (0 ≤ a) && (decide (((p.getD h.toNat []).getD 0 (D.int 0)).toInts.length ≤ ((p.getD h.toNat []).getD 0 (D.int 0)).toInts.length) && decide (a.toNat ≤ ((p.getD h.toNat []).getD 0 (D.int 0)).toInts.length)) then bif decide (0 ≤ i) && decide (i < (↑o.length : Int)) then bif decide (i.toNat + 0 < o.length) then (List.take (((p.getD h.toNat []).getD 0 (D.int 0)).toInts.length - a.toNat) (List.drop a.toNat ((p.getD h.toNat []).getD 0 (D.int 0)).toInts)).length ≤ 1000000000 ∧ bif memB (o.getD (i.toNat + 0) 0) (List.take (((p.getD h.toNat []).getD 0 (D.int 0)).toInts.length - a.toNat) (List.drop a.toNat ((p.getD h.toNat []).getD 0 (D.int 0)).toInts)) then K .normal [.one (.data (Row.recs [CK.sints .i64] p)), .one (.data (Row.ints .i64 o)), .one (.int .i64 (IntKind.i64.wrap (n + 1))), .one (.int .i64 h), .one (.int .i64 i), .one (.int .i64 j), .one (.int .i64 (IntKind.i64.wrap (a + 1)))] [] else K .normal [.one (.data (Row.recs [CK.sints .i64] p)), .one (.data (Row.ints .i64 o)), .one (.int .i64 n), .one (.int .i64 h), .one (.int .i64 i), .one (.int .i64 j), .one (.int .i64 (IntKind.i64.wrap (a + 1)))] [] else False else False else False else False else False else K .normal [.one (.data (Row.recs [CK.sints .i64] p)), .one (.data (Row.ints .i64 o)), .one (.int .i64 n), .one (.int .i64 h), .one (.int .i64 i), .one (.int .i64 j), .one (.int .i64 (IntKind.i64.wrap (a + 1)))] [] else False else False else False else False else False else False else K (.exit 6) [.one (.data (Row.recs [CK.sints .i64] p)), .one (.data (Row.ints .i64 o)), .one (.int .i64 n), .one (.int .i64 h), .one (.int .i64 i), .one (.int .i64 j)] [] else False else False) := by kernel_rfl
theorem extak (K : AV → List Blk → Prop) : evFn Etak Try.f4 [] [] K = ( 3 ≤ 1000000000 ∧ 3 ≤ 1000000000 ∧ K (.one (.bool true)) []) := by kernel_rfl
theorem exorc0 (o : List Int) (K : AV → List Blk → Prop) : evFn Eorc0 Try.f5 [.one (.own 0 1), .one (.data (.ints .i64 o))] [.cells []] K = ( bif (↑o.length : Int) != 0 then K (.one (.int .i64 10)) [Blk.cells []] else (o.length = 0 ∧ (0 :Int) ≤ (0 :Int)) ∧ bif ordF 0 [] o == 0 then K (.one (.int .i64 0)) [Blk.cells []] else K (.one (.int .i64 (ordF 0 [] o))) [Blk.cells []]) := by kernel_rfl
theorem exorc0l0a (o : List Int) (i : Int) (K : Ex → List AV → List Blk → Prop) : evBody Eorc0 (lb Try.f5 0) [0, 1, 5] [4] [.one (.own 0 1), .one (.data (.ints .i64 o)), .one (.int .i64 i)] [.cells []] K = ( bif decide (i < (↑o.length : Int)) then bif decide (0 ≤ i) && decide (i < (↑o.length : Int)) then bif decide (i.toNat + 0 < o.length) then bif !(decide (0 ≤ o.getD (i.toNat + 0) 0) && decide (o.getD (i.toNat + 0) (0 :Int) ≤ (-1 :Int))) then K .ret [.one (.int .i64 6)] [Blk.cells []] else bif decide (0 ≤ i) && (decide (i.toNat ≤ o.length) && decide (0 ≤ i.toNat)) then bif decide (0 ≤ i) && decide (i < (↑o.length : Int)) then bif decide (i.toNat + 0 < o.length) then (List.take (i.toNat - 0) o).length ≤ 1000000000 ∧ bif memB (o.getD (i.toNat + 0) 0) (List.take (i.toNat - 0) o) then K .ret [.one (.int .i64 25)] [Blk.cells []] else K .normal [.one (.own 0 1), .one (.data (Row.ints .i64 o)), .one (.int .i64 (IntKind.i64.wrap (i + 1)))] [Blk.cells []] else False else False else False else False else False else K (.exit 0) [AV.any] [Blk.cells []]) := by kernel_rfl
theorem exclc0 (K : AV → List Blk → Prop) : evFn Eclc0 Try.f8 [.one (.own 0 1)] [.cells []] K = ( K (.one .nil) [Blk.cells []]) := by kernel_rfl
theorem exorc1 (o a0 : List Int) (K : AV → List Blk → Prop) : evFn Eorc1 Try.f5 [.one (.own 0 1), .one (.data (.ints .i64 o))] [.cells [.own 1 1], .row 3 (.ints .i64 a0)] K = ( bif (↑o.length : Int) != 1 then K (.one (.int .i64 10)) [Blk.cells [SV.own 1 1], Blk.row 3 (Row.ints .i64 a0)] else (o.length = 1 ∧ (0 :Int) ≤ (0 :Int)) ∧ bif ordF 1 [] o == 0 then K (.one (.int .i64 0)) [Blk.cells [SV.own 1 1], Blk.row 3 (Row.ints .i64 a0)] else K (.one (.int .i64 (ordF 1 [] o))) [Blk.cells [SV.own 1 1], Blk.row 3 (Row.ints .i64 a0)]) := by kernel_rfl
theorem exorc1l0a (o : List Int) (i : Int) (a0 : List Int) (K : Ex → List AV → List Blk → Prop) : evBody Eorc1 (lb Try.f5 0) [0, 1, 5] [4] [.one (.own 0 1), .one (.data (.ints .i64 o)), .one (.int .i64 i)] [.cells [.own 1 1], .row 3 (.ints .i64 a0)] K = ( bif decide (i < (↑o.length : Int)) then bif decide (0 ≤ i) && decide (i < (↑o.length : Int)) then bif decide (i.toNat + 0 < o.length) then bif !(decide (0 ≤ o.getD (i.toNat + 0) 0) && decide (o.getD (i.toNat + 0) (0 :Int) ≤ (0 :Int))) then K .ret [.one (.int .i64 6)] [Blk.cells [SV.own 1 1], Blk.row 3 (Row.ints .i64 a0)] else bif decide (0 ≤ i) && (decide (i.toNat ≤ o.length) && decide (0 ≤ i.toNat)) then bif decide (0 ≤ i) && decide (i < (↑o.length : Int)) then bif decide (i.toNat + 0 < o.length) then (List.take (i.toNat - 0) o).length ≤ 1000000000 ∧ bif memB (o.getD (i.toNat + 0) 0) (List.take (i.toNat - 0) o) then K .ret [.one (.int .i64 25)] [Blk.cells [SV.own 1 1], Blk.row 3 (Row.ints .i64 a0)] else K .normal [.one (.own 0 1), .one (.data (Row.ints .i64 o)), .one (.int .i64 (IntKind.i64.wrap (i + 1)))] [Blk.cells [SV.own 1 1], Blk.row 3 (Row.ints .i64 a0)] else False else False else False else False else False else K (.exit 0) [AV.any] [Blk.cells [SV.own 1 1], Blk.row 3 (Row.ints .i64 a0)]) := by kernel_rfl
theorem exclc1 (a0 : List Int) (K : AV → List Blk → Prop) : evFn Eclc1 Try.f8 [.one (.own 0 1)] [.cells [.own 1 1], .row 3 (.ints .i64 a0)] K = ( a0.length ≤ 1000000000000 ∧ K (.one (.own 2 1)) [Blk.cells [SV.own 1 1], Blk.row 3 (Row.ints .i64 a0), Blk.row 23 (Row.recs [CK.sints .i64] [[D.ints a0]])]) := by kernel_rfl
theorem exorc2 (o a0 a1 : List Int) (K : AV → List Blk → Prop) : evFn Eorc2 Try.f5 [.one (.own 0 1), .one (.data (.ints .i64 o))] [.cells [.own 1 1, .own 2 1], .row 3 (.ints .i64 a0), .row 3 (.ints .i64 a1)] K = ( bif (↑o.length : Int) != 2 then K (.one (.int .i64 10)) [Blk.cells [SV.own 1 1, SV.own 2 1], Blk.row 3 (Row.ints .i64 a0), Blk.row 3 (Row.ints .i64 a1)] else (o.length = 2 ∧ (0 :Int) ≤ (0 :Int)) ∧ bif ordF 2 [] o == 0 then K (.one (.int .i64 0)) [Blk.cells [SV.own 1 1, SV.own 2 1], Blk.row 3 (Row.ints .i64 a0), Blk.row 3 (Row.ints .i64 a1)] else K (.one (.int .i64 (ordF 2 [] o))) [Blk.cells [SV.own 1 1, SV.own 2 1], Blk.row 3 (Row.ints .i64 a0), Blk.row 3 (Row.ints .i64 a1)]) := by kernel_rfl
theorem exorc2l0a (o : List Int) (i : Int) (a0 a1 : List Int) (K : Ex → List AV → List Blk → Prop) : evBody Eorc2 (lb Try.f5 0) [0, 1, 5] [4] [.one (.own 0 1), .one (.data (.ints .i64 o)), .one (.int .i64 i)] [.cells [.own 1 1, .own 2 1], .row 3 (.ints .i64 a0), .row 3 (.ints .i64 a1)] K = ( bif decide (i < (↑o.length : Int)) then bif decide (0 ≤ i) && decide (i < (↑o.length : Int)) then bif decide (i.toNat + 0 < o.length) then bif !(decide (0 ≤ o.getD (i.toNat + 0) 0) && decide (o.getD (i.toNat + 0) (0 :Int) ≤ (1 :Int))) then K .ret [.one (.int .i64 6)] [Blk.cells [SV.own 1 1, SV.own 2 1], Blk.row 3 (Row.ints .i64 a0), Blk.row 3 (Row.ints .i64 a1)] else bif decide (0 ≤ i) && (decide (i.toNat ≤ o.length) && decide (0 ≤ i.toNat)) then bif decide (0 ≤ i) && decide (i < (↑o.length : Int)) then bif decide (i.toNat + 0 < o.length) then (List.take (i.toNat - 0) o).length ≤ 1000000000 ∧ bif memB (o.getD (i.toNat + 0) 0) (List.take (i.toNat - 0) o) then K .ret [.one (.int .i64 25)] [Blk.cells [SV.own 1 1, SV.own 2 1], Blk.row 3 (Row.ints .i64 a0), Blk.row 3 (Row.ints .i64 a1)] else K .normal [.one (.own 0 1), .one (.data (Row.ints .i64 o)), .one (.int .i64 (IntKind.i64.wrap (i + 1)))] [Blk.cells [SV.own 1 1, SV.own 2 1], Blk.row 3 (Row.ints .i64 a0), Blk.row 3 (Row.ints .i64 a1)] else False else False else False else False else False else K (.exit 0) [AV.any] [Blk.cells [SV.own 1 1, SV.own 2 1], Blk.row 3 (Row.ints .i64 a0), Blk.row 3 (Row.ints .i64 a1)]) := by kernel_rfl
theorem exclc2 (a0 a1 : List Int) (K : AV → List Blk → Prop) : evFn Eclc2 Try.f8 [.one (.own 0 1)] [.cells [.own 1 1, .own 2 1], .row 3 (.ints .i64 a0), .row 3 (.ints .i64 a1)] K = ( a0.length ≤ 1000000000000 ∧ a1.length ≤ 1000000000000 ∧ K (.one (.own 3 1)) [Blk.cells [SV.own 1 1, SV.own 2 1], Blk.row 3 (Row.ints .i64 a0), Blk.row 3 (Row.ints .i64 a1), Blk.row 23 (Row.recs [CK.sints .i64] [[D.ints a0], [D.ints a1]])]) := by kernel_rfl
theorem exorc3 (o a0 a1 a2 : List Int) (K : AV → List Blk → Prop) : evFn Eorc3 Try.f5 [.one (.own 0 1), .one (.data (.ints .i64 o))] [.cells [.own 1 1, .own 2 1, .own 3 1], .row 3 (.ints .i64 a0), .row 3 (.ints .i64 a1), .row 3 (.ints .i64 a2)] K = ( bif (↑o.length : Int) != 3 then K (.one (.int .i64 10)) [Blk.cells [SV.own 1 1, SV.own 2 1, SV.own 3 1], Blk.row 3 (Row.ints .i64 a0), Blk.row 3 (Row.ints .i64 a1), Blk.row 3 (Row.ints .i64 a2)] else (o.length = 3 ∧ (0 :Int) ≤ (0 :Int)) ∧ bif ordF 3 [] o == 0 then K (.one (.int .i64 0)) [Blk.cells [SV.own 1 1, SV.own 2 1, SV.own 3 1], Blk.row 3 (Row.ints .i64 a0), Blk.row 3 (Row.ints .i64 a1), Blk.row 3 (Row.ints .i64 a2)] else K (.one (.int .i64 (ordF 3 [] o))) [Blk.cells [SV.own 1 1, SV.own 2 1, SV.own 3 1], Blk.row 3 (Row.ints .i64 a0), Blk.row 3 (Row.ints .i64 a1), Blk.row 3 (Row.ints .i64 a2)]) := by kernel_rfl
theorem exorc3l0a (o : List Int) (i : Int) (a0 a1 a2 : List Int) (K : Ex → List AV → List Blk → Prop) : evBody Eorc3 (lb Try.f5 0) [0, 1, 5] [4] [.one (.own 0 1), .one (.data (.ints .i64 o)), .one (.int .i64 i)] [.cells [.own 1 1, .own 2 1, .own 3 1], .row 3 (.ints .i64 a0), .row 3 (.ints .i64 a1), .row 3 (.ints .i64 a2)] K = ( bif decide (i < (↑o.length : Int)) then bif decide (0 ≤ i) && decide (i < (↑o.length : Int)) then bif decide (i.toNat + 0 < o.length) then bif !(decide (0 ≤ o.getD (i.toNat + 0) 0) && decide (o.getD (i.toNat + 0) (0 :Int) ≤ (2 :Int))) then K .ret [.one (.int .i64 6)] [Blk.cells [SV.own 1 1, SV.own 2 1, SV.own 3 1], Blk.row 3 (Row.ints .i64 a0), Blk.row 3 (Row.ints .i64 a1), Blk.row 3 (Row.ints .i64 a2)] else bif decide (0 ≤ i) && (decide (i.toNat ≤ o.length) && decide (0 ≤ i.toNat)) then bif decide (0 ≤ i) && decide (i < (↑o.length : Int)) then bif decide (i.toNat + 0 < o.length) then (List.take (i.toNat - 0) o).length ≤ 1000000000 ∧ bif memB (o.getD (i.toNat + 0) 0) (List.take (i.toNat - 0) o) then K .ret [.one (.int .i64 25)] [Blk.cells [SV.own 1 1, SV.own 2 1, SV.own 3 1], Blk.row 3 (Row.ints .i64 a0), Blk.row 3 (Row.ints .i64 a1), Blk.row 3 (Row.ints .i64 a2)] else K .normal [.one (.own 0 1), .one (.data (Row.ints .i64 o)), .one (.int .i64 (IntKind.i64.wrap (i + 1)))] [Blk.cells [SV.own 1 1, SV.own 2 1, SV.own 3 1], Blk.row 3 (Row.ints .i64 a0), Blk.row 3 (Row.ints .i64 a1), Blk.row 3 (Row.ints .i64 a2)] else False else False else False else False else False else K (.exit 0) [AV.any] [Blk.cells [SV.own 1 1, SV.own 2 1, SV.own 3 1], Blk.row 3 (Row.ints .i64 a0), Blk.row 3 (Row.ints .i64 a1), Blk.row 3 (Row.ints .i64 a2)]) := by kernel_rfl
theorem exclc3 (a0 a1 a2 : List Int) (K : AV → List Blk → Prop) : evFn Eclc3 Try.f8 [.one (.own 0 1)] [.cells [.own 1 1, .own 2 1, .own 3 1], .row 3 (.ints .i64 a0), .row 3 (.ints .i64 a1), .row 3 (.ints .i64 a2)] K = ( a0.length ≤ 1000000000000 ∧ a1.length ≤ 1000000000000 ∧ a2.length ≤ 1000000000000 ∧ K (.one (.own 4 1)) [Blk.cells [SV.own 1 1, SV.own 2 1, SV.own 3 1], Blk.row 3 (Row.ints .i64 a0), Blk.row 3 (Row.ints .i64 a1), Blk.row 3 (Row.ints .i64 a2), Blk.row 23 (Row.recs [CK.sints .i64] [[D.ints a0], [D.ints a1], [D.ints a2]])]) := by kernel_rfl
theorem exorc4 (o a0 a1 a2 a3 : List Int) (K : AV → List Blk → Prop) : evFn Eorc4 Try.f5 [.one (.own 0 1), .one (.data (.ints .i64 o))] [.cells [.own 1 1, .own 2 1, .own 3 1, .own 4 1], .row 3 (.ints .i64 a0), .row 3 (.ints .i64 a1), .row 3 (.ints .i64 a2), .row 3 (.ints .i64 a3)] K = ( bif (↑o.length : Int) != 4 then K (.one (.int .i64 10)) [Blk.cells [SV.own 1 1, SV.own 2 1, SV.own 3 1, SV.own 4 1], Blk.row 3 (Row.ints .i64 a0), Blk.row 3 (Row.ints .i64 a1), Blk.row 3 (Row.ints .i64 a2), Blk.row 3 (Row.ints .i64 a3)] else (o.length = 4 ∧ (0 :Int) ≤ (0 :Int)) ∧ bif ordF 4 [] o == 0 then K (.one (.int .i64 0)) [Blk.cells [SV.own 1 1, SV.own 2 1, SV.own 3 1, SV.own 4 1], Blk.row 3 (Row.ints .i64 a0), Blk.row 3 (Row.ints .i64 a1), Blk.row 3 (Row.ints .i64 a2), Blk.row 3 (Row.ints .i64 a3)] else K (.one (.int .i64 (ordF 4 [] o))) [Blk.cells [SV.own 1 1, SV.own 2 1, SV.own 3 1, SV.own 4 1], Blk.row 3 (Row.ints .i64 a0), Blk.row 3 (Row.ints .i64 a1), Blk.row 3 (Row.ints .i64 a2), Blk.row 3 (Row.ints .i64 a3)]) := by kernel_rfl
theorem exorc4l0a (o : List Int) (i : Int) (a0 a1 a2 a3 : List Int) (K : Ex → List AV → List Blk → Prop) : evBody Eorc4 (lb Try.f5 0) [0, 1, 5] [4] [.one (.own 0 1), .one (.data (.ints .i64 o)), .one (.int .i64 i)] [.cells [.own 1 1, .own 2 1, .own 3 1, .own 4 1], .row 3 (.ints .i64 a0), .row 3 (.ints .i64 a1), .row 3 (.ints .i64 a2), .row 3 (.ints .i64 a3)] K = ( bif decide (i < (↑o.length : Int)) then bif decide (0 ≤ i) && decide (i < (↑o.length : Int)) then bif decide (i.toNat + 0 < o.length) then bif !(decide (0 ≤ o.getD (i.toNat + 0) 0) && decide (o.getD (i.toNat + 0) (0 :Int) ≤ (3 :Int))) then K .ret [.one (.int .i64 6)] [Blk.cells [SV.own 1 1, SV.own 2 1, SV.own 3 1, SV.own 4 1], Blk.row 3 (Row.ints .i64 a0), Blk.row 3 (Row.ints .i64 a1), Blk.row 3 (Row.ints .i64 a2), Blk.row 3 (Row.ints .i64 a3)] else bif decide (0 ≤ i) && (decide (i.toNat ≤ o.length) && decide (0 ≤ i.toNat)) then bif decide (0 ≤ i) && decide (i < (↑o.length : Int)) then bif decide (i.toNat + 0 < o.length) then (List.take (i.toNat - 0) o).length ≤ 1000000000 ∧ bif memB (o.getD (i.toNat + 0) 0) (List.take (i.toNat - 0) o) then K .ret [.one (.int .i64 25)] [Blk.cells [SV.own 1 1, SV.own 2 1, SV.own 3 1, SV.own 4 1], Blk.row 3 (Row.ints .i64 a0), Blk.row 3 (Row.ints .i64 a1), Blk.row 3 (Row.ints .i64 a2), Blk.row 3 (Row.ints .i64 a3)] else K .normal [.one (.own 0 1), .one (.data (Row.ints .i64 o)), .one (.int .i64 (IntKind.i64.wrap (i + 1)))] [Blk.cells [SV.own 1 1, SV.own 2 1, SV.own 3 1, SV.own 4 1], Blk.row 3 (Row.ints .i64 a0), Blk.row 3 (Row.ints .i64 a1), Blk.row 3 (Row.ints .i64 a2), Blk.row 3 (Row.ints .i64 a3)] else False else False else False else False else False else K (.exit 0) [AV.any] [Blk.cells [SV.own 1 1, SV.own 2 1, SV.own 3 1, SV.own 4 1], Blk.row 3 (Row.ints .i64 a0), Blk.row 3 (Row.ints .i64 a1), Blk.row 3 (Row.ints .i64 a2), Blk.row 3 (Row.ints .i64 a3)]) := by kernel_rfl
theorem exclc4 (a0 a1 a2 a3 : List Int) (K : AV → List Blk → Prop) : evFn Eclc4 Try.f8 [.one (.own 0 1)] [.cells [.own 1 1, .own 2 1, .own 3 1, .own 4 1], .row 3 (.ints .i64 a0), .row 3 (.ints .i64 a1), .row 3 (.ints .i64 a2), .row 3 (.ints .i64 a3)] K = ( a0.length ≤ 1000000000000 ∧ a1.length ≤ 1000000000000 ∧ a2.length ≤ 1000000000000 ∧ a3.length ≤ 1000000000000 ∧ K (.one (.own 5 1)) [Blk.cells [SV.own 1 1, SV.own 2 1, SV.own 3 1, SV.own 4 1], Blk.row 3 (Row.ints .i64 a0), Blk.row 3 (Row.ints .i64 a1), Blk.row 3 (Row.ints .i64 a2), Blk.row 3 (Row.ints .i64 a3), Blk.row 23 (Row.recs [CK.sints .i64] [[D.ints a0], [D.ints a1], [D.ints a2], [D.ints a3]])]) := by kernel_rfl
theorem exorc5 (o a0 a1 a2 a3 a4 : List Int) (K : AV → List Blk → Prop) : evFn Eorc5 Try.f5 [.one (.own 0 1), .one (.data (.ints .i64 o))] [.cells [.own 1 1, .own 2 1, .own 3 1, .own 4 1, .own 5 1], .row 3 (.ints .i64 a0), .row 3 (.ints .i64 a1), .row 3 (.ints .i64 a2), .row 3 (.ints .i64 a3), .row 3 (.ints .i64 a4)] K = ( bif (↑o.length : Int) != 5 then K (.one (.int .i64 10)) [Blk.cells [SV.own 1 1, SV.own 2 1, SV.own 3 1, SV.own 4 1, SV.own 5 1], Blk.row 3 (Row.ints .i64 a0), Blk.row 3 (Row.ints .i64 a1), Blk.row 3 (Row.ints .i64 a2), Blk.row 3 (Row.ints .i64 a3), Blk.row 3 (Row.ints .i64 a4)] else (o.length = 5 ∧ (0 :Int) ≤ (0 :Int)) ∧ bif ordF 5 [] o == 0 then K (.one (.int .i64 0)) [Blk.cells [SV.own 1 1, SV.own 2 1, SV.own 3 1, SV.own 4 1, SV.own 5 1], Blk.row 3 (Row.ints .i64 a0), Blk.row 3 (Row.ints .i64 a1), Blk.row 3 (Row.ints .i64 a2), Blk.row 3 (Row.ints .i64 a3), Blk.row 3 (Row.ints .i64 a4)] else K (.one (.int .i64 (ordF 5 [] o))) [Blk.cells [SV.own 1 1, SV.own 2 1, SV.own 3 1, SV.own 4 1, SV.own 5 1], Blk.row 3 (Row.ints .i64 a0), Blk.row 3 (Row.ints .i64 a1), Blk.row 3 (Row.ints .i64 a2), Blk.row 3 (Row.ints .i64 a3), Blk.row 3 (Row.ints .i64 a4)]) := by kernel_rfl
theorem exorc5l0a (o : List Int) (i : Int) (a0 a1 a2 a3 a4 : List Int) (K : Ex → List AV → List Blk → Prop) : evBody Eorc5 (lb Try.f5 0) [0, 1, 5] [4] [.one (.own 0 1), .one (.data (.ints .i64 o)), .one (.int .i64 i)] [.cells [.own 1 1, .own 2 1, .own 3 1, .own 4 1, .own 5 1], .row 3 (.ints .i64 a0), .row 3 (.ints .i64 a1), .row 3 (.ints .i64 a2), .row 3 (.ints .i64 a3), .row 3 (.ints .i64 a4)] K = ( bif decide (i < (↑o.length : Int)) then bif decide (0 ≤ i) && decide (i < (↑o.length : Int)) then bif decide (i.toNat + 0 < o.length) then bif !(decide (0 ≤ o.getD (i.toNat + 0) 0) && decide (o.getD (i.toNat + 0) (0 :Int) ≤ (4 :Int))) then K .ret [.one (.int .i64 6)] [Blk.cells [SV.own 1 1, SV.own 2 1, SV.own 3 1, SV.own 4 1, SV.own 5 1], Blk.row 3 (Row.ints .i64 a0), Blk.row 3 (Row.ints .i64 a1), Blk.row 3 (Row.ints .i64 a2), Blk.row 3 (Row.ints .i64 a3), Blk.row 3 (Row.ints .i64 a4)] else bif decide (0 ≤ i) && (decide (i.toNat ≤ o.length) && decide (0 ≤ i.toNat)) then bif decide (0 ≤ i) && decide (i < (↑o.length : Int)) then bif decide (i.toNat + 0 < o.length) then (List.take (i.toNat - 0) o).length ≤ 1000000000 ∧ bif memB (o.getD (i.toNat + 0) 0) (List.take (i.toNat - 0) o) then K .ret [.one (.int .i64 25)] [Blk.cells [SV.own 1 1, SV.own 2 1, SV.own 3 1, SV.own 4 1, SV.own 5 1], Blk.row 3 (Row.ints .i64 a0), Blk.row 3 (Row.ints .i64 a1), Blk.row 3 (Row.ints .i64 a2), Blk.row 3 (Row.ints .i64 a3), Blk.row 3 (Row.ints .i64 a4)] else K .normal [.one (.own 0 1), .one (.data (Row.ints .i64 o)), .one (.int .i64 (IntKind.i64.wrap (i + 1)))] [Blk.cells [SV.own 1 1, SV.own 2 1, SV.own 3 1, SV.own 4 1, SV.own 5 1], Blk.row 3 (Row.ints .i64 a0), Blk.row 3 (Row.ints .i64 a1), Blk.row 3 (Row.ints .i64 a2), Blk.row 3 (Row.ints .i64 a3), Blk.row 3 (Row.ints .i64 a4)] else False else False else False else False else False else K (.exit 0) [AV.any] [Blk.cells [SV.own 1 1, SV.own 2 1, SV.own 3 1, SV.own 4 1, SV.own 5 1], Blk.row 3 (Row.ints .i64 a0), Blk.row 3 (Row.ints .i64 a1), Blk.row 3 (Row.ints .i64 a2), Blk.row 3 (Row.ints .i64 a3), Blk.row 3 (Row.ints .i64 a4)]) := by kernel_rfl
theorem exclc5 (a0 a1 a2 a3 a4 : List Int) (K : AV → List Blk → Prop) : evFn Eclc5 Try.f8 [.one (.own 0 1)] [.cells [.own 1 1, .own 2 1, .own 3 1, .own 4 1, .own 5 1], .row 3 (.ints .i64 a0), .row 3 (.ints .i64 a1), .row 3 (.ints .i64 a2), .row 3 (.ints .i64 a3), .row 3 (.ints .i64 a4)] K = ( a0.length ≤ 1000000000000 ∧ a1.length ≤ 1000000000000 ∧ a2.length ≤ 1000000000000 ∧ a3.length ≤ 1000000000000 ∧ a4.length ≤ 1000000000000 ∧ K (.one (.own 6 1)) [Blk.cells [SV.own 1 1, SV.own 2 1, SV.own 3 1, SV.own 4 1, SV.own 5 1], Blk.row 3 (Row.ints .i64 a0), Blk.row 3 (Row.ints .i64 a1), Blk.row 3 (Row.ints .i64 a2), Blk.row 3 (Row.ints .i64 a3), Blk.row 3 (Row.ints .i64 a4), Blk.row 23 (Row.recs [CK.sints .i64] [[D.ints a0], [D.ints a1], [D.ints a2], [D.ints a3], [D.ints a4]])]) := by kernel_rfl
end Go.Ev

/-
  Chapter 9: the layer's law of listeners' orders: what it calls keeps its contracts.
-/
namespace Go.Ev
open Go Go.Proofs
attribute [local irreducible] evFn evBody evRound
set_option maxRecDepth 20000
set_option linter.unusedVariables false
set_option linter.unusedSimpArgs false
theorem agA_range (x y : Int) : ∀ l : List Int, 0 ≤ agA x y l ∧ agA x y l ≤ l.length
  | [] => ⟨Int.le_refl _, Int.le_refl _⟩
  | z :: l => by
    have h := agA_range x y l
    simp only [agA, List.length_cons]
    cases (z == y && memB x (z :: l)) with
    | true => rw [cond_true]; omega
    | false => rw [cond_false]; omega
theorem agJ_range {l : List Int} (hl : l.length ≤ 8) (x : Int) : ∀ r : List Int, 0 ≤ agJ l x r ∧ agJ l x r ≤ 8 * r.length
  | [] => ⟨Int.le_refl _, Int.le_refl _⟩
  | y :: r => by
    have h := agJ_range hl x r
    have h2 := agA_range x y l
    simp only [agJ, List.length_cons]
    omega
theorem agI_range {l : List Int} (hl : l.length ≤ 8) : ∀ r : List Int, r.length ≤ 8 → 0 ≤ agI l r ∧ agI l r ≤ 64 * r.length
  | [], _ => ⟨Int.le_refl _, Int.le_refl _⟩
  | x :: r, hr => by
    rw [List.length_cons] at hr
    have h := agI_range hl r (by omega)
    have h2 := agJ_range hl x r
    simp only [agI, List.length_cons]
    omega
theorem okQ_row {p : List (List D)} {o : List Int} (hp : okQ p o) {h : Nat} (hh : h < p.length) : (rowD p h).length ≤ 8 := hp.2.1 _ (getD_mem (d := []) hh)
theorem loklag_3 : LoopOK Elag (lb Try.f10 3) [0, 1, 5, 6, 7, 8, 9] [0, 1, 5, 6, 7, 8] lgA := by
  refine loopOK (.cons okhav .nil) (noInner (by kernel_rfl)) (fun vs σ => match vs, σ with
    | [.one (.data (.recs [.sints .i64] p)), .one (.data (.ints .i64 _)), .one (.int .i64 _), .one (.int .i64 h), .one (.int .i64 _), .one (.int .i64 _), .one (.int .i64 a)], [] => ((rowD p h.toNat).length - a).toNat
    | _, _ => 0) fun vs σ k h => ?_
  unfold lgA at h
  split at h
  rotate_right
  · exact h.elim
  rename_i p o n g i j a
  rw [exlagl3a p o n g i j a _]
  obtain ⟨⟨hq, h1, h2, h3, h4, h5, h6, h7, h8, h9, h10⟩, hk⟩ := h
  rw [show ((p.getD g.toNat []).getD 0 (D.int 0)).toInts = rowD p g.toNat from rfl]
  have hl := okQ_row hq (show g.toNat < p.length by omega)
  rw [decide_eq_true h1, decide_eq_true h2, decide_eq_true (show g.toNat < p.length by omega), decide_eq_true (show 0 < 1 by decide)]
  simp only [Bool.and_self, cond_true, Nat.add_zero]
  by_cases ha : a < ((rowD p g.toNat).length : Int)
  · have w1 : IntKind.i64.wrap (a + 1) = a + 1 := wrap_id (by omega) (by omega)
    have w2 : IntKind.i64.wrap (n + 1) = n + 1 := by
      have := hq.1
      have := hq.2.2
      exact wrap_id (by omega) (by omega)
    have hmu : (((rowD p g.toNat).length : Int) - (a + 1)).toNat < (((rowD p g.toNat).length : Int) - a).toNat := by omega
    rw [drop_step 0 (show a.toNat < (rowD p g.toNat).length by omega), show a.toNat + 1 = (a + 1).toNat by omega] at hk
    simp only [agA] at hk
    rw [decide_eq_true ha, decide_eq_true h7, decide_eq_true (show a.toNat < (rowD p g.toNat).length by omega), decide_eq_true h5, decide_eq_true h6, decide_eq_true (show j.toNat < o.length by omega), w1, w2]
    simp only [Bool.and_self, cond_true, Bool.true_and]
    cases hz : (rowD p g.toNat).getD a.toNat 0 == o.getD j.toNat 0 with
    | false =>
      rw [hz] at hk
      simp only [Bool.false_and, cond_false, Int.zero_add] at hk ⊢
      exact ⟨⟨⟨hq, h1, h2, h3, h4, h5, h6, by omega, by omega, h9, by omega⟩, hk⟩, hmu⟩
    | true =>
      rw [hz] at hk
      rw [cond_true, decide_eq_true (show (rowD p g.toNat).length ≤ (rowD p g.toNat).length from Nat.le_refl _), decide_eq_true (show a.toNat ≤ (rowD p g.toNat).length by omega), decide_eq_true h3, decide_eq_true h4, decide_eq_true (show i.toNat < o.length by omega)]
      simp only [Bool.and_self, cond_true, Bool.true_and] at hk ⊢
      have ht : List.take ((rowD p g.toNat).length - a.toNat) (List.drop a.toNat (rowD p g.toNat)) = List.drop a.toNat (rowD p g.toNat) := List.take_of_length_le (by rw [List.length_drop]; exact Nat.le_refl _)
      rw [ht]
      refine And.intro (by rw [List.length_drop]; omega) ?_
      rw [show (rowD p g.toNat).getD a.toNat 0 :: (rowD p g.toNat).drop (a + 1).toNat = (rowD p g.toNat).drop a.toNat by rw [show (a + 1).toNat = a.toNat + 1 by omega, ← drop_step 0 (show a.toNat < (rowD p g.toNat).length by omega)]] at hk
      cases hm : memB (o.getD i.toNat 0) ((rowD p g.toNat).drop a.toNat) with
      | true =>
        rw [hm, cond_true, ← Int.add_assoc] at hk
        exact ⟨⟨⟨hq, h1, h2, h3, h4, h5, h6, by omega, by omega, by omega, by omega⟩, hk⟩, hmu⟩
      | false =>
        rw [hm, cond_false, Int.zero_add] at hk
        exact ⟨⟨⟨hq, h1, h2, h3, h4, h5, h6, by omega, by omega, h9, by omega⟩, hk⟩, hmu⟩
  · rw [decide_eq_false ha]
    rw [List.drop_eq_nil_of_le (by omega)] at hk
    simp only [agA, Int.add_zero] at hk
    exact hk
theorem loklag_2 : LoopOK Elag (lb Try.f10 2) [0, 1, 5, 6, 7, 8] [0, 1, 5, 6, 7] lgJ := by
  refine loopOK (.cons okhav .nil) (fun b' hb => by
    have hl : loopsOf (lb Try.f10 2) = [lb Try.f10 3] := by kernel_rfl
    rw [hl] at hb
    simp only [List.mem_cons, List.not_mem_nil, or_false] at hb
    subst hb
    exact loopHyp_of (key := 12) (by kernel_rfl) rfl loklag_3) (fun vs σ => match vs, σ with
    | [.one (.data (.recs [.sints .i64] _)), .one (.data (.ints .i64 o)), .one (.int .i64 _), .one (.int .i64 _), .one (.int .i64 _), .one (.int .i64 j)], [] => (o.length - j).toNat
    | _, _ => 0) fun vs σ k h => ?_
  unfold lgJ at h
  split at h
  rotate_right
  · exact h.elim
  rename_i p o n g i j
  rw [exlagl2a p o n g i j _]
  obtain ⟨⟨hq, h1, h2, h3, h4, h5, h6, h7, h8⟩, hk⟩ := h
  have hl := okQ_row hq (show g.toNat < p.length by omega)
  by_cases hj : j < (o.length : Int)
  · have w1 : IntKind.i64.wrap (j + 1) = j + 1 := by
      have := hq.2.2
      exact wrap_id (by omega) (by omega)
    have hmu : ((o.length : Int) - (j + 1)).toNat < ((o.length : Int) - j).toNat := by omega
    have hr := agA_range (o.getD i.toNat 0) (o.getD j.toNat 0) (rowD p g.toNat)
    rw [drop_step 0 (show j.toNat < o.length by omega), show j.toNat + 1 = (j + 1).toNat by omega] at hk
    simp only [agJ] at hk
    rw [decide_eq_true hj, w1, cond_true]
    rw [← Int.add_assoc] at hk
    exact ⟨⟨hq, h1, h2, h3, h4, h5, hj, by decide, by omega, h7, by omega⟩, ⟨⟨hq, h1, h2, h3, h4, by omega, by omega, by omega, by omega⟩, hk⟩, hmu⟩
  · rw [decide_eq_false hj]
    rw [List.drop_eq_nil_of_le (by omega)] at hk
    simp only [agJ, Int.add_zero] at hk
    exact hk
theorem loklag_1 : LoopOK Elag (lb Try.f10 1) [0, 1, 5, 6, 7] [0, 1, 5, 6] lgI := by
  refine loopOK (.cons okhav .nil) (fun b' hb => by
    have hl : loopsOf (lb Try.f10 1) = [lb Try.f10 2, lb Try.f10 3] := by kernel_rfl
    rw [hl] at hb
    simp only [List.mem_cons, List.not_mem_nil, or_false] at hb
    rcases hb with rfl | rfl
    · exact loopHyp_of (key := 9) (by kernel_rfl) rfl loklag_2
    · exact loopHyp_of (key := 12) (by kernel_rfl) rfl loklag_3) (fun vs σ => match vs, σ with
    | [.one (.data (.recs [.sints .i64] _)), .one (.data (.ints .i64 o)), .one (.int .i64 _), .one (.int .i64 _), .one (.int .i64 i)], [] => (o.length - i).toNat
    | _, _ => 0) fun vs σ k h => ?_
  unfold lgI at h
  split at h
  rotate_right
  · exact h.elim
  rename_i p o n g i
  rw [exlagl1a p o n g i _]
  obtain ⟨⟨hq, h1, h2, h3, h4, h7, h8⟩, hk⟩ := h
  have hl := okQ_row hq (show g.toNat < p.length by omega)
  by_cases hi : i < (o.length : Int)
  · have ho := hq.2.2
    have w1 : IntKind.i64.wrap (i + 1) = i + 1 := wrap_id (by omega) (by omega)
    have hmu : ((o.length : Int) - (i + 1)).toNat < ((o.length : Int) - i).toNat := by omega
    have hr := agJ_range hl (o.getD i.toNat 0) (o.drop (i + 1).toNat)
    have hr2 : ((o.drop (i + 1).toNat).length : Int) ≤ 8 := by rw [List.length_drop]; omega
    rw [drop_step 0 (show i.toNat < o.length by omega), show i.toNat + 1 = (i + 1).toNat by omega] at hk
    simp only [agI] at hk
    rw [decide_eq_true hi, w1, cond_true]
    rw [← Int.add_assoc] at hk
    exact ⟨⟨hq, h1, h2, h3, hi, by omega, by omega, h7, by omega⟩, ⟨⟨hq, h1, h2, by omega, by omega, by omega, by omega⟩, hk⟩, hmu⟩
  · rw [decide_eq_false hi]
    rw [List.drop_eq_nil_of_le (by omega)] at hk
    simp only [agI, Int.add_zero] at hk
    exact hk
theorem loklag_0 : LoopOK Elag (lb Try.f10 0) [0, 1, 5, 6] [5] lgK := by
  refine loopOK (.cons okhav .nil) (fun b' hb => by
    have hl : loopsOf (lb Try.f10 0) = [lb Try.f10 1, lb Try.f10 2, lb Try.f10 3] := by kernel_rfl
    rw [hl] at hb
    simp only [List.mem_cons, List.not_mem_nil, or_false] at hb
    rcases hb with rfl | rfl | rfl
    · exact loopHyp_of (key := 6) (by kernel_rfl) rfl loklag_1
    · exact loopHyp_of (key := 9) (by kernel_rfl) rfl loklag_2
    · exact loopHyp_of (key := 12) (by kernel_rfl) rfl loklag_3) (fun vs σ => match vs, σ with
    | [.one (.data (.recs [.sints .i64] p)), .one (.data (.ints .i64 _)), .one (.int .i64 _), .one (.int .i64 h)], [] => (p.length - h).toNat
    | _, _ => 0) fun vs σ k h => ?_
  unfold lgK at h
  split at h
  rotate_right
  · exact h.elim
  rename_i p o n g
  rw [exlagl0a p o n g _]
  obtain ⟨⟨hq, h1, h2, h7, h8⟩, hk⟩ := h
  by_cases hi : g < (p.length : Int)
  · have hl := okQ_row hq (show g.toNat < p.length by omega)
    have ho := hq.2.2
    have hp := hq.1
    have w1 : IntKind.i64.wrap (g + 1) = g + 1 := wrap_id (by omega) (by omega)
    have hmu : ((p.length : Int) - (g + 1)).toNat < ((p.length : Int) - g).toNat := by omega
    have hr := agI_range hl o ho
    rw [drop_step [] (show g.toNat < p.length by omega), show g.toNat + 1 = (g + 1).toNat by omega] at hk
    simp only [agK] at hk
    rw [show rowI (p.getD g.toNat []) = rowD p g.toNat from rfl] at hk
    rw [decide_eq_true hi, w1, cond_true]
    rw [← Int.add_assoc] at hk
    exact ⟨⟨hq, h1, hi, by decide, by omega, h7, by omega⟩, ⟨⟨hq, by omega, by omega, by omega, by omega⟩, hk⟩, hmu⟩
  · rw [decide_eq_false hi]
    rw [List.drop_eq_nil_of_le (by omega)] at hk
    simp only [agK, Int.add_zero] at hk
    exact hk
theorem oklag : SpecOK Try.prog 10 lagS := by
  refine specOK (n := 67) (m := 0) (lps := [(3, .spec [0, 1, 5, 6] [5] lgK), (6, .spec [0, 1, 5, 6, 7] [0, 1, 5, 6] lgI), (9, .spec [0, 1, 5, 6, 7, 8] [0, 1, 5, 6, 7] lgJ), (12, .spec [0, 1, 5, 6, 7, 8, 9] [0, 1, 5, 6, 7, 8] lgA)]) (.cons okhav .nil) Try.func10 (by kernel_rfl) (by kernel_rfl) (theLoops (n := 4) (by kernel_rfl) fun i hi => ?_) fun args σ K h => ?_
  · match i, hi with
    | 0, _ => exact loopHyp_of (key := 3) (by kernel_rfl) rfl loklag_0
    | 1, _ => exact loopHyp_of (key := 6) (by kernel_rfl) rfl loklag_1
    | 2, _ => exact loopHyp_of (key := 9) (by kernel_rfl) rfl loklag_2
    | 3, _ => exact loopHyp_of (key := 12) (by kernel_rfl) rfl loklag_3
  unfold lagS at h
  split at h
  rotate_right
  · exact h.elim
  rename_i p o
  rw [exlag p o K]
  obtain ⟨hq, h⟩ := h
  rw [Int.zero_add]
  exact ⟨⟨hq, by decide, by omega, by decide, by decide⟩, h⟩
theorem oktak : SpecOK Try.prog 4 tawkS := by
  refine specOK (n := 39) (m := 0) (lps := []) (.cons oktail2 (.cons okbest2 (.cons ok30 .nil))) Try.func4 (by kernel_rfl) (by kernel_rfl) (noLoops (by kernel_rfl)) fun args σ K h => ?_
  unfold tawkS at h
  split at h
  rotate_right
  · exact h.elim
  rw [extak K]
  exact ⟨by decide, by decide, h⟩
theorem lokorc0_0 : LoopOK Eorc0 (lb Try.f5 0) [0, 1, 5] [4] ordC0L := by
  refine loopOK (.cons ok25 (.cons okhav .nil)) (noInner (by kernel_rfl)) (fun vs σ => match vs, σ with
    | [.one (.own 0 1), .one (.data (.ints .i64 o)), .one (.int .i64 i)], [.cells []] => (o.length - i).toNat
    | _, _ => 0) fun vs σ k h => ?_
  unfold ordC0L at h
  split at h
  rotate_right
  · exact h.elim
  rename_i o i 
  rw [exorc0l0a o i  _]
  obtain ⟨⟨h2, h0⟩, h⟩ := h
  by_cases hi : i < (o.length : Int)
  · have w2 : IntKind.i64.wrap (i + 1) = i + 1 := wrap_id (by omega) (by omega)
    rw [ordF_step (show i.toNat < o.length by omega), show i.toNat + 1 = (i + 1).toNat by omega] at h
    unfold withinG at h
    rw [show (0 : Int) - 1 = -1 by decide] at h
    rw [w2, decide_eq_true hi, decide_eq_true h0, decide_eq_true (show i.toNat + 0 < o.length by omega), decide_eq_true (show i.toNat ≤ o.length by omega), decide_eq_true (show 0 ≤ i.toNat by omega)]
    simp only [cond_true, Bool.and_self, Nat.add_zero, Nat.sub_zero]
    cases hr : (decide (0 ≤ o.getD i.toNat 0) && decide (o.getD i.toNat 0 ≤ (-1 : Int))) with
    | false => rw [hr] at h; exact h
    | true =>
      rw [hr] at h
      refine ⟨by rw [List.length_take]; omega, ?_⟩
      cases hm : memB (o.getD i.toNat 0) (o.take i.toNat) with
      | true => rw [hm] at h; exact h
      | false =>
        rw [hm] at h
        exact ⟨⟨⟨h2, by omega⟩, h⟩, by show ((o.length : Int) - (i + 1)).toNat < ((o.length : Int) - i).toNat; omega⟩
  · rw [decide_eq_false hi]
    rw [List.drop_eq_nil_of_le (by omega)] at h
    exact h
theorem okorc0 : SpecOK Try.prog 5 ordC0S := by
  refine specOK (n := 34) (m := 1) (lps := [(4, .spec [0, 1, 5] [4] ordC0L)]) (.cons ok25 (.cons okhav .nil)) Try.func5 (by kernel_rfl) (by kernel_rfl) (theLoops (n := 1) (by kernel_rfl) fun i hi => ?_) fun args σ K h => ?_
  · match i, hi with
    | 0, _ => exact loopHyp_of (key := 4) (by kernel_rfl) rfl lokorc0_0
  unfold ordC0S at h
  split at h
  rotate_right
  · exact h.elim
  rename_i o 
  rw [exorc0 o  K]
  unfold ordE at h
  cases hn : ((o.length : Int) != (0 : Int)) with
  | true => rw [hn] at h; exact h
  | false =>
    rw [hn] at h
    have hl : (o.length : Int) = (0 : Int) := by simpa using hn
    refine ⟨⟨by omega, by decide⟩, ?_⟩
    by_cases hr : ordF (0 : Int) [] o = 0
    · simp only [cond_false] at h
      rw [hr] at h ⊢; exact h
    · have c1 : (ordF (0 : Int) [] o == 0) = false := beq_eq_false_iff_ne.2 hr
      rw [c1]; exact h
theorem okclc0 : SpecOK Try.prog 8 clC0S := by
  refine specOK (n := 20) (m := 1) (lps := [(3, .unroll 7)]) (.cons ok35 .nil) Try.func8 (by kernel_rfl) (by kernel_rfl) (theLoops (n := 1) (by kernel_rfl) fun i hi => ?_) fun args σ K h => ?_
  · match i, hi with
    | 0, _ => exact loopHyp_none (key := 3) (n := 7) (by kernel_rfl) rfl
  unfold clC0S at h
  split at h
  rotate_right
  · exact h.elim
  rw [exclc0 K]
  exact h
theorem lokorc1_0 : LoopOK Eorc1 (lb Try.f5 0) [0, 1, 5] [4] ordC1L := by
  refine loopOK (.cons ok25 (.cons okhav .nil)) (noInner (by kernel_rfl)) (fun vs σ => match vs, σ with
    | [.one (.own 0 1), .one (.data (.ints .i64 o)), .one (.int .i64 i)], [.cells [.own 1 1], .row 3 (.ints .i64 _)] => (o.length - i).toNat
    | _, _ => 0) fun vs σ k h => ?_
  unfold ordC1L at h
  split at h
  rotate_right
  · exact h.elim
  rename_i o i a0
  rw [exorc1l0a o i a0 _]
  obtain ⟨⟨h2, h0⟩, h⟩ := h
  by_cases hi : i < (o.length : Int)
  · have w2 : IntKind.i64.wrap (i + 1) = i + 1 := wrap_id (by omega) (by omega)
    rw [ordF_step (show i.toNat < o.length by omega), show i.toNat + 1 = (i + 1).toNat by omega] at h
    unfold withinG at h
    rw [show (1 : Int) - 1 = 0 by decide] at h
    rw [w2, decide_eq_true hi, decide_eq_true h0, decide_eq_true (show i.toNat + 0 < o.length by omega), decide_eq_true (show i.toNat ≤ o.length by omega), decide_eq_true (show 0 ≤ i.toNat by omega)]
    simp only [cond_true, Bool.and_self, Nat.add_zero, Nat.sub_zero]
    cases hr : (decide (0 ≤ o.getD i.toNat 0) && decide (o.getD i.toNat 0 ≤ (0 : Int))) with
    | false => rw [hr] at h; exact h
    | true =>
      rw [hr] at h
      refine ⟨by rw [List.length_take]; omega, ?_⟩
      cases hm : memB (o.getD i.toNat 0) (o.take i.toNat) with
      | true => rw [hm] at h; exact h
      | false =>
        rw [hm] at h
        exact ⟨⟨⟨h2, by omega⟩, h⟩, by show ((o.length : Int) - (i + 1)).toNat < ((o.length : Int) - i).toNat; omega⟩
  · rw [decide_eq_false hi]
    rw [List.drop_eq_nil_of_le (by omega)] at h
    exact h
theorem okorc1 : SpecOK Try.prog 5 ordC1S := by
  refine specOK (n := 34) (m := 2) (lps := [(4, .spec [0, 1, 5] [4] ordC1L)]) (.cons ok25 (.cons okhav .nil)) Try.func5 (by kernel_rfl) (by kernel_rfl) (theLoops (n := 1) (by kernel_rfl) fun i hi => ?_) fun args σ K h => ?_
  · match i, hi with
    | 0, _ => exact loopHyp_of (key := 4) (by kernel_rfl) rfl lokorc1_0
  unfold ordC1S at h
  split at h
  rotate_right
  · exact h.elim
  rename_i o a0
  rw [exorc1 o a0 K]
  unfold ordE at h
  cases hn : ((o.length : Int) != (1 : Int)) with
  | true => rw [hn] at h; exact h
  | false =>
    rw [hn] at h
    have hl : (o.length : Int) = (1 : Int) := by simpa using hn
    refine ⟨⟨by omega, by decide⟩, ?_⟩
    by_cases hr : ordF (1 : Int) [] o = 0
    · simp only [cond_false] at h
      rw [hr] at h ⊢; exact h
    · have c1 : (ordF (1 : Int) [] o == 0) = false := beq_eq_false_iff_ne.2 hr
      rw [c1]; exact h
theorem okclc1 : SpecOK Try.prog 8 clC1S := by
  refine specOK (n := 20) (m := 2) (lps := [(3, .unroll 7)]) (.cons ok35 .nil) Try.func8 (by kernel_rfl) (by kernel_rfl) (theLoops (n := 1) (by kernel_rfl) fun i hi => ?_) fun args σ K h => ?_
  · match i, hi with
    | 0, _ => exact loopHyp_none (key := 3) (n := 7) (by kernel_rfl) rfl
  unfold clC1S at h
  split at h
  rotate_right
  · exact h.elim
  rename_i a0
  rw [exclc1 a0 K]
  obtain ⟨h1, h⟩ := h
  exact ⟨by omega, h⟩
theorem lokorc2_0 : LoopOK Eorc2 (lb Try.f5 0) [0, 1, 5] [4] ordC2L := by
  refine loopOK (.cons ok25 (.cons okhav .nil)) (noInner (by kernel_rfl)) (fun vs σ => match vs, σ with
    | [.one (.own 0 1), .one (.data (.ints .i64 o)), .one (.int .i64 i)], [.cells [.own 1 1, .own 2 1], .row 3 (.ints .i64 _), .row 3 (.ints .i64 _)] => (o.length - i).toNat
    | _, _ => 0) fun vs σ k h => ?_
  unfold ordC2L at h
  split at h
  rotate_right
  · exact h.elim
  rename_i o i a0 a1
  rw [exorc2l0a o i a0 a1 _]
  obtain ⟨⟨h2, h0⟩, h⟩ := h
  by_cases hi : i < (o.length : Int)
  · have w2 : IntKind.i64.wrap (i + 1) = i + 1 := wrap_id (by omega) (by omega)
    rw [ordF_step (show i.toNat < o.length by omega), show i.toNat + 1 = (i + 1).toNat by omega] at h
    unfold withinG at h
    rw [show (2 : Int) - 1 = 1 by decide] at h
    rw [w2, decide_eq_true hi, decide_eq_true h0, decide_eq_true (show i.toNat + 0 < o.length by omega), decide_eq_true (show i.toNat ≤ o.length by omega), decide_eq_true (show 0 ≤ i.toNat by omega)]
    simp only [cond_true, Bool.and_self, Nat.add_zero, Nat.sub_zero]
    cases hr : (decide (0 ≤ o.getD i.toNat 0) && decide (o.getD i.toNat 0 ≤ (1 : Int))) with
    | false => rw [hr] at h; exact h
    | true =>
      rw [hr] at h
      refine ⟨by rw [List.length_take]; omega, ?_⟩
      cases hm : memB (o.getD i.toNat 0) (o.take i.toNat) with
      | true => rw [hm] at h; exact h
      | false =>
        rw [hm] at h
        exact ⟨⟨⟨h2, by omega⟩, h⟩, by show ((o.length : Int) - (i + 1)).toNat < ((o.length : Int) - i).toNat; omega⟩
  · rw [decide_eq_false hi]
    rw [List.drop_eq_nil_of_le (by omega)] at h
    exact h
theorem okorc2 : SpecOK Try.prog 5 ordC2S := by
  refine specOK (n := 34) (m := 3) (lps := [(4, .spec [0, 1, 5] [4] ordC2L)]) (.cons ok25 (.cons okhav .nil)) Try.func5 (by kernel_rfl) (by kernel_rfl) (theLoops (n := 1) (by kernel_rfl) fun i hi => ?_) fun args σ K h => ?_
  · match i, hi with
    | 0, _ => exact loopHyp_of (key := 4) (by kernel_rfl) rfl lokorc2_0
  unfold ordC2S at h
  split at h
  rotate_right
  · exact h.elim
  rename_i o a0 a1
  rw [exorc2 o a0 a1 K]
  unfold ordE at h
  cases hn : ((o.length : Int) != (2 : Int)) with
  | true => rw [hn] at h; exact h
  | false =>
    rw [hn] at h
    have hl : (o.length : Int) = (2 : Int) := by simpa using hn
    refine ⟨⟨by omega, by decide⟩, ?_⟩
    by_cases hr : ordF (2 : Int) [] o = 0
    · simp only [cond_false] at h
      rw [hr] at h ⊢; exact h
    · have c1 : (ordF (2 : Int) [] o == 0) = false := beq_eq_false_iff_ne.2 hr
      rw [c1]; exact h
theorem okclc2 : SpecOK Try.prog 8 clC2S := by
  refine specOK (n := 20) (m := 3) (lps := [(3, .unroll 7)]) (.cons ok35 .nil) Try.func8 (by kernel_rfl) (by kernel_rfl) (theLoops (n := 1) (by kernel_rfl) fun i hi => ?_) fun args σ K h => ?_
  · match i, hi with
    | 0, _ => exact loopHyp_none (key := 3) (n := 7) (by kernel_rfl) rfl
  unfold clC2S at h
  split at h
  rotate_right
  · exact h.elim
  rename_i a0 a1
  rw [exclc2 a0 a1 K]
  obtain ⟨h1, h⟩ := h
  exact ⟨by omega, by omega, h⟩
theorem lokorc3_0 : LoopOK Eorc3 (lb Try.f5 0) [0, 1, 5] [4] ordC3L := by
  refine loopOK (.cons ok25 (.cons okhav .nil)) (noInner (by kernel_rfl)) (fun vs σ => match vs, σ with
    | [.one (.own 0 1), .one (.data (.ints .i64 o)), .one (.int .i64 i)], [.cells [.own 1 1, .own 2 1, .own 3 1], .row 3 (.ints .i64 _), .row 3 (.ints .i64 _), .row 3 (.ints .i64 _)] => (o.length - i).toNat
    | _, _ => 0) fun vs σ k h => ?_
  unfold ordC3L at h
  split at h
  rotate_right
  · exact h.elim
  rename_i o i a0 a1 a2
  rw [exorc3l0a o i a0 a1 a2 _]
  obtain ⟨⟨h2, h0⟩, h⟩ := h
  by_cases hi : i < (o.length : Int)
  · have w2 : IntKind.i64.wrap (i + 1) = i + 1 := wrap_id (by omega) (by omega)
    rw [ordF_step (show i.toNat < o.length by omega), show i.toNat + 1 = (i + 1).toNat by omega] at h
    unfold withinG at h
    rw [show (3 : Int) - 1 = 2 by decide] at h
    rw [w2, decide_eq_true hi, decide_eq_true h0, decide_eq_true (show i.toNat + 0 < o.length by omega), decide_eq_true (show i.toNat ≤ o.length by omega), decide_eq_true (show 0 ≤ i.toNat by omega)]
    simp only [cond_true, Bool.and_self, Nat.add_zero, Nat.sub_zero]
    cases hr : (decide (0 ≤ o.getD i.toNat 0) && decide (o.getD i.toNat 0 ≤ (2 : Int))) with
    | false => rw [hr] at h; exact h
    | true =>
      rw [hr] at h
      refine ⟨by rw [List.length_take]; omega, ?_⟩
      cases hm : memB (o.getD i.toNat 0) (o.take i.toNat) with
      | true => rw [hm] at h; exact h
      | false =>
        rw [hm] at h
        exact ⟨⟨⟨h2, by omega⟩, h⟩, by show ((o.length : Int) - (i + 1)).toNat < ((o.length : Int) - i).toNat; omega⟩
  · rw [decide_eq_false hi]
    rw [List.drop_eq_nil_of_le (by omega)] at h
    exact h
theorem okorc3 : SpecOK Try.prog 5 ordC3S := by
  refine specOK (n := 34) (m := 4) (lps := [(4, .spec [0, 1, 5] [4] ordC3L)]) (.cons ok25 (.cons okhav .nil)) Try.func5 (by kernel_rfl) (by kernel_rfl) (theLoops (n := 1) (by kernel_rfl) fun i hi => ?_) fun args σ K h => ?_
  · match i, hi with
    | 0, _ => exact loopHyp_of (key := 4) (by kernel_rfl) rfl lokorc3_0
  unfold ordC3S at h
  split at h
  rotate_right
  · exact h.elim
  rename_i o a0 a1 a2
  rw [exorc3 o a0 a1 a2 K]
  unfold ordE at h
  cases hn : ((o.length : Int) != (3 : Int)) with
  | true => rw [hn] at h; exact h
  | false =>
    rw [hn] at h
    have hl : (o.length : Int) = (3 : Int) := by simpa using hn
    refine ⟨⟨by omega, by decide⟩, ?_⟩
    by_cases hr : ordF (3 : Int) [] o = 0
    · simp only [cond_false] at h
      rw [hr] at h ⊢; exact h
    · have c1 : (ordF (3 : Int) [] o == 0) = false := beq_eq_false_iff_ne.2 hr
      rw [c1]; exact h
theorem okclc3 : SpecOK Try.prog 8 clC3S := by
  refine specOK (n := 20) (m := 4) (lps := [(3, .unroll 7)]) (.cons ok35 .nil) Try.func8 (by kernel_rfl) (by kernel_rfl) (theLoops (n := 1) (by kernel_rfl) fun i hi => ?_) fun args σ K h => ?_
  · match i, hi with
    | 0, _ => exact loopHyp_none (key := 3) (n := 7) (by kernel_rfl) rfl
  unfold clC3S at h
  split at h
  rotate_right
  · exact h.elim
  rename_i a0 a1 a2
  rw [exclc3 a0 a1 a2 K]
  obtain ⟨h1, h⟩ := h
  exact ⟨by omega, by omega, by omega, h⟩
theorem lokorc4_0 : LoopOK Eorc4 (lb Try.f5 0) [0, 1, 5] [4] ordC4L := by
  refine loopOK (.cons ok25 (.cons okhav .nil)) (noInner (by kernel_rfl)) (fun vs σ => match vs, σ with
    | [.one (.own 0 1), .one (.data (.ints .i64 o)), .one (.int .i64 i)], [.cells [.own 1 1, .own 2 1, .own 3 1, .own 4 1], .row 3 (.ints .i64 _), .row 3 (.ints .i64 _), .row 3 (.ints .i64 _), .row 3 (.ints .i64 _)] => (o.length - i).toNat
    | _, _ => 0) fun vs σ k h => ?_
  unfold ordC4L at h
  split at h
  rotate_right
  · exact h.elim
  rename_i o i a0 a1 a2 a3
  rw [exorc4l0a o i a0 a1 a2 a3 _]
  obtain ⟨⟨h2, h0⟩, h⟩ := h
  by_cases hi : i < (o.length : Int)
  · have w2 : IntKind.i64.wrap (i + 1) = i + 1 := wrap_id (by omega) (by omega)
    rw [ordF_step (show i.toNat < o.length by omega), show i.toNat + 1 = (i + 1).toNat by omega] at h
    unfold withinG at h
    rw [show (4 : Int) - 1 = 3 by decide] at h
    rw [w2, decide_eq_true hi, decide_eq_true h0, decide_eq_true (show i.toNat + 0 < o.length by omega), decide_eq_true (show i.toNat ≤ o.length by omega), decide_eq_true (show 0 ≤ i.toNat by omega)]
    simp only [cond_true, Bool.and_self, Nat.add_zero, Nat.sub_zero]
    cases hr : (decide (0 ≤ o.getD i.toNat 0) && decide (o.getD i.toNat 0 ≤ (3 : Int))) with
    | false => rw [hr] at h; exact h
    | true =>
      rw [hr] at h
      refine ⟨by rw [List.length_take]; omega, ?_⟩
      cases hm : memB (o.getD i.toNat 0) (o.take i.toNat) with
      | true => rw [hm] at h; exact h
      | false =>
        rw [hm] at h
        exact ⟨⟨⟨h2, by omega⟩, h⟩, by show ((o.length : Int) - (i + 1)).toNat < ((o.length : Int) - i).toNat; omega⟩
  · rw [decide_eq_false hi]
    rw [List.drop_eq_nil_of_le (by omega)] at h
    exact h
theorem okorc4 : SpecOK Try.prog 5 ordC4S := by
  refine specOK (n := 34) (m := 5) (lps := [(4, .spec [0, 1, 5] [4] ordC4L)]) (.cons ok25 (.cons okhav .nil)) Try.func5 (by kernel_rfl) (by kernel_rfl) (theLoops (n := 1) (by kernel_rfl) fun i hi => ?_) fun args σ K h => ?_
  · match i, hi with
    | 0, _ => exact loopHyp_of (key := 4) (by kernel_rfl) rfl lokorc4_0
  unfold ordC4S at h
  split at h
  rotate_right
  · exact h.elim
  rename_i o a0 a1 a2 a3
  rw [exorc4 o a0 a1 a2 a3 K]
  unfold ordE at h
  cases hn : ((o.length : Int) != (4 : Int)) with
  | true => rw [hn] at h; exact h
  | false =>
    rw [hn] at h
    have hl : (o.length : Int) = (4 : Int) := by simpa using hn
    refine ⟨⟨by omega, by decide⟩, ?_⟩
    by_cases hr : ordF (4 : Int) [] o = 0
    · simp only [cond_false] at h
      rw [hr] at h ⊢; exact h
    · have c1 : (ordF (4 : Int) [] o == 0) = false := beq_eq_false_iff_ne.2 hr
      rw [c1]; exact h
theorem okclc4 : SpecOK Try.prog 8 clC4S := by
  refine specOK (n := 20) (m := 5) (lps := [(3, .unroll 7)]) (.cons ok35 .nil) Try.func8 (by kernel_rfl) (by kernel_rfl) (theLoops (n := 1) (by kernel_rfl) fun i hi => ?_) fun args σ K h => ?_
  · match i, hi with
    | 0, _ => exact loopHyp_none (key := 3) (n := 7) (by kernel_rfl) rfl
  unfold clC4S at h
  split at h
  rotate_right
  · exact h.elim
  rename_i a0 a1 a2 a3
  rw [exclc4 a0 a1 a2 a3 K]
  obtain ⟨h1, h⟩ := h
  exact ⟨by omega, by omega, by omega, by omega, h⟩
theorem lokorc5_0 : LoopOK Eorc5 (lb Try.f5 0) [0, 1, 5] [4] ordC5L := by
  refine loopOK (.cons ok25 (.cons okhav .nil)) (noInner (by kernel_rfl)) (fun vs σ => match vs, σ with
    | [.one (.own 0 1), .one (.data (.ints .i64 o)), .one (.int .i64 i)], [.cells [.own 1 1, .own 2 1, .own 3 1, .own 4 1, .own 5 1], .row 3 (.ints .i64 _), .row 3 (.ints .i64 _), .row 3 (.ints .i64 _), .row 3 (.ints .i64 _), .row 3 (.ints .i64 _)] => (o.length - i).toNat
    | _, _ => 0) fun vs σ k h => ?_
  unfold ordC5L at h
  split at h
  rotate_right
  · exact h.elim
  rename_i o i a0 a1 a2 a3 a4
  rw [exorc5l0a o i a0 a1 a2 a3 a4 _]
  obtain ⟨⟨h2, h0⟩, h⟩ := h
  by_cases hi : i < (o.length : Int)
  · have w2 : IntKind.i64.wrap (i + 1) = i + 1 := wrap_id (by omega) (by omega)
    rw [ordF_step (show i.toNat < o.length by omega), show i.toNat + 1 = (i + 1).toNat by omega] at h
    unfold withinG at h
    rw [show (5 : Int) - 1 = 4 by decide] at h
    rw [w2, decide_eq_true hi, decide_eq_true h0, decide_eq_true (show i.toNat + 0 < o.length by omega), decide_eq_true (show i.toNat ≤ o.length by omega), decide_eq_true (show 0 ≤ i.toNat by omega)]
    simp only [cond_true, Bool.and_self, Nat.add_zero, Nat.sub_zero]
    cases hr : (decide (0 ≤ o.getD i.toNat 0) && decide (o.getD i.toNat 0 ≤ (4 : Int))) with
    | false => rw [hr] at h; exact h
    | true =>
      rw [hr] at h
      refine ⟨by rw [List.length_take]; omega, ?_⟩
      cases hm : memB (o.getD i.toNat 0) (o.take i.toNat) with
      | true => rw [hm] at h; exact h
      | false =>
        rw [hm] at h
        exact ⟨⟨⟨h2, by omega⟩, h⟩, by show ((o.length : Int) - (i + 1)).toNat < ((o.length : Int) - i).toNat; omega⟩
  · rw [decide_eq_false hi]
    rw [List.drop_eq_nil_of_le (by omega)] at h
    exact h
theorem okorc5 : SpecOK Try.prog 5 ordC5S := by
  refine specOK (n := 34) (m := 6) (lps := [(4, .spec [0, 1, 5] [4] ordC5L)]) (.cons ok25 (.cons okhav .nil)) Try.func5 (by kernel_rfl) (by kernel_rfl) (theLoops (n := 1) (by kernel_rfl) fun i hi => ?_) fun args σ K h => ?_
  · match i, hi with
    | 0, _ => exact loopHyp_of (key := 4) (by kernel_rfl) rfl lokorc5_0
  unfold ordC5S at h
  split at h
  rotate_right
  · exact h.elim
  rename_i o a0 a1 a2 a3 a4
  rw [exorc5 o a0 a1 a2 a3 a4 K]
  unfold ordE at h
  cases hn : ((o.length : Int) != (5 : Int)) with
  | true => rw [hn] at h; exact h
  | false =>
    rw [hn] at h
    have hl : (o.length : Int) = (5 : Int) := by simpa using hn
    refine ⟨⟨by omega, by decide⟩, ?_⟩
    by_cases hr : ordF (5 : Int) [] o = 0
    · simp only [cond_false] at h
      rw [hr] at h ⊢; exact h
    · have c1 : (ordF (5 : Int) [] o == 0) = false := beq_eq_false_iff_ne.2 hr
      rw [c1]; exact h
theorem okclc5 : SpecOK Try.prog 8 clC5S := by
  refine specOK (n := 20) (m := 6) (lps := [(3, .unroll 7)]) (.cons ok35 .nil) Try.func8 (by kernel_rfl) (by kernel_rfl) (theLoops (n := 1) (by kernel_rfl) fun i hi => ?_) fun args σ K h => ?_
  · match i, hi with
    | 0, _ => exact loopHyp_none (key := 3) (n := 7) (by kernel_rfl) rfl
  unfold clC5S at h
  split at h
  rotate_right
  · exact h.elim
  rename_i a0 a1 a2 a3 a4
  rw [exclc5 a0 a1 a2 a3 a4 K]
  obtain ⟨h1, h⟩ := h
  exact ⟨by omega, by omega, by omega, by omega, by omega, h⟩
theorem okordC : SpecOK Try.prog 5 ordCS := by
  have h1 : SpecOK Try.prog 5 (fun args σ K => ordC0S args σ K ∨ ordC1S args σ K) := SpecOK.mk2 okorc0 okorc1 fun _ _ _ h => h
  have h2 : SpecOK Try.prog 5 (fun args σ K => (ordC0S args σ K ∨ ordC1S args σ K) ∨ ordC2S args σ K) := SpecOK.mk2 h1 okorc2 fun _ _ _ h => h
  have h3 : SpecOK Try.prog 5 (fun args σ K => ((ordC0S args σ K ∨ ordC1S args σ K) ∨ ordC2S args σ K) ∨ ordC3S args σ K) := SpecOK.mk2 h2 okorc3 fun _ _ _ h => h
  have h4 : SpecOK Try.prog 5 (fun args σ K => (((ordC0S args σ K ∨ ordC1S args σ K) ∨ ordC2S args σ K) ∨ ordC3S args σ K) ∨ ordC4S args σ K) := SpecOK.mk2 h3 okorc4 fun _ _ _ h => h
  have h5 : SpecOK Try.prog 5 (fun args σ K => ((((ordC0S args σ K ∨ ordC1S args σ K) ∨ ordC2S args σ K) ∨ ordC3S args σ K) ∨ ordC4S args σ K) ∨ ordC5S args σ K) := SpecOK.mk2 h4 okorc5 fun _ _ _ h => h
  refine SpecOK.weak h5 fun args σ K h => ?_
  unfold ordCS at h
  split at h
  · exact .inl (.inl (.inl (.inl (.inl (h)))))
  · exact .inl (.inl (.inl (.inl (.inr (h)))))
  · exact .inl (.inl (.inl (.inr (h))))
  · exact .inl (.inl (.inr (h)))
  · exact .inl (.inr (h))
  · exact .inr (h)
  · exact h.elim
theorem okclC : SpecOK Try.prog 8 clCS := by
  have h1 : SpecOK Try.prog 8 (fun args σ K => clC0S args σ K ∨ clC1S args σ K) := SpecOK.mk2 okclc0 okclc1 fun _ _ _ h => h
  have h2 : SpecOK Try.prog 8 (fun args σ K => (clC0S args σ K ∨ clC1S args σ K) ∨ clC2S args σ K) := SpecOK.mk2 h1 okclc2 fun _ _ _ h => h
  have h3 : SpecOK Try.prog 8 (fun args σ K => ((clC0S args σ K ∨ clC1S args σ K) ∨ clC2S args σ K) ∨ clC3S args σ K) := SpecOK.mk2 h2 okclc3 fun _ _ _ h => h
  have h4 : SpecOK Try.prog 8 (fun args σ K => (((clC0S args σ K ∨ clC1S args σ K) ∨ clC2S args σ K) ∨ clC3S args σ K) ∨ clC4S args σ K) := SpecOK.mk2 h3 okclc4 fun _ _ _ h => h
  have h5 : SpecOK Try.prog 8 (fun args σ K => ((((clC0S args σ K ∨ clC1S args σ K) ∨ clC2S args σ K) ∨ clC3S args σ K) ∨ clC4S args σ K) ∨ clC5S args σ K) := SpecOK.mk2 h4 okclc5 fun _ _ _ h => h
  refine SpecOK.weak h5 fun args σ K h => ?_
  unfold clCS at h
  split at h
  · exact .inl (.inl (.inl (.inl (.inl (h)))))
  · exact .inl (.inl (.inl (.inl (.inr (h)))))
  · exact .inl (.inl (.inl (.inr (h))))
  · exact .inl (.inl (.inr (h)))
  · exact .inl (.inr (h))
  · exact .inr (h)
  · exact h.elim
end Go.Ev
