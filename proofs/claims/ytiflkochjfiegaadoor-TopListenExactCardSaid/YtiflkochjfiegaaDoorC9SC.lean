/-
  Part of the proof of a law.
-/
import Derived.Test.YtiflkochjfiegaaDoorC9SB
import Derived.KernelRfl
set_option linter.unusedVariables false
set_option linter.unusedSimpArgs false
set_option linter.unusedSectionVars false
/-
  Chapter 9, contracts: applying and replaying events of sessions.
-/
namespace Go.Ev
open Go Go.Proofs
set_option maxRecDepth 20000
def apE (h : List Int) (p : Int) (b0 b1 b2 : Bool) (a : List Int) (k n : Int) : Int := bif boE h p b0 b1 b2 a == 0 then prE h p b0 b1 b2 a.length k n else boE h p b0 b1 b2 a
structure Rp where
  p : Int
  b0 : Bool
  b1 : Bool
  b2 : Bool
  a : List Int
  i : Int
  e : Int
def rpG (h : List Int) : Int → Bool → Bool → Bool → List Int → Int → List (List Int) → Rp
  | p, b0, b1, b2, a, _, [] => ⟨p, b0, b1, b2, a, 0, 0⟩
  | p, b0, b1, b2, a, i, x :: l =>
    bif prE h p b0 b1 b2 a.length (x.getD 0 0) (x.getD 1 0) == 0 then rpG h (nxP p (x.getD 0 0) (x.getD 1 0)) (nxB 0 b0 (x.getD 0 0) (x.getD 1 0)) (nxB 1 b1 (x.getD 0 0) (x.getD 1 0)) (nxB 2 b2 (x.getD 0 0) (x.getD 1 0)) (nxA a (x.getD 0 0) (x.getD 1 0)) (i + 1) l
    else ⟨0, false, false, false, [], i, prE h p b0 b1 b2 a.length (x.getD 0 0) (x.getD 1 0)⟩
def rpE (h : List Int) (l : List (List Int)) : Int := bif ruE h == 0 then (bif decide ((l.length : Int) ≤ 200) then 0 else 8) else ruE h
def rpR (e : Int) (h : List Int) (l : List (List Int)) : Rp := bif e == 0 then rpG h (-1) false false false [] 0 l else ⟨0, false, false, false, [], 0, e⟩
def apl0S : Spec := fun args σ K => match args, σ with
  | [.agg [.data (.ints .i64 h)], .agg [.int .i64 p, .bool b0, .bool b1, .bool b2, .data (.ints .i64 a)], .agg [.int .i64 k, .int .i64 n]], [] => (h.length ≤ 1000000000 ∧ a.length ≤ 1000000) ∧ bif (apE h p b0 b1 b2 a k n) == 0 then ((bif k == 2 then K (.tup [.agg [.int .i64 (-1), .bool false, .bool false, .bool false, .own 0 1], .one (.int .i64 0)]) [.row 3 (.ints .i64 (a ++ [n]))] else (bif k == 3 then K (.tup [.agg [.int .i64 (-1), .bool false, .bool false, .bool false, .sub 0 1 0 (a.length - 1)], .one (.int .i64 0)]) [.row 3 (.ints .i64 a)] else K (.tup [.agg [.int .i64 (nxP p k n), .bool (nxB 0 b0 k n), .bool (nxB 1 b1 k n), .bool (nxB 2 b2 k n), .own 0 1], .one (.int .i64 0)]) [.row 3 (.ints .i64 a)])) ∧ (a = [] → bif k == 2 then K (.tup [.agg [.int .i64 (-1), .bool false, .bool false, .bool false, .own 0 1], .one (.int .i64 0)]) [.row 3 (.ints .i64 [n])] else K (.tup [.agg [.int .i64 (nxP p k n), .bool (nxB 0 b0 k n), .bool (nxB 1 b1 k n), .bool (nxB 2 b2 k n), .nil], .one (.int .i64 0)]) [])) else K (.tup [.agg [.int .i64 0, .bool false, .bool false, .bool false, .nil], .one (.int .i64 (apE h p b0 b1 b2 a k n))]) []
  | _, _ => False
def cpvS : Spec := fun args σ K => match args, σ with
  | [.one (.data (.mat .i64 2 l))], [] => l.length ≤ 1000000000000 ∧ K (.one (.own 0 2)) [.row 128 (.mat .i64 2 l)]
  | _, _ => False
def repL : LSpec := fun vs σ k => match vs, σ with
  | [.one (.ptr 0 1 0 0), .one (.ptr 1 1 0 0), .one (.data (.mat .i64 2 l)), .one (.int .i64 n), .one (.int .i64 i)], [.cells [.int .i64 0, .bool false, .bool false, .bool false, .nil], .cells [.data (.ints .i64 h), .int .i64 p, .bool b0, .bool b1, .bool b2, .nil]] =>
    (l.length ≤ 1000 ∧ n = l.length ∧ 0 ≤ i ∧ i ≤ n) ∧ bif (rpG h p b0 b1 b2 [] i (l.drop i.toNat)).e == 0 then ((∀ (q : Nat) (a' : List Int), q ≤ a'.length ∧ a'.take q = (rpG h p b0 b1 b2 [] i (l.drop i.toNat)).a → k (.exit 0) [.one (.ptr 0 1 0 0), .any, .any, .one (.ptr 1 1 0 0)] [.cells [.int .i64 0, .bool false, .bool false, .bool false, .nil], .cells [.data (.ints .i64 h), .int .i64 (rpG h p b0 b1 b2 [] i (l.drop i.toNat)).p, .bool (rpG h p b0 b1 b2 [] i (l.drop i.toNat)).b0, .bool (rpG h p b0 b1 b2 [] i (l.drop i.toNat)).b1, .bool (rpG h p b0 b1 b2 [] i (l.drop i.toNat)).b2, .sub 2 1 0 q], .row 3 (.ints .i64 a')]) ∧
      k (.exit 0) [.one (.ptr 0 1 0 0), .any, .any, .one (.ptr 1 1 0 0)] [.cells [.int .i64 0, .bool false, .bool false, .bool false, .nil], .cells [.data (.ints .i64 h), .int .i64 (rpG h p b0 b1 b2 [] i (l.drop i.toNat)).p, .bool (rpG h p b0 b1 b2 [] i (l.drop i.toNat)).b0, .bool (rpG h p b0 b1 b2 [] i (l.drop i.toNat)).b1, .bool (rpG h p b0 b1 b2 [] i (l.drop i.toNat)).b2, .own 2 1], .row 3 (.ints .i64 (rpG h p b0 b1 b2 [] i (l.drop i.toNat)).a)] ∧
      ((rpG h p b0 b1 b2 [] i (l.drop i.toNat)).a = [] → k (.exit 0) [.one (.ptr 0 1 0 0), .any, .any, .one (.ptr 1 1 0 0)] [.cells [.int .i64 0, .bool false, .bool false, .bool false, .nil], .cells [.data (.ints .i64 h), .int .i64 (rpG h p b0 b1 b2 [] i (l.drop i.toNat)).p, .bool (rpG h p b0 b1 b2 [] i (l.drop i.toNat)).b0, .bool (rpG h p b0 b1 b2 [] i (l.drop i.toNat)).b1, .bool (rpG h p b0 b1 b2 [] i (l.drop i.toNat)).b2, .nil]]))
    else ∀ (b : Blk) (rest : List Blk), k .ret [.one (.ptr 0 1 0 0), .one (.int .i64 ((rpG h p b0 b1 b2 [] i (l.drop i.toNat)).i)), .one (.int .i64 ((rpG h p b0 b1 b2 [] i (l.drop i.toNat)).e)), .one (.ptr 1 1 0 0)] (.cells [.int .i64 0, .bool false, .bool false, .bool false, .nil] :: b :: rest)
  | [.one (.ptr 0 1 0 0), .one (.ptr 1 1 0 0), .one (.data (.mat .i64 2 l)), .one (.int .i64 n), .one (.int .i64 i)], [.cells [.int .i64 0, .bool false, .bool false, .bool false, .nil], .cells [.data (.ints .i64 h), .int .i64 p, .bool b0, .bool b1, .bool b2, .own 2 1], .row 3 (.ints .i64 a)] =>
    (l.length ≤ 1000 ∧ n = l.length ∧ 0 ≤ i ∧ i ≤ n ∧ (a.length : Int) ≤ i) ∧ bif (rpG h p b0 b1 b2 a i (l.drop i.toNat)).e == 0 then ((∀ (q : Nat) (a' : List Int), q ≤ a'.length ∧ a'.take q = (rpG h p b0 b1 b2 a i (l.drop i.toNat)).a → k (.exit 0) [.one (.ptr 0 1 0 0), .any, .any, .one (.ptr 1 1 0 0)] [.cells [.int .i64 0, .bool false, .bool false, .bool false, .nil], .cells [.data (.ints .i64 h), .int .i64 (rpG h p b0 b1 b2 a i (l.drop i.toNat)).p, .bool (rpG h p b0 b1 b2 a i (l.drop i.toNat)).b0, .bool (rpG h p b0 b1 b2 a i (l.drop i.toNat)).b1, .bool (rpG h p b0 b1 b2 a i (l.drop i.toNat)).b2, .sub 2 1 0 q], .row 3 (.ints .i64 a')]) ∧
      k (.exit 0) [.one (.ptr 0 1 0 0), .any, .any, .one (.ptr 1 1 0 0)] [.cells [.int .i64 0, .bool false, .bool false, .bool false, .nil], .cells [.data (.ints .i64 h), .int .i64 (rpG h p b0 b1 b2 a i (l.drop i.toNat)).p, .bool (rpG h p b0 b1 b2 a i (l.drop i.toNat)).b0, .bool (rpG h p b0 b1 b2 a i (l.drop i.toNat)).b1, .bool (rpG h p b0 b1 b2 a i (l.drop i.toNat)).b2, .own 2 1], .row 3 (.ints .i64 (rpG h p b0 b1 b2 a i (l.drop i.toNat)).a)] ∧
      ((rpG h p b0 b1 b2 a i (l.drop i.toNat)).a = [] → k (.exit 0) [.one (.ptr 0 1 0 0), .any, .any, .one (.ptr 1 1 0 0)] [.cells [.int .i64 0, .bool false, .bool false, .bool false, .nil], .cells [.data (.ints .i64 h), .int .i64 (rpG h p b0 b1 b2 a i (l.drop i.toNat)).p, .bool (rpG h p b0 b1 b2 a i (l.drop i.toNat)).b0, .bool (rpG h p b0 b1 b2 a i (l.drop i.toNat)).b1, .bool (rpG h p b0 b1 b2 a i (l.drop i.toNat)).b2, .nil]]))
    else ∀ (b : Blk) (rest : List Blk), k .ret [.one (.ptr 0 1 0 0), .one (.int .i64 ((rpG h p b0 b1 b2 a i (l.drop i.toNat)).i)), .one (.int .i64 ((rpG h p b0 b1 b2 a i (l.drop i.toNat)).e)), .one (.ptr 1 1 0 0)] (.cells [.int .i64 0, .bool false, .bool false, .bool false, .nil] :: b :: rest)
  | [.one (.ptr 0 1 0 0), .one (.ptr 1 1 0 0), .one (.data (.mat .i64 2 l)), .one (.int .i64 n), .one (.int .i64 i)], [.cells [.int .i64 0, .bool false, .bool false, .bool false, .nil], .cells [.data (.ints .i64 h), .int .i64 p, .bool b0, .bool b1, .bool b2, .sub 2 1 0 m], .row 3 (.ints .i64 a)] =>
    (l.length ≤ 1000 ∧ n = l.length ∧ 0 ≤ i ∧ i ≤ n ∧ (a.length : Int) ≤ i ∧ m ≤ a.length) ∧ bif (rpG h p b0 b1 b2 (a.take m) i (l.drop i.toNat)).e == 0 then ((∀ (q : Nat) (a' : List Int), q ≤ a'.length ∧ a'.take q = (rpG h p b0 b1 b2 (a.take m) i (l.drop i.toNat)).a → k (.exit 0) [.one (.ptr 0 1 0 0), .any, .any, .one (.ptr 1 1 0 0)] [.cells [.int .i64 0, .bool false, .bool false, .bool false, .nil], .cells [.data (.ints .i64 h), .int .i64 (rpG h p b0 b1 b2 (a.take m) i (l.drop i.toNat)).p, .bool (rpG h p b0 b1 b2 (a.take m) i (l.drop i.toNat)).b0, .bool (rpG h p b0 b1 b2 (a.take m) i (l.drop i.toNat)).b1, .bool (rpG h p b0 b1 b2 (a.take m) i (l.drop i.toNat)).b2, .sub 2 1 0 q], .row 3 (.ints .i64 a')]) ∧
      k (.exit 0) [.one (.ptr 0 1 0 0), .any, .any, .one (.ptr 1 1 0 0)] [.cells [.int .i64 0, .bool false, .bool false, .bool false, .nil], .cells [.data (.ints .i64 h), .int .i64 (rpG h p b0 b1 b2 (a.take m) i (l.drop i.toNat)).p, .bool (rpG h p b0 b1 b2 (a.take m) i (l.drop i.toNat)).b0, .bool (rpG h p b0 b1 b2 (a.take m) i (l.drop i.toNat)).b1, .bool (rpG h p b0 b1 b2 (a.take m) i (l.drop i.toNat)).b2, .own 2 1], .row 3 (.ints .i64 (rpG h p b0 b1 b2 (a.take m) i (l.drop i.toNat)).a)] ∧
      ((rpG h p b0 b1 b2 (a.take m) i (l.drop i.toNat)).a = [] → k (.exit 0) [.one (.ptr 0 1 0 0), .any, .any, .one (.ptr 1 1 0 0)] [.cells [.int .i64 0, .bool false, .bool false, .bool false, .nil], .cells [.data (.ints .i64 h), .int .i64 (rpG h p b0 b1 b2 (a.take m) i (l.drop i.toNat)).p, .bool (rpG h p b0 b1 b2 (a.take m) i (l.drop i.toNat)).b0, .bool (rpG h p b0 b1 b2 (a.take m) i (l.drop i.toNat)).b1, .bool (rpG h p b0 b1 b2 (a.take m) i (l.drop i.toNat)).b2, .nil]]))
    else ∀ (b : Blk) (rest : List Blk), k .ret [.one (.ptr 0 1 0 0), .one (.int .i64 ((rpG h p b0 b1 b2 (a.take m) i (l.drop i.toNat)).i)), .one (.int .i64 ((rpG h p b0 b1 b2 (a.take m) i (l.drop i.toNat)).e)), .one (.ptr 1 1 0 0)] (.cells [.int .i64 0, .bool false, .bool false, .bool false, .nil] :: b :: rest)
  | _, _ => False
def rep0S : Spec := fun args σ K => match args, σ with
  | [.agg [.data (.ints .i64 h)], .one (.data (.mat .i64 2 l))], [] => (h.length ≤ 1000000000 ∧ l.length ≤ 1000) ∧
    bif rpE h l == 0 then (bif (rpG h (-1) false false false [] 0 l).e == 0 then ((∀ (m : Nat) (a : List Int), m ≤ a.length ∧ a.take m = (rpG h (-1) false false false [] 0 l).a → K (.tup [.agg [.int .i64 (rpG h (-1) false false false [] 0 l).p, .bool (rpG h (-1) false false false [] 0 l).b0, .bool (rpG h (-1) false false false [] 0 l).b1, .bool (rpG h (-1) false false false [] 0 l).b2, .sub 0 1 0 m], .one (.int .i64 0), .one (.int .i64 0)]) [.row 3 (.ints .i64 a)]) ∧ K (.tup [.agg [.int .i64 (rpG h (-1) false false false [] 0 l).p, .bool (rpG h (-1) false false false [] 0 l).b0, .bool (rpG h (-1) false false false [] 0 l).b1, .bool (rpG h (-1) false false false [] 0 l).b2, .own 0 1], .one (.int .i64 0), .one (.int .i64 0)]) [.row 3 (.ints .i64 (rpG h (-1) false false false [] 0 l).a)] ∧ ((rpG h (-1) false false false [] 0 l).a = [] → K (.tup [.agg [.int .i64 (rpG h (-1) false false false [] 0 l).p, .bool (rpG h (-1) false false false [] 0 l).b0, .bool (rpG h (-1) false false false [] 0 l).b1, .bool (rpG h (-1) false false false [] 0 l).b2, .nil], .one (.int .i64 0), .one (.int .i64 0)]) [])) else K (.tup [.agg [.int .i64 0, .bool false, .bool false, .bool false, .nil], .one (.int .i64 ((rpG h (-1) false false false [] 0 l).i)), .one (.int .i64 ((rpG h (-1) false false false [] 0 l).e))]) []) else K (.tup [.agg [.int .i64 0, .bool false, .bool false, .bool false, .nil], .one (.int .i64 0), .one (.int .i64 (rpE h l))]) []
  | _, _ => False
def repDS : Spec := fun args σ K => match args, σ with
  | [.agg [.data (.ints .i64 h)], .one (.data (.mat .i64 2 l))], [] => (h.length ≤ 1000000000 ∧ l.length ≤ 1000) ∧ K (.tup [.agg [.int .i64 (rpR (rpE h l) h l).p, .bool (rpR (rpE h l) h l).b0, .bool (rpR (rpE h l) h l).b1, .bool (rpR (rpE h l) h l).b2, .data (.ints .i64 (rpR (rpE h l) h l).a)], .one (.int .i64 ((rpR (rpE h l) h l).i)), .one (.int .i64 ((rpR (rpE h l) h l).e))]) []
  | _, _ => False
noncomputable abbrev Erpy : Env := envOf Tryd.prog [(67, ruS), (104, unlessS), (98, firstS), (123, bgS), (139, prcS)] [(6, .spec [4, 8, 26, 27, 28] [4, 5, 6, 8] repL)] 46 0
end Go.Ev

namespace Go.Ev
open Go Go.Proofs
set_option maxRecDepth 100000
theorem exrpy (h : List Int) (l : List (List Int)) (K : AV → List Blk → Prop) : evFn Erpy Tryd.f89 [.agg [.data (.ints .i64 h)], .one (.data (.mat .i64 2 l))] [] K = ( h.length ≤ 1000000000 ∧ [ruE h, bif decide ((↑l.length : Int) ≤ 200) then (0 :Int) else (8 :Int)].length ≤ 1000 ∧ bif firstE [ruE h, bif decide ((↑l.length : Int) ≤ 200) then (0 :Int) else (8 :Int)] != 0 then K (AV.tup [TV.agg [SV.int .i64 0, SV.bool false, SV.bool false, SV.bool false, SV.nil], .one (.int .i64 0), .one (.int .i64 (firstE [ruE h, bif decide ((↑l.length : Int) ≤ 200) then (0 :Int) else (8 :Int)]))]) [] else (l.length ≤ 1000 ∧ (↑l.length : Int) = (↑l.length : Int) ∧ (0 :Int) ≤ (0 :Int) ∧ 0 ≤ (↑l.length : Int)) ∧ bif (rpG h (-1 : Int) false false false [] 0 l).e == 0 then (∀ (q : Nat) (a' : List Int), q ≤ a'.length ∧ List.take q a' = (rpG h (-1 : Int) false false false [] 0 l).a → K (AV.tup [TV.agg [SV.int .i64 (rpG h (-1 : Int) false false false [] 0 l).p, SV.bool (rpG h (-1 : Int) false false false [] 0 l).b0, SV.bool (rpG h (-1 : Int) false false false [] 0 l).b1, SV.bool (rpG h (-1 : Int) false false false [] 0 l).b2, SV.sub 0 1 0 q], .one (.int .i64 0), .one (.int .i64 0)]) [Blk.row 3 (Row.ints .i64 a')]) ∧ K (AV.tup [TV.agg [SV.int .i64 (rpG h (-1 : Int) false false false [] 0 l).p, SV.bool (rpG h (-1 : Int) false false false [] 0 l).b0, SV.bool (rpG h (-1 : Int) false false false [] 0 l).b1, SV.bool (rpG h (-1 : Int) false false false [] 0 l).b2, SV.own 0 1], .one (.int .i64 0), .one (.int .i64 0)]) [Blk.row 3 (Row.ints .i64 (rpG h (-1 : Int) false false false [] 0 l).a)] ∧ ((rpG h (-1 : Int) false false false [] 0 l).a = [] → K (AV.tup [TV.agg [SV.int .i64 (rpG h (-1 : Int) false false false [] 0 l).p, SV.bool (rpG h (-1 : Int) false false false [] 0 l).b0, SV.bool (rpG h (-1 : Int) false false false [] 0 l).b1, SV.bool (rpG h (-1 : Int) false false false [] 0 l).b2, SV.nil], .one (.int .i64 0), .one (.int .i64 0)]) []) else ∀ (b : Blk) (rest : List Blk), K (AV.tup [TV.agg [SV.int .i64 0, SV.bool false, SV.bool false, SV.bool false, SV.nil], .one (.int .i64 (rpG h (-1 : Int) false false false [] 0 l).i), .one (.int .i64 (rpG h (-1 : Int) false false false [] 0 l).e)]) []) := by kernel_rfl
theorem exrpyl0a (l : List (List Int)) (n i : Int) (h : List Int) (p : Int) (b0 b1 b2 : Bool) (K : Ex → List AV → List Blk → Prop) : evBody Erpy (lb Tryd.f89 0) [4, 8, 26, 27, 28] [4, 5, 6, 8] [.one (.ptr 0 1 0 0), .one (.ptr 1 1 0 0), .one (.data (.mat .i64 2 l)), .one (.int .i64 n), .one (.int .i64 i)] [.cells [.int .i64 0, .bool false, .bool false, .bool false, .nil], .cells [.data (.ints .i64 h), .int .i64 p, .bool b0, .bool b1, .bool b2, .nil]] K = ( bif decide (i < n) then bif decide (0 ≤ i) && decide (i < (↑l.length : Int)) then bif decide (1 < 2) && decide (i.toNat < l.length) then bif prE h p b0 b1 b2 0 ((l.getD i.toNat []).getD 0 0) ((l.getD i.toNat []).getD 1 0) == 0 then bif (l.getD i.toNat []).getD 0 (0 :Int) == (2 :Int) then K .normal [.one (.ptr 0 1 0 0), .one (.ptr 1 1 0 0), .one (.data (Row.mat .i64 2 l)), .one (.int .i64 n), .one (.int .i64 (IntKind.i64.wrap (i + 1)))] [Blk.cells [SV.int .i64 0, SV.bool false, SV.bool false, SV.bool false, SV.nil], Blk.cells [SV.data (Row.ints .i64 h), SV.int .i64 (-1 : Int), SV.bool false, SV.bool false, SV.bool false, SV.own 2 1], Blk.row 3 (Row.ints .i64 [(l.getD i.toNat []).getD 1 0])] else K .normal [.one (.ptr 0 1 0 0), .one (.ptr 1 1 0 0), .one (.data (Row.mat .i64 2 l)), .one (.int .i64 n), .one (.int .i64 (IntKind.i64.wrap (i + 1)))] [Blk.cells [SV.int .i64 0, SV.bool false, SV.bool false, SV.bool false, SV.nil], Blk.cells [SV.data (Row.ints .i64 h), SV.int .i64 (nxP p ((l.getD i.toNat []).getD 0 0) ((l.getD i.toNat []).getD 1 0)), SV.bool (nxB 0 b0 ((l.getD i.toNat []).getD 0 0) ((l.getD i.toNat []).getD 1 0)), SV.bool (nxB 1 b1 ((l.getD i.toNat []).getD 0 0) ((l.getD i.toNat []).getD 1 0)), SV.bool (nxB 2 b2 ((l.getD i.toNat []).getD 0 0) ((l.getD i.toNat []).getD 1 0)), SV.nil]] else bif prE h p b0 b1 b2 0 ((l.getD i.toNat []).getD 0 0) ((l.getD i.toNat []).getD 1 0) != 0 then K .ret [.one (.ptr 0 1 0 0), .one (.int .i64 i), .one (.int .i64 (prE h p b0 b1 b2 0 ((l.getD i.toNat []).getD 0 0) ((l.getD i.toNat []).getD 1 0))), .one (.ptr 1 1 0 0)] [Blk.cells [SV.int .i64 0, SV.bool false, SV.bool false, SV.bool false, SV.nil], Blk.cells [SV.data (Row.ints .i64 h), SV.int .i64 p, SV.bool b0, SV.bool b1, SV.bool b2, SV.nil]] else K .normal [.one (.ptr 0 1 0 0), .one (.ptr 1 1 0 0), .one (.data (Row.mat .i64 2 l)), .one (.int .i64 n), .one (.int .i64 (IntKind.i64.wrap (i + 1)))] [Blk.cells [SV.int .i64 0, SV.bool false, SV.bool false, SV.bool false, SV.nil], Blk.cells [SV.data (Row.ints .i64 h), SV.int .i64 p, SV.bool b0, SV.bool b1, SV.bool b2, SV.nil]] else False else False else K (.exit 0) [.one (.ptr 0 1 0 0), AV.any, AV.any, .one (.ptr 1 1 0 0)] [Blk.cells [SV.int .i64 0, SV.bool false, SV.bool false, SV.bool false, SV.nil], Blk.cells [SV.data (Row.ints .i64 h), SV.int .i64 p, SV.bool b0, SV.bool b1, SV.bool b2, SV.nil]]) := by kernel_rfl
theorem exrpyl0b (l : List (List Int)) (n i : Int) (h : List Int) (p : Int) (b0 b1 b2 : Bool) (a : List Int) (K : Ex → List AV → List Blk → Prop) : evBody Erpy (lb Tryd.f89 0) [4, 8, 26, 27, 28] [4, 5, 6, 8] [.one (.ptr 0 1 0 0), .one (.ptr 1 1 0 0), .one (.data (.mat .i64 2 l)), .one (.int .i64 n), .one (.int .i64 i)] [.cells [.int .i64 0, .bool false, .bool false, .bool false, .nil], .cells [.data (.ints .i64 h), .int .i64 p, .bool b0, .bool b1, .bool b2, .own 2 1], .row 3 (.ints .i64 a)] K = ( bif decide (i < n) then bif decide (0 ≤ i) && decide (i < (↑l.length : Int)) then bif decide (1 < 2) && decide (i.toNat < l.length) then a.length ≤ 1000000 ∧ bif prE h p b0 b1 b2 a.length ((l.getD i.toNat []).getD 0 0) ((l.getD i.toNat []).getD 1 0) == 0 then bif (l.getD i.toNat []).getD 0 (0 :Int) == (2 :Int) then K .normal [.one (.ptr 0 1 0 0), .one (.ptr 1 1 0 0), .one (.data (Row.mat .i64 2 l)), .one (.int .i64 n), .one (.int .i64 (IntKind.i64.wrap (i + 1)))] [Blk.cells [SV.int .i64 0, SV.bool false, SV.bool false, SV.bool false, SV.nil], Blk.cells [SV.data (Row.ints .i64 h), SV.int .i64 (-1 : Int), SV.bool false, SV.bool false, SV.bool false, SV.own 2 1], Blk.row 3 (Row.ints .i64 (a ++ [(l.getD i.toNat []).getD 1 0]))] else bif (l.getD i.toNat []).getD 0 (0 :Int) == (3 :Int) then K .normal [.one (.ptr 0 1 0 0), .one (.ptr 1 1 0 0), .one (.data (Row.mat .i64 2 l)), .one (.int .i64 n), .one (.int .i64 (IntKind.i64.wrap (i + 1)))] [Blk.cells [SV.int .i64 0, SV.bool false, SV.bool false, SV.bool false, SV.nil], Blk.cells [SV.data (Row.ints .i64 h), SV.int .i64 (-1 : Int), SV.bool false, SV.bool false, SV.bool false, SV.sub 2 1 0 (a.length - 1)], Blk.row 3 (Row.ints .i64 a)] else K .normal [.one (.ptr 0 1 0 0), .one (.ptr 1 1 0 0), .one (.data (Row.mat .i64 2 l)), .one (.int .i64 n), .one (.int .i64 (IntKind.i64.wrap (i + 1)))] [Blk.cells [SV.int .i64 0, SV.bool false, SV.bool false, SV.bool false, SV.nil], Blk.cells [SV.data (Row.ints .i64 h), SV.int .i64 (nxP p ((l.getD i.toNat []).getD 0 0) ((l.getD i.toNat []).getD 1 0)), SV.bool (nxB 0 b0 ((l.getD i.toNat []).getD 0 0) ((l.getD i.toNat []).getD 1 0)), SV.bool (nxB 1 b1 ((l.getD i.toNat []).getD 0 0) ((l.getD i.toNat []).getD 1 0)), SV.bool (nxB 2 b2 ((l.getD i.toNat []).getD 0 0) ((l.getD i.toNat []).getD 1 0)), SV.own 2 1], Blk.row 3 (Row.ints .i64 a)] else bif prE h p b0 b1 b2 a.length ((l.getD i.toNat []).getD 0 0) ((l.getD i.toNat []).getD 1 0) != 0 then K .ret [.one (.ptr 0 1 0 0), .one (.int .i64 i), .one (.int .i64 (prE h p b0 b1 b2 a.length ((l.getD i.toNat []).getD 0 0) ((l.getD i.toNat []).getD 1 0))), .one (.ptr 1 1 0 0)] [Blk.cells [SV.int .i64 0, SV.bool false, SV.bool false, SV.bool false, SV.nil], Blk.cells [SV.data (Row.ints .i64 h), SV.int .i64 p, SV.bool b0, SV.bool b1, SV.bool b2, SV.own 2 1], Blk.row 3 (Row.ints .i64 a)] else K .normal [.one (.ptr 0 1 0 0), .one (.ptr 1 1 0 0), .one (.data (Row.mat .i64 2 l)), .one (.int .i64 n), .one (.int .i64 (IntKind.i64.wrap (i + 1)))] [Blk.cells [SV.int .i64 0, SV.bool false, SV.bool false, SV.bool false, SV.nil], Blk.cells [SV.data (Row.ints .i64 h), SV.int .i64 p, SV.bool b0, SV.bool b1, SV.bool b2, SV.own 2 1], Blk.row 3 (Row.ints .i64 a)] else False else False else K (.exit 0) [.one (.ptr 0 1 0 0), AV.any, AV.any, .one (.ptr 1 1 0 0)] [Blk.cells [SV.int .i64 0, SV.bool false, SV.bool false, SV.bool false, SV.nil], Blk.cells [SV.data (Row.ints .i64 h), SV.int .i64 p, SV.bool b0, SV.bool b1, SV.bool b2, SV.own 2 1], Blk.row 3 (Row.ints .i64 a)]) := by kernel_rfl
theorem exrpyl0c (l : List (List Int)) (n i : Int) (h : List Int) (p : Int) (b0 b1 b2 : Bool) (m : Nat) (a : List Int) (K : Ex → List AV → List Blk → Prop) : evBody Erpy (lb Tryd.f89 0) [4, 8, 26, 27, 28] [4, 5, 6, 8] [.one (.ptr 0 1 0 0), .one (.ptr 1 1 0 0), .one (.data (.mat .i64 2 l)), .one (.int .i64 n), .one (.int .i64 i)] [.cells [.int .i64 0, .bool false, .bool false, .bool false, .nil], .cells [.data (.ints .i64 h), .int .i64 p, .bool b0, .bool b1, .bool b2, .sub 2 1 0 m], .row 3 (.ints .i64 a)] K = ( bif decide (i < n) then bif decide (0 ≤ i) && decide (i < (↑l.length : Int)) then bif decide (1 < 2) && decide (i.toNat < l.length) then (m ≤ a.length ∧ a.length ≤ 1000000) ∧ bif prE h p b0 b1 b2 m ((l.getD i.toNat []).getD 0 0) ((l.getD i.toNat []).getD 1 0) == 0 then bif (l.getD i.toNat []).getD 0 (0 :Int) == (2 :Int) then K .normal [.one (.ptr 0 1 0 0), .one (.ptr 1 1 0 0), .one (.data (Row.mat .i64 2 l)), .one (.int .i64 n), .one (.int .i64 (IntKind.i64.wrap (i + 1)))] [Blk.cells [SV.int .i64 0, SV.bool false, SV.bool false, SV.bool false, SV.nil], Blk.cells [SV.data (Row.ints .i64 h), SV.int .i64 (-1 : Int), SV.bool false, SV.bool false, SV.bool false, SV.own 2 1], Blk.row 3 (Row.ints .i64 (List.take m a ++ [(l.getD i.toNat []).getD 1 0]))] else bif (l.getD i.toNat []).getD 0 (0 :Int) == (3 :Int) then K .normal [.one (.ptr 0 1 0 0), .one (.ptr 1 1 0 0), .one (.data (Row.mat .i64 2 l)), .one (.int .i64 n), .one (.int .i64 (IntKind.i64.wrap (i + 1)))] [Blk.cells [SV.int .i64 0, SV.bool false, SV.bool false, SV.bool false, SV.nil], Blk.cells [SV.data (Row.ints .i64 h), SV.int .i64 (-1 : Int), SV.bool false, SV.bool false, SV.bool false, SV.sub 2 1 0 (m - 1)], Blk.row 3 (Row.ints .i64 a)] else K .normal [.one (.ptr 0 1 0 0), .one (.ptr 1 1 0 0), .one (.data (Row.mat .i64 2 l)), .one (.int .i64 n), .one (.int .i64 (IntKind.i64.wrap (i + 1)))] [Blk.cells [SV.int .i64 0, SV.bool false, SV.bool false, SV.bool false, SV.nil], Blk.cells [SV.data (Row.ints .i64 h), SV.int .i64 (nxP p ((l.getD i.toNat []).getD 0 0) ((l.getD i.toNat []).getD 1 0)), SV.bool (nxB 0 b0 ((l.getD i.toNat []).getD 0 0) ((l.getD i.toNat []).getD 1 0)), SV.bool (nxB 1 b1 ((l.getD i.toNat []).getD 0 0) ((l.getD i.toNat []).getD 1 0)), SV.bool (nxB 2 b2 ((l.getD i.toNat []).getD 0 0) ((l.getD i.toNat []).getD 1 0)), SV.sub 2 1 0 m], Blk.row 3 (Row.ints .i64 a)] else bif prE h p b0 b1 b2 m ((l.getD i.toNat []).getD 0 0) ((l.getD i.toNat []).getD 1 0) != 0 then K .ret [.one (.ptr 0 1 0 0), .one (.int .i64 i), .one (.int .i64 (prE h p b0 b1 b2 m ((l.getD i.toNat []).getD 0 0) ((l.getD i.toNat []).getD 1 0))), .one (.ptr 1 1 0 0)] [Blk.cells [SV.int .i64 0, SV.bool false, SV.bool false, SV.bool false, SV.nil], Blk.cells [SV.data (Row.ints .i64 h), SV.int .i64 p, SV.bool b0, SV.bool b1, SV.bool b2, SV.sub 2 1 0 m], Blk.row 3 (Row.ints .i64 a)] else K .normal [.one (.ptr 0 1 0 0), .one (.ptr 1 1 0 0), .one (.data (Row.mat .i64 2 l)), .one (.int .i64 n), .one (.int .i64 (IntKind.i64.wrap (i + 1)))] [Blk.cells [SV.int .i64 0, SV.bool false, SV.bool false, SV.bool false, SV.nil], Blk.cells [SV.data (Row.ints .i64 h), SV.int .i64 p, SV.bool b0, SV.bool b1, SV.bool b2, SV.sub 2 1 0 m], Blk.row 3 (Row.ints .i64 a)] else False else False else K (.exit 0) [.one (.ptr 0 1 0 0), AV.any, AV.any, .one (.ptr 1 1 0 0)] [Blk.cells [SV.int .i64 0, SV.bool false, SV.bool false, SV.bool false, SV.nil], Blk.cells [SV.data (Row.ints .i64 h), SV.int .i64 p, SV.bool b0, SV.bool b1, SV.bool b2, SV.sub 2 1 0 m], Blk.row 3 (Row.ints .i64 a)]) := by kernel_rfl
end Go.Ev

/-
  Chapter 9: applying and replaying events: the contracts are kept.
-/
namespace Go.Ev
open Go Go.Proofs
attribute [local irreducible] evFn evBody evRound
set_option maxRecDepth 20000
theorem bne_not (a b : Int) : (a != b) = !(a == b) := rfl
theorem rpG_step {hs : List Int} {p : Int} {b0 b1 b2 : Bool} {a : List Int} {l : List (List Int)} {i : Int} (hi : i.toNat < l.length) (h0 : 0 ≤ i) :
    rpG hs p b0 b1 b2 a i (l.drop i.toNat) = bif prE hs p b0 b1 b2 a.length ((l.getD i.toNat []).getD 0 0) ((l.getD i.toNat []).getD 1 0) == 0 then
      rpG hs (nxP p ((l.getD i.toNat []).getD 0 0) ((l.getD i.toNat []).getD 1 0)) (nxB 0 b0 ((l.getD i.toNat []).getD 0 0) ((l.getD i.toNat []).getD 1 0)) (nxB 1 b1 ((l.getD i.toNat []).getD 0 0) ((l.getD i.toNat []).getD 1 0)) (nxB 2 b2 ((l.getD i.toNat []).getD 0 0) ((l.getD i.toNat []).getD 1 0)) (nxA a ((l.getD i.toNat []).getD 0 0) ((l.getD i.toNat []).getD 1 0)) (i + 1) (l.drop (i + 1).toNat)
      else ⟨0, false, false, false, [], i, prE hs p b0 b1 b2 a.length ((l.getD i.toNat []).getD 0 0) ((l.getD i.toNat []).getD 1 0)⟩ := by
  rw [drop_step [] hi, show (i + 1).toNat = i.toNat + 1 by omega]
  rfl
theorem nxA_oth {a : List Int} {k n : Int} (h2 : (k == 2) = false) (h3 : (k == 3) = false) : nxA a k n = a := by unfold nxA; rw [h2, h3]; rfl
theorem nxA_nil {k n : Int} (h2 : (k == 2) = false) : nxA [] k n = [] := by unfold nxA; rw [h2]; cases k == 3 <;> rfl
theorem take_pred {a : List Int} {m : Nat} (hm : m ≤ a.length) : nxA (a.take m) 3 0 = a.take (m - 1) := by
  show (a.take m).take ((a.take m).length - 1) = a.take (m - 1)
  rw [List.length_take, Nat.min_eq_left hm, List.take_take, Nat.min_eq_left (by omega)]
theorem lokrpy_0 : LoopOK Erpy (lb Tryd.f89 0) [4, 8, 26, 27, 28] [4, 5, 6, 8] repL := by
  refine loopOK (.cons okcru (.cons ok70 (.cons ok69 (.cons okbgn (.cons okprc .nil))))) (noInner (by kernel_rfl)) (fun vs σ => match vs, σ with
    | [.one (.ptr 0 1 0 0), .one (.ptr 1 1 0 0), .one (.data (.mat .i64 2 _)), .one (.int .i64 n), .one (.int .i64 i)], [.cells [.int .i64 0, .bool false, .bool false, .bool false, .nil], .cells [.data (.ints .i64 _), .int .i64 _, .bool _, .bool _, .bool _, .nil]] => (n - i).toNat
    | [.one (.ptr 0 1 0 0), .one (.ptr 1 1 0 0), .one (.data (.mat .i64 2 _)), .one (.int .i64 n), .one (.int .i64 i)], [.cells [.int .i64 0, .bool false, .bool false, .bool false, .nil], .cells [.data (.ints .i64 _), .int .i64 _, .bool _, .bool _, .bool _, .own 2 1], .row 3 (.ints .i64 _)] => (n - i).toNat
    | [.one (.ptr 0 1 0 0), .one (.ptr 1 1 0 0), .one (.data (.mat .i64 2 _)), .one (.int .i64 n), .one (.int .i64 i)], [.cells [.int .i64 0, .bool false, .bool false, .bool false, .nil], .cells [.data (.ints .i64 _), .int .i64 _, .bool _, .bool _, .bool _, .sub 2 1 0 _], .row 3 (.ints .i64 _)] => (n - i).toNat
    | _, _ => 0) fun vs σ k h => ?_
  unfold repL at h
  split at h
  rotate_right
  · exact h.elim
  · rename_i l n i hs p b0 b1 b2
    rw [exrpyl0a l n i hs p b0 b1 b2 _]
    obtain ⟨⟨h1, rfl, h3, h4⟩, h⟩ := h
    by_cases hi : i < (l.length : Int)
    · have hw : IntKind.i64.wrap (i + 1) = i + 1 := wrap_id (by omega) (by omega)
      have hmu : ((l.length : Int) - (i + 1)).toNat < ((l.length : Int) - i).toNat := by omega
      have hi' : i.toNat < l.length := by omega
      rw [rpG_step hi' h3, List.length_nil] at h
      rw [decide_eq_true hi, decide_eq_true h3, decide_eq_true hi', hw]
      generalize (l.getD i.toNat []).getD 0 0 = k at *
      generalize (l.getD i.toNat []).getD 1 0 = n at *
      rw [bne_not]
      cases he : prE hs p b0 b1 b2 0 k n == 0 with
      | true =>
        simp only [he, cond_true] at h
        cases h2 : k == 2 with
        | true =>
          have := eq_of_beq h2
          subst this
          exact ⟨⟨⟨h1, rfl, by omega, by omega, by show ((1 : Nat) : Int) ≤ i + 1; omega⟩, h⟩, hmu⟩
        | false =>
          rw [nxA_nil h2] at h
          exact ⟨⟨⟨h1, rfl, by omega, by omega⟩, h⟩, hmu⟩
      | false =>
        simp only [he, cond_false] at h
        exact h _ _
    · rw [decide_eq_false hi]
      rw [List.drop_eq_nil_of_le (show l.length ≤ i.toNat by omega)] at h
      exact h.2.2 rfl
  · rename_i l n i hs p b0 b1 b2 a
    rw [exrpyl0b l n i hs p b0 b1 b2 a _]
    obtain ⟨⟨h1, rfl, h3, h4, h5⟩, h⟩ := h
    by_cases hi : i < (l.length : Int)
    · have hw : IntKind.i64.wrap (i + 1) = i + 1 := wrap_id (by omega) (by omega)
      have hmu : ((l.length : Int) - (i + 1)).toNat < ((l.length : Int) - i).toNat := by omega
      have hi' : i.toNat < l.length := by omega
      rw [rpG_step hi' h3] at h
      rw [decide_eq_true hi, decide_eq_true h3, decide_eq_true hi', hw]
      generalize (l.getD i.toNat []).getD 0 0 = k at *
      generalize (l.getD i.toNat []).getD 1 0 = n at *
      rw [bne_not]
      refine And.intro (by omega) ?_
      cases he : prE hs p b0 b1 b2 a.length k n == 0 with
      | true =>
        simp only [he, cond_true] at h
        cases h2 : k == 2 with
        | true =>
          have := eq_of_beq h2
          subst this
          exact ⟨⟨⟨h1, rfl, by omega, by omega, by rw [List.length_append, List.length_singleton]; omega⟩, h⟩, hmu⟩
        | false =>
          cases h3' : k == 3 with
          | true =>
            have := eq_of_beq h3'
            subst this
            exact ⟨⟨⟨h1, rfl, by omega, by omega, by omega, by omega⟩, h⟩, hmu⟩
          | false =>
            rw [nxA_oth h2 h3'] at h
            exact ⟨⟨⟨h1, rfl, by omega, by omega, by omega⟩, h⟩, hmu⟩
      | false =>
        simp only [he, cond_false] at h
        exact h _ _
    · rw [decide_eq_false hi]
      rw [List.drop_eq_nil_of_le (show l.length ≤ i.toNat by omega)] at h
      exact h.2.1
  · rename_i l n i hs p b0 b1 b2 m a
    rw [exrpyl0c l n i hs p b0 b1 b2 m a _]
    obtain ⟨⟨h1, rfl, h3, h4, h5, h6⟩, h⟩ := h
    by_cases hi : i < (l.length : Int)
    · have hw : IntKind.i64.wrap (i + 1) = i + 1 := wrap_id (by omega) (by omega)
      have hmu : ((l.length : Int) - (i + 1)).toNat < ((l.length : Int) - i).toNat := by omega
      have hi' : i.toNat < l.length := by omega
      rw [rpG_step hi' h3, show (a.take m).length = m by rw [List.length_take, Nat.min_eq_left h6]] at h
      rw [decide_eq_true hi, decide_eq_true h3, decide_eq_true hi', hw]
      generalize (l.getD i.toNat []).getD 0 0 = k at *
      generalize (l.getD i.toNat []).getD 1 0 = n at *
      rw [bne_not]
      refine And.intro ⟨h6, by omega⟩ ?_
      cases he : prE hs p b0 b1 b2 m k n == 0 with
      | true =>
        simp only [he, cond_true] at h
        cases h2 : k == 2 with
        | true =>
          have := eq_of_beq h2
          subst this
          exact ⟨⟨⟨h1, rfl, by omega, by omega, by rw [List.length_append, List.length_singleton, List.length_take, Nat.min_eq_left h6]; omega⟩, h⟩, hmu⟩
        | false =>
          cases h3' : k == 3 with
          | true =>
            have := eq_of_beq h3'
            subst this
            have e : nxA (a.take m) 3 n = a.take (m - 1) := take_pred h6
            rw [e] at h
            exact ⟨⟨⟨h1, rfl, by omega, by omega, by omega, by omega⟩, h⟩, hmu⟩
          | false =>
            rw [nxA_oth h2 h3'] at h
            exact ⟨⟨⟨h1, rfl, by omega, by omega, by omega, h6⟩, h⟩, hmu⟩
      | false =>
        simp only [he, cond_false] at h
        exact h _ _
    · rw [decide_eq_false hi]
      rw [List.drop_eq_nil_of_le (show l.length ≤ i.toNat by omega)] at h
      exact h.1 m a ⟨h6, rfl⟩
theorem okrpy : SpecOK Tryd.prog 89 rep0S := by
  refine specOK (n := 46) (m := 0) (lps := [(6, .spec [4, 8, 26, 27, 28] [4, 5, 6, 8] repL)]) (.cons okcru (.cons ok70 (.cons ok69 (.cons okbgn (.cons okprc .nil))))) Tryd.func89 (by kernel_rfl) (by kernel_rfl) (theLoops (n := 1) (by kernel_rfl) fun i hi => ?_) fun args σ K h => ?_
  · match i, hi with
    | 0, _ => exact loopHyp_of (key := 6) (by kernel_rfl) rfl lokrpy_0
  unfold rep0S at h
  split at h
  rotate_right
  · exact h.elim
  rename_i hs l
  rw [exrpy hs l K]
  obtain ⟨⟨h1, h2⟩, h⟩ := h
  refine And.intro h1 (And.intro (len2 _ _) ?_)
  have e : firstE [ruE hs, bif decide ((l.length : Int) ≤ 200) then 0 else 8] = rpE hs l := by
    unfold rpE firstE
    by_cases hr : ruE hs = 0
    · rw [hr]
      cases decide ((l.length : Int) ≤ 200) <;> rfl
    · rw [beq_ff hr]; rfl
  rw [e, bne_not]
  cases hq : rpE hs l == 0 with
  | false => rw [hq] at h; exact h
  | true =>
    rw [hq] at h
    refine And.intro ⟨h2, rfl, by decide, by omega⟩ ?_
    generalize rpG hs (-1) false false false [] 0 l = r at *
    cases hz : r.e == 0 with
    | true =>
      rw [hz] at h
      exact h
    | false =>
      rw [hz] at h
      exact fun _ _ => h
theorem okrepD : SpecOK Tryd.prog 89 repDS := by
  refine okrpy.froze fun args σ K h => ?_
  unfold repDS at h
  split at h
  rotate_right
  · exact h.elim
  rename_i hs l
  obtain ⟨h1, h⟩ := h
  refine ⟨rfl, h1, ?_⟩
  unfold rpR at h
  cases hq : rpE hs l == 0 with
  | false =>
    rw [hq] at h
    refine ⟨_, ?_, h⟩
    exact ⟨⟨rfl, rfl, rfl, rfl, .inr ⟨.ints .i64 [], rfl, rfl⟩, trivial⟩, rfl, rfl, trivial⟩
  | true =>
    rw [hq] at h
    simp only [cond_true] at h
    have hz0 : ∀ r : Rp, rpG hs (-1) false false false [] 0 l = r → (r.e == 0) = false → r = ⟨0, false, false, false, [], r.i, r.e⟩ := by
      have key : ∀ (l : List (List Int)) (p : Int) (b0 b1 b2 : Bool) (a : List Int) (i : Int), ((rpG hs p b0 b1 b2 a i l).e == 0) = false → rpG hs p b0 b1 b2 a i l = ⟨0, false, false, false, [], (rpG hs p b0 b1 b2 a i l).i, (rpG hs p b0 b1 b2 a i l).e⟩ := by
        intro l
        induction l with
        | nil => intro p b0 b1 b2 a i hx; exact absurd (show ((0 : Int) == 0) = false from hx) (by decide)
        | cons x l ih =>
          intro p b0 b1 b2 a i hx
          simp only [rpG] at hx ⊢
          cases he : prE hs p b0 b1 b2 a.length (x.getD 0 0) (x.getD 1 0) == 0 with
          | true => simp only [he, cond_true] at hx ⊢; exact ih _ _ _ _ _ _ hx
          | false => rfl
      intro r hr hx
      subst hr
      exact key _ _ _ _ _ _ _ hx
    have hi0 : ∀ r : Rp, rpG hs (-1) false false false [] 0 l = r → (r.e == 0) = true → r.i = 0 := by
      have key : ∀ (l : List (List Int)) (p : Int) (b0 b1 b2 : Bool) (a : List Int) (i : Int), ((rpG hs p b0 b1 b2 a i l).e == 0) = true → (rpG hs p b0 b1 b2 a i l).i = 0 := by
        intro l
        induction l with
        | nil => intro p b0 b1 b2 a i hx; rfl
        | cons x l ih =>
          intro p b0 b1 b2 a i hx
          simp only [rpG] at hx ⊢
          cases he : prE hs p b0 b1 b2 a.length (x.getD 0 0) (x.getD 1 0) == 0 with
          | true => simp only [he, cond_true] at hx ⊢; exact ih _ _ _ _ _ _ hx
          | false => simp only [he, cond_false] at hx; cases hx
      intro r hr hx
      subst hr
      exact key _ _ _ _ _ _ _ hx
    generalize hr : rpG hs (-1) false false false [] 0 l = r at *
    cases hz : r.e == 0 with
    | true =>
      have e1 := hi0 r rfl hz
      have e2 := eq_of_beq hz
      rw [e1, e2] at h
      refine And.intro ?_ (And.intro ?_ ?_)
      · rintro m a ⟨hm, ha⟩
        rw [← ha] at h
        refine ⟨_, ?_, h⟩
        exact ⟨⟨rfl, rfl, rfl, rfl, ⟨_, _, rfl, rfl, (by show 0 + m ≤ a.length; omega), rfl⟩, trivial⟩, rfl, rfl, trivial⟩
      · refine ⟨_, ?_, h⟩
        exact ⟨⟨rfl, rfl, rfl, rfl, ⟨_, _, rfl, rfl, rfl⟩, trivial⟩, rfl, rfl, trivial⟩
      · intro ha
        rw [ha] at h
        refine ⟨_, ?_, h⟩
        exact ⟨⟨rfl, rfl, rfl, rfl, .inr ⟨_, rfl, rfl⟩, trivial⟩, rfl, rfl, trivial⟩
    | false =>
      have e1 := hz0 r rfl hz
      rw [e1] at h
      refine ⟨_, ?_, h⟩
      exact ⟨⟨rfl, rfl, rfl, rfl, .inr ⟨.ints .i64 [], rfl, rfl⟩, trivial⟩, rfl, rfl, trivial⟩
end Go.Ev
