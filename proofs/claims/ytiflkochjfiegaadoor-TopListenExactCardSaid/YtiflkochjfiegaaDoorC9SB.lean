/-
  Part of the proof of a law.
-/
import Derived.Test.YtiflkochjfiegaaDoorC9SA
import Derived.KernelRfl
set_option linter.unusedVariables false
set_option linter.unusedSimpArgs false
set_option linter.unusedSectionVars false
/-
  Chapter 9, contracts: events of sessions.
-/
namespace Go.Ev
open Go Go.Proofs
set_option maxRecDepth 20000
def kdS : Spec := fun args σ K => match args, σ with
  | [], [] => K (.agg [.str [112, 108, 97, 121], .int .i64 3, .func 165 [], .str [115, 116, 111, 112], .int .i64 0, .func 166 [], .str [97, 110, 115, 119, 101, 114], .int .i64 2, .func 167 [], .str [114, 101, 112, 101, 97, 116], .int .i64 0, .func 168 []]) []
  | _, _ => False
def plE (h : List Int) (p : Int) (l : Nat) (n : Int) : Int := bif decide ((l : Int) ≥ h.length) then 21 else (bif p == n then 25 else 0)
def plP (e p n : Int) : Int := bif e == 0 then n else p
def plB (e : Int) (b c : Bool) : Bool := b || (e == 0 && c)
def asE (h : List Int) (b0 b1 b2 : Bool) (l : Nat) : Int := bif decide ((l : Int) ≥ h.length) then 21 else (bif b0 && (b1 && b2) then 0 else 14)
def reE (p : Int) (l : Nat) : Int := bif decide ((l : Int) > 0) then (bif p == -1 then 0 else 17) else 12
def evE (k n : Int) : Int := bif withinG k 0 3 then (bif k == 0 then (bif withinG n 0 2 then 0 else 2) else (bif k == 2 then (bif withinG n 0 1 then 0 else 2) else (bif n == 0 then 0 else 3))) else 15
def doE (h : List Int) (p : Int) (b0 b1 b2 : Bool) (l : Nat) (k n : Int) : Int :=
  bif k == 0 then plE h p l n else (bif k == 1 then (bif p == -1 then 21 else 0) else (bif k == 2 then asE h b0 b1 b2 l else reE p l))
def prE (h : List Int) (p : Int) (b0 b1 b2 : Bool) (l : Nat) (k n : Int) : Int := bif evE k n == 0 then doE h p b0 b1 b2 l k n else evE k n
def nxP (p k n : Int) : Int := bif k == 0 then n else -1
def nxB (j : Int) (b : Bool) (k n : Int) : Bool := bif k == 0 then (b || n == j) else (bif k == 1 then b else false)
def nxA (a : List Int) (k n : Int) : List Int := bif k == 2 then a ++ [n] else (bif k == 3 then a.take (a.length - 1) else a)
def plaN : Spec := fun args σ K => match args, σ with
  | [.one (.ptr 0 1 0 0), .one (.int .i64 n)], [.cells [.data (.ints .i64 h), .int .i64 p, .bool b0, .bool b1, .bool b2, .nil]] => (0 ≤ n ∧ n ≤ 2) ∧ K (.one (.int .i64 (plE h p 0 n))) [.cells [.data (.ints .i64 h), .int .i64 (plP (plE h p 0 n) p n), .bool (plB (plE h p 0 n) b0 (n == 0)), .bool (plB (plE h p 0 n) b1 (n == 1)), .bool (plB (plE h p 0 n) b2 (n == 2)), .nil]]
  | _, _ => False
def plaO : Spec := fun args σ K => match args, σ with
  | [.one (.ptr 0 1 0 0), .one (.int .i64 n)], [.cells [.data (.ints .i64 h), .int .i64 p, .bool b0, .bool b1, .bool b2, .own 1 1], .row 3 (.ints .i64 a)] => (0 ≤ n ∧ n ≤ 2) ∧ K (.one (.int .i64 (plE h p a.length n))) [.cells [.data (.ints .i64 h), .int .i64 (plP (plE h p a.length n) p n), .bool (plB (plE h p a.length n) b0 (n == 0)), .bool (plB (plE h p a.length n) b1 (n == 1)), .bool (plB (plE h p a.length n) b2 (n == 2)), .own 1 1], .row 3 (.ints .i64 a)]
  | [.one (.ptr 0 1 0 0), .one (.int .i64 n)], [.cells [.data (.ints .i64 h), .int .i64 p, .bool b0, .bool b1, .bool b2, .sub 1 1 0 m], .row 3 (.ints .i64 a)] => (0 ≤ n ∧ n ≤ 2 ∧ m ≤ a.length) ∧ K (.one (.int .i64 (plE h p m n))) [.cells [.data (.ints .i64 h), .int .i64 (plP (plE h p m n) p n), .bool (plB (plE h p m n) b0 (n == 0)), .bool (plB (plE h p m n) b1 (n == 1)), .bool (plB (plE h p m n) b2 (n == 2)), .sub 1 1 0 m], .row 3 (.ints .i64 a)]
  | _, _ => False
def plaS : Spec := fun args σ K => match args, σ with
  | [.one (.ptr 0 1 0 0), .one (.int .i64 n)], [.cells [.data (.ints .i64 h), .int .i64 p, .bool b0, .bool b1, .bool b2, .nil]] => (0 ≤ n ∧ n ≤ 2) ∧ K (.one (.int .i64 (plE h p 0 n))) [.cells [.data (.ints .i64 h), .int .i64 (plP (plE h p 0 n) p n), .bool (plB (plE h p 0 n) b0 (n == 0)), .bool (plB (plE h p 0 n) b1 (n == 1)), .bool (plB (plE h p 0 n) b2 (n == 2)), .nil]]
  | [.one (.ptr 0 1 0 0), .one (.int .i64 n)], [.cells [.data (.ints .i64 h), .int .i64 p, .bool b0, .bool b1, .bool b2, .own 1 1], .row 3 (.ints .i64 a)] => (0 ≤ n ∧ n ≤ 2) ∧ K (.one (.int .i64 (plE h p a.length n))) [.cells [.data (.ints .i64 h), .int .i64 (plP (plE h p a.length n) p n), .bool (plB (plE h p a.length n) b0 (n == 0)), .bool (plB (plE h p a.length n) b1 (n == 1)), .bool (plB (plE h p a.length n) b2 (n == 2)), .own 1 1], .row 3 (.ints .i64 a)]
  | [.one (.ptr 0 1 0 0), .one (.int .i64 n)], [.cells [.data (.ints .i64 h), .int .i64 p, .bool b0, .bool b1, .bool b2, .sub 1 1 0 m], .row 3 (.ints .i64 a)] => (0 ≤ n ∧ n ≤ 2 ∧ m ≤ a.length) ∧ K (.one (.int .i64 (plE h p m n))) [.cells [.data (.ints .i64 h), .int .i64 (plP (plE h p m n) p n), .bool (plB (plE h p m n) b0 (n == 0)), .bool (plB (plE h p m n) b1 (n == 1)), .bool (plB (plE h p m n) b2 (n == 2)), .sub 1 1 0 m], .row 3 (.ints .i64 a)]
  | _, _ => False
def stpN : Spec := fun args σ K => match args, σ with
  | [.one (.ptr 0 1 0 0), .one (.int .i64 n)], [.cells [.data (.ints .i64 h), .int .i64 p, .bool b0, .bool b1, .bool b2, .nil]] => K (.one (.int .i64 (bif p == -1 then 21 else 0))) [.cells [.data (.ints .i64 h), .int .i64 (-1), .bool b0, .bool b1, .bool b2, .nil]]
  | _, _ => False
def stpO : Spec := fun args σ K => match args, σ with
  | [.one (.ptr 0 1 0 0), .one (.int .i64 n)], [.cells [.data (.ints .i64 h), .int .i64 p, .bool b0, .bool b1, .bool b2, .own 1 1], .row 3 (.ints .i64 a)] => K (.one (.int .i64 (bif p == -1 then 21 else 0))) [.cells [.data (.ints .i64 h), .int .i64 (-1), .bool b0, .bool b1, .bool b2, .own 1 1], .row 3 (.ints .i64 a)]
  | [.one (.ptr 0 1 0 0), .one (.int .i64 n)], [.cells [.data (.ints .i64 h), .int .i64 p, .bool b0, .bool b1, .bool b2, .sub 1 1 0 m], .row 3 (.ints .i64 a)] => K (.one (.int .i64 (bif p == -1 then 21 else 0))) [.cells [.data (.ints .i64 h), .int .i64 (-1), .bool b0, .bool b1, .bool b2, .sub 1 1 0 m], .row 3 (.ints .i64 a)]
  | _, _ => False
def stpS : Spec := fun args σ K => match args, σ with
  | [.one (.ptr 0 1 0 0), .one (.int .i64 n)], [.cells [.data (.ints .i64 h), .int .i64 p, .bool b0, .bool b1, .bool b2, .nil]] => K (.one (.int .i64 (bif p == -1 then 21 else 0))) [.cells [.data (.ints .i64 h), .int .i64 (-1), .bool b0, .bool b1, .bool b2, .nil]]
  | [.one (.ptr 0 1 0 0), .one (.int .i64 n)], [.cells [.data (.ints .i64 h), .int .i64 p, .bool b0, .bool b1, .bool b2, .own 1 1], .row 3 (.ints .i64 a)] => K (.one (.int .i64 (bif p == -1 then 21 else 0))) [.cells [.data (.ints .i64 h), .int .i64 (-1), .bool b0, .bool b1, .bool b2, .own 1 1], .row 3 (.ints .i64 a)]
  | [.one (.ptr 0 1 0 0), .one (.int .i64 n)], [.cells [.data (.ints .i64 h), .int .i64 p, .bool b0, .bool b1, .bool b2, .sub 1 1 0 m], .row 3 (.ints .i64 a)] => K (.one (.int .i64 (bif p == -1 then 21 else 0))) [.cells [.data (.ints .i64 h), .int .i64 (-1), .bool b0, .bool b1, .bool b2, .sub 1 1 0 m], .row 3 (.ints .i64 a)]
  | _, _ => False
def ansN : Spec := fun args σ K => match args, σ with
  | [.one (.ptr 0 1 0 0), .one (.int .i64 n)], [.cells [.data (.ints .i64 h), .int .i64 p, .bool b0, .bool b1, .bool b2, .nil]] => bif (asE h b0 b1 b2 0) == 0 then K (.one (.int .i64 0)) [.cells [.data (.ints .i64 h), .int .i64 (-1), .bool false, .bool false, .bool false, .own 1 1], .row 3 (.ints .i64 [n])] else K (.one (.int .i64 (asE h b0 b1 b2 0))) [.cells [.data (.ints .i64 h), .int .i64 p, .bool b0, .bool b1, .bool b2, .nil]]
  | _, _ => False
def ansO : Spec := fun args σ K => match args, σ with
  | [.one (.ptr 0 1 0 0), .one (.int .i64 n)], [.cells [.data (.ints .i64 h), .int .i64 p, .bool b0, .bool b1, .bool b2, .own 1 1], .row 3 (.ints .i64 a)] => a.length ≤ 1000000 ∧ bif (asE h b0 b1 b2 a.length) == 0 then K (.one (.int .i64 0)) [.cells [.data (.ints .i64 h), .int .i64 (-1), .bool false, .bool false, .bool false, .own 2 1], .dead, .row 3 (.ints .i64 (a ++ [n]))] else K (.one (.int .i64 (asE h b0 b1 b2 a.length))) [.cells [.data (.ints .i64 h), .int .i64 p, .bool b0, .bool b1, .bool b2, .own 1 1], .row 3 (.ints .i64 a)]
  | [.one (.ptr 0 1 0 0), .one (.int .i64 n)], [.cells [.data (.ints .i64 h), .int .i64 p, .bool b0, .bool b1, .bool b2, .sub 1 1 0 m], .row 3 (.ints .i64 a)] => (m ≤ a.length ∧ a.length ≤ 1000000) ∧ bif (asE h b0 b1 b2 m) == 0 then K (.one (.int .i64 0)) [.cells [.data (.ints .i64 h), .int .i64 (-1), .bool false, .bool false, .bool false, .own 2 1], .dead, .row 3 (.ints .i64 (a.take m ++ [n]))] else K (.one (.int .i64 (asE h b0 b1 b2 m))) [.cells [.data (.ints .i64 h), .int .i64 p, .bool b0, .bool b1, .bool b2, .sub 1 1 0 m], .row 3 (.ints .i64 a)]
  | _, _ => False
def ansS : Spec := fun args σ K => match args, σ with
  | [.one (.ptr 0 1 0 0), .one (.int .i64 n)], [.cells [.data (.ints .i64 h), .int .i64 p, .bool b0, .bool b1, .bool b2, .nil]] => bif (asE h b0 b1 b2 0) == 0 then K (.one (.int .i64 0)) [.cells [.data (.ints .i64 h), .int .i64 (-1), .bool false, .bool false, .bool false, .own 1 1], .row 3 (.ints .i64 [n])] else K (.one (.int .i64 (asE h b0 b1 b2 0))) [.cells [.data (.ints .i64 h), .int .i64 p, .bool b0, .bool b1, .bool b2, .nil]]
  | [.one (.ptr 0 1 0 0), .one (.int .i64 n)], [.cells [.data (.ints .i64 h), .int .i64 p, .bool b0, .bool b1, .bool b2, .own 1 1], .row 3 (.ints .i64 a)] => a.length ≤ 1000000 ∧ bif (asE h b0 b1 b2 a.length) == 0 then K (.one (.int .i64 0)) [.cells [.data (.ints .i64 h), .int .i64 (-1), .bool false, .bool false, .bool false, .own 2 1], .dead, .row 3 (.ints .i64 (a ++ [n]))] else K (.one (.int .i64 (asE h b0 b1 b2 a.length))) [.cells [.data (.ints .i64 h), .int .i64 p, .bool b0, .bool b1, .bool b2, .own 1 1], .row 3 (.ints .i64 a)]
  | [.one (.ptr 0 1 0 0), .one (.int .i64 n)], [.cells [.data (.ints .i64 h), .int .i64 p, .bool b0, .bool b1, .bool b2, .sub 1 1 0 m], .row 3 (.ints .i64 a)] => (m ≤ a.length ∧ a.length ≤ 1000000) ∧ bif (asE h b0 b1 b2 m) == 0 then K (.one (.int .i64 0)) [.cells [.data (.ints .i64 h), .int .i64 (-1), .bool false, .bool false, .bool false, .own 2 1], .dead, .row 3 (.ints .i64 (a.take m ++ [n]))] else K (.one (.int .i64 (asE h b0 b1 b2 m))) [.cells [.data (.ints .i64 h), .int .i64 p, .bool b0, .bool b1, .bool b2, .sub 1 1 0 m], .row 3 (.ints .i64 a)]
  | _, _ => False
def repN : Spec := fun args σ K => match args, σ with
  | [.one (.ptr 0 1 0 0), .one (.int .i64 n)], [.cells [.data (.ints .i64 h), .int .i64 p, .bool b0, .bool b1, .bool b2, .nil]] => K (.one (.int .i64 12)) [.cells [.data (.ints .i64 h), .int .i64 p, .bool b0, .bool b1, .bool b2, .nil]]
  | _, _ => False
def repO : Spec := fun args σ K => match args, σ with
  | [.one (.ptr 0 1 0 0), .one (.int .i64 n)], [.cells [.data (.ints .i64 h), .int .i64 p, .bool b0, .bool b1, .bool b2, .own 1 1], .row 3 (.ints .i64 a)] => a.length ≤ 1000000 ∧ bif (reE p a.length) == 0 then K (.one (.int .i64 0)) [.cells [.data (.ints .i64 h), .int .i64 p, .bool false, .bool false, .bool false, .sub 1 1 0 (a.length - 1)], .row 3 (.ints .i64 a)] else K (.one (.int .i64 (reE p a.length))) [.cells [.data (.ints .i64 h), .int .i64 p, .bool b0, .bool b1, .bool b2, .own 1 1], .row 3 (.ints .i64 a)]
  | [.one (.ptr 0 1 0 0), .one (.int .i64 n)], [.cells [.data (.ints .i64 h), .int .i64 p, .bool b0, .bool b1, .bool b2, .sub 1 1 0 m], .row 3 (.ints .i64 a)] => (m ≤ a.length ∧ a.length ≤ 1000000) ∧ bif (reE p m) == 0 then K (.one (.int .i64 0)) [.cells [.data (.ints .i64 h), .int .i64 p, .bool false, .bool false, .bool false, .sub 1 1 0 (m - 1)], .row 3 (.ints .i64 a)] else K (.one (.int .i64 (reE p m))) [.cells [.data (.ints .i64 h), .int .i64 p, .bool b0, .bool b1, .bool b2, .sub 1 1 0 m], .row 3 (.ints .i64 a)]
  | _, _ => False
def repS : Spec := fun args σ K => match args, σ with
  | [.one (.ptr 0 1 0 0), .one (.int .i64 n)], [.cells [.data (.ints .i64 h), .int .i64 p, .bool b0, .bool b1, .bool b2, .nil]] => K (.one (.int .i64 12)) [.cells [.data (.ints .i64 h), .int .i64 p, .bool b0, .bool b1, .bool b2, .nil]]
  | [.one (.ptr 0 1 0 0), .one (.int .i64 n)], [.cells [.data (.ints .i64 h), .int .i64 p, .bool b0, .bool b1, .bool b2, .own 1 1], .row 3 (.ints .i64 a)] => a.length ≤ 1000000 ∧ bif (reE p a.length) == 0 then K (.one (.int .i64 0)) [.cells [.data (.ints .i64 h), .int .i64 p, .bool false, .bool false, .bool false, .sub 1 1 0 (a.length - 1)], .row 3 (.ints .i64 a)] else K (.one (.int .i64 (reE p a.length))) [.cells [.data (.ints .i64 h), .int .i64 p, .bool b0, .bool b1, .bool b2, .own 1 1], .row 3 (.ints .i64 a)]
  | [.one (.ptr 0 1 0 0), .one (.int .i64 n)], [.cells [.data (.ints .i64 h), .int .i64 p, .bool b0, .bool b1, .bool b2, .sub 1 1 0 m], .row 3 (.ints .i64 a)] => (m ≤ a.length ∧ a.length ≤ 1000000) ∧ bif (reE p m) == 0 then K (.one (.int .i64 0)) [.cells [.data (.ints .i64 h), .int .i64 p, .bool false, .bool false, .bool false, .sub 1 1 0 (m - 1)], .row 3 (.ints .i64 a)] else K (.one (.int .i64 (reE p m))) [.cells [.data (.ints .i64 h), .int .i64 p, .bool b0, .bool b1, .bool b2, .sub 1 1 0 m], .row 3 (.ints .i64 a)]
  | _, _ => False
def prcN : Spec := fun args σ K => match args, σ with
  | [.one (.ptr 0 1 0 0), .agg [.int .i64 k, .int .i64 n]], [.cells [.data (.ints .i64 h), .int .i64 p, .bool b0, .bool b1, .bool b2, .nil]] => bif (prE h p b0 b1 b2 0 k n) == 0 then (bif k == 2 then K (.one (.int .i64 0)) [.cells [.data (.ints .i64 h), .int .i64 (-1), .bool false, .bool false, .bool false, .own 1 1], .row 3 (.ints .i64 [n])] else K (.one (.int .i64 0)) [.cells [.data (.ints .i64 h), .int .i64 (nxP p k n), .bool (nxB 0 b0 k n), .bool (nxB 1 b1 k n), .bool (nxB 2 b2 k n), .nil]]) else K (.one (.int .i64 (prE h p b0 b1 b2 0 k n))) [.cells [.data (.ints .i64 h), .int .i64 p, .bool b0, .bool b1, .bool b2, .nil]]
  | _, _ => False
def prcO : Spec := fun args σ K => match args, σ with
  | [.one (.ptr 0 1 0 0), .agg [.int .i64 k, .int .i64 n]], [.cells [.data (.ints .i64 h), .int .i64 p, .bool b0, .bool b1, .bool b2, .own 1 1], .row 3 (.ints .i64 a)] => a.length ≤ 1000000 ∧ bif (prE h p b0 b1 b2 a.length k n) == 0 then (bif k == 2 then K (.one (.int .i64 0)) [.cells [.data (.ints .i64 h), .int .i64 (-1), .bool false, .bool false, .bool false, .own 2 1], .dead, .row 3 (.ints .i64 (a ++ [n]))] else (bif k == 3 then K (.one (.int .i64 0)) [.cells [.data (.ints .i64 h), .int .i64 (-1), .bool false, .bool false, .bool false, .sub 1 1 0 (a.length - 1)], .row 3 (.ints .i64 a)] else K (.one (.int .i64 0)) [.cells [.data (.ints .i64 h), .int .i64 (nxP p k n), .bool (nxB 0 b0 k n), .bool (nxB 1 b1 k n), .bool (nxB 2 b2 k n), .own 1 1], .row 3 (.ints .i64 a)])) else K (.one (.int .i64 (prE h p b0 b1 b2 a.length k n))) [.cells [.data (.ints .i64 h), .int .i64 p, .bool b0, .bool b1, .bool b2, .own 1 1], .row 3 (.ints .i64 a)]
  | [.one (.ptr 0 1 0 0), .agg [.int .i64 k, .int .i64 n]], [.cells [.data (.ints .i64 h), .int .i64 p, .bool b0, .bool b1, .bool b2, .sub 1 1 0 m], .row 3 (.ints .i64 a)] => (m ≤ a.length ∧ a.length ≤ 1000000) ∧ bif (prE h p b0 b1 b2 m k n) == 0 then (bif k == 2 then K (.one (.int .i64 0)) [.cells [.data (.ints .i64 h), .int .i64 (-1), .bool false, .bool false, .bool false, .own 2 1], .dead, .row 3 (.ints .i64 (a.take m ++ [n]))] else (bif k == 3 then K (.one (.int .i64 0)) [.cells [.data (.ints .i64 h), .int .i64 (-1), .bool false, .bool false, .bool false, .sub 1 1 0 (m - 1)], .row 3 (.ints .i64 a)] else K (.one (.int .i64 0)) [.cells [.data (.ints .i64 h), .int .i64 (nxP p k n), .bool (nxB 0 b0 k n), .bool (nxB 1 b1 k n), .bool (nxB 2 b2 k n), .sub 1 1 0 m], .row 3 (.ints .i64 a)])) else K (.one (.int .i64 (prE h p b0 b1 b2 m k n))) [.cells [.data (.ints .i64 h), .int .i64 p, .bool b0, .bool b1, .bool b2, .sub 1 1 0 m], .row 3 (.ints .i64 a)]
  | _, _ => False
def prcS : Spec := fun args σ K => match args, σ with
  | [.one (.ptr 0 1 0 0), .agg [.int .i64 k, .int .i64 n]], [.cells [.data (.ints .i64 h), .int .i64 p, .bool b0, .bool b1, .bool b2, .nil]] => bif (prE h p b0 b1 b2 0 k n) == 0 then (bif k == 2 then K (.one (.int .i64 0)) [.cells [.data (.ints .i64 h), .int .i64 (-1), .bool false, .bool false, .bool false, .own 1 1], .row 3 (.ints .i64 [n])] else K (.one (.int .i64 0)) [.cells [.data (.ints .i64 h), .int .i64 (nxP p k n), .bool (nxB 0 b0 k n), .bool (nxB 1 b1 k n), .bool (nxB 2 b2 k n), .nil]]) else K (.one (.int .i64 (prE h p b0 b1 b2 0 k n))) [.cells [.data (.ints .i64 h), .int .i64 p, .bool b0, .bool b1, .bool b2, .nil]]
  | [.one (.ptr 0 1 0 0), .agg [.int .i64 k, .int .i64 n]], [.cells [.data (.ints .i64 h), .int .i64 p, .bool b0, .bool b1, .bool b2, .own 1 1], .row 3 (.ints .i64 a)] => a.length ≤ 1000000 ∧ bif (prE h p b0 b1 b2 a.length k n) == 0 then (bif k == 2 then K (.one (.int .i64 0)) [.cells [.data (.ints .i64 h), .int .i64 (-1), .bool false, .bool false, .bool false, .own 2 1], .dead, .row 3 (.ints .i64 (a ++ [n]))] else (bif k == 3 then K (.one (.int .i64 0)) [.cells [.data (.ints .i64 h), .int .i64 (-1), .bool false, .bool false, .bool false, .sub 1 1 0 (a.length - 1)], .row 3 (.ints .i64 a)] else K (.one (.int .i64 0)) [.cells [.data (.ints .i64 h), .int .i64 (nxP p k n), .bool (nxB 0 b0 k n), .bool (nxB 1 b1 k n), .bool (nxB 2 b2 k n), .own 1 1], .row 3 (.ints .i64 a)])) else K (.one (.int .i64 (prE h p b0 b1 b2 a.length k n))) [.cells [.data (.ints .i64 h), .int .i64 p, .bool b0, .bool b1, .bool b2, .own 1 1], .row 3 (.ints .i64 a)]
  | [.one (.ptr 0 1 0 0), .agg [.int .i64 k, .int .i64 n]], [.cells [.data (.ints .i64 h), .int .i64 p, .bool b0, .bool b1, .bool b2, .sub 1 1 0 m], .row 3 (.ints .i64 a)] => (m ≤ a.length ∧ a.length ≤ 1000000) ∧ bif (prE h p b0 b1 b2 m k n) == 0 then (bif k == 2 then K (.one (.int .i64 0)) [.cells [.data (.ints .i64 h), .int .i64 (-1), .bool false, .bool false, .bool false, .own 2 1], .dead, .row 3 (.ints .i64 (a.take m ++ [n]))] else (bif k == 3 then K (.one (.int .i64 0)) [.cells [.data (.ints .i64 h), .int .i64 (-1), .bool false, .bool false, .bool false, .sub 1 1 0 (m - 1)], .row 3 (.ints .i64 a)] else K (.one (.int .i64 0)) [.cells [.data (.ints .i64 h), .int .i64 (nxP p k n), .bool (nxB 0 b0 k n), .bool (nxB 1 b1 k n), .bool (nxB 2 b2 k n), .sub 1 1 0 m], .row 3 (.ints .i64 a)])) else K (.one (.int .i64 (prE h p b0 b1 b2 m k n))) [.cells [.data (.ints .i64 h), .int .i64 p, .bool b0, .bool b1, .bool b2, .sub 1 1 0 m], .row 3 (.ints .i64 a)]
  | _, _ => False
noncomputable abbrev Ekds : Env := envOf Tryd.prog [] [] 6 0
noncomputable abbrev Eplan : Env := envOf Tryd.prog [(158, endS), (104, unlessS), (98, firstS), (155, plyS)] [] 34 1
noncomputable abbrev Eplao : Env := envOf Tryd.prog [(158, endS), (104, unlessS), (98, firstS), (155, plyS)] [] 34 2
noncomputable abbrev Estpn : Env := envOf Tryd.prog [(155, plyS), (158, endS)] [] 12 1
noncomputable abbrev Estpo : Env := envOf Tryd.prog [(155, plyS), (158, endS)] [] 12 2
noncomputable abbrev Eansn : Env := envOf Tryd.prog [(158, endS), (104, unlessS), (98, firstS), (155, plyS)] [] 44 1
noncomputable abbrev Eanso : Env := envOf Tryd.prog [(158, endS), (104, unlessS), (98, firstS), (155, plyS)] [] 44 2
noncomputable abbrev Erepn : Env := envOf Tryd.prog [(104, unlessS), (155, plyS), (98, firstS), (158, endS)] [] 45 1
noncomputable abbrev Erepo : Env := envOf Tryd.prog [(104, unlessS), (155, plyS), (98, firstS), (158, endS)] [] 45 2
noncomputable abbrev Eprcn : Env := envOf Tryd.prog [(137, kdS), (103, withinS), (165, plaS), (166, stpS), (167, ansS), (168, repS)] [] 42 1
noncomputable abbrev Eprco : Env := envOf Tryd.prog [(137, kdS), (103, withinS), (165, plaS), (166, stpS), (167, ansS), (168, repS)] [] 42 2
end Go.Ev

namespace Go.Ev
open Go Go.Proofs
set_option maxRecDepth 100000
theorem exkds (K : AV → List Blk → Prop) : evFn Ekds Tryd.f137 [] [] K = ( K (AV.agg [SV.str [(112 : UInt8), (108 : UInt8), (97 : UInt8), (121 : UInt8)], SV.int .i64 3, SV.func 165 [], SV.str [(115 : UInt8), (116 : UInt8), (111 : UInt8), (112 : UInt8)], SV.int .i64 0, SV.func 166 [], SV.str [(97 : UInt8), (110 : UInt8), (115 : UInt8), (119 : UInt8), (101 : UInt8), (114 : UInt8)], SV.int .i64 2, SV.func 167 [], SV.str [(114 : UInt8), (101 : UInt8), (112 : UInt8), (101 : UInt8), (97 : UInt8), (116 : UInt8)], SV.int .i64 0, SV.func 168 []]) []) := by kernel_rfl
theorem explan (n : Int) (h : List Int) (p : Int) (b0 b1 b2 : Bool) (K : AV → List Blk → Prop) : evFn Eplan Tryd.f165 [.one (.ptr 0 1 0 0), .one (.int .i64 n)] [.cells [.data (.ints .i64 h), .int .i64 p, .bool b0, .bool b1, .bool b2, .nil]] K = ( (([bif !decide (0 ≥ (↑h.length : Int)) then (0 :Int) else (21 :Int), bif p != n then (0 :Int) else (25 :Int)].length ≤ 1000 ∧ bif firstE [bif !decide (0 ≥ (↑h.length : Int)) then (0 :Int) else (21 :Int), bif p != n then (0 :Int) else (25 :Int)] != 0 then K (.one (.int .i64 (firstE [bif !decide (0 ≥ (↑h.length : Int)) then (0 :Int) else (21 :Int), bif p != n then (0 :Int) else (25 :Int)]))) [Blk.cells [SV.data (Row.ints .i64 h), SV.int .i64 p, SV.bool b0, SV.bool b1, SV.bool b2, SV.nil]] else bif decide (0 ≤ n) && decide (n < 3) then bif n == 0 then K (.one (.int .i64 0)) [Blk.cells [SV.data (Row.ints .i64 h), SV.int .i64 n, SV.bool true, SV.bool b1, SV.bool b2, SV.nil]] else bif n == 1 then K (.one (.int .i64 0)) [Blk.cells [SV.data (Row.ints .i64 h), SV.int .i64 n, SV.bool b0, SV.bool true, SV.bool b2, SV.nil]] else K (.one (.int .i64 0)) [Blk.cells [SV.data (Row.ints .i64 h), SV.int .i64 n, SV.bool b0, SV.bool b1, SV.bool true, SV.nil]] else False) ∧ [bif !decide (0 ≥ (↑h.length : Int)) then (0 :Int) else (21 :Int), bif p != n then (0 :Int) else (25 :Int)].length ≤ 1000 ∧ bif firstE [bif !decide (0 ≥ (↑h.length : Int)) then (0 :Int) else (21 :Int), bif p != n then (0 :Int) else (25 :Int)] != 0 then K (.one (.int .i64 (firstE [bif !decide (0 ≥ (↑h.length : Int)) then (0 :Int) else (21 :Int), bif p != n then (0 :Int) else (25 :Int)]))) [Blk.cells [SV.data (Row.ints .i64 h), SV.int .i64 p, SV.bool b0, SV.bool b1, SV.bool b2, SV.nil]] else bif decide (0 ≤ n) && decide (n < 3) then bif n == 0 then K (.one (.int .i64 0)) [Blk.cells [SV.data (Row.ints .i64 h), SV.int .i64 n, SV.bool true, SV.bool b1, SV.bool b2, SV.nil]] else bif n == 1 then K (.one (.int .i64 0)) [Blk.cells [SV.data (Row.ints .i64 h), SV.int .i64 n, SV.bool b0, SV.bool true, SV.bool b2, SV.nil]] else K (.one (.int .i64 0)) [Blk.cells [SV.data (Row.ints .i64 h), SV.int .i64 n, SV.bool b0, SV.bool b1, SV.bool true, SV.nil]] else False) ∧ [bif !decide (0 ≥ (↑h.length : Int)) then (0 :Int) else (21 :Int), bif p != n then (0 :Int) else (25 :Int)].length ≤ 1000 ∧ bif firstE [bif !decide (0 ≥ (↑h.length : Int)) then (0 :Int) else (21 :Int), bif p != n then (0 :Int) else (25 :Int)] != 0 then K (.one (.int .i64 (firstE [bif !decide (0 ≥ (↑h.length : Int)) then (0 :Int) else (21 :Int), bif p != n then (0 :Int) else (25 :Int)]))) [Blk.cells [SV.data (Row.ints .i64 h), SV.int .i64 p, SV.bool b0, SV.bool b1, SV.bool b2, SV.nil]] else bif decide (0 ≤ n) && decide (n < 3) then bif n == 0 then K (.one (.int .i64 0)) [Blk.cells [SV.data (Row.ints .i64 h), SV.int .i64 n, SV.bool true, SV.bool b1, SV.bool b2, SV.nil]] else bif n == 1 then K (.one (.int .i64 0)) [Blk.cells [SV.data (Row.ints .i64 h), SV.int .i64 n, SV.bool b0, SV.bool true, SV.bool b2, SV.nil]] else K (.one (.int .i64 0)) [Blk.cells [SV.data (Row.ints .i64 h), SV.int .i64 n, SV.bool b0, SV.bool b1, SV.bool true, SV.nil]] else False) := by kernel_rfl
theorem explao_0 (n : Int) (h : List Int) (p : Int) (b0 b1 b2 : Bool) (a : List Int) (K : AV → List Blk → Prop) : evFn Eplao Tryd.f165 [.one (.ptr 0 1 0 0), .one (.int .i64 n)] [.cells [.data (.ints .i64 h), .int .i64 p, .bool b0, .bool b1, .bool b2, .own 1 1], .row 3 (.ints .i64 a)] K = ( (([bif !decide ((↑a.length : Int) ≥ (↑h.length : Int)) then (0 :Int) else (21 :Int), bif p != n then (0 :Int) else (25 :Int)].length ≤ 1000 ∧ bif firstE [bif !decide ((↑a.length : Int) ≥ (↑h.length : Int)) then (0 :Int) else (21 :Int), bif p != n then (0 :Int) else (25 :Int)] != 0 then K (.one (.int .i64 (firstE [bif !decide ((↑a.length : Int) ≥ (↑h.length : Int)) then (0 :Int) else (21 :Int), bif p != n then (0 :Int) else (25 :Int)]))) [Blk.cells [SV.data (Row.ints .i64 h), SV.int .i64 p, SV.bool b0, SV.bool b1, SV.bool b2, SV.own 1 1], Blk.row 3 (Row.ints .i64 a)] else bif decide (0 ≤ n) && decide (n < 3) then bif n == 0 then K (.one (.int .i64 0)) [Blk.cells [SV.data (Row.ints .i64 h), SV.int .i64 n, SV.bool true, SV.bool b1, SV.bool b2, SV.own 1 1], Blk.row 3 (Row.ints .i64 a)] else bif n == 1 then K (.one (.int .i64 0)) [Blk.cells [SV.data (Row.ints .i64 h), SV.int .i64 n, SV.bool b0, SV.bool true, SV.bool b2, SV.own 1 1], Blk.row 3 (Row.ints .i64 a)] else K (.one (.int .i64 0)) [Blk.cells [SV.data (Row.ints .i64 h), SV.int .i64 n, SV.bool b0, SV.bool b1, SV.bool true, SV.own 1 1], Blk.row 3 (Row.ints .i64 a)] else False) ∧ [bif !decide ((↑a.length : Int) ≥ (↑h.length : Int)) then (0 :Int) else (21 :Int), bif p != n then (0 :Int) else (25 :Int)].length ≤ 1000 ∧ bif firstE [bif !decide ((↑a.length : Int) ≥ (↑h.length : Int)) then (0 :Int) else (21 :Int), bif p != n then (0 :Int) else (25 :Int)] != 0 then K (.one (.int .i64 (firstE [bif !decide ((↑a.length : Int) ≥ (↑h.length : Int)) then (0 :Int) else (21 :Int), bif p != n then (0 :Int) else (25 :Int)]))) [Blk.cells [SV.data (Row.ints .i64 h), SV.int .i64 p, SV.bool b0, SV.bool b1, SV.bool b2, SV.own 1 1], Blk.row 3 (Row.ints .i64 a)] else bif decide (0 ≤ n) && decide (n < 3) then bif n == 0 then K (.one (.int .i64 0)) [Blk.cells [SV.data (Row.ints .i64 h), SV.int .i64 n, SV.bool true, SV.bool b1, SV.bool b2, SV.own 1 1], Blk.row 3 (Row.ints .i64 a)] else bif n == 1 then K (.one (.int .i64 0)) [Blk.cells [SV.data (Row.ints .i64 h), SV.int .i64 n, SV.bool b0, SV.bool true, SV.bool b2, SV.own 1 1], Blk.row 3 (Row.ints .i64 a)] else K (.one (.int .i64 0)) [Blk.cells [SV.data (Row.ints .i64 h), SV.int .i64 n, SV.bool b0, SV.bool b1, SV.bool true, SV.own 1 1], Blk.row 3 (Row.ints .i64 a)] else False) ∧ [bif !decide ((↑a.length : Int) ≥ (↑h.length : Int)) then (0 :Int) else (21 :Int), bif p != n then (0 :Int) else (25 :Int)].length ≤ 1000 ∧ bif firstE [bif !decide ((↑a.length : Int) ≥ (↑h.length : Int)) then (0 :Int) else (21 :Int), bif p != n then (0 :Int) else (25 :Int)] != 0 then K (.one (.int .i64 (firstE [bif !decide ((↑a.length : Int) ≥ (↑h.length : Int)) then (0 :Int) else (21 :Int), bif p != n then (0 :Int) else (25 :Int)]))) [Blk.cells [SV.data (Row.ints .i64 h), SV.int .i64 p, SV.bool b0, SV.bool b1, SV.bool b2, SV.own 1 1], Blk.row 3 (Row.ints .i64 a)] else bif decide (0 ≤ n) && decide (n < 3) then bif n == 0 then K (.one (.int .i64 0)) [Blk.cells [SV.data (Row.ints .i64 h), SV.int .i64 n, SV.bool true, SV.bool b1, SV.bool b2, SV.own 1 1], Blk.row 3 (Row.ints .i64 a)] else bif n == 1 then K (.one (.int .i64 0)) [Blk.cells [SV.data (Row.ints .i64 h), SV.int .i64 n, SV.bool b0, SV.bool true, SV.bool b2, SV.own 1 1], Blk.row 3 (Row.ints .i64 a)] else K (.one (.int .i64 0)) [Blk.cells [SV.data (Row.ints .i64 h), SV.int .i64 n, SV.bool b0, SV.bool b1, SV.bool true, SV.own 1 1], Blk.row 3 (Row.ints .i64 a)] else False) := by kernel_rfl
theorem explao_1 (n : Int) (h : List Int) (p : Int) (b0 b1 b2 : Bool) (m : Nat) (a : List Int) (K : AV → List Blk → Prop) : evFn Eplao Tryd.f165 [.one (.ptr 0 1 0 0), .one (.int .i64 n)] [.cells [.data (.ints .i64 h), .int .i64 p, .bool b0, .bool b1, .bool b2, .sub 1 1 0 m], .row 3 (.ints .i64 a)] K = ( (([bif !decide ((↑m : Int) ≥ (↑h.length : Int)) then (0 :Int) else (21 :Int), bif p != n then (0 :Int) else (25 :Int)].length ≤ 1000 ∧ bif firstE [bif !decide ((↑m : Int) ≥ (↑h.length : Int)) then (0 :Int) else (21 :Int), bif p != n then (0 :Int) else (25 :Int)] != 0 then K (.one (.int .i64 (firstE [bif !decide ((↑m : Int) ≥ (↑h.length : Int)) then (0 :Int) else (21 :Int), bif p != n then (0 :Int) else (25 :Int)]))) [Blk.cells [SV.data (Row.ints .i64 h), SV.int .i64 p, SV.bool b0, SV.bool b1, SV.bool b2, SV.sub 1 1 0 m], Blk.row 3 (Row.ints .i64 a)] else bif decide (0 ≤ n) && decide (n < 3) then bif n == 0 then K (.one (.int .i64 0)) [Blk.cells [SV.data (Row.ints .i64 h), SV.int .i64 n, SV.bool true, SV.bool b1, SV.bool b2, SV.sub 1 1 0 m], Blk.row 3 (Row.ints .i64 a)] else bif n == 1 then K (.one (.int .i64 0)) [Blk.cells [SV.data (Row.ints .i64 h), SV.int .i64 n, SV.bool b0, SV.bool true, SV.bool b2, SV.sub 1 1 0 m], Blk.row 3 (Row.ints .i64 a)] else K (.one (.int .i64 0)) [Blk.cells [SV.data (Row.ints .i64 h), SV.int .i64 n, SV.bool b0, SV.bool b1, SV.bool true, SV.sub 1 1 0 m], Blk.row 3 (Row.ints .i64 a)] else False) ∧ [bif !decide ((↑m : Int) ≥ (↑h.length : Int)) then (0 :Int) else (21 :Int), bif p != n then (0 :Int) else (25 :Int)].length ≤ 1000 ∧ bif firstE [bif !decide ((↑m : Int) ≥ (↑h.length : Int)) then (0 :Int) else (21 :Int), bif p != n then (0 :Int) else (25 :Int)] != 0 then K (.one (.int .i64 (firstE [bif !decide ((↑m : Int) ≥ (↑h.length : Int)) then (0 :Int) else (21 :Int), bif p != n then (0 :Int) else (25 :Int)]))) [Blk.cells [SV.data (Row.ints .i64 h), SV.int .i64 p, SV.bool b0, SV.bool b1, SV.bool b2, SV.sub 1 1 0 m], Blk.row 3 (Row.ints .i64 a)] else bif decide (0 ≤ n) && decide (n < 3) then bif n == 0 then K (.one (.int .i64 0)) [Blk.cells [SV.data (Row.ints .i64 h), SV.int .i64 n, SV.bool true, SV.bool b1, SV.bool b2, SV.sub 1 1 0 m], Blk.row 3 (Row.ints .i64 a)] else bif n == 1 then K (.one (.int .i64 0)) [Blk.cells [SV.data (Row.ints .i64 h), SV.int .i64 n, SV.bool b0, SV.bool true, SV.bool b2, SV.sub 1 1 0 m], Blk.row 3 (Row.ints .i64 a)] else K (.one (.int .i64 0)) [Blk.cells [SV.data (Row.ints .i64 h), SV.int .i64 n, SV.bool b0, SV.bool b1, SV.bool true, SV.sub 1 1 0 m], Blk.row 3 (Row.ints .i64 a)] else False) ∧ [bif !decide ((↑m : Int) ≥ (↑h.length : Int)) then (0 :Int) else (21 :Int), bif p != n then (0 :Int) else (25 :Int)].length ≤ 1000 ∧ bif firstE [bif !decide ((↑m : Int) ≥ (↑h.length : Int)) then (0 :Int) else (21 :Int), bif p != n then (0 :Int) else (25 :Int)] != 0 then K (.one (.int .i64 (firstE [bif !decide ((↑m : Int) ≥ (↑h.length : Int)) then (0 :Int) else (21 :Int), bif p != n then (0 :Int) else (25 :Int)]))) [Blk.cells [SV.data (Row.ints .i64 h), SV.int .i64 p, SV.bool b0, SV.bool b1, SV.bool b2, SV.sub 1 1 0 m], Blk.row 3 (Row.ints .i64 a)] else bif decide (0 ≤ n) && decide (n < 3) then bif n == 0 then K (.one (.int .i64 0)) [Blk.cells [SV.data (Row.ints .i64 h), SV.int .i64 n, SV.bool true, SV.bool b1, SV.bool b2, SV.sub 1 1 0 m], Blk.row 3 (Row.ints .i64 a)] else bif n == 1 then K (.one (.int .i64 0)) [Blk.cells [SV.data (Row.ints .i64 h), SV.int .i64 n, SV.bool b0, SV.bool true, SV.bool b2, SV.sub 1 1 0 m], Blk.row 3 (Row.ints .i64 a)] else K (.one (.int .i64 0)) [Blk.cells [SV.data (Row.ints .i64 h), SV.int .i64 n, SV.bool b0, SV.bool b1, SV.bool true, SV.sub 1 1 0 m], Blk.row 3 (Row.ints .i64 a)] else False) := by kernel_rfl
theorem exstpn (n : Int) (h : List Int) (p : Int) (b0 b1 b2 : Bool) (K : AV → List Blk → Prop) : evFn Estpn Tryd.f166 [.one (.ptr 0 1 0 0), .one (.int .i64 n)] [.cells [.data (.ints .i64 h), .int .i64 p, .bool b0, .bool b1, .bool b2, .nil]] K = ( bif !p != (-1 : Int) then K (.one (.int .i64 21)) [Blk.cells [SV.data (Row.ints .i64 h), SV.int .i64 p, SV.bool b0, SV.bool b1, SV.bool b2, SV.nil]] else K (.one (.int .i64 0)) [Blk.cells [SV.data (Row.ints .i64 h), SV.int .i64 (-1 : Int), SV.bool b0, SV.bool b1, SV.bool b2, SV.nil]]) := by kernel_rfl
theorem exstpo_0 (n : Int) (h : List Int) (p : Int) (b0 b1 b2 : Bool) (a : List Int) (K : AV → List Blk → Prop) : evFn Estpo Tryd.f166 [.one (.ptr 0 1 0 0), .one (.int .i64 n)] [.cells [.data (.ints .i64 h), .int .i64 p, .bool b0, .bool b1, .bool b2, .own 1 1], .row 3 (.ints .i64 a)] K = ( bif !p != (-1 : Int) then K (.one (.int .i64 21)) [Blk.cells [SV.data (Row.ints .i64 h), SV.int .i64 p, SV.bool b0, SV.bool b1, SV.bool b2, SV.own 1 1], Blk.row 3 (Row.ints .i64 a)] else K (.one (.int .i64 0)) [Blk.cells [SV.data (Row.ints .i64 h), SV.int .i64 (-1 : Int), SV.bool b0, SV.bool b1, SV.bool b2, SV.own 1 1], Blk.row 3 (Row.ints .i64 a)]) := by kernel_rfl
theorem exstpo_1 (n : Int) (h : List Int) (p : Int) (b0 b1 b2 : Bool) (m : Nat) (a : List Int) (K : AV → List Blk → Prop) : evFn Estpo Tryd.f166 [.one (.ptr 0 1 0 0), .one (.int .i64 n)] [.cells [.data (.ints .i64 h), .int .i64 p, .bool b0, .bool b1, .bool b2, .sub 1 1 0 m], .row 3 (.ints .i64 a)] K = ( bif !p != (-1 : Int) then K (.one (.int .i64 21)) [Blk.cells [SV.data (Row.ints .i64 h), SV.int .i64 p, SV.bool b0, SV.bool b1, SV.bool b2, SV.sub 1 1 0 m], Blk.row 3 (Row.ints .i64 a)] else K (.one (.int .i64 0)) [Blk.cells [SV.data (Row.ints .i64 h), SV.int .i64 (-1 : Int), SV.bool b0, SV.bool b1, SV.bool b2, SV.sub 1 1 0 m], Blk.row 3 (Row.ints .i64 a)]) := by kernel_rfl
theorem exansn (n : Int) (h : List Int) (p : Int) (b0 b1 b2 : Bool) (K : AV → List Blk → Prop) : evFn Eansn Tryd.f167 [.one (.ptr 0 1 0 0), .one (.int .i64 n)] [.cells [.data (.ints .i64 h), .int .i64 p, .bool b0, .bool b1, .bool b2, .nil]] K = ( (([bif !decide (0 ≥ (↑h.length : Int)) then (0 :Int) else (21 :Int), bif b0 == true && (b1 == true && b2 == true) then (0 :Int) else (14 :Int)].length ≤ 1000 ∧ bif firstE [bif !decide (0 ≥ (↑h.length : Int)) then (0 :Int) else (21 :Int), bif b0 == true && (b1 == true && b2 == true) then (0 :Int) else (14 :Int)] != 0 then K (.one (.int .i64 (firstE [bif !decide (0 ≥ (↑h.length : Int)) then (0 :Int) else (21 :Int), bif b0 == true && (b1 == true && b2 == true) then (0 :Int) else (14 :Int)]))) [Blk.cells [SV.data (Row.ints .i64 h), SV.int .i64 p, SV.bool b0, SV.bool b1, SV.bool b2, SV.nil]] else K (.one (.int .i64 0)) [Blk.cells [SV.data (Row.ints .i64 h), SV.int .i64 (-1 : Int), SV.bool false, SV.bool false, SV.bool false, SV.own 1 1], Blk.row 3 (Row.ints .i64 [n])]) ∧ [bif !decide (0 ≥ (↑h.length : Int)) then (0 :Int) else (21 :Int), bif b0 == true && (b1 == true && b2 == true) then (0 :Int) else (14 :Int)].length ≤ 1000 ∧ bif firstE [bif !decide (0 ≥ (↑h.length : Int)) then (0 :Int) else (21 :Int), bif b0 == true && (b1 == true && b2 == true) then (0 :Int) else (14 :Int)] != 0 then K (.one (.int .i64 (firstE [bif !decide (0 ≥ (↑h.length : Int)) then (0 :Int) else (21 :Int), bif b0 == true && (b1 == true && b2 == true) then (0 :Int) else (14 :Int)]))) [Blk.cells [SV.data (Row.ints .i64 h), SV.int .i64 p, SV.bool b0, SV.bool b1, SV.bool b2, SV.nil]] else K (.one (.int .i64 0)) [Blk.cells [SV.data (Row.ints .i64 h), SV.int .i64 (-1 : Int), SV.bool false, SV.bool false, SV.bool false, SV.own 1 1], Blk.row 3 (Row.ints .i64 [n])]) ∧ [bif !decide (0 ≥ (↑h.length : Int)) then (0 :Int) else (21 :Int), bif b0 == true && (b1 == true && b2 == true) then (0 :Int) else (14 :Int)].length ≤ 1000 ∧ bif firstE [bif !decide (0 ≥ (↑h.length : Int)) then (0 :Int) else (21 :Int), bif b0 == true && (b1 == true && b2 == true) then (0 :Int) else (14 :Int)] != 0 then K (.one (.int .i64 (firstE [bif !decide (0 ≥ (↑h.length : Int)) then (0 :Int) else (21 :Int), bif b0 == true && (b1 == true && b2 == true) then (0 :Int) else (14 :Int)]))) [Blk.cells [SV.data (Row.ints .i64 h), SV.int .i64 p, SV.bool b0, SV.bool b1, SV.bool b2, SV.nil]] else K (.one (.int .i64 0)) [Blk.cells [SV.data (Row.ints .i64 h), SV.int .i64 (-1 : Int), SV.bool false, SV.bool false, SV.bool false, SV.own 1 1], Blk.row 3 (Row.ints .i64 [n])]) := by kernel_rfl
theorem exanso_0 (n : Int) (h : List Int) (p : Int) (b0 b1 b2 : Bool) (a : List Int) (K : AV → List Blk → Prop) : evFn Eanso Tryd.f167 [.one (.ptr 0 1 0 0), .one (.int .i64 n)] [.cells [.data (.ints .i64 h), .int .i64 p, .bool b0, .bool b1, .bool b2, .own 1 1], .row 3 (.ints .i64 a)] K = ( (([bif !decide ((↑a.length : Int) ≥ (↑h.length : Int)) then (0 :Int) else (21 :Int), bif b0 == true && (b1 == true && b2 == true) then (0 :Int) else (14 :Int)].length ≤ 1000 ∧ bif firstE [bif !decide ((↑a.length : Int) ≥ (↑h.length : Int)) then (0 :Int) else (21 :Int), bif b0 == true && (b1 == true && b2 == true) then (0 :Int) else (14 :Int)] != 0 then K (.one (.int .i64 (firstE [bif !decide ((↑a.length : Int) ≥ (↑h.length : Int)) then (0 :Int) else (21 :Int), bif b0 == true && (b1 == true && b2 == true) then (0 :Int) else (14 :Int)]))) [Blk.cells [SV.data (Row.ints .i64 h), SV.int .i64 p, SV.bool b0, SV.bool b1, SV.bool b2, SV.own 1 1], Blk.row 3 (Row.ints .i64 a)] else bif decide ((a ++ [n]).length * 8 ≤ 140737488355328 ∧ (a ++ [n]).length ≤ 140737488355328) then K (.one (.int .i64 0)) [Blk.cells [SV.data (Row.ints .i64 h), SV.int .i64 (-1 : Int), SV.bool false, SV.bool false, SV.bool false, SV.own 2 1], Blk.dead, Blk.row 3 (Row.ints .i64 (a ++ [n]))] else False) ∧ [bif !decide ((↑a.length : Int) ≥ (↑h.length : Int)) then (0 :Int) else (21 :Int), bif b0 == true && (b1 == true && b2 == true) then (0 :Int) else (14 :Int)].length ≤ 1000 ∧ bif firstE [bif !decide ((↑a.length : Int) ≥ (↑h.length : Int)) then (0 :Int) else (21 :Int), bif b0 == true && (b1 == true && b2 == true) then (0 :Int) else (14 :Int)] != 0 then K (.one (.int .i64 (firstE [bif !decide ((↑a.length : Int) ≥ (↑h.length : Int)) then (0 :Int) else (21 :Int), bif b0 == true && (b1 == true && b2 == true) then (0 :Int) else (14 :Int)]))) [Blk.cells [SV.data (Row.ints .i64 h), SV.int .i64 p, SV.bool b0, SV.bool b1, SV.bool b2, SV.own 1 1], Blk.row 3 (Row.ints .i64 a)] else bif decide ((a ++ [n]).length * 8 ≤ 140737488355328 ∧ (a ++ [n]).length ≤ 140737488355328) then K (.one (.int .i64 0)) [Blk.cells [SV.data (Row.ints .i64 h), SV.int .i64 (-1 : Int), SV.bool false, SV.bool false, SV.bool false, SV.own 2 1], Blk.dead, Blk.row 3 (Row.ints .i64 (a ++ [n]))] else False) ∧ [bif !decide ((↑a.length : Int) ≥ (↑h.length : Int)) then (0 :Int) else (21 :Int), bif b0 == true && (b1 == true && b2 == true) then (0 :Int) else (14 :Int)].length ≤ 1000 ∧ bif firstE [bif !decide ((↑a.length : Int) ≥ (↑h.length : Int)) then (0 :Int) else (21 :Int), bif b0 == true && (b1 == true && b2 == true) then (0 :Int) else (14 :Int)] != 0 then K (.one (.int .i64 (firstE [bif !decide ((↑a.length : Int) ≥ (↑h.length : Int)) then (0 :Int) else (21 :Int), bif b0 == true && (b1 == true && b2 == true) then (0 :Int) else (14 :Int)]))) [Blk.cells [SV.data (Row.ints .i64 h), SV.int .i64 p, SV.bool b0, SV.bool b1, SV.bool b2, SV.own 1 1], Blk.row 3 (Row.ints .i64 a)] else bif decide ((a ++ [n]).length * 8 ≤ 140737488355328 ∧ (a ++ [n]).length ≤ 140737488355328) then K (.one (.int .i64 0)) [Blk.cells [SV.data (Row.ints .i64 h), SV.int .i64 (-1 : Int), SV.bool false, SV.bool false, SV.bool false, SV.own 2 1], Blk.dead, Blk.row 3 (Row.ints .i64 (a ++ [n]))] else False) := by kernel_rfl
theorem exanso_1 (n : Int) (h : List Int) (p : Int) (b0 b1 b2 : Bool) (m : Nat) (a : List Int) (K : AV → List Blk → Prop) : evFn Eanso Tryd.f167 [.one (.ptr 0 1 0 0), .one (.int .i64 n)] [.cells [.data (.ints .i64 h), .int .i64 p, .bool b0, .bool b1, .bool b2, .sub 1 1 0 m], .row 3 (.ints .i64 a)] K = ( (([bif !decide ((↑m : Int) ≥ (↑h.length : Int)) then (0 :Int) else (21 :Int), bif b0 == true && (b1 == true && b2 == true) then (0 :Int) else (14 :Int)].length ≤ 1000 ∧ bif firstE [bif !decide ((↑m : Int) ≥ (↑h.length : Int)) then (0 :Int) else (21 :Int), bif b0 == true && (b1 == true && b2 == true) then (0 :Int) else (14 :Int)] != 0 then K (.one (.int .i64 (firstE [bif !decide ((↑m : Int) ≥ (↑h.length : Int)) then (0 :Int) else (21 :Int), bif b0 == true && (b1 == true && b2 == true) then (0 :Int) else (14 :Int)]))) [Blk.cells [SV.data (Row.ints .i64 h), SV.int .i64 p, SV.bool b0, SV.bool b1, SV.bool b2, SV.sub 1 1 0 m], Blk.row 3 (Row.ints .i64 a)] else bif decide (m ≤ a.length) && decide ((List.take m a ++ [n]).length * 8 ≤ 140737488355328 ∧ (List.take m a ++ [n]).length ≤ 140737488355328) then K (.one (.int .i64 0)) [Blk.cells [SV.data (Row.ints .i64 h), SV.int .i64 (-1 : Int), SV.bool false, SV.bool false, SV.bool false, SV.own 2 1], Blk.dead, Blk.row 3 (Row.ints .i64 (List.take m a ++ [n]))] else False) ∧ [bif !decide ((↑m : Int) ≥ (↑h.length : Int)) then (0 :Int) else (21 :Int), bif b0 == true && (b1 == true && b2 == true) then (0 :Int) else (14 :Int)].length ≤ 1000 ∧ bif firstE [bif !decide ((↑m : Int) ≥ (↑h.length : Int)) then (0 :Int) else (21 :Int), bif b0 == true && (b1 == true && b2 == true) then (0 :Int) else (14 :Int)] != 0 then K (.one (.int .i64 (firstE [bif !decide ((↑m : Int) ≥ (↑h.length : Int)) then (0 :Int) else (21 :Int), bif b0 == true && (b1 == true && b2 == true) then (0 :Int) else (14 :Int)]))) [Blk.cells [SV.data (Row.ints .i64 h), SV.int .i64 p, SV.bool b0, SV.bool b1, SV.bool b2, SV.sub 1 1 0 m], Blk.row 3 (Row.ints .i64 a)] else bif decide (m ≤ a.length) && decide ((List.take m a ++ [n]).length * 8 ≤ 140737488355328 ∧ (List.take m a ++ [n]).length ≤ 140737488355328) then K (.one (.int .i64 0)) [Blk.cells [SV.data (Row.ints .i64 h), SV.int .i64 (-1 : Int), SV.bool false, SV.bool false, SV.bool false, SV.own 2 1], Blk.dead, Blk.row 3 (Row.ints .i64 (List.take m a ++ [n]))] else False) ∧ [bif !decide ((↑m : Int) ≥ (↑h.length : Int)) then (0 :Int) else (21 :Int), bif b0 == true && (b1 == true && b2 == true) then (0 :Int) else (14 :Int)].length ≤ 1000 ∧ bif firstE [bif !decide ((↑m : Int) ≥ (↑h.length : Int)) then (0 :Int) else (21 :Int), bif b0 == true && (b1 == true && b2 == true) then (0 :Int) else (14 :Int)] != 0 then K (.one (.int .i64 (firstE [bif !decide ((↑m : Int) ≥ (↑h.length : Int)) then (0 :Int) else (21 :Int), bif b0 == true && (b1 == true && b2 == true) then (0 :Int) else (14 :Int)]))) [Blk.cells [SV.data (Row.ints .i64 h), SV.int .i64 p, SV.bool b0, SV.bool b1, SV.bool b2, SV.sub 1 1 0 m], Blk.row 3 (Row.ints .i64 a)] else bif decide (m ≤ a.length) && decide ((List.take m a ++ [n]).length * 8 ≤ 140737488355328 ∧ (List.take m a ++ [n]).length ≤ 140737488355328) then K (.one (.int .i64 0)) [Blk.cells [SV.data (Row.ints .i64 h), SV.int .i64 (-1 : Int), SV.bool false, SV.bool false, SV.bool false, SV.own 2 1], Blk.dead, Blk.row 3 (Row.ints .i64 (List.take m a ++ [n]))] else False) := by kernel_rfl
theorem exrepn (n : Int) (h : List Int) (p : Int) (b0 b1 b2 : Bool) (K : AV → List Blk → Prop) : evFn Erepn Tryd.f168 [.one (.ptr 0 1 0 0), .one (.int .i64 n)] [.cells [.data (.ints .i64 h), .int .i64 p, .bool b0, .bool b1, .bool b2, .nil]] K = ( [12, bif !p != (-1 : Int) then (0 :Int) else (17 :Int)].length ≤ 1000 ∧ K (.one (.int .i64 (firstE [12, bif !p != (-1 : Int) then (0 :Int) else (17 :Int)]))) [Blk.cells [SV.data (Row.ints .i64 h), SV.int .i64 p, SV.bool b0, SV.bool b1, SV.bool b2, SV.nil]]) := by kernel_rfl
theorem exrepo_0 (n : Int) (h : List Int) (p : Int) (b0 b1 b2 : Bool) (a : List Int) (K : AV → List Blk → Prop) : evFn Erepo Tryd.f168 [.one (.ptr 0 1 0 0), .one (.int .i64 n)] [.cells [.data (.ints .i64 h), .int .i64 p, .bool b0, .bool b1, .bool b2, .own 1 1], .row 3 (.ints .i64 a)] K = ( [bif decide ((↑a.length : Int) > 0) then (0 :Int) else (12 :Int), bif !p != (-1 : Int) then (0 :Int) else (17 :Int)].length ≤ 1000 ∧ bif firstE [bif decide ((↑a.length : Int) > 0) then (0 :Int) else (12 :Int), bif !p != (-1 : Int) then (0 :Int) else (17 :Int)] != 0 then K (.one (.int .i64 (firstE [bif decide ((↑a.length : Int) > 0) then (0 :Int) else (12 :Int), bif !p != (-1 : Int) then (0 :Int) else (17 :Int)]))) [Blk.cells [SV.data (Row.ints .i64 h), SV.int .i64 p, SV.bool b0, SV.bool b1, SV.bool b2, SV.own 1 1], Blk.row 3 (Row.ints .i64 a)] else bif decide (0 ≤ IntKind.i64.wrap ((↑a.length : Int) - 1)) && (decide ((IntKind.i64.wrap ((↑a.length : Int) - 1)).toNat ≤ a.length) && decide (0 ≤ (IntKind.i64.wrap ((↑a.length : Int) - 1)).toNat)) then K (.one (.int .i64 0)) [Blk.cells [SV.data (Row.ints .i64 h), SV.int .i64 p, SV.bool false, SV.bool false, SV.bool false, SV.sub 1 1 0 ((IntKind.i64.wrap ((↑a.length : Int) - 1)).toNat - 0)], Blk.row 3 (Row.ints .i64 a)] else False) := by kernel_rfl
theorem exrepo_1 (n : Int) (h : List Int) (p : Int) (b0 b1 b2 : Bool) (m : Nat) (a : List Int) (K : AV → List Blk → Prop) : evFn Erepo Tryd.f168 [.one (.ptr 0 1 0 0), .one (.int .i64 n)] [.cells [.data (.ints .i64 h), .int .i64 p, .bool b0, .bool b1, .bool b2, .sub 1 1 0 m], .row 3 (.ints .i64 a)] K = ( [bif decide ((↑m : Int) > 0) then (0 :Int) else (12 :Int), bif !p != (-1 : Int) then (0 :Int) else (17 :Int)].length ≤ 1000 ∧ bif firstE [bif decide ((↑m : Int) > 0) then (0 :Int) else (12 :Int), bif !p != (-1 : Int) then (0 :Int) else (17 :Int)] != 0 then K (.one (.int .i64 (firstE [bif decide ((↑m : Int) > 0) then (0 :Int) else (12 :Int), bif !p != (-1 : Int) then (0 :Int) else (17 :Int)]))) [Blk.cells [SV.data (Row.ints .i64 h), SV.int .i64 p, SV.bool b0, SV.bool b1, SV.bool b2, SV.sub 1 1 0 m], Blk.row 3 (Row.ints .i64 a)] else bif decide (0 ≤ IntKind.i64.wrap ((↑m : Int) - 1)) && (decide ((IntKind.i64.wrap ((↑m : Int) - 1)).toNat ≤ m) && decide (0 ≤ (IntKind.i64.wrap ((↑m : Int) - 1)).toNat)) then K (.one (.int .i64 0)) [Blk.cells [SV.data (Row.ints .i64 h), SV.int .i64 p, SV.bool false, SV.bool false, SV.bool false, SV.sub 1 1 0 ((IntKind.i64.wrap ((↑m : Int) - 1)).toNat - 0)], Blk.row 3 (Row.ints .i64 a)] else False) := by kernel_rfl
theorem exprcn (k n : Int) (h : List Int) (p : Int) (b0 b1 b2 : Bool) (K : AV → List Blk → Prop) : evFn Eprcn Tryd.f139 [.one (.ptr 0 1 0 0), .agg [.int .i64 k, .int .i64 n]] [.cells [.data (.ints .i64 h), .int .i64 p, .bool b0, .bool b1, .bool b2, .nil]] K = ( bif !(decide (0 ≤ k) && decide (k ≤ 3)) then K (.one (.int .i64 15)) [Blk.cells [SV.data (Row.ints .i64 h), SV.int .i64 p, SV.bool b0, SV.bool b1, SV.bool b2, SV.nil]] else bif decide (0 ≤ k) && decide (k < 4) then bif k == 0 then bif !(decide (0 ≤ n) && decide (n ≤ 2)) then K (.one (.int .i64 2)) [Blk.cells [SV.data (Row.ints .i64 h), SV.int .i64 p, SV.bool b0, SV.bool b1, SV.bool b2, SV.nil]] else (0 ≤ n ∧ n ≤ 2) ∧ K (.one (.int .i64 (plE h p 0 n))) [Blk.cells [SV.data (Row.ints .i64 h), SV.int .i64 (plP (plE h p 0 n) p n), SV.bool (plB (plE h p 0 n) b0 (n == 0)), SV.bool (plB (plE h p 0 n) b1 (n == 1)), SV.bool (plB (plE h p 0 n) b2 (n == 2)), SV.nil]] else bif k == 1 then bif n != 0 then K (.one (.int .i64 3)) [Blk.cells [SV.data (Row.ints .i64 h), SV.int .i64 p, SV.bool b0, SV.bool b1, SV.bool b2, SV.nil]] else K (.one (.int .i64 (bif p == (-1 : Int) then (21 :Int) else (0 :Int)))) [Blk.cells [SV.data (Row.ints .i64 h), SV.int .i64 (-1 : Int), SV.bool b0, SV.bool b1, SV.bool b2, SV.nil]] else bif k == 2 then bif !(decide (0 ≤ n) && decide (n ≤ 1)) then K (.one (.int .i64 2)) [Blk.cells [SV.data (Row.ints .i64 h), SV.int .i64 p, SV.bool b0, SV.bool b1, SV.bool b2, SV.nil]] else bif asE h b0 b1 b2 0 == 0 then K (.one (.int .i64 0)) [Blk.cells [SV.data (Row.ints .i64 h), SV.int .i64 (-1 : Int), SV.bool false, SV.bool false, SV.bool false, SV.own 1 1], Blk.row 3 (Row.ints .i64 [n])] else K (.one (.int .i64 (asE h b0 b1 b2 0))) [Blk.cells [SV.data (Row.ints .i64 h), SV.int .i64 p, SV.bool b0, SV.bool b1, SV.bool b2, SV.nil]] else bif n != 0 then K (.one (.int .i64 3)) [Blk.cells [SV.data (Row.ints .i64 h), SV.int .i64 p, SV.bool b0, SV.bool b1, SV.bool b2, SV.nil]] else K (.one (.int .i64 12)) [Blk.cells [SV.data (Row.ints .i64 h), SV.int .i64 p, SV.bool b0, SV.bool b1, SV.bool b2, SV.nil]] else False) := by kernel_rfl
theorem exprco_0 (k n : Int) (h : List Int) (p : Int) (b0 b1 b2 : Bool) (a : List Int) (K : AV → List Blk → Prop) : evFn Eprco Tryd.f139 [.one (.ptr 0 1 0 0), .agg [.int .i64 k, .int .i64 n]] [.cells [.data (.ints .i64 h), .int .i64 p, .bool b0, .bool b1, .bool b2, .own 1 1], .row 3 (.ints .i64 a)] K = ( bif !(decide (0 ≤ k) && decide (k ≤ 3)) then K (.one (.int .i64 15)) [Blk.cells [SV.data (Row.ints .i64 h), SV.int .i64 p, SV.bool b0, SV.bool b1, SV.bool b2, SV.own 1 1], Blk.row 3 (Row.ints .i64 a)] else bif decide (0 ≤ k) && decide (k < 4) then bif k == 0 then bif !(decide (0 ≤ n) && decide (n ≤ 2)) then K (.one (.int .i64 2)) [Blk.cells [SV.data (Row.ints .i64 h), SV.int .i64 p, SV.bool b0, SV.bool b1, SV.bool b2, SV.own 1 1], Blk.row 3 (Row.ints .i64 a)] else (0 ≤ n ∧ n ≤ 2) ∧ K (.one (.int .i64 (plE h p a.length n))) [Blk.cells [SV.data (Row.ints .i64 h), SV.int .i64 (plP (plE h p a.length n) p n), SV.bool (plB (plE h p a.length n) b0 (n == 0)), SV.bool (plB (plE h p a.length n) b1 (n == 1)), SV.bool (plB (plE h p a.length n) b2 (n == 2)), SV.own 1 1], Blk.row 3 (Row.ints .i64 a)] else bif k == 1 then bif n != 0 then K (.one (.int .i64 3)) [Blk.cells [SV.data (Row.ints .i64 h), SV.int .i64 p, SV.bool b0, SV.bool b1, SV.bool b2, SV.own 1 1], Blk.row 3 (Row.ints .i64 a)] else K (.one (.int .i64 (bif p == (-1 : Int) then (21 :Int) else (0 :Int)))) [Blk.cells [SV.data (Row.ints .i64 h), SV.int .i64 (-1 : Int), SV.bool b0, SV.bool b1, SV.bool b2, SV.own 1 1], Blk.row 3 (Row.ints .i64 a)] else bif k == 2 then bif !(decide (0 ≤ n) && decide (n ≤ 1)) then K (.one (.int .i64 2)) [Blk.cells [SV.data (Row.ints .i64 h), SV.int .i64 p, SV.bool b0, SV.bool b1, SV.bool b2, SV.own 1 1], Blk.row 3 (Row.ints .i64 a)] else a.length ≤ 1000000 ∧ bif asE h b0 b1 b2 a.length == 0 then K (.one (.int .i64 0)) [Blk.cells [SV.data (Row.ints .i64 h), SV.int .i64 (-1 : Int), SV.bool false, SV.bool false, SV.bool false, SV.own 2 1], Blk.dead, Blk.row 3 (Row.ints .i64 (a ++ [n]))] else K (.one (.int .i64 (asE h b0 b1 b2 a.length))) [Blk.cells [SV.data (Row.ints .i64 h), SV.int .i64 p, SV.bool b0, SV.bool b1, SV.bool b2, SV.own 1 1], Blk.row 3 (Row.ints .i64 a)] else bif n != 0 then K (.one (.int .i64 3)) [Blk.cells [SV.data (Row.ints .i64 h), SV.int .i64 p, SV.bool b0, SV.bool b1, SV.bool b2, SV.own 1 1], Blk.row 3 (Row.ints .i64 a)] else a.length ≤ 1000000 ∧ bif reE p a.length == 0 then K (.one (.int .i64 0)) [Blk.cells [SV.data (Row.ints .i64 h), SV.int .i64 p, SV.bool false, SV.bool false, SV.bool false, SV.sub 1 1 0 (a.length - 1)], Blk.row 3 (Row.ints .i64 a)] else K (.one (.int .i64 (reE p a.length))) [Blk.cells [SV.data (Row.ints .i64 h), SV.int .i64 p, SV.bool b0, SV.bool b1, SV.bool b2, SV.own 1 1], Blk.row 3 (Row.ints .i64 a)] else False) := by kernel_rfl
theorem exprco_1 (k n : Int) (h : List Int) (p : Int) (b0 b1 b2 : Bool) (m : Nat) (a : List Int) (K : AV → List Blk → Prop) : evFn Eprco Tryd.f139 [.one (.ptr 0 1 0 0), .agg [.int .i64 k, .int .i64 n]] [.cells [.data (.ints .i64 h), .int .i64 p, .bool b0, .bool b1, .bool b2, .sub 1 1 0 m], .row 3 (.ints .i64 a)] K = ( bif !(decide (0 ≤ k) && decide (k ≤ 3)) then K (.one (.int .i64 15)) [Blk.cells [SV.data (Row.ints .i64 h), SV.int .i64 p, SV.bool b0, SV.bool b1, SV.bool b2, SV.sub 1 1 0 m], Blk.row 3 (Row.ints .i64 a)] else bif decide (0 ≤ k) && decide (k < 4) then bif k == 0 then bif !(decide (0 ≤ n) && decide (n ≤ 2)) then K (.one (.int .i64 2)) [Blk.cells [SV.data (Row.ints .i64 h), SV.int .i64 p, SV.bool b0, SV.bool b1, SV.bool b2, SV.sub 1 1 0 m], Blk.row 3 (Row.ints .i64 a)] else (0 ≤ n ∧ n ≤ 2 ∧ m ≤ a.length) ∧ K (.one (.int .i64 (plE h p m n))) [Blk.cells [SV.data (Row.ints .i64 h), SV.int .i64 (plP (plE h p m n) p n), SV.bool (plB (plE h p m n) b0 (n == 0)), SV.bool (plB (plE h p m n) b1 (n == 1)), SV.bool (plB (plE h p m n) b2 (n == 2)), SV.sub 1 1 0 m], Blk.row 3 (Row.ints .i64 a)] else bif k == 1 then bif n != 0 then K (.one (.int .i64 3)) [Blk.cells [SV.data (Row.ints .i64 h), SV.int .i64 p, SV.bool b0, SV.bool b1, SV.bool b2, SV.sub 1 1 0 m], Blk.row 3 (Row.ints .i64 a)] else K (.one (.int .i64 (bif p == (-1 : Int) then (21 :Int) else (0 :Int)))) [Blk.cells [SV.data (Row.ints .i64 h), SV.int .i64 (-1 : Int), SV.bool b0, SV.bool b1, SV.bool b2, SV.sub 1 1 0 m], Blk.row 3 (Row.ints .i64 a)] else bif k == 2 then bif !(decide (0 ≤ n) && decide (n ≤ 1)) then K (.one (.int .i64 2)) [Blk.cells [SV.data (Row.ints .i64 h), SV.int .i64 p, SV.bool b0, SV.bool b1, SV.bool b2, SV.sub 1 1 0 m], Blk.row 3 (Row.ints .i64 a)] else (m ≤ a.length ∧ a.length ≤ 1000000) ∧ bif asE h b0 b1 b2 m == 0 then K (.one (.int .i64 0)) [Blk.cells [SV.data (Row.ints .i64 h), SV.int .i64 (-1 : Int), SV.bool false, SV.bool false, SV.bool false, SV.own 2 1], Blk.dead, Blk.row 3 (Row.ints .i64 (List.take m a ++ [n]))] else K (.one (.int .i64 (asE h b0 b1 b2 m))) [Blk.cells [SV.data (Row.ints .i64 h), SV.int .i64 p, SV.bool b0, SV.bool b1, SV.bool b2, SV.sub 1 1 0 m], Blk.row 3 (Row.ints .i64 a)] else bif n != 0 then K (.one (.int .i64 3)) [Blk.cells [SV.data (Row.ints .i64 h), SV.int .i64 p, SV.bool b0, SV.bool b1, SV.bool b2, SV.sub 1 1 0 m], Blk.row 3 (Row.ints .i64 a)] else (m ≤ a.length ∧ a.length ≤ 1000000) ∧ bif reE p m == 0 then K (.one (.int .i64 0)) [Blk.cells [SV.data (Row.ints .i64 h), SV.int .i64 p, SV.bool false, SV.bool false, SV.bool false, SV.sub 1 1 0 (m - 1)], Blk.row 3 (Row.ints .i64 a)] else K (.one (.int .i64 (reE p m))) [Blk.cells [SV.data (Row.ints .i64 h), SV.int .i64 p, SV.bool b0, SV.bool b1, SV.bool b2, SV.sub 1 1 0 m], Blk.row 3 (Row.ints .i64 a)] else False) := by kernel_rfl
end Go.Ev

/-
  Chapter 9: events of sessions: the contracts are kept.
-/
namespace Go.Ev
open Go Go.Proofs
attribute [local irreducible] evFn evBody evRound
set_option maxRecDepth 20000
theorem dnat0 (l : List Int) : decide (((0 : Nat) : Int) ≥ (l.length : Int)) = decide ((0 : Int) ≥ (l.length : Int)) := rfl
theorem len2 (x y : Int) : [x, y].length ≤ 1000 := (by decide : (2 : Nat) ≤ 1000)
theorem okkds : SpecOK Tryd.prog 137 kdS := by
  refine specOK (n := 6) (m := 0) (lps := []) .nil Tryd.func137 (by kernel_rfl) (by kernel_rfl) (noLoops (by kernel_rfl)) fun args σ K h => ?_
  unfold kdS at h
  split at h
  rotate_right
  · exact h.elim
  rw [exkds K]; exact h
theorem okplan : SpecOK Tryd.prog 165 plaN := by
  refine specOK (n := 34) (m := 1) (lps := []) (.cons okend (.cons ok70 (.cons ok69 (.cons okply .nil)))) Tryd.func165 (by kernel_rfl) (by kernel_rfl) (noLoops (by kernel_rfl)) fun args σ K h => ?_
  unfold plaN at h
  split at h
  rotate_right
  · exact h.elim
  rename_i n l p b0 b1 b2
  rw [explan n l p b0 b1 b2 K]
  obtain ⟨⟨n0, n2⟩, h⟩ := h
  unfold plE at h
  rw [dnat0] at h
  rw [show (p != n) = !(p == n) from rfl]
  generalize decide ((0 : Int) ≥ (l.length : Int)) = c at *
  generalize (p == n) = q at *
  rcases (show n = 0 ∨ n = 1 ∨ n = 2 by omega) with rfl | rfl | rfl
  all_goals
    repeat' apply And.intro
    all_goals first | exact len2 _ _ | (cases c <;> cases q <;> cases b0 <;> cases b1 <;> cases b2 <;> exact h)
theorem okplao : SpecOK Tryd.prog 165 plaO := by
  refine specOK (n := 34) (m := 2) (lps := []) (.cons okend (.cons ok70 (.cons ok69 (.cons okply .nil)))) Tryd.func165 (by kernel_rfl) (by kernel_rfl) (noLoops (by kernel_rfl)) fun args σ K h => ?_
  unfold plaO at h
  split at h
  rotate_right
  · exact h.elim
  · rename_i n l p b0 b1 b2 a
    rw [explao_0 n l p b0 b1 b2 a K]
    obtain ⟨⟨n0, n2⟩, h⟩ := h
    unfold plE at h
    rw [show (p != n) = !(p == n) from rfl]
    generalize decide ((a.length : Int) ≥ (l.length : Int)) = c at *
    generalize (p == n) = q at *
    rcases (show n = 0 ∨ n = 1 ∨ n = 2 by omega) with rfl | rfl | rfl
    all_goals
      repeat' apply And.intro
      all_goals first | exact len2 _ _ | (cases c <;> cases q <;> cases b0 <;> cases b1 <;> cases b2 <;> exact h)
  · rename_i n l p b0 b1 b2 m a
    rw [explao_1 n l p b0 b1 b2 m a K]
    obtain ⟨⟨n0, n2, hm⟩, h⟩ := h
    unfold plE at h
    rw [show (p != n) = !(p == n) from rfl]
    generalize decide ((m : Int) ≥ (l.length : Int)) = c at *
    generalize (p == n) = q at *
    rcases (show n = 0 ∨ n = 1 ∨ n = 2 by omega) with rfl | rfl | rfl
    all_goals
      repeat' apply And.intro
      all_goals first | exact len2 _ _ | (cases c <;> cases q <;> cases b0 <;> cases b1 <;> cases b2 <;> exact h)
theorem okstpn : SpecOK Tryd.prog 166 stpN := by
  refine specOK (n := 12) (m := 1) (lps := []) (.cons okply (.cons okend .nil)) Tryd.func166 (by kernel_rfl) (by kernel_rfl) (noLoops (by kernel_rfl)) fun args σ K h => ?_
  unfold stpN at h
  split at h
  rotate_right
  · exact h.elim
  rename_i n l p b0 b1 b2
  rw [exstpn n l p b0 b1 b2 K]
  rw [show (p != -1) = !(p == -1) from rfl]
  by_cases hp : p = -1
  · subst hp; exact h
  · rw [beq_ff hp] at h ⊢; exact h
theorem okstpo : SpecOK Tryd.prog 166 stpO := by
  refine specOK (n := 12) (m := 2) (lps := []) (.cons okply (.cons okend .nil)) Tryd.func166 (by kernel_rfl) (by kernel_rfl) (noLoops (by kernel_rfl)) fun args σ K h => ?_
  unfold stpO at h
  split at h
  rotate_right
  · exact h.elim
  · rename_i n l p b0 b1 b2 a
    rw [exstpo_0 n l p b0 b1 b2 a K]
    rw [show (p != -1) = !(p == -1) from rfl]
    by_cases hp : p = -1
    · subst hp; exact h
    · rw [beq_ff hp] at h ⊢; exact h
  · rename_i n l p b0 b1 b2 m a
    rw [exstpo_1 n l p b0 b1 b2 m a K]
    rw [show (p != -1) = !(p == -1) from rfl]
    by_cases hp : p = -1
    · subst hp; exact h
    · rw [beq_ff hp] at h ⊢; exact h
theorem okansn : SpecOK Tryd.prog 167 ansN := by
  refine specOK (n := 44) (m := 1) (lps := []) (.cons okend (.cons ok70 (.cons ok69 (.cons okply .nil)))) Tryd.func167 (by kernel_rfl) (by kernel_rfl) (noLoops (by kernel_rfl)) fun args σ K h => ?_
  unfold ansN at h
  split at h
  rotate_right
  · exact h.elim
  rename_i n l p b0 b1 b2
  rw [exansn n l p b0 b1 b2 K]
  unfold asE at h
  rw [dnat0] at h
  generalize decide ((0 : Int) ≥ (l.length : Int)) = c at *
  repeat' apply And.intro
  all_goals first | exact len2 _ _ | (cases c <;> cases b0 <;> cases b1 <;> cases b2 <;> exact h)
theorem okanso : SpecOK Tryd.prog 167 ansO := by
  refine specOK (n := 44) (m := 2) (lps := []) (.cons okend (.cons ok70 (.cons ok69 (.cons okply .nil)))) Tryd.func167 (by kernel_rfl) (by kernel_rfl) (noLoops (by kernel_rfl)) fun args σ K h => ?_
  unfold ansO at h
  split at h
  rotate_right
  · exact h.elim
  · rename_i n l p b0 b1 b2 a
    rw [exanso_0 n l p b0 b1 b2 a K]
    obtain ⟨h1, h⟩ := h
    unfold asE at h
    have hz : decide ((a ++ [n]).length * 8 ≤ 140737488355328 ∧ (a ++ [n]).length ≤ 140737488355328) = true := by
      rw [List.length_append, List.length_singleton]; exact decide_eq_true (by omega)
    rw [hz]
    generalize decide ((a.length : Int) ≥ (l.length : Int)) = c at *
    repeat' apply And.intro
    all_goals first | exact len2 _ _ | (cases c <;> cases b0 <;> cases b1 <;> cases b2 <;> exact h)
  · rename_i n l p b0 b1 b2 m a
    rw [exanso_1 n l p b0 b1 b2 m a K]
    obtain ⟨⟨hm, h1⟩, h⟩ := h
    unfold asE at h
    have hz : (decide (m ≤ a.length) && decide ((a.take m ++ [n]).length * 8 ≤ 140737488355328 ∧ (a.take m ++ [n]).length ≤ 140737488355328)) = true := by
      rw [List.length_append, List.length_singleton, List.length_take, decide_eq_true hm, Bool.true_and]; exact decide_eq_true (by omega)
    rw [hz]
    generalize decide ((m : Int) ≥ (l.length : Int)) = c at *
    repeat' apply And.intro
    all_goals first | exact len2 _ _ | (cases c <;> cases b0 <;> cases b1 <;> cases b2 <;> exact h)
theorem okrepn : SpecOK Tryd.prog 168 repN := by
  refine specOK (n := 45) (m := 1) (lps := []) (.cons ok70 (.cons okply (.cons ok69 (.cons okend .nil)))) Tryd.func168 (by kernel_rfl) (by kernel_rfl) (noLoops (by kernel_rfl)) fun args σ K h => ?_
  unfold repN at h
  split at h
  rotate_right
  · exact h.elim
  rename_i n l p b0 b1 b2
  rw [exrepn n l p b0 b1 b2 K]
  refine And.intro (len2 _ _) ?_
  rw [show (p != -1) = !(p == -1) from rfl]
  generalize (p == -1) = q at * <;> cases q <;> exact h
theorem wrap_len (m : Nat) (h : m ≤ 1000000) (h0 : 0 < m) : IntKind.i64.wrap ((m : Int) - 1) = ((m - 1 : Nat) : Int) := by
  rw [wrap_id (by omega) (by omega)]; omega
theorem okrepo : SpecOK Tryd.prog 168 repO := by
  refine specOK (n := 45) (m := 2) (lps := []) (.cons ok70 (.cons okply (.cons ok69 (.cons okend .nil)))) Tryd.func168 (by kernel_rfl) (by kernel_rfl) (noLoops (by kernel_rfl)) fun args σ K h => ?_
  unfold repO at h
  split at h
  rotate_right
  · exact h.elim
  · rename_i n l p b0 b1 b2 a
    rw [exrepo_0 n l p b0 b1 b2 a K]
    obtain ⟨h1, h⟩ := h
    refine And.intro (len2 _ _) ?_
    unfold reE at h
    rw [show (p != -1) = !(p == -1) from rfl]
    by_cases h0 : (a.length : Int) > 0
    · rw [decide_eq_true h0] at h ⊢
      rw [wrap_len a.length h1 (by omega)]
      have hz : (decide ((0 : Int) ≤ ((a.length - 1 : Nat) : Int)) && (decide (((a.length - 1 : Nat) : Int).toNat ≤ a.length) && decide ((0 : Nat) ≤ ((a.length - 1 : Nat) : Int).toNat))) = true := by
        rw [decide_eq_true (by omega), decide_eq_true (by omega), decide_eq_true (by omega)]; rfl
      rw [hz]
      generalize (p == -1) = q at * <;> cases q <;> exact h
    · rw [decide_eq_false h0] at h ⊢
      generalize (p == -1) = q at * <;> cases q <;> exact h
  · rename_i n l p b0 b1 b2 m a
    rw [exrepo_1 n l p b0 b1 b2 m a K]
    obtain ⟨⟨hm, h1⟩, h⟩ := h
    refine And.intro (len2 _ _) ?_
    unfold reE at h
    rw [show (p != -1) = !(p == -1) from rfl]
    by_cases h0 : (m : Int) > 0
    · rw [decide_eq_true h0] at h ⊢
      rw [wrap_len m (by omega) (by omega)]
      have hz : (decide ((0 : Int) ≤ ((m - 1 : Nat) : Int)) && (decide (((m - 1 : Nat) : Int).toNat ≤ m) && decide ((0 : Nat) ≤ ((m - 1 : Nat) : Int).toNat))) = true := by
        rw [decide_eq_true (by omega), decide_eq_true (by omega), decide_eq_true (by omega)]; rfl
      rw [hz]
      generalize (p == -1) = q at * <;> cases q <;> exact h
    · rw [decide_eq_false h0] at h ⊢
      generalize (p == -1) = q at * <;> cases q <;> exact h
theorem okpla : SpecOK Tryd.prog 165 plaS := okplan.mk2 okplao fun args σ K h => by
  unfold plaS at h
  split at h
  · exact .inl h
  · exact .inr h
  · exact .inr h
  · exact h.elim
theorem okstp : SpecOK Tryd.prog 166 stpS := okstpn.mk2 okstpo fun args σ K h => by
  unfold stpS at h
  split at h
  · exact .inl h
  · exact .inr h
  · exact .inr h
  · exact h.elim
theorem okans : SpecOK Tryd.prog 167 ansS := okansn.mk2 okanso fun args σ K h => by
  unfold ansS at h
  split at h
  · exact .inl h
  · exact .inr h
  · exact .inr h
  · exact h.elim
theorem okrep : SpecOK Tryd.prog 168 repS := okrepn.mk2 okrepo fun args σ K h => by
  unfold repS at h
  split at h
  · exact .inl h
  · exact .inr h
  · exact .inr h
  · exact h.elim
theorem k_cases (k : Int) : (k = 0 ∨ k = 1 ∨ k = 2 ∨ k = 3) ∨ withinG k 0 3 = false := by
  by_cases h : 0 ≤ k ∧ k ≤ 3
  · left; omega
  · right
    unfold withinG
    rcases Int.lt_or_le k 0 with h1 | h1
    · rw [decide_eq_false (by omega)]; rfl
    · rw [decide_eq_false (show ¬ k ≤ 3 by omega), Bool.and_false]
theorem plE_cases (h : List Int) (p : Int) (l : Nat) (n : Int) : plE h p l n = 21 ∨ plE h p l n = 25 ∨ plE h p l n = 0 := by
  unfold plE
  cases decide ((l : Int) ≥ h.length) <;> cases p == n <;> simp
theorem prE_play {h : List Int} {p : Int} {b0 b1 b2 : Bool} {l : Nat} {n : Int} (w : withinG n 0 2 = true) : prE h p b0 b1 b2 l 0 n = plE h p l n := by
  unfold prE evE; rw [w]; rfl
theorem prE_play0 {h : List Int} {p : Int} {b0 b1 b2 : Bool} {l : Nat} {n : Int} (w : withinG n 0 2 = false) : prE h p b0 b1 b2 l 0 n = 2 := by
  unfold prE evE; rw [w]; rfl
theorem prE_stop {h : List Int} {p : Int} {b0 b1 b2 : Bool} {l : Nat} {n : Int} (w : (n == 0) = true) : prE h p b0 b1 b2 l 1 n = bif p == -1 then 21 else 0 := by
  unfold prE evE; rw [w]; rfl
theorem prE_stop0 {h : List Int} {p : Int} {b0 b1 b2 : Bool} {l : Nat} {n : Int} (w : (n == 0) = false) : prE h p b0 b1 b2 l 1 n = 3 := by
  unfold prE evE; rw [w]; rfl
theorem prE_ans {h : List Int} {p : Int} {b0 b1 b2 : Bool} {l : Nat} {n : Int} (w : withinG n 0 1 = true) : prE h p b0 b1 b2 l 2 n = asE h b0 b1 b2 l := by
  unfold prE evE; rw [w]; rfl
theorem prE_ans0 {h : List Int} {p : Int} {b0 b1 b2 : Bool} {l : Nat} {n : Int} (w : withinG n 0 1 = false) : prE h p b0 b1 b2 l 2 n = 2 := by
  unfold prE evE; rw [w]; rfl
theorem prE_rep {h : List Int} {p : Int} {b0 b1 b2 : Bool} {l : Nat} {n : Int} (w : (n == 0) = true) : prE h p b0 b1 b2 l 3 n = reE p l := by
  unfold prE evE; rw [w]; rfl
theorem prE_rep0 {h : List Int} {p : Int} {b0 b1 b2 : Bool} {l : Nat} {n : Int} (w : (n == 0) = false) : prE h p b0 b1 b2 l 3 n = 3 := by
  unfold prE evE; rw [w]; rfl
theorem prE_odd {h : List Int} {p : Int} {b0 b1 b2 : Bool} {l : Nat} {k n : Int} (w : withinG k 0 3 = false) : prE h p b0 b1 b2 l k n = 15 := by
  unfold prE evE; rw [w]; rfl
theorem reE_play {p : Int} {l : Nat} (he : (reE p l == 0) = true) : p = -1 := by
  unfold reE at he
  by_cases hp : p = -1
  · exact hp
  · rw [beq_ff hp] at he
    cases hd : decide ((l : Int) > 0) <;> rw [hd] at he <;> exact absurd he (by decide)
theorem okprcn : SpecOK Tryd.prog 139 prcN := by
  refine specOK (n := 42) (m := 1) (lps := []) (.cons okkds (.cons ok71 (.cons okpla (.cons okstp (.cons okans (.cons okrep .nil)))))) Tryd.func139 (by kernel_rfl) (by kernel_rfl) (noLoops (by kernel_rfl)) fun args σ K h => ?_
  unfold prcN at h
  split at h
  rotate_right
  · exact h.elim
  rename_i k n l p b0 b1 b2
  rw [exprcn k n l p b0 b1 b2 K]
  rcases k_cases k with (rfl | rfl | rfl | rfl) | hk
  · cases hw : withinG n 0 2 with
    | false =>
      rw [prE_play0 hw] at h
      unfold withinG at hw
      rw [hw]; exact h
    | true =>
      rw [prE_play hw] at h
      unfold withinG at hw
      rw [hw]
      rw [Bool.and_eq_true, decide_eq_true_eq, decide_eq_true_eq] at hw
      refine And.intro hw ?_
      rcases plE_cases l p 0 n with he | he | he
      all_goals (rw [he] at h ⊢; cases b0 <;> cases b1 <;> cases b2 <;> exact h)
  · rw [show (n != 0) = !(n == 0) from rfl]
    cases hn : n == 0 with
    | false => rw [prE_stop0 hn] at h; exact h
    | true =>
      rw [prE_stop hn] at h
      by_cases hp : p = -1
      · subst hp; exact h
      · rw [beq_ff hp] at h ⊢; exact h
  · cases hw : withinG n 0 1 with
    | false =>
      rw [prE_ans0 hw] at h
      unfold withinG at hw
      rw [hw]; exact h
    | true =>
      rw [prE_ans hw] at h
      unfold withinG at hw
      rw [hw]
      change cond (asE l b0 b1 b2 0 == 0) _ _
      cases he : asE l b0 b1 b2 0 == 0 with
      | true => rw [he] at h; exact h
      | false => rw [he] at h; exact h
  · rw [show (n != 0) = !(n == 0) from rfl]
    cases hn : n == 0 with
    | false => rw [prE_rep0 hn] at h; exact h
    | true =>
      rw [prE_rep hn] at h
      exact h
  · rw [prE_odd hk] at h
    unfold withinG at hk
    rw [hk]; exact h
theorem okprco : SpecOK Tryd.prog 139 prcO := by
  refine specOK (n := 42) (m := 2) (lps := []) (.cons okkds (.cons ok71 (.cons okpla (.cons okstp (.cons okans (.cons okrep .nil)))))) Tryd.func139 (by kernel_rfl) (by kernel_rfl) (noLoops (by kernel_rfl)) fun args σ K h => ?_
  unfold prcO at h
  split at h
  rotate_right
  · exact h.elim
  · rename_i k n l p b0 b1 b2 a
    obtain ⟨h1, h⟩ := h
    rw [exprco_0 k n l p b0 b1 b2 a K]
    rcases k_cases k with (rfl | rfl | rfl | rfl) | hk
    · cases hw : withinG n 0 2 with
      | false =>
        rw [prE_play0 hw] at h
        unfold withinG at hw
        rw [hw]; exact h
      | true =>
        rw [prE_play hw] at h
        unfold withinG at hw
        rw [hw]
        rw [Bool.and_eq_true, decide_eq_true_eq, decide_eq_true_eq] at hw
        refine And.intro hw ?_
        rcases plE_cases l p a.length n with he | he | he
        all_goals (rw [he] at h ⊢; cases b0 <;> cases b1 <;> cases b2 <;> exact h)
    · rw [show (n != 0) = !(n == 0) from rfl]
      cases hn : n == 0 with
      | false => rw [prE_stop0 hn] at h; exact h
      | true =>
        rw [prE_stop hn] at h
        by_cases hp : p = -1
        · subst hp; exact h
        · rw [beq_ff hp] at h ⊢; exact h
    · cases hw : withinG n 0 1 with
      | false =>
        rw [prE_ans0 hw] at h
        unfold withinG at hw
        rw [hw]; exact h
      | true =>
        rw [prE_ans hw] at h
        unfold withinG at hw
        rw [hw]
        refine And.intro h1 ?_
        change cond (asE l b0 b1 b2 a.length == 0) _ _
        cases he : asE l b0 b1 b2 a.length == 0 with
        | true => rw [he] at h; exact h
        | false => rw [he] at h; exact h
    · rw [show (n != 0) = !(n == 0) from rfl]
      cases hn : n == 0 with
      | false => rw [prE_rep0 hn] at h; exact h
      | true =>
        rw [prE_rep hn] at h
        refine And.intro h1 ?_
        change cond (reE p a.length == 0) _ _
        cases he : reE p a.length == 0 with
        | true =>
          have hp := reE_play he
          rw [he] at h; subst hp; exact h
        | false => rw [he] at h; exact h
    · rw [prE_odd hk] at h
      unfold withinG at hk
      rw [hk]; exact h
  · rename_i k n l p b0 b1 b2 m a
    obtain ⟨⟨hm, h1⟩, h⟩ := h
    rw [exprco_1 k n l p b0 b1 b2 m a K]
    rcases k_cases k with (rfl | rfl | rfl | rfl) | hk
    · cases hw : withinG n 0 2 with
      | false =>
        rw [prE_play0 hw] at h
        unfold withinG at hw
        rw [hw]; exact h
      | true =>
        rw [prE_play hw] at h
        unfold withinG at hw
        rw [hw]
        rw [Bool.and_eq_true, decide_eq_true_eq, decide_eq_true_eq] at hw
        refine And.intro ⟨hw.1, hw.2, hm⟩ ?_
        rcases plE_cases l p m n with he | he | he
        all_goals (rw [he] at h ⊢; cases b0 <;> cases b1 <;> cases b2 <;> exact h)
    · rw [show (n != 0) = !(n == 0) from rfl]
      cases hn : n == 0 with
      | false => rw [prE_stop0 hn] at h; exact h
      | true =>
        rw [prE_stop hn] at h
        by_cases hp : p = -1
        · subst hp; exact h
        · rw [beq_ff hp] at h ⊢; exact h
    · cases hw : withinG n 0 1 with
      | false =>
        rw [prE_ans0 hw] at h
        unfold withinG at hw
        rw [hw]; exact h
      | true =>
        rw [prE_ans hw] at h
        unfold withinG at hw
        rw [hw]
        refine And.intro ⟨hm, h1⟩ ?_
        change cond (asE l b0 b1 b2 m == 0) _ _
        cases he : asE l b0 b1 b2 m == 0 with
        | true => rw [he] at h; exact h
        | false => rw [he] at h; exact h
    · rw [show (n != 0) = !(n == 0) from rfl]
      cases hn : n == 0 with
      | false => rw [prE_rep0 hn] at h; exact h
      | true =>
        rw [prE_rep hn] at h
        refine And.intro ⟨hm, h1⟩ ?_
        change cond (reE p m == 0) _ _
        cases he : reE p m == 0 with
        | true =>
          have hp := reE_play he
          rw [he] at h; subst hp; exact h
        | false => rw [he] at h; exact h
    · rw [prE_odd hk] at h
      unfold withinG at hk
      rw [hk]; exact h
theorem okprc : SpecOK Tryd.prog 139 prcS := okprcn.mk2 okprco fun args σ K h => by
  unfold prcS at h
  split at h
  · exact .inl h
  · exact .inr h
  · exact .inr h
  · exact h.elim
end Go.Ev
