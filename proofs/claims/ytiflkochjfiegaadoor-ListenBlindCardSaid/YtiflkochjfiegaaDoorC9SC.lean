/-
  Chapter 9, contracts: applying and replaying events of sessions.
-/
import Derived.Test.YtiflkochjfiegaaDoorC9SB
import Derived.KernelRfl
set_option linter.unusedVariables false
set_option linter.unusedSimpArgs false
set_option linter.unusedSectionVars false
namespace Go.Ev
open Go Go.Proofs
set_option maxRecDepth 20000

def apE (h : List Int) (p : Int) (b0 b1 b2 : Bool) (a : List Int) (k n : Int) : Int := bif boE h p b0 b1 b2 a == 0 then prE h p b0 b1 b2 a.length k n else boE h p b0 b1 b2 a
def aoP (e p k n : Int) : Int := bif e == 0 then nxP p k n else 0
def aoB (e j : Int) (b : Bool) (k n : Int) : Bool := e == 0 && nxB j b k n
def aoA (e : Int) (a : List Int) (k n : Int) : List Int := bif e == 0 then nxA a k n else []
structure Rp where
  p : Int
  b0 : Bool
  b1 : Bool
  b2 : Bool
  a : List Int
  i : Int
  e : Int
def rpG (h : List Int) : Int → Bool → Bool → Bool → List Int → Int → List (List Int) → Rp
  | p, b0, b1, b2, a, _, [] => ⟨p, b0, b1, b2, a, 0, 0⟩
  | p, b0, b1, b2, a, i, x :: l =>
    bif prE h p b0 b1 b2 a.length (x.getD 0 0) (x.getD 1 0) == 0 then rpG h (nxP p (x.getD 0 0) (x.getD 1 0)) (nxB 0 b0 (x.getD 0 0) (x.getD 1 0)) (nxB 1 b1 (x.getD 0 0) (x.getD 1 0)) (nxB 2 b2 (x.getD 0 0) (x.getD 1 0)) (nxA a (x.getD 0 0) (x.getD 1 0)) (i + 1) l
    else ⟨0, false, false, false, [], i, prE h p b0 b1 b2 a.length (x.getD 0 0) (x.getD 1 0)⟩
def rpE (h : List Int) (l : List (List Int)) : Int := bif ruE h == 0 then (bif decide ((l.length : Int) ≤ 200) then 0 else 8) else ruE h
/-- A replay with its errors. -/
def rpR (e : Int) (h : List Int) (l : List (List Int)) : Rp := bif e == 0 then rpG h (-1) false false false [] 0 l else ⟨0, false, false, false, [], 0, e⟩

def apl0S : Spec := fun args σ K => match args, σ with
  | [.agg [.data (.ints .i64 h)], .agg [.int .i64 p, .bool b0, .bool b1, .bool b2, .data (.ints .i64 a)], .agg [.int .i64 k, .int .i64 n]], [] => (h.length ≤ 1000000000 ∧ a.length ≤ 1000000) ∧ bif (apE h p b0 b1 b2 a k n) == 0 then ((bif k == 2 then K (.tup [.agg [.int .i64 (-1), .bool false, .bool false, .bool false, .own 0 1], .one (.int .i64 0)]) [.row 3 (.ints .i64 (a ++ [n]))] else (bif k == 3 then K (.tup [.agg [.int .i64 (-1), .bool false, .bool false, .bool false, .sub 0 1 0 (a.length - 1)], .one (.int .i64 0)]) [.row 3 (.ints .i64 a)] else K (.tup [.agg [.int .i64 (nxP p k n), .bool (nxB 0 b0 k n), .bool (nxB 1 b1 k n), .bool (nxB 2 b2 k n), .own 0 1], .one (.int .i64 0)]) [.row 3 (.ints .i64 a)])) ∧ (a = [] → bif k == 2 then K (.tup [.agg [.int .i64 (-1), .bool false, .bool false, .bool false, .own 0 1], .one (.int .i64 0)]) [.row 3 (.ints .i64 [n])] else K (.tup [.agg [.int .i64 (nxP p k n), .bool (nxB 0 b0 k n), .bool (nxB 1 b1 k n), .bool (nxB 2 b2 k n), .nil], .one (.int .i64 0)]) [])) else K (.tup [.agg [.int .i64 0, .bool false, .bool false, .bool false, .nil], .one (.int .i64 (apE h p b0 b1 b2 a k n))]) []
  | _, _ => False
def aplS : Spec := fun args σ K => match args, σ with
  | [.agg [.data (.ints .i64 h)], .agg [.int .i64 p, .bool b0, .bool b1, .bool b2, .data (.ints .i64 a)], .agg [.int .i64 k, .int .i64 n]], [] => (h.length ≤ 1000000000 ∧ a.length ≤ 1000000) ∧ K (.tup [.agg [.int .i64 (aoP (apE h p b0 b1 b2 a k n) p k n), .bool (aoB (apE h p b0 b1 b2 a k n) 0 b0 k n), .bool (aoB (apE h p b0 b1 b2 a k n) 1 b1 k n), .bool (aoB (apE h p b0 b1 b2 a k n) 2 b2 k n), .data (.ints .i64 (aoA (apE h p b0 b1 b2 a k n) a k n))], .one (.int .i64 (apE h p b0 b1 b2 a k n))]) []
  | _, _ => False
def evES : Spec := fun args σ K => match args, σ with
  | [.agg [.int .i64 k, .int .i64 n]], [] => K (.one (.int .i64 (evE k n))) []
  | _, _ => False
def cp2S : Spec := fun args σ K => match args, σ with
  | [.agg [.int .i64 p, .bool b0, .bool b1, .bool b2, .data (.ints .i64 a)]], [] => a.length ≤ 1000000000000 ∧ K (.agg [.int .i64 p, .bool b0, .bool b1, .bool b2, .own 0 1]) [.row 3 (.ints .i64 a)]
  | _, _ => False
def rap0S : Spec := fun args σ K => match args, σ with
  | [.agg [.data (.ints .i64 h)], .agg [.int .i64 p, .bool b0, .bool b1, .bool b2, .data (.ints .i64 a)], .agg [.int .i64 k, .int .i64 n]], [] => (a.length ≤ h.length ∧ h.length ≤ 1000000) ∧ bif (prE h p b0 b1 b2 a.length k n) == 0 then (bif k == 2 then K (.tup [.agg [.int .i64 (-1), .bool false, .bool false, .bool false, .own 0 1], .one (.int .i64 0)]) [.row 3 (.ints .i64 (a ++ [n]))] else (bif k == 3 then K (.tup [.agg [.int .i64 (-1), .bool false, .bool false, .bool false, .sub 0 1 0 (a.length - 1)], .one (.int .i64 0)]) [.row 3 (.ints .i64 a)] else K (.tup [.agg [.int .i64 (nxP p k n), .bool (nxB 0 b0 k n), .bool (nxB 1 b1 k n), .bool (nxB 2 b2 k n), .own 0 1], .one (.int .i64 0)]) [.row 3 (.ints .i64 a)])) else K (.tup [.agg [.int .i64 0, .bool false, .bool false, .bool false, .nil], .one (.int .i64 (prE h p b0 b1 b2 a.length k n))]) []
  | _, _ => False
def rapS : Spec := fun args σ K => match args, σ with
  | [.agg [.data (.ints .i64 h)], .agg [.int .i64 p, .bool b0, .bool b1, .bool b2, .data (.ints .i64 a)], .agg [.int .i64 k, .int .i64 n]], [] => (a.length ≤ h.length ∧ h.length ≤ 1000000) ∧ K (.tup [.agg [.int .i64 (aoP (prE h p b0 b1 b2 a.length k n) p k n), .bool (aoB (prE h p b0 b1 b2 a.length k n) 0 b0 k n), .bool (aoB (prE h p b0 b1 b2 a.length k n) 1 b1 k n), .bool (aoB (prE h p b0 b1 b2 a.length k n) 2 b2 k n), .data (.ints .i64 (aoA (prE h p b0 b1 b2 a.length k n) a k n))], .one (.int .i64 (prE h p b0 b1 b2 a.length k n))]) []
  | _, _ => False
def rbeg2S : Spec := fun args σ K => match args, σ with
  | [.agg [.data (.ints .i64 h)]], [] => K (.agg [.int .i64 (-1), .bool false, .bool false, .bool false, .data (.ints .i64 [])]) []
  | _, _ => False
def cpvS : Spec := fun args σ K => match args, σ with
  | [.one (.data (.mat .i64 2 l))], [] => l.length ≤ 1000000000000 ∧ K (.one (.own 0 2)) [.row 128 (.mat .i64 2 l)]
  | _, _ => False
def cpvDS : Spec := fun args σ K => match args, σ with
  | [.one (.data (.mat .i64 2 l))], [] => l.length ≤ 1000000000000 ∧ K (.one (.data (.mat .i64 2 l))) []
  | _, _ => False
def repL : LSpec := fun vs σ k => match vs, σ with
  | [.one (.ptr 0 1 0 0), .one (.ptr 1 1 0 0), .one (.data (.mat .i64 2 l)), .one (.int .i64 n), .one (.int .i64 i)], [.cells [.int .i64 0, .bool false, .bool false, .bool false, .nil], .cells [.data (.ints .i64 h), .int .i64 p, .bool b0, .bool b1, .bool b2, .nil]] =>
    (l.length ≤ 1000 ∧ n = l.length ∧ 0 ≤ i ∧ i ≤ n) ∧ bif (rpG h p b0 b1 b2 [] i (l.drop i.toNat)).e == 0 then ((∀ (q : Nat) (a' : List Int), q ≤ a'.length ∧ a'.take q = (rpG h p b0 b1 b2 [] i (l.drop i.toNat)).a → k (.exit 0) [.one (.ptr 0 1 0 0), .any, .any, .one (.ptr 1 1 0 0)] [.cells [.int .i64 0, .bool false, .bool false, .bool false, .nil], .cells [.data (.ints .i64 h), .int .i64 (rpG h p b0 b1 b2 [] i (l.drop i.toNat)).p, .bool (rpG h p b0 b1 b2 [] i (l.drop i.toNat)).b0, .bool (rpG h p b0 b1 b2 [] i (l.drop i.toNat)).b1, .bool (rpG h p b0 b1 b2 [] i (l.drop i.toNat)).b2, .sub 2 1 0 q], .row 3 (.ints .i64 a')]) ∧
      k (.exit 0) [.one (.ptr 0 1 0 0), .any, .any, .one (.ptr 1 1 0 0)] [.cells [.int .i64 0, .bool false, .bool false, .bool false, .nil], .cells [.data (.ints .i64 h), .int .i64 (rpG h p b0 b1 b2 [] i (l.drop i.toNat)).p, .bool (rpG h p b0 b1 b2 [] i (l.drop i.toNat)).b0, .bool (rpG h p b0 b1 b2 [] i (l.drop i.toNat)).b1, .bool (rpG h p b0 b1 b2 [] i (l.drop i.toNat)).b2, .own 2 1], .row 3 (.ints .i64 (rpG h p b0 b1 b2 [] i (l.drop i.toNat)).a)] ∧
      ((rpG h p b0 b1 b2 [] i (l.drop i.toNat)).a = [] → k (.exit 0) [.one (.ptr 0 1 0 0), .any, .any, .one (.ptr 1 1 0 0)] [.cells [.int .i64 0, .bool false, .bool false, .bool false, .nil], .cells [.data (.ints .i64 h), .int .i64 (rpG h p b0 b1 b2 [] i (l.drop i.toNat)).p, .bool (rpG h p b0 b1 b2 [] i (l.drop i.toNat)).b0, .bool (rpG h p b0 b1 b2 [] i (l.drop i.toNat)).b1, .bool (rpG h p b0 b1 b2 [] i (l.drop i.toNat)).b2, .nil]]))
    else ∀ (b : Blk) (rest : List Blk), k .ret [.one (.ptr 0 1 0 0), .one (.int .i64 ((rpG h p b0 b1 b2 [] i (l.drop i.toNat)).i)), .one (.int .i64 ((rpG h p b0 b1 b2 [] i (l.drop i.toNat)).e)), .one (.ptr 1 1 0 0)] (.cells [.int .i64 0, .bool false, .bool false, .bool false, .nil] :: b :: rest)
  | [.one (.ptr 0 1 0 0), .one (.ptr 1 1 0 0), .one (.data (.mat .i64 2 l)), .one (.int .i64 n), .one (.int .i64 i)], [.cells [.int .i64 0, .bool false, .bool false, .bool false, .nil], .cells [.data (.ints .i64 h), .int .i64 p, .bool b0, .bool b1, .bool b2, .own 2 1], .row 3 (.ints .i64 a)] =>
    (l.length ≤ 1000 ∧ n = l.length ∧ 0 ≤ i ∧ i ≤ n ∧ (a.length : Int) ≤ i) ∧ bif (rpG h p b0 b1 b2 a i (l.drop i.toNat)).e == 0 then ((∀ (q : Nat) (a' : List Int), q ≤ a'.length ∧ a'.take q = (rpG h p b0 b1 b2 a i (l.drop i.toNat)).a → k (.exit 0) [.one (.ptr 0 1 0 0), .any, .any, .one (.ptr 1 1 0 0)] [.cells [.int .i64 0, .bool false, .bool false, .bool false, .nil], .cells [.data (.ints .i64 h), .int .i64 (rpG h p b0 b1 b2 a i (l.drop i.toNat)).p, .bool (rpG h p b0 b1 b2 a i (l.drop i.toNat)).b0, .bool (rpG h p b0 b1 b2 a i (l.drop i.toNat)).b1, .bool (rpG h p b0 b1 b2 a i (l.drop i.toNat)).b2, .sub 2 1 0 q], .row 3 (.ints .i64 a')]) ∧
      k (.exit 0) [.one (.ptr 0 1 0 0), .any, .any, .one (.ptr 1 1 0 0)] [.cells [.int .i64 0, .bool false, .bool false, .bool false, .nil], .cells [.data (.ints .i64 h), .int .i64 (rpG h p b0 b1 b2 a i (l.drop i.toNat)).p, .bool (rpG h p b0 b1 b2 a i (l.drop i.toNat)).b0, .bool (rpG h p b0 b1 b2 a i (l.drop i.toNat)).b1, .bool (rpG h p b0 b1 b2 a i (l.drop i.toNat)).b2, .own 2 1], .row 3 (.ints .i64 (rpG h p b0 b1 b2 a i (l.drop i.toNat)).a)] ∧
      ((rpG h p b0 b1 b2 a i (l.drop i.toNat)).a = [] → k (.exit 0) [.one (.ptr 0 1 0 0), .any, .any, .one (.ptr 1 1 0 0)] [.cells [.int .i64 0, .bool false, .bool false, .bool false, .nil], .cells [.data (.ints .i64 h), .int .i64 (rpG h p b0 b1 b2 a i (l.drop i.toNat)).p, .bool (rpG h p b0 b1 b2 a i (l.drop i.toNat)).b0, .bool (rpG h p b0 b1 b2 a i (l.drop i.toNat)).b1, .bool (rpG h p b0 b1 b2 a i (l.drop i.toNat)).b2, .nil]]))
    else ∀ (b : Blk) (rest : List Blk), k .ret [.one (.ptr 0 1 0 0), .one (.int .i64 ((rpG h p b0 b1 b2 a i (l.drop i.toNat)).i)), .one (.int .i64 ((rpG h p b0 b1 b2 a i (l.drop i.toNat)).e)), .one (.ptr 1 1 0 0)] (.cells [.int .i64 0, .bool false, .bool false, .bool false, .nil] :: b :: rest)
  | [.one (.ptr 0 1 0 0), .one (.ptr 1 1 0 0), .one (.data (.mat .i64 2 l)), .one (.int .i64 n), .one (.int .i64 i)], [.cells [.int .i64 0, .bool false, .bool false, .bool false, .nil], .cells [.data (.ints .i64 h), .int .i64 p, .bool b0, .bool b1, .bool b2, .sub 2 1 0 m], .row 3 (.ints .i64 a)] =>
    (l.length ≤ 1000 ∧ n = l.length ∧ 0 ≤ i ∧ i ≤ n ∧ (a.length : Int) ≤ i ∧ m ≤ a.length) ∧ bif (rpG h p b0 b1 b2 (a.take m) i (l.drop i.toNat)).e == 0 then ((∀ (q : Nat) (a' : List Int), q ≤ a'.length ∧ a'.take q = (rpG h p b0 b1 b2 (a.take m) i (l.drop i.toNat)).a → k (.exit 0) [.one (.ptr 0 1 0 0), .any, .any, .one (.ptr 1 1 0 0)] [.cells [.int .i64 0, .bool false, .bool false, .bool false, .nil], .cells [.data (.ints .i64 h), .int .i64 (rpG h p b0 b1 b2 (a.take m) i (l.drop i.toNat)).p, .bool (rpG h p b0 b1 b2 (a.take m) i (l.drop i.toNat)).b0, .bool (rpG h p b0 b1 b2 (a.take m) i (l.drop i.toNat)).b1, .bool (rpG h p b0 b1 b2 (a.take m) i (l.drop i.toNat)).b2, .sub 2 1 0 q], .row 3 (.ints .i64 a')]) ∧
      k (.exit 0) [.one (.ptr 0 1 0 0), .any, .any, .one (.ptr 1 1 0 0)] [.cells [.int .i64 0, .bool false, .bool false, .bool false, .nil], .cells [.data (.ints .i64 h), .int .i64 (rpG h p b0 b1 b2 (a.take m) i (l.drop i.toNat)).p, .bool (rpG h p b0 b1 b2 (a.take m) i (l.drop i.toNat)).b0, .bool (rpG h p b0 b1 b2 (a.take m) i (l.drop i.toNat)).b1, .bool (rpG h p b0 b1 b2 (a.take m) i (l.drop i.toNat)).b2, .own 2 1], .row 3 (.ints .i64 (rpG h p b0 b1 b2 (a.take m) i (l.drop i.toNat)).a)] ∧
      ((rpG h p b0 b1 b2 (a.take m) i (l.drop i.toNat)).a = [] → k (.exit 0) [.one (.ptr 0 1 0 0), .any, .any, .one (.ptr 1 1 0 0)] [.cells [.int .i64 0, .bool false, .bool false, .bool false, .nil], .cells [.data (.ints .i64 h), .int .i64 (rpG h p b0 b1 b2 (a.take m) i (l.drop i.toNat)).p, .bool (rpG h p b0 b1 b2 (a.take m) i (l.drop i.toNat)).b0, .bool (rpG h p b0 b1 b2 (a.take m) i (l.drop i.toNat)).b1, .bool (rpG h p b0 b1 b2 (a.take m) i (l.drop i.toNat)).b2, .nil]]))
    else ∀ (b : Blk) (rest : List Blk), k .ret [.one (.ptr 0 1 0 0), .one (.int .i64 ((rpG h p b0 b1 b2 (a.take m) i (l.drop i.toNat)).i)), .one (.int .i64 ((rpG h p b0 b1 b2 (a.take m) i (l.drop i.toNat)).e)), .one (.ptr 1 1 0 0)] (.cells [.int .i64 0, .bool false, .bool false, .bool false, .nil] :: b :: rest)
  | _, _ => False
def rep0S : Spec := fun args σ K => match args, σ with
  | [.agg [.data (.ints .i64 h)], .one (.data (.mat .i64 2 l))], [] => (h.length ≤ 1000000000 ∧ l.length ≤ 1000) ∧
    bif rpE h l == 0 then (bif (rpG h (-1) false false false [] 0 l).e == 0 then ((∀ (m : Nat) (a : List Int), m ≤ a.length ∧ a.take m = (rpG h (-1) false false false [] 0 l).a → K (.tup [.agg [.int .i64 (rpG h (-1) false false false [] 0 l).p, .bool (rpG h (-1) false false false [] 0 l).b0, .bool (rpG h (-1) false false false [] 0 l).b1, .bool (rpG h (-1) false false false [] 0 l).b2, .sub 0 1 0 m], .one (.int .i64 0), .one (.int .i64 0)]) [.row 3 (.ints .i64 a)]) ∧ K (.tup [.agg [.int .i64 (rpG h (-1) false false false [] 0 l).p, .bool (rpG h (-1) false false false [] 0 l).b0, .bool (rpG h (-1) false false false [] 0 l).b1, .bool (rpG h (-1) false false false [] 0 l).b2, .own 0 1], .one (.int .i64 0), .one (.int .i64 0)]) [.row 3 (.ints .i64 (rpG h (-1) false false false [] 0 l).a)] ∧ ((rpG h (-1) false false false [] 0 l).a = [] → K (.tup [.agg [.int .i64 (rpG h (-1) false false false [] 0 l).p, .bool (rpG h (-1) false false false [] 0 l).b0, .bool (rpG h (-1) false false false [] 0 l).b1, .bool (rpG h (-1) false false false [] 0 l).b2, .nil], .one (.int .i64 0), .one (.int .i64 0)]) [])) else K (.tup [.agg [.int .i64 0, .bool false, .bool false, .bool false, .nil], .one (.int .i64 ((rpG h (-1) false false false [] 0 l).i)), .one (.int .i64 ((rpG h (-1) false false false [] 0 l).e))]) []) else K (.tup [.agg [.int .i64 0, .bool false, .bool false, .bool false, .nil], .one (.int .i64 0), .one (.int .i64 (rpE h l))]) []
  | _, _ => False
def repDS : Spec := fun args σ K => match args, σ with
  | [.agg [.data (.ints .i64 h)], .one (.data (.mat .i64 2 l))], [] => (h.length ≤ 1000000000 ∧ l.length ≤ 1000) ∧ K (.tup [.agg [.int .i64 (rpR (rpE h l) h l).p, .bool (rpR (rpE h l) h l).b0, .bool (rpR (rpE h l) h l).b1, .bool (rpR (rpE h l) h l).b2, .data (.ints .i64 (rpR (rpE h l) h l).a)], .one (.int .i64 ((rpR (rpE h l) h l).i)), .one (.int .i64 ((rpR (rpE h l) h l).e))]) []
  | _, _ => False
def rrpE (l : List (List Int)) : Int := bif decide ((l.length : Int) > 200) then 8 else 0
def rrpL : LSpec := fun vs σ k => match vs, σ with
  | [.one (.data (.mat .i64 2 l)), .one (.ptr 0 1 0 0), .one (.ptr 1 1 0 0), .one (.ptr 2 1 0 0), .one (.int .i64 i)], [.cells [.data (.ints .i64 h)], .cells [.int .i64 0, .bool false, .bool false, .bool false, .nil], .cells [.int .i64 p, .bool b0, .bool b1, .bool b2, .data (.ints .i64 a)]] =>
    (l.length ≤ 1000 ∧ h.length ≤ 1000000 ∧ 0 ≤ i ∧ i ≤ l.length ∧ a.length ≤ h.length) ∧
    bif (rpG h p b0 b1 b2 a i (l.drop i.toNat)).e == 0 then k (.exit 0) [.one (.ptr 0 1 0 0), .any, .any, .one (.ptr 1 1 0 0)] [.cells [.int .i64 0, .bool false, .bool false, .bool false, .nil], .cells [.int .i64 (rpG h p b0 b1 b2 a i (l.drop i.toNat)).p, .bool (rpG h p b0 b1 b2 a i (l.drop i.toNat)).b0, .bool (rpG h p b0 b1 b2 a i (l.drop i.toNat)).b1, .bool (rpG h p b0 b1 b2 a i (l.drop i.toNat)).b2, .data (.ints .i64 (rpG h p b0 b1 b2 a i (l.drop i.toNat)).a)]]
    else ∀ b : Blk, k .ret [.one (.ptr 0 1 0 0), .one (.int .i64 ((rpG h p b0 b1 b2 a i (l.drop i.toNat)).i)), .one (.int .i64 ((rpG h p b0 b1 b2 a i (l.drop i.toNat)).e)), .one (.ptr 1 1 0 0)] [.cells [.int .i64 0, .bool false, .bool false, .bool false, .nil], b]
  | _, _ => False
def rrpS : Spec := fun args σ K => match args, σ with
  | [.agg [.data (.ints .i64 h)], .one (.data (.mat .i64 2 l))], [] => (h.length ≤ 1000000 ∧ l.length ≤ 1000) ∧ K (.tup [.agg [.int .i64 (rpR (rrpE l) h l).p, .bool (rpR (rrpE l) h l).b0, .bool (rpR (rrpE l) h l).b1, .bool (rpR (rrpE l) h l).b2, .data (.ints .i64 (rpR (rrpE l) h l).a)], .one (.int .i64 ((rpR (rrpE l) h l).i)), .one (.int .i64 ((rpR (rrpE l) h l).e))]) []
  | _, _ => False
def rrp0S : Spec := fun args σ K => match args, σ with
  | [.agg [.data (.ints .i64 h)], .one (.data (.mat .i64 2 l))], [] => (h.length ≤ 1000000 ∧ l.length ≤ 1000) ∧ bif rrpE l == 0 then (bif (rpG h (-1) false false false [] 0 l).e == 0 then K (.tup [.agg [.int .i64 (rpG h (-1) false false false [] 0 l).p, .bool (rpG h (-1) false false false [] 0 l).b0, .bool (rpG h (-1) false false false [] 0 l).b1, .bool (rpG h (-1) false false false [] 0 l).b2, .data (.ints .i64 (rpG h (-1) false false false [] 0 l).a)], .one (.int .i64 0), .one (.int .i64 0)]) [] else K (.tup [.agg [.int .i64 0, .bool false, .bool false, .bool false, .nil], .one (.int .i64 ((rpG h (-1) false false false [] 0 l).i)), .one (.int .i64 ((rpG h (-1) false false false [] 0 l).e))]) []) else K (.tup [.agg [.int .i64 0, .bool false, .bool false, .bool false, .nil], .one (.int .i64 0), .one (.int .i64 8)]) []
  | _, _ => False
noncomputable abbrev Eevt : Env := envOf Tryd.prog [(30, withinS)] [] 20 0
noncomputable abbrev Ecp2 : Env := envOf Tryd.prog [(22, copyIntsS)] [] 8 0
noncomputable abbrev Eapl : Env := envOf Tryd.prog [(124, opnS), (139, prcS)] [] 29 0
noncomputable abbrev Erap : Env := envOf Tryd.prog [(97, evES), (65, cp2S)] [] 88 0
noncomputable abbrev Ecpv : Env := envOf Tryd.prog [] [] 6 0
noncomputable abbrev Erpy : Env := envOf Tryd.prog [(67, ruS), (104, unlessS), (98, firstS), (123, bgS), (139, prcS)] [(6, .spec [4, 8, 26, 27, 28] [4, 5, 6, 8] repL)] 46 0
noncomputable abbrev Errp : Env := envOf Tryd.prog [(69, rbeg2S), (94, rapS)] [(5, .spec [1, 2, 4, 7, 8] [4, 5, 6, 7] rrpL)] 40 0
end Go.Ev

namespace Go.Ev
open Go Go.Proofs
set_option maxRecDepth 100000
theorem exevt (k n : Int) (K : AV → List Blk → Prop) : evFn Eevt Tryd.f97 [.agg [.int .i64 k, .int .i64 n]] [] K = (
 bif !(decide ((0 : Int) ≤ k) && decide (k ≤ (3 : Int))) then K (AV.one (SV.int IntKind.i64 (15 : Int))) []
 else
 bif k == (0 : Int) then
 bif k == (2 : Int) then
 bif decide ((0 : Int) ≤ n) && decide (n ≤ (1 : Int)) then K (AV.one (SV.int IntKind.i64 (0 : Int))) []
 else K (AV.one (SV.int IntKind.i64 (2 : Int))) []
 else
 bif decide ((0 : Int) ≤ n) && decide (n ≤ (2 : Int)) then K (AV.one (SV.int IntKind.i64 (0 : Int))) []
 else K (AV.one (SV.int IntKind.i64 (2 : Int))) []
 else
 bif k == (2 : Int) then
 bif decide ((0 : Int) ≤ n) && decide (n ≤ (1 : Int)) then K (AV.one (SV.int IntKind.i64 (0 : Int))) []
 else K (AV.one (SV.int IntKind.i64 (2 : Int))) []
 else
 bif decide ((0 : Int) ≤ n) && decide (n ≤ (0 : Int)) then K (AV.one (SV.int IntKind.i64 (0 : Int))) []
 else K (AV.one (SV.int IntKind.i64 (3 : Int))) []) := by kernel_rfl
theorem excp2 (p : Int) (b0 b1 b2 : Bool) (a : List Int) (K : AV → List Blk → Prop) : evFn Ecp2 Tryd.f65 [.agg [.int .i64 p, .bool b0, .bool b1, .bool b2, .data (.ints .i64 a)]] [] K = (
 a.length ≤ (1000000000000 : Nat) ∧
 K (AV.agg [SV.int IntKind.i64 p, SV.bool b0, SV.bool b1, SV.bool b2, SV.own (0 : Nat) (1 : Nat)])
 [Blk.row (3 : TypeId) (Row.ints IntKind.i64 a)]) := by kernel_rfl
theorem exapl (h : List Int) (p : Int) (b0 b1 b2 : Bool) (a : List Int) (k n : Int) (K : AV → List Blk → Prop) : evFn Eapl Tryd.f90 [.agg [.data (.ints .i64 h)], .agg [.int .i64 p, .bool b0, .bool b1, .bool b2, .data (.ints .i64 a)], .agg [.int .i64 k, .int .i64 n]] [] K = (
 (h.length ≤ (1000000000 : Nat) ∧ a.length ≤ (1000000 : Nat)) ∧
 bif opE h p == (0 : Int) then
 (bif stE2 h p b0 b1 b2 a == (0 : Int) then
 a.length ≤ (1000000 : Nat) ∧
 bif prE h p b0 b1 b2 a.length k n == (0 : Int) then
 bif k == (2 : Int) then
 K
 (AV.tup
 [TV.agg
 [SV.int IntKind.i64 (-1 : Int), SV.bool false, SV.bool false, SV.bool false,
 SV.own (0 : Nat) (1 : Nat)],
 TV.one (SV.int IntKind.i64 (0 : Int))])
 [Blk.row (3 : TypeId) (Row.ints IntKind.i64 (a ++ [n]))]
 else
 bif k == (3 : Int) then
 K
 (AV.tup
 [TV.agg
 [SV.int IntKind.i64 (-1 : Int), SV.bool false, SV.bool false, SV.bool false,
 SV.sub (0 : Nat) (1 : Nat) (0 : Nat) (a.length - (1 : Nat))],
 TV.one (SV.int IntKind.i64 (0 : Int))])
 [Blk.row (3 : TypeId) (Row.ints IntKind.i64 a)]
 else
 K
 (AV.tup
 [TV.agg
 [SV.int IntKind.i64 (nxP p k n), SV.bool (nxB (0 : Int) b0 k n), SV.bool (nxB (1 : Int) b1 k n),
 SV.bool (nxB (2 : Int) b2 k n), SV.own (0 : Nat) (1 : Nat)],
 TV.one (SV.int IntKind.i64 (0 : Int))])
 [Blk.row (3 : TypeId) (Row.ints IntKind.i64 a)]
 else
 bif prE h p b0 b1 b2 a.length k n != (0 : Int) then
 K
 (AV.tup
 [TV.agg [SV.int IntKind.i64 (0 : Int), SV.bool false, SV.bool false, SV.bool false, SV.nil],
 TV.one (SV.int IntKind.i64 (prE h p b0 b1 b2 a.length k n))])
 []
 else
 K
 (AV.tup
 [TV.agg [SV.int IntKind.i64 p, SV.bool b0, SV.bool b1, SV.bool b2, SV.own (0 : Nat) (1 : Nat)],
 TV.one (SV.int IntKind.i64 (0 : Int))])
 [Blk.row (3 : TypeId) (Row.ints IntKind.i64 a)]
 else
 bif stE2 h p b0 b1 b2 a != (0 : Int) then
 K
 (AV.tup
 [TV.agg [SV.int IntKind.i64 (0 : Int), SV.bool false, SV.bool false, SV.bool false, SV.nil],
 TV.one (SV.int IntKind.i64 (stE2 h p b0 b1 b2 a))])
 []
 else
 K
 (AV.tup
 [TV.agg [SV.int IntKind.i64 p, SV.bool b0, SV.bool b1, SV.bool b2, SV.own (0 : Nat) (1 : Nat)],
 TV.one (SV.int IntKind.i64 (0 : Int))])
 [Blk.row (3 : TypeId) (Row.ints IntKind.i64 a)]) ∧
 (a = [] →
 bif stE2 h p b0 b1 b2 a == (0 : Int) then
 bif prE h p b0 b1 b2 (0 : Nat) k n == (0 : Int) then
 bif k == (2 : Int) then
 K
 (AV.tup
 [TV.agg
 [SV.int IntKind.i64 (-1 : Int), SV.bool false, SV.bool false, SV.bool false,
 SV.own (0 : Nat) (1 : Nat)],
 TV.one (SV.int IntKind.i64 (0 : Int))])
 [Blk.row (3 : TypeId) (Row.ints IntKind.i64 [n])]
 else
 K
 (AV.tup
 [TV.agg
 [SV.int IntKind.i64 (nxP p k n), SV.bool (nxB (0 : Int) b0 k n), SV.bool (nxB (1 : Int) b1 k n),
 SV.bool (nxB (2 : Int) b2 k n), SV.nil],
 TV.one (SV.int IntKind.i64 (0 : Int))])
 []
 else
 bif prE h p b0 b1 b2 (0 : Nat) k n != (0 : Int) then
 K
 (AV.tup
 [TV.agg [SV.int IntKind.i64 (0 : Int), SV.bool false, SV.bool false, SV.bool false, SV.nil],
 TV.one (SV.int IntKind.i64 (prE h p b0 b1 b2 (0 : Nat) k n))])
 []
 else
 K
 (AV.tup
 [TV.agg [SV.int IntKind.i64 p, SV.bool b0, SV.bool b1, SV.bool b2, SV.nil],
 TV.one (SV.int IntKind.i64 (0 : Int))])
 []
 else
 bif stE2 h p b0 b1 b2 a != (0 : Int) then
 K
 (AV.tup
 [TV.agg [SV.int IntKind.i64 (0 : Int), SV.bool false, SV.bool false, SV.bool false, SV.nil],
 TV.one (SV.int IntKind.i64 (stE2 h p b0 b1 b2 a))])
 []
 else
 K
 (AV.tup
 [TV.agg [SV.int IntKind.i64 p, SV.bool b0, SV.bool b1, SV.bool b2, SV.nil],
 TV.one (SV.int IntKind.i64 (0 : Int))])
 [])
 else
 bif opE h p == (0 : Int) then False
 else
 bif opE h p != (0 : Int) then
 K
 (AV.tup
 [TV.agg [SV.int IntKind.i64 (0 : Int), SV.bool false, SV.bool false, SV.bool false, SV.nil],
 TV.one (SV.int IntKind.i64 (opE h p))])
 []
 else False) := by kernel_rfl
theorem exrap (h : List Int) (p : Int) (b0 b1 b2 : Bool) (a : List Int) (k n : Int) (K : AV → List Blk → Prop) : evFn Erap Tryd.f94 [.agg [.data (.ints .i64 h)], .agg [.int .i64 p, .bool b0, .bool b1, .bool b2, .data (.ints .i64 a)], .agg [.int .i64 k, .int .i64 n]] [] K = (
 bif evE k n != (0 : Int) then
 K
 (AV.tup
 [TV.agg [SV.int IntKind.i64 (0 : Int), SV.bool false, SV.bool false, SV.bool false, SV.nil],
 TV.one (SV.int IntKind.i64 (evE k n))])
 []
 else
 a.length ≤ (1000000000000 : Nat) ∧
 bif k == (0 : Int) then
 bif (↑a.length : Int) == (↑h.length : Int) then
 K
 (AV.tup
 [TV.agg [SV.int IntKind.i64 (0 : Int), SV.bool false, SV.bool false, SV.bool false, SV.nil],
 TV.one (SV.int IntKind.i64 (21 : Int))])
 []
 else
 bif p == n then
 K
 (AV.tup
 [TV.agg [SV.int IntKind.i64 (0 : Int), SV.bool false, SV.bool false, SV.bool false, SV.nil],
 TV.one (SV.int IntKind.i64 (25 : Int))])
 []
 else
 bif decide ((0 : Int) ≤ n) && decide (n < (3 : Int)) then
 bif n == (0 : Int) then
 K
 (AV.tup
 [TV.agg [SV.int IntKind.i64 n, SV.bool true, SV.bool b1, SV.bool b2, SV.own (0 : Nat) (1 : Nat)],
 TV.one (SV.int IntKind.i64 (0 : Int))])
 [Blk.row (3 : TypeId) (Row.ints IntKind.i64 a)]
 else
 bif n == (1 : Int) then
 K
 (AV.tup
 [TV.agg [SV.int IntKind.i64 n, SV.bool b0, SV.bool true, SV.bool b2, SV.own (0 : Nat) (1 : Nat)],
 TV.one (SV.int IntKind.i64 (0 : Int))])
 [Blk.row (3 : TypeId) (Row.ints IntKind.i64 a)]
 else
 K
 (AV.tup
 [TV.agg [SV.int IntKind.i64 n, SV.bool b0, SV.bool b1, SV.bool true, SV.own (0 : Nat) (1 : Nat)],
 TV.one (SV.int IntKind.i64 (0 : Int))])
 [Blk.row (3 : TypeId) (Row.ints IntKind.i64 a)]
 else False
 else
 bif k == (1 : Int) then
 bif p == (-1 : Int) then
 K
 (AV.tup
 [TV.agg [SV.int IntKind.i64 (0 : Int), SV.bool false, SV.bool false, SV.bool false, SV.nil],
 TV.one (SV.int IntKind.i64 (21 : Int))])
 []
 else
 K
 (AV.tup
 [TV.agg [SV.int IntKind.i64 (-1 : Int), SV.bool b0, SV.bool b1, SV.bool b2, SV.own (0 : Nat) (1 : Nat)],
 TV.one (SV.int IntKind.i64 (0 : Int))])
 [Blk.row (3 : TypeId) (Row.ints IntKind.i64 a)]
 else
 bif k == (2 : Int) then
 bif (↑a.length : Int) == (↑h.length : Int) then
 K
 (AV.tup
 [TV.agg [SV.int IntKind.i64 (0 : Int), SV.bool false, SV.bool false, SV.bool false, SV.nil],
 TV.one (SV.int IntKind.i64 (21 : Int))])
 []
 else
 bif !(b0 == true && (b1 == true && b2 == true)) then
 K
 (AV.tup
 [TV.agg [SV.int IntKind.i64 (0 : Int), SV.bool false, SV.bool false, SV.bool false, SV.nil],
 TV.one (SV.int IntKind.i64 (14 : Int))])
 []
 else
 bif
 decide
 ((a ++ [n]).length * (8 : Nat) ≤ (140737488355328 : Nat) ∧
 (a ++ [n]).length ≤ (140737488355328 : Nat)) then
 K
 (AV.tup
 [TV.agg
 [SV.int IntKind.i64 (-1 : Int), SV.bool false, SV.bool false, SV.bool false,
 SV.own (0 : Nat) (1 : Nat)],
 TV.one (SV.int IntKind.i64 (0 : Int))])
 [Blk.row (3 : Nat) (Row.ints IntKind.i64 (a ++ [n]))]
 else False
 else
 bif k == (3 : Int) then
 bif (↑a.length : Int) == (0 : Int) then
 K
 (AV.tup
 [TV.agg [SV.int IntKind.i64 (0 : Int), SV.bool false, SV.bool false, SV.bool false, SV.nil],
 TV.one (SV.int IntKind.i64 (12 : Int))])
 []
 else
 bif p != (-1 : Int) then
 K
 (AV.tup
 [TV.agg [SV.int IntKind.i64 (0 : Int), SV.bool false, SV.bool false, SV.bool false, SV.nil],
 TV.one (SV.int IntKind.i64 (17 : Int))])
 []
 else
 bif
 decide ((0 : Int) ≤ IntKind.i64.wrap ((↑a.length : Int) - (1 : Int))) &&
 (decide ((IntKind.i64.wrap ((↑a.length : Int) - (1 : Int))).toNat ≤ a.length) &&
 decide ((0 : Nat) ≤ (IntKind.i64.wrap ((↑a.length : Int) - (1 : Int))).toNat)) then
 K
 (AV.tup
 [TV.agg
 [SV.int IntKind.i64 (-1 : Int), SV.bool false, SV.bool false, SV.bool false,
 SV.sub (0 : Nat) (1 : Nat) (0 : Nat)
 ((IntKind.i64.wrap ((↑a.length : Int) - (1 : Int))).toNat - (0 : Nat))],
 TV.one (SV.int IntKind.i64 (0 : Int))])
 [Blk.row (3 : TypeId) (Row.ints IntKind.i64 a)]
 else False
 else
 K
 (AV.tup
 [TV.agg [SV.int IntKind.i64 p, SV.bool b0, SV.bool b1, SV.bool b2, SV.own (0 : Nat) (1 : Nat)],
 TV.one (SV.int IntKind.i64 (0 : Int))])
 [Blk.row (3 : TypeId) (Row.ints IntKind.i64 a)]) := by kernel_rfl
theorem excpv (l : List (List Int)) (K : AV → List Blk → Prop) : evFn Ecpv Tryd.f91 [.one (.data (.mat .i64 2 l))] [] K = (
 bif decide (l.length * (16 : Nat) ≤ (140737488355328 : Nat) ∧ l.length ≤ (140737488355328 : Nat)) then
 K (AV.one (SV.own (0 : Nat) (2 : Nat))) [Blk.row (128 : Nat) (Row.mat IntKind.i64 (2 : Nat) l)]
 else False) := by kernel_rfl
theorem exrpy (h : List Int) (l : List (List Int)) (K : AV → List Blk → Prop) : evFn Erpy Tryd.f89 [.agg [.data (.ints .i64 h)], .one (.data (.mat .i64 2 l))] [] K = (
 h.length ≤ (1000000000 : Nat) ∧
 [ruE h, bif decide ((↑l.length : Int) ≤ (200 : Int)) then (0 : Int) else (8 : Int)].length ≤ (1000 : Nat) ∧
 bif firstE [ruE h, bif decide ((↑l.length : Int) ≤ (200 : Int)) then (0 : Int) else (8 : Int)] != (0 : Int) then
 K
 (AV.tup
 [TV.agg [SV.int IntKind.i64 (0 : Int), SV.bool false, SV.bool false, SV.bool false, SV.nil],
 TV.one (SV.int IntKind.i64 (0 : Int)),
 TV.one
 (SV.int IntKind.i64
 (firstE [ruE h, bif decide ((↑l.length : Int) ≤ (200 : Int)) then (0 : Int) else (8 : Int)]))])
 []
 else
 (l.length ≤ (1000 : Nat) ∧
 (↑l.length : Int) = (↑l.length : Int) ∧ (0 : Int) ≤ (0 : Int) ∧ (0 : Int) ≤ (↑l.length : Int)) ∧
 bif (rpG h (-1 : Int) false false false [] (0 : Int) l).e == (0 : Int) then
 (∀ (q : Nat) (a' : List Int),
 q ≤ a'.length ∧ List.take q a' = (rpG h (-1 : Int) false false false [] (0 : Int) l).a →
 K
 (AV.tup
 [TV.agg
 [SV.int IntKind.i64 (rpG h (-1 : Int) false false false [] (0 : Int) l).p,
 SV.bool (rpG h (-1 : Int) false false false [] (0 : Int) l).b0,
 SV.bool (rpG h (-1 : Int) false false false [] (0 : Int) l).b1,
 SV.bool (rpG h (-1 : Int) false false false [] (0 : Int) l).b2,
 SV.sub (0 : Nat) (1 : Nat) (0 : Nat) q],
 TV.one (SV.int IntKind.i64 (0 : Int)), TV.one (SV.int IntKind.i64 (0 : Int))])
 [Blk.row (3 : TypeId) (Row.ints IntKind.i64 a')]) ∧
 K
 (AV.tup
 [TV.agg
 [SV.int IntKind.i64 (rpG h (-1 : Int) false false false [] (0 : Int) l).p,
 SV.bool (rpG h (-1 : Int) false false false [] (0 : Int) l).b0,
 SV.bool (rpG h (-1 : Int) false false false [] (0 : Int) l).b1,
 SV.bool (rpG h (-1 : Int) false false false [] (0 : Int) l).b2, SV.own (0 : Nat) (1 : Nat)],
 TV.one (SV.int IntKind.i64 (0 : Int)), TV.one (SV.int IntKind.i64 (0 : Int))])
 [Blk.row (3 : TypeId) (Row.ints IntKind.i64 (rpG h (-1 : Int) false false false [] (0 : Int) l).a)] ∧
 ((rpG h (-1 : Int) false false false [] (0 : Int) l).a = [] →
 K
 (AV.tup
 [TV.agg
 [SV.int IntKind.i64 (rpG h (-1 : Int) false false false [] (0 : Int) l).p,
 SV.bool (rpG h (-1 : Int) false false false [] (0 : Int) l).b0,
 SV.bool (rpG h (-1 : Int) false false false [] (0 : Int) l).b1,
 SV.bool (rpG h (-1 : Int) false false false [] (0 : Int) l).b2, SV.nil],
 TV.one (SV.int IntKind.i64 (0 : Int)), TV.one (SV.int IntKind.i64 (0 : Int))])
 [])
 else
 ∀ (b : Blk) (rest : List Blk),
 K
 (AV.tup
 [TV.agg [SV.int IntKind.i64 (0 : Int), SV.bool false, SV.bool false, SV.bool false, SV.nil],
 TV.one (SV.int IntKind.i64 (rpG h (-1 : Int) false false false [] (0 : Int) l).i),
 TV.one (SV.int IntKind.i64 (rpG h (-1 : Int) false false false [] (0 : Int) l).e)])
 []) := by kernel_rfl
theorem exrpyl0a (l : List (List Int)) (n i : Int) (h : List Int) (p : Int) (b0 b1 b2 : Bool) (K : Ex → List AV → List Blk → Prop) : evBody Erpy (lb Tryd.f89 0) [4, 8, 26, 27, 28] [4, 5, 6, 8] [.one (.ptr 0 1 0 0), .one (.ptr 1 1 0 0), .one (.data (.mat .i64 2 l)), .one (.int .i64 n), .one (.int .i64 i)] [.cells [.int .i64 0, .bool false, .bool false, .bool false, .nil], .cells [.data (.ints .i64 h), .int .i64 p, .bool b0, .bool b1, .bool b2, .nil]] K = (
 bif decide (i < n) then
 bif decide ((0 : Int) ≤ i) && decide (i < (↑l.length : Int)) then
 bif decide ((1 : Nat) < (2 : Nat)) && decide (i.toNat < l.length) then
 bif
 prE h p b0 b1 b2 (0 : Nat) ((l.getD i.toNat []).getD (0 : Nat) (0 : Int))
 ((l.getD i.toNat []).getD (1 : Nat) (0 : Int)) ==
 (0 : Int) then
 bif (l.getD i.toNat []).getD (0 : Nat) (0 : Int) == (2 : Int) then
 K Ex.normal
 [AV.one (SV.ptr (0 : Nat) (1 : Nat) (0 : Nat) (0 : Nat)),
 AV.one (SV.ptr (1 : Nat) (1 : Nat) (0 : Nat) (0 : Nat)),
 AV.one (SV.data (Row.mat IntKind.i64 (2 : Nat) l)), AV.one (SV.int IntKind.i64 n),
 AV.one (SV.int IntKind.i64 (IntKind.i64.wrap (i + (1 : Int))))]
 [Blk.cells [SV.int IntKind.i64 (0 : Int), SV.bool false, SV.bool false, SV.bool false, SV.nil],
 Blk.cells
 [SV.data (Row.ints IntKind.i64 h), SV.int IntKind.i64 (-1 : Int), SV.bool false, SV.bool false,
 SV.bool false, SV.own (2 : Nat) (1 : Nat)],
 Blk.row (3 : TypeId) (Row.ints IntKind.i64 [(l.getD i.toNat []).getD (1 : Nat) (0 : Int)])]
 else
 K Ex.normal
 [AV.one (SV.ptr (0 : Nat) (1 : Nat) (0 : Nat) (0 : Nat)),
 AV.one (SV.ptr (1 : Nat) (1 : Nat) (0 : Nat) (0 : Nat)),
 AV.one (SV.data (Row.mat IntKind.i64 (2 : Nat) l)), AV.one (SV.int IntKind.i64 n),
 AV.one (SV.int IntKind.i64 (IntKind.i64.wrap (i + (1 : Int))))]
 [Blk.cells [SV.int IntKind.i64 (0 : Int), SV.bool false, SV.bool false, SV.bool false, SV.nil],
 Blk.cells
 [SV.data (Row.ints IntKind.i64 h),
 SV.int IntKind.i64
 (nxP p ((l.getD i.toNat []).getD (0 : Nat) (0 : Int))
 ((l.getD i.toNat []).getD (1 : Nat) (0 : Int))),
 SV.bool
 (nxB (0 : Int) b0 ((l.getD i.toNat []).getD (0 : Nat) (0 : Int))
 ((l.getD i.toNat []).getD (1 : Nat) (0 : Int))),
 SV.bool
 (nxB (1 : Int) b1 ((l.getD i.toNat []).getD (0 : Nat) (0 : Int))
 ((l.getD i.toNat []).getD (1 : Nat) (0 : Int))),
 SV.bool
 (nxB (2 : Int) b2 ((l.getD i.toNat []).getD (0 : Nat) (0 : Int))
 ((l.getD i.toNat []).getD (1 : Nat) (0 : Int))),
 SV.nil]]
 else
 bif
 prE h p b0 b1 b2 (0 : Nat) ((l.getD i.toNat []).getD (0 : Nat) (0 : Int))
 ((l.getD i.toNat []).getD (1 : Nat) (0 : Int)) !=
 (0 : Int) then
 K Ex.ret
 [AV.one (SV.ptr (0 : Nat) (1 : Nat) (0 : Nat) (0 : Nat)), AV.one (SV.int IntKind.i64 i),
 AV.one
 (SV.int IntKind.i64
 (prE h p b0 b1 b2 (0 : Nat) ((l.getD i.toNat []).getD (0 : Nat) (0 : Int))
 ((l.getD i.toNat []).getD (1 : Nat) (0 : Int)))),
 AV.one (SV.ptr (1 : Nat) (1 : Nat) (0 : Nat) (0 : Nat))]
 [Blk.cells [SV.int IntKind.i64 (0 : Int), SV.bool false, SV.bool false, SV.bool false, SV.nil],
 Blk.cells
 [SV.data (Row.ints IntKind.i64 h), SV.int IntKind.i64 p, SV.bool b0, SV.bool b1, SV.bool b2, SV.nil]]
 else
 K Ex.normal
 [AV.one (SV.ptr (0 : Nat) (1 : Nat) (0 : Nat) (0 : Nat)),
 AV.one (SV.ptr (1 : Nat) (1 : Nat) (0 : Nat) (0 : Nat)),
 AV.one (SV.data (Row.mat IntKind.i64 (2 : Nat) l)), AV.one (SV.int IntKind.i64 n),
 AV.one (SV.int IntKind.i64 (IntKind.i64.wrap (i + (1 : Int))))]
 [Blk.cells [SV.int IntKind.i64 (0 : Int), SV.bool false, SV.bool false, SV.bool false, SV.nil],
 Blk.cells
 [SV.data (Row.ints IntKind.i64 h), SV.int IntKind.i64 p, SV.bool b0, SV.bool b1, SV.bool b2, SV.nil]]
 else False
 else False
 else
 K (Ex.exit (0 : Nat))
 [AV.one (SV.ptr (0 : Nat) (1 : Nat) (0 : Nat) (0 : Nat)), AV.any, AV.any,
 AV.one (SV.ptr (1 : Nat) (1 : Nat) (0 : Nat) (0 : Nat))]
 [Blk.cells [SV.int IntKind.i64 (0 : Int), SV.bool false, SV.bool false, SV.bool false, SV.nil],
 Blk.cells [SV.data (Row.ints IntKind.i64 h), SV.int IntKind.i64 p, SV.bool b0, SV.bool b1, SV.bool b2, SV.nil]]) := by kernel_rfl
theorem exrpyl0b (l : List (List Int)) (n i : Int) (h : List Int) (p : Int) (b0 b1 b2 : Bool) (a : List Int) (K : Ex → List AV → List Blk → Prop) : evBody Erpy (lb Tryd.f89 0) [4, 8, 26, 27, 28] [4, 5, 6, 8] [.one (.ptr 0 1 0 0), .one (.ptr 1 1 0 0), .one (.data (.mat .i64 2 l)), .one (.int .i64 n), .one (.int .i64 i)] [.cells [.int .i64 0, .bool false, .bool false, .bool false, .nil], .cells [.data (.ints .i64 h), .int .i64 p, .bool b0, .bool b1, .bool b2, .own 2 1], .row 3 (.ints .i64 a)] K = (
 bif decide (i < n) then
 bif decide ((0 : Int) ≤ i) && decide (i < (↑l.length : Int)) then
 bif decide ((1 : Nat) < (2 : Nat)) && decide (i.toNat < l.length) then
 a.length ≤ (1000000 : Nat) ∧
 bif
 prE h p b0 b1 b2 a.length ((l.getD i.toNat []).getD (0 : Nat) (0 : Int))
 ((l.getD i.toNat []).getD (1 : Nat) (0 : Int)) ==
 (0 : Int) then
 bif (l.getD i.toNat []).getD (0 : Nat) (0 : Int) == (2 : Int) then
 K Ex.normal
 [AV.one (SV.ptr (0 : Nat) (1 : Nat) (0 : Nat) (0 : Nat)),
 AV.one (SV.ptr (1 : Nat) (1 : Nat) (0 : Nat) (0 : Nat)),
 AV.one (SV.data (Row.mat IntKind.i64 (2 : Nat) l)), AV.one (SV.int IntKind.i64 n),
 AV.one (SV.int IntKind.i64 (IntKind.i64.wrap (i + (1 : Int))))]
 [Blk.cells [SV.int IntKind.i64 (0 : Int), SV.bool false, SV.bool false, SV.bool false, SV.nil],
 Blk.cells
 [SV.data (Row.ints IntKind.i64 h), SV.int IntKind.i64 (-1 : Int), SV.bool false, SV.bool false,
 SV.bool false, SV.own (2 : Nat) (1 : Nat)],
 Blk.row (3 : TypeId) (Row.ints IntKind.i64 (a ++ [(l.getD i.toNat []).getD (1 : Nat) (0 : Int)]))]
 else
 bif (l.getD i.toNat []).getD (0 : Nat) (0 : Int) == (3 : Int) then
 K Ex.normal
 [AV.one (SV.ptr (0 : Nat) (1 : Nat) (0 : Nat) (0 : Nat)),
 AV.one (SV.ptr (1 : Nat) (1 : Nat) (0 : Nat) (0 : Nat)),
 AV.one (SV.data (Row.mat IntKind.i64 (2 : Nat) l)), AV.one (SV.int IntKind.i64 n),
 AV.one (SV.int IntKind.i64 (IntKind.i64.wrap (i + (1 : Int))))]
 [Blk.cells [SV.int IntKind.i64 (0 : Int), SV.bool false, SV.bool false, SV.bool false, SV.nil],
 Blk.cells
 [SV.data (Row.ints IntKind.i64 h), SV.int IntKind.i64 (-1 : Int), SV.bool false, SV.bool false,
 SV.bool false, SV.sub (2 : Nat) (1 : Nat) (0 : Nat) (a.length - (1 : Nat))],
 Blk.row (3 : TypeId) (Row.ints IntKind.i64 a)]
 else
 K Ex.normal
 [AV.one (SV.ptr (0 : Nat) (1 : Nat) (0 : Nat) (0 : Nat)),
 AV.one (SV.ptr (1 : Nat) (1 : Nat) (0 : Nat) (0 : Nat)),
 AV.one (SV.data (Row.mat IntKind.i64 (2 : Nat) l)), AV.one (SV.int IntKind.i64 n),
 AV.one (SV.int IntKind.i64 (IntKind.i64.wrap (i + (1 : Int))))]
 [Blk.cells [SV.int IntKind.i64 (0 : Int), SV.bool false, SV.bool false, SV.bool false, SV.nil],
 Blk.cells
 [SV.data (Row.ints IntKind.i64 h),
 SV.int IntKind.i64
 (nxP p ((l.getD i.toNat []).getD (0 : Nat) (0 : Int))
 ((l.getD i.toNat []).getD (1 : Nat) (0 : Int))),
 SV.bool
 (nxB (0 : Int) b0 ((l.getD i.toNat []).getD (0 : Nat) (0 : Int))
 ((l.getD i.toNat []).getD (1 : Nat) (0 : Int))),
 SV.bool
 (nxB (1 : Int) b1 ((l.getD i.toNat []).getD (0 : Nat) (0 : Int))
 ((l.getD i.toNat []).getD (1 : Nat) (0 : Int))),
 SV.bool
 (nxB (2 : Int) b2 ((l.getD i.toNat []).getD (0 : Nat) (0 : Int))
 ((l.getD i.toNat []).getD (1 : Nat) (0 : Int))),
 SV.own (2 : Nat) (1 : Nat)],
 Blk.row (3 : TypeId) (Row.ints IntKind.i64 a)]
 else
 bif
 prE h p b0 b1 b2 a.length ((l.getD i.toNat []).getD (0 : Nat) (0 : Int))
 ((l.getD i.toNat []).getD (1 : Nat) (0 : Int)) !=
 (0 : Int) then
 K Ex.ret
 [AV.one (SV.ptr (0 : Nat) (1 : Nat) (0 : Nat) (0 : Nat)), AV.one (SV.int IntKind.i64 i),
 AV.one
 (SV.int IntKind.i64
 (prE h p b0 b1 b2 a.length ((l.getD i.toNat []).getD (0 : Nat) (0 : Int))
 ((l.getD i.toNat []).getD (1 : Nat) (0 : Int)))),
 AV.one (SV.ptr (1 : Nat) (1 : Nat) (0 : Nat) (0 : Nat))]
 [Blk.cells [SV.int IntKind.i64 (0 : Int), SV.bool false, SV.bool false, SV.bool false, SV.nil],
 Blk.cells
 [SV.data (Row.ints IntKind.i64 h), SV.int IntKind.i64 p, SV.bool b0, SV.bool b1, SV.bool b2,
 SV.own (2 : Nat) (1 : Nat)],
 Blk.row (3 : TypeId) (Row.ints IntKind.i64 a)]
 else
 K Ex.normal
 [AV.one (SV.ptr (0 : Nat) (1 : Nat) (0 : Nat) (0 : Nat)),
 AV.one (SV.ptr (1 : Nat) (1 : Nat) (0 : Nat) (0 : Nat)),
 AV.one (SV.data (Row.mat IntKind.i64 (2 : Nat) l)), AV.one (SV.int IntKind.i64 n),
 AV.one (SV.int IntKind.i64 (IntKind.i64.wrap (i + (1 : Int))))]
 [Blk.cells [SV.int IntKind.i64 (0 : Int), SV.bool false, SV.bool false, SV.bool false, SV.nil],
 Blk.cells
 [SV.data (Row.ints IntKind.i64 h), SV.int IntKind.i64 p, SV.bool b0, SV.bool b1, SV.bool b2,
 SV.own (2 : Nat) (1 : Nat)],
 Blk.row (3 : TypeId) (Row.ints IntKind.i64 a)]
 else False
 else False
 else
 K (Ex.exit (0 : Nat))
 [AV.one (SV.ptr (0 : Nat) (1 : Nat) (0 : Nat) (0 : Nat)), AV.any, AV.any,
 AV.one (SV.ptr (1 : Nat) (1 : Nat) (0 : Nat) (0 : Nat))]
 [Blk.cells [SV.int IntKind.i64 (0 : Int), SV.bool false, SV.bool false, SV.bool false, SV.nil],
 Blk.cells
 [SV.data (Row.ints IntKind.i64 h), SV.int IntKind.i64 p, SV.bool b0, SV.bool b1, SV.bool b2,
 SV.own (2 : Nat) (1 : Nat)],
 Blk.row (3 : TypeId) (Row.ints IntKind.i64 a)]) := by kernel_rfl
theorem exrpyl0c (l : List (List Int)) (n i : Int) (h : List Int) (p : Int) (b0 b1 b2 : Bool) (m : Nat) (a : List Int) (K : Ex → List AV → List Blk → Prop) : evBody Erpy (lb Tryd.f89 0) [4, 8, 26, 27, 28] [4, 5, 6, 8] [.one (.ptr 0 1 0 0), .one (.ptr 1 1 0 0), .one (.data (.mat .i64 2 l)), .one (.int .i64 n), .one (.int .i64 i)] [.cells [.int .i64 0, .bool false, .bool false, .bool false, .nil], .cells [.data (.ints .i64 h), .int .i64 p, .bool b0, .bool b1, .bool b2, .sub 2 1 0 m], .row 3 (.ints .i64 a)] K = (
 bif decide (i < n) then
 bif decide ((0 : Int) ≤ i) && decide (i < (↑l.length : Int)) then
 bif decide ((1 : Nat) < (2 : Nat)) && decide (i.toNat < l.length) then
 (m ≤ a.length ∧ a.length ≤ (1000000 : Nat)) ∧
 bif
 prE h p b0 b1 b2 m ((l.getD i.toNat []).getD (0 : Nat) (0 : Int))
 ((l.getD i.toNat []).getD (1 : Nat) (0 : Int)) ==
 (0 : Int) then
 bif (l.getD i.toNat []).getD (0 : Nat) (0 : Int) == (2 : Int) then
 K Ex.normal
 [AV.one (SV.ptr (0 : Nat) (1 : Nat) (0 : Nat) (0 : Nat)),
 AV.one (SV.ptr (1 : Nat) (1 : Nat) (0 : Nat) (0 : Nat)),
 AV.one (SV.data (Row.mat IntKind.i64 (2 : Nat) l)), AV.one (SV.int IntKind.i64 n),
 AV.one (SV.int IntKind.i64 (IntKind.i64.wrap (i + (1 : Int))))]
 [Blk.cells [SV.int IntKind.i64 (0 : Int), SV.bool false, SV.bool false, SV.bool false, SV.nil],
 Blk.cells
 [SV.data (Row.ints IntKind.i64 h), SV.int IntKind.i64 (-1 : Int), SV.bool false, SV.bool false,
 SV.bool false, SV.own (2 : Nat) (1 : Nat)],
 Blk.row (3 : TypeId)
 (Row.ints IntKind.i64 (List.take m a ++ [(l.getD i.toNat []).getD (1 : Nat) (0 : Int)]))]
 else
 bif (l.getD i.toNat []).getD (0 : Nat) (0 : Int) == (3 : Int) then
 K Ex.normal
 [AV.one (SV.ptr (0 : Nat) (1 : Nat) (0 : Nat) (0 : Nat)),
 AV.one (SV.ptr (1 : Nat) (1 : Nat) (0 : Nat) (0 : Nat)),
 AV.one (SV.data (Row.mat IntKind.i64 (2 : Nat) l)), AV.one (SV.int IntKind.i64 n),
 AV.one (SV.int IntKind.i64 (IntKind.i64.wrap (i + (1 : Int))))]
 [Blk.cells [SV.int IntKind.i64 (0 : Int), SV.bool false, SV.bool false, SV.bool false, SV.nil],
 Blk.cells
 [SV.data (Row.ints IntKind.i64 h), SV.int IntKind.i64 (-1 : Int), SV.bool false, SV.bool false,
 SV.bool false, SV.sub (2 : Nat) (1 : Nat) (0 : Nat) (m - (1 : Nat))],
 Blk.row (3 : TypeId) (Row.ints IntKind.i64 a)]
 else
 K Ex.normal
 [AV.one (SV.ptr (0 : Nat) (1 : Nat) (0 : Nat) (0 : Nat)),
 AV.one (SV.ptr (1 : Nat) (1 : Nat) (0 : Nat) (0 : Nat)),
 AV.one (SV.data (Row.mat IntKind.i64 (2 : Nat) l)), AV.one (SV.int IntKind.i64 n),
 AV.one (SV.int IntKind.i64 (IntKind.i64.wrap (i + (1 : Int))))]
 [Blk.cells [SV.int IntKind.i64 (0 : Int), SV.bool false, SV.bool false, SV.bool false, SV.nil],
 Blk.cells
 [SV.data (Row.ints IntKind.i64 h),
 SV.int IntKind.i64
 (nxP p ((l.getD i.toNat []).getD (0 : Nat) (0 : Int))
 ((l.getD i.toNat []).getD (1 : Nat) (0 : Int))),
 SV.bool
 (nxB (0 : Int) b0 ((l.getD i.toNat []).getD (0 : Nat) (0 : Int))
 ((l.getD i.toNat []).getD (1 : Nat) (0 : Int))),
 SV.bool
 (nxB (1 : Int) b1 ((l.getD i.toNat []).getD (0 : Nat) (0 : Int))
 ((l.getD i.toNat []).getD (1 : Nat) (0 : Int))),
 SV.bool
 (nxB (2 : Int) b2 ((l.getD i.toNat []).getD (0 : Nat) (0 : Int))
 ((l.getD i.toNat []).getD (1 : Nat) (0 : Int))),
 SV.sub (2 : Nat) (1 : Nat) (0 : Nat) m],
 Blk.row (3 : TypeId) (Row.ints IntKind.i64 a)]
 else
 bif
 prE h p b0 b1 b2 m ((l.getD i.toNat []).getD (0 : Nat) (0 : Int))
 ((l.getD i.toNat []).getD (1 : Nat) (0 : Int)) !=
 (0 : Int) then
 K Ex.ret
 [AV.one (SV.ptr (0 : Nat) (1 : Nat) (0 : Nat) (0 : Nat)), AV.one (SV.int IntKind.i64 i),
 AV.one
 (SV.int IntKind.i64
 (prE h p b0 b1 b2 m ((l.getD i.toNat []).getD (0 : Nat) (0 : Int))
 ((l.getD i.toNat []).getD (1 : Nat) (0 : Int)))),
 AV.one (SV.ptr (1 : Nat) (1 : Nat) (0 : Nat) (0 : Nat))]
 [Blk.cells [SV.int IntKind.i64 (0 : Int), SV.bool false, SV.bool false, SV.bool false, SV.nil],
 Blk.cells
 [SV.data (Row.ints IntKind.i64 h), SV.int IntKind.i64 p, SV.bool b0, SV.bool b1, SV.bool b2,
 SV.sub (2 : Nat) (1 : Nat) (0 : Nat) m],
 Blk.row (3 : TypeId) (Row.ints IntKind.i64 a)]
 else
 K Ex.normal
 [AV.one (SV.ptr (0 : Nat) (1 : Nat) (0 : Nat) (0 : Nat)),
 AV.one (SV.ptr (1 : Nat) (1 : Nat) (0 : Nat) (0 : Nat)),
 AV.one (SV.data (Row.mat IntKind.i64 (2 : Nat) l)), AV.one (SV.int IntKind.i64 n),
 AV.one (SV.int IntKind.i64 (IntKind.i64.wrap (i + (1 : Int))))]
 [Blk.cells [SV.int IntKind.i64 (0 : Int), SV.bool false, SV.bool false, SV.bool false, SV.nil],
 Blk.cells
 [SV.data (Row.ints IntKind.i64 h), SV.int IntKind.i64 p, SV.bool b0, SV.bool b1, SV.bool b2,
 SV.sub (2 : Nat) (1 : Nat) (0 : Nat) m],
 Blk.row (3 : TypeId) (Row.ints IntKind.i64 a)]
 else False
 else False
 else
 K (Ex.exit (0 : Nat))
 [AV.one (SV.ptr (0 : Nat) (1 : Nat) (0 : Nat) (0 : Nat)), AV.any, AV.any,
 AV.one (SV.ptr (1 : Nat) (1 : Nat) (0 : Nat) (0 : Nat))]
 [Blk.cells [SV.int IntKind.i64 (0 : Int), SV.bool false, SV.bool false, SV.bool false, SV.nil],
 Blk.cells
 [SV.data (Row.ints IntKind.i64 h), SV.int IntKind.i64 p, SV.bool b0, SV.bool b1, SV.bool b2,
 SV.sub (2 : Nat) (1 : Nat) (0 : Nat) m],
 Blk.row (3 : TypeId) (Row.ints IntKind.i64 a)]) := by kernel_rfl
theorem exrrp (h : List Int) (l : List (List Int)) (K : AV → List Blk → Prop) : evFn Errp Tryd.f92 [.agg [.data (.ints .i64 h)], .one (.data (.mat .i64 2 l))] [] K = (
 bif decide ((↑l.length : Int) > (200 : Int)) then
 K
 (AV.tup
 [TV.agg [SV.int IntKind.i64 (0 : Int), SV.bool false, SV.bool false, SV.bool false, SV.nil],
 TV.one (SV.int IntKind.i64 (0 : Int)), TV.one (SV.int IntKind.i64 (8 : Int))])
 []
 else
 (l.length ≤ (1000 : Nat) ∧
 h.length ≤ (1000000 : Nat) ∧ (0 : Int) ≤ (0 : Int) ∧ (0 : Int) ≤ (↑l.length : Int) ∧ (0 : Nat) ≤ h.length) ∧
 bif (rpG h (-1 : Int) false false false [] (0 : Int) l).e == (0 : Int) then
 K
 (AV.tup
 [TV.agg
 [SV.int IntKind.i64 (rpG h (-1 : Int) false false false [] (0 : Int) l).p,
 SV.bool (rpG h (-1 : Int) false false false [] (0 : Int) l).b0,
 SV.bool (rpG h (-1 : Int) false false false [] (0 : Int) l).b1,
 SV.bool (rpG h (-1 : Int) false false false [] (0 : Int) l).b2,
 SV.data (Row.ints IntKind.i64 (rpG h (-1 : Int) false false false [] (0 : Int) l).a)],
 TV.one (SV.int IntKind.i64 (0 : Int)), TV.one (SV.int IntKind.i64 (0 : Int))])
 []
 else
 ∀ (b : Blk),
 K
 (AV.tup
 [TV.agg [SV.int IntKind.i64 (0 : Int), SV.bool false, SV.bool false, SV.bool false, SV.nil],
 TV.one (SV.int IntKind.i64 (rpG h (-1 : Int) false false false [] (0 : Int) l).i),
 TV.one (SV.int IntKind.i64 (rpG h (-1 : Int) false false false [] (0 : Int) l).e)])
 []) := by kernel_rfl
theorem exrrpl0a (l : List (List Int)) (i : Int) (h : List Int) (p : Int) (b0 b1 b2 : Bool) (a : List Int) (K : Ex → List AV → List Blk → Prop) : evBody Errp (lb Tryd.f92 0) [1, 2, 4, 7, 8] [4, 5, 6, 7] [.one (.data (.mat .i64 2 l)), .one (.ptr 0 1 0 0), .one (.ptr 1 1 0 0), .one (.ptr 2 1 0 0), .one (.int .i64 i)] [.cells [.data (.ints .i64 h)], .cells [.int .i64 0, .bool false, .bool false, .bool false, .nil], .cells [.int .i64 p, .bool b0, .bool b1, .bool b2, .data (.ints .i64 a)]] K = (
 bif decide (i < (↑l.length : Int)) then
 bif decide ((0 : Int) ≤ i) && decide (i < (↑l.length : Int)) then
 bif decide ((1 : Nat) < (2 : Nat)) && decide (i.toNat < l.length) then
 ((a.length ≤ h.length ∧ h.length ≤ (1000000 : Nat)) ∧
 bif
 prE h p b0 b1 b2 a.length ((l.getD i.toNat []).getD (0 : Nat) (0 : Int))
 ((l.getD i.toNat []).getD (1 : Nat) (0 : Int)) !=
 (0 : Int) then
 K Ex.ret
 [AV.one (SV.ptr (0 : Nat) (1 : Nat) (0 : Nat) (0 : Nat)), AV.one (SV.int IntKind.i64 i),
 AV.one
 (SV.int IntKind.i64
 (prE h p b0 b1 b2 a.length ((l.getD i.toNat []).getD (0 : Nat) (0 : Int))
 ((l.getD i.toNat []).getD (1 : Nat) (0 : Int)))),
 AV.one (SV.ptr (1 : Nat) (1 : Nat) (0 : Nat) (0 : Nat))]
 [Blk.cells [SV.int IntKind.i64 (0 : Int), SV.bool false, SV.bool false, SV.bool false, SV.nil],
 Blk.cells [SV.int IntKind.i64 p, SV.bool b0, SV.bool b1, SV.bool b2, SV.data (Row.ints IntKind.i64 a)]]
 else
 K Ex.normal
 [AV.one (SV.data (Row.mat IntKind.i64 (2 : Nat) l)),
 AV.one (SV.ptr (0 : Nat) (1 : Nat) (0 : Nat) (0 : Nat)),
 AV.one (SV.ptr (1 : Nat) (1 : Nat) (0 : Nat) (0 : Nat)),
 AV.one (SV.ptr (2 : Nat) (1 : Nat) (0 : Nat) (0 : Nat)),
 AV.one (SV.int IntKind.i64 (IntKind.i64.wrap (i + (1 : Int))))]
 [Blk.cells [SV.data (Row.ints IntKind.i64 h)],
 Blk.cells [SV.int IntKind.i64 (0 : Int), SV.bool false, SV.bool false, SV.bool false, SV.nil],
 Blk.cells
 [SV.int IntKind.i64
 (aoP
 (prE h p b0 b1 b2 a.length ((l.getD i.toNat []).getD (0 : Nat) (0 : Int))
 ((l.getD i.toNat []).getD (1 : Nat) (0 : Int)))
 p ((l.getD i.toNat []).getD (0 : Nat) (0 : Int))
 ((l.getD i.toNat []).getD (1 : Nat) (0 : Int))),
 SV.bool
 (aoB
 (prE h p b0 b1 b2 a.length ((l.getD i.toNat []).getD (0 : Nat) (0 : Int))
 ((l.getD i.toNat []).getD (1 : Nat) (0 : Int)))
 (0 : Int) b0 ((l.getD i.toNat []).getD (0 : Nat) (0 : Int))
 ((l.getD i.toNat []).getD (1 : Nat) (0 : Int))),
 SV.bool
 (aoB
 (prE h p b0 b1 b2 a.length ((l.getD i.toNat []).getD (0 : Nat) (0 : Int))
 ((l.getD i.toNat []).getD (1 : Nat) (0 : Int)))
 (1 : Int) b1 ((l.getD i.toNat []).getD (0 : Nat) (0 : Int))
 ((l.getD i.toNat []).getD (1 : Nat) (0 : Int))),
 SV.bool
 (aoB
 (prE h p b0 b1 b2 a.length ((l.getD i.toNat []).getD (0 : Nat) (0 : Int))
 ((l.getD i.toNat []).getD (1 : Nat) (0 : Int)))
 (2 : Int) b2 ((l.getD i.toNat []).getD (0 : Nat) (0 : Int))
 ((l.getD i.toNat []).getD (1 : Nat) (0 : Int))),
 SV.data
 (Row.ints IntKind.i64
 (aoA
 (prE h p b0 b1 b2 a.length ((l.getD i.toNat []).getD (0 : Nat) (0 : Int))
 ((l.getD i.toNat []).getD (1 : Nat) (0 : Int)))
 a ((l.getD i.toNat []).getD (0 : Nat) (0 : Int))
 ((l.getD i.toNat []).getD (1 : Nat) (0 : Int))))]]) ∧
 (a.length ≤ h.length ∧ h.length ≤ (1000000 : Nat)) ∧
 bif
 prE h p b0 b1 b2 a.length ((l.getD i.toNat []).getD (0 : Nat) (0 : Int))
 ((l.getD i.toNat []).getD (1 : Nat) (0 : Int)) !=
 (0 : Int) then
 K Ex.ret
 [AV.one (SV.ptr (0 : Nat) (1 : Nat) (0 : Nat) (0 : Nat)), AV.one (SV.int IntKind.i64 i),
 AV.one
 (SV.int IntKind.i64
 (prE h p b0 b1 b2 a.length ((l.getD i.toNat []).getD (0 : Nat) (0 : Int))
 ((l.getD i.toNat []).getD (1 : Nat) (0 : Int)))),
 AV.one (SV.ptr (1 : Nat) (1 : Nat) (0 : Nat) (0 : Nat))]
 [Blk.cells [SV.int IntKind.i64 (0 : Int), SV.bool false, SV.bool false, SV.bool false, SV.nil],
 Blk.cells [SV.int IntKind.i64 p, SV.bool b0, SV.bool b1, SV.bool b2, SV.data (Row.ints IntKind.i64 a)]]
 else
 K Ex.normal
 [AV.one (SV.data (Row.mat IntKind.i64 (2 : Nat) l)),
 AV.one (SV.ptr (0 : Nat) (1 : Nat) (0 : Nat) (0 : Nat)),
 AV.one (SV.ptr (1 : Nat) (1 : Nat) (0 : Nat) (0 : Nat)),
 AV.one (SV.ptr (2 : Nat) (1 : Nat) (0 : Nat) (0 : Nat)),
 AV.one (SV.int IntKind.i64 (IntKind.i64.wrap (i + (1 : Int))))]
 [Blk.cells [SV.data (Row.ints IntKind.i64 h)],
 Blk.cells [SV.int IntKind.i64 (0 : Int), SV.bool false, SV.bool false, SV.bool false, SV.nil],
 Blk.cells
 [SV.int IntKind.i64
 (aoP
 (prE h p b0 b1 b2 a.length ((l.getD i.toNat []).getD (0 : Nat) (0 : Int))
 ((l.getD i.toNat []).getD (1 : Nat) (0 : Int)))
 p ((l.getD i.toNat []).getD (0 : Nat) (0 : Int))
 ((l.getD i.toNat []).getD (1 : Nat) (0 : Int))),
 SV.bool
 (aoB
 (prE h p b0 b1 b2 a.length ((l.getD i.toNat []).getD (0 : Nat) (0 : Int))
 ((l.getD i.toNat []).getD (1 : Nat) (0 : Int)))
 (0 : Int) b0 ((l.getD i.toNat []).getD (0 : Nat) (0 : Int))
 ((l.getD i.toNat []).getD (1 : Nat) (0 : Int))),
 SV.bool
 (aoB
 (prE h p b0 b1 b2 a.length ((l.getD i.toNat []).getD (0 : Nat) (0 : Int))
 ((l.getD i.toNat []).getD (1 : Nat) (0 : Int)))
 (1 : Int) b1 ((l.getD i.toNat []).getD (0 : Nat) (0 : Int))
 ((l.getD i.toNat []).getD (1 : Nat) (0 : Int))),
 SV.bool
 (aoB
 (prE h p b0 b1 b2 a.length ((l.getD i.toNat []).getD (0 : Nat) (0 : Int))
 ((l.getD i.toNat []).getD (1 : Nat) (0 : Int)))
 (2 : Int) b2 ((l.getD i.toNat []).getD (0 : Nat) (0 : Int))
 ((l.getD i.toNat []).getD (1 : Nat) (0 : Int))),
 SV.data
 (Row.ints IntKind.i64
 (aoA
 (prE h p b0 b1 b2 a.length ((l.getD i.toNat []).getD (0 : Nat) (0 : Int))
 ((l.getD i.toNat []).getD (1 : Nat) (0 : Int)))
 a ((l.getD i.toNat []).getD (0 : Nat) (0 : Int))
 ((l.getD i.toNat []).getD (1 : Nat) (0 : Int))))]]
 else False
 else False
 else
 K (Ex.exit (0 : Nat))
 [AV.one (SV.ptr (0 : Nat) (1 : Nat) (0 : Nat) (0 : Nat)), AV.any, AV.any,
 AV.one (SV.ptr (1 : Nat) (1 : Nat) (0 : Nat) (0 : Nat))]
 [Blk.cells [SV.int IntKind.i64 (0 : Int), SV.bool false, SV.bool false, SV.bool false, SV.nil],
 Blk.cells [SV.int IntKind.i64 p, SV.bool b0, SV.bool b1, SV.bool b2, SV.data (Row.ints IntKind.i64 a)]]) := by kernel_rfl
end Go.Ev

namespace Go.Ev
open Go Go.Proofs
attribute [local irreducible] evFn evBody evRound

set_option maxRecDepth 20000

theorem okevt : SpecOK Tryd.prog 97 evES := by
  refine specOK (n := 20) (m := 0) (lps := []) (.cons ok25 .nil) Tryd.func97 (by kernel_rfl) (by kernel_rfl) (noLoops (by kernel_rfl)) fun args σ K h => ?_
  unfold evES at h
  split at h
  rotate_right
  · exact h.elim
  rename_i k n
  rw [exevt k n K]
  unfold evE withinG at h
  rcases k_cases k with (rfl | rfl | rfl | rfl) | hk
  · generalize (decide ((0 : Int) ≤ n) && decide (n ≤ 2)) = w at *
    cases w <;> exact h
  · have e : (decide ((0 : Int) ≤ n) && decide (n ≤ 0)) = (n == 0) := by
      by_cases h0 : n = 0
      · subst h0; rfl
      · rw [beq_ff h0]
        by_cases h1 : 0 ≤ n
        · rw [decide_eq_false (show ¬ n ≤ 0 by omega), Bool.and_false]
        · rw [decide_eq_false h1]; rfl
    rw [e]
    generalize (n == 0) = w at *
    cases w <;> exact h
  · generalize (decide ((0 : Int) ≤ n) && decide (n ≤ 1)) = w at *
    cases w <;> exact h
  · have e : (decide ((0 : Int) ≤ n) && decide (n ≤ 0)) = (n == 0) := by
      by_cases h0 : n = 0
      · subst h0; rfl
      · rw [beq_ff h0]
        by_cases h1 : 0 ≤ n
        · rw [decide_eq_false (show ¬ n ≤ 0 by omega), Bool.and_false]
        · rw [decide_eq_false h1]; rfl
    rw [e]
    generalize (n == 0) = w at *
    cases w <;> exact h
  · unfold withinG at hk
    rw [hk] at h ⊢; exact h
theorem okcp2 : SpecOK Tryd.prog 65 cp2S := by
  refine specOK (n := 8) (m := 0) (lps := []) (.cons ok35 .nil) Tryd.func65 (by kernel_rfl) (by kernel_rfl) (noLoops (by kernel_rfl)) fun args σ K h => ?_
  unfold cp2S at h
  split at h
  rotate_right
  · exact h.elim
  rename_i p b0 b1 b2 a
  rw [excp2 p b0 b1 b2 a K]; exact h
theorem bne_not (a b : Int) : (a != b) = !(a == b) := rfl
theorem okapl : SpecOK Tryd.prog 90 apl0S := by
  refine specOK (n := 29) (m := 0) (lps := []) (.cons okopn (.cons okprc .nil)) Tryd.func90 (by kernel_rfl) (by kernel_rfl) (noLoops (by kernel_rfl)) fun args σ K h => ?_
  unfold apl0S at h
  split at h
  rotate_right
  · exact h.elim
  rename_i hs p b0 b1 b2 a k n
  rw [exapl hs p b0 b1 b2 a k n K]
  obtain ⟨⟨h1, h2⟩, h⟩ := h
  refine ⟨⟨h1, h2⟩, ?_⟩
  unfold apE at h
  rw [boE_op] at h
  simp only [bne_not]
  cases ho : opE hs p == 0 with
  | false =>
    rw [ho, cond_false, ho, cond_false, ho] at h
    exact h
  | true =>
    rw [ho, cond_true] at h
    cases hs2 : stE2 hs p b0 b1 b2 a == 0 with
    | false =>
      rw [hs2, cond_false, hs2] at h
      exact And.intro h (fun _ => h)
    | true =>
      rw [hs2, cond_true] at h
      cases he : prE hs p b0 b1 b2 a.length k n == 0 with
      | true =>
        rw [he] at h
        refine And.intro (And.intro h2 h.1) (fun ha => ?_)
        have h3 := h.2 ha
        subst ha
        rw [List.length_nil] at he
        rw [he]
        exact h3
      | false =>
        rw [he] at h
        refine And.intro (And.intro h2 h) (fun ha => ?_)
        subst ha
        rw [List.length_nil] at he h
        rw [he]
        exact h
theorem nx_ans {p n : Int} {k : Int} (hk : k = 2) : nxP p k n = -1 ∧ ∀ j b, nxB j b k n = false := by subst hk; exact ⟨rfl, fun _ _ => rfl⟩
theorem okaplD : SpecOK Tryd.prog 90 aplS := by
  refine okapl.froze fun args σ K h => ?_
  unfold aplS at h
  split at h
  rotate_right
  · exact h.elim
  rename_i hs p b0 b1 b2 a k n
  obtain ⟨h1, h⟩ := h
  refine ⟨rfl, h1, ?_⟩
  unfold aoP aoB aoA at h
  cases he : apE hs p b0 b1 b2 a k n == 0 with
  | true =>
    rw [he] at h
    have h : K (.tup [.agg [.int .i64 (nxP p k n), .bool (nxB 0 b0 k n), .bool (nxB 1 b1 k n), .bool (nxB 2 b2 k n), .data (.ints .i64 (nxA a k n))], .one (.int .i64 (apE hs p b0 b1 b2 a k n))]) [] := h
    rw [eq_of_beq he] at h
    refine And.intro ?_ (fun ha => ?_)
    · cases h2 : k == 2 with
      | true =>
        have := eq_of_beq h2
        subst this
        refine ⟨_, ?_, h⟩
        exact ⟨⟨rfl, rfl, rfl, rfl, ⟨_, _, rfl, rfl, rfl⟩, trivial⟩, rfl, trivial⟩
      | false =>
        cases h3 : k == 3 with
        | true =>
          have := eq_of_beq h3
          subst this
          refine ⟨_, ?_, h⟩
          exact ⟨⟨rfl, rfl, rfl, rfl, ⟨_, _, rfl, rfl, (by show 0 + (a.length - 1) ≤ a.length; omega), rfl⟩, trivial⟩, rfl, trivial⟩
        | false =>
          unfold nxA at h
          rw [h2, h3] at h
          refine ⟨_, ?_, h⟩
          exact ⟨⟨rfl, rfl, rfl, rfl, ⟨_, _, rfl, rfl, rfl⟩, trivial⟩, rfl, trivial⟩
    · subst ha
      cases h2 : k == 2 with
      | true =>
        have := eq_of_beq h2
        subst this
        refine ⟨_, ?_, h⟩
        exact ⟨⟨rfl, rfl, rfl, rfl, ⟨_, _, rfl, rfl, rfl⟩, trivial⟩, rfl, trivial⟩
      | false =>
        have e : nxA [] k n = [] := by
          unfold nxA
          rw [h2]
          cases k == 3 <;> rfl
        rw [e] at h
        refine ⟨_, ?_, h⟩
        exact ⟨⟨rfl, rfl, rfl, rfl, .inr ⟨_, rfl, rfl⟩, trivial⟩, rfl, trivial⟩
  | false =>
    rw [he] at h
    refine ⟨_, ?_, h⟩
    exact ⟨⟨rfl, rfl, rfl, rfl, .inr ⟨.ints .i64 [], rfl, rfl⟩, trivial⟩, rfl, trivial⟩
theorem okrap : SpecOK Tryd.prog 94 rap0S := by
  refine specOK (n := 88) (m := 0) (lps := []) (.cons okevt (.cons okcp2 .nil)) Tryd.func94 (by kernel_rfl) (by kernel_rfl) (noLoops (by kernel_rfl)) fun args σ K h => ?_
  unfold rap0S at h
  split at h
  rotate_right
  · exact h.elim
  rename_i hs p b0 b1 b2 a k n
  rw [exrap hs p b0 b1 b2 a k n K]
  obtain ⟨⟨h1, h2⟩, h⟩ := h
  have hd : ((a.length : Int) == (hs.length : Int)) = decide ((a.length : Int) ≥ hs.length) := by
    by_cases hx : (a.length : Int) = hs.length
    · rw [hx, decide_eq_true (Int.le_refl _), beq_self_eq_true]
    · rw [beq_ff hx, decide_eq_false (by omega)]
  rw [hd, bne_not]
  have hz : decide ((a ++ [n]).length * 8 ≤ 140737488355328 ∧ (a ++ [n]).length ≤ 140737488355328) = true := by
    rw [List.length_append, List.length_singleton]; exact decide_eq_true (by omega)
  rw [hz]
  cases hev : evE k n == 0 with
  | false =>
    have e0 : prE hs p b0 b1 b2 a.length k n = evE k n := by unfold prE; rw [hev]; rfl
    rw [e0, hev] at h
    exact h
  | true =>
    refine And.intro (by omega) ?_
    rcases k_cases k with (rfl | rfl | rfl | rfl) | hk
    · have hw : withinG n 0 2 = true := by
        cases hw : withinG n 0 2 with
        | true => rfl
        | false => unfold evE at hev; rw [hw] at hev; exact hev
      rw [prE_play hw] at h
      unfold withinG at hw
      rw [Bool.and_eq_true, decide_eq_true_eq, decide_eq_true_eq] at hw
      unfold plE nxP nxB at h
      generalize decide ((a.length : Int) ≥ (hs.length : Int)) = c at *
      generalize (p == n) = q at *
      rcases (show n = 0 ∨ n = 1 ∨ n = 2 by omega) with rfl | rfl | rfl
      all_goals (cases c <;> cases q <;> cases b0 <;> cases b1 <;> cases b2 <;> exact h)
    · have hn : (n == 0) = true := by
        cases hn : n == 0 with
        | true => rfl
        | false => unfold evE at hev; rw [hn] at hev; exact hev
      rw [prE_stop hn] at h
      unfold nxP nxB at h
      generalize (p == -1) = q at *
      cases q <;> exact h
    · have hw : withinG n 0 1 = true := by
        cases hw : withinG n 0 1 with
        | true => rfl
        | false => unfold evE at hev; rw [hw] at hev; exact hev
      rw [prE_ans hw] at h
      unfold asE at h
      generalize decide ((a.length : Int) ≥ (hs.length : Int)) = c at *
      cases c <;> cases b0 <;> cases b1 <;> cases b2 <;> exact h
    · have hn : (n == 0) = true := by
        cases hn : n == 0 with
        | true => rfl
        | false => unfold evE at hev; rw [hn] at hev; exact hev
      rw [prE_rep hn] at h
      unfold reE at h
      by_cases h0 : a.length = 0
      · rw [decide_eq_false (show ¬ (a.length : Int) > 0 by omega)] at h
        rw [h0]
        exact h
      · rw [decide_eq_true (show (a.length : Int) > 0 by omega)] at h
        rw [beq_ff (show (a.length : Int) ≠ 0 by omega), wrap_len a.length (by omega) (by omega)]
        have hz : (decide ((0 : Int) ≤ ((a.length - 1 : Nat) : Int)) && (decide (((a.length - 1 : Nat) : Int).toNat ≤ a.length) && decide ((0 : Nat) ≤ ((a.length - 1 : Nat) : Int).toNat))) = true := by
          rw [decide_eq_true (by omega), decide_eq_true (by omega), decide_eq_true (by omega)]; rfl
        rw [hz]
        try rw [bne_not]
        generalize (p == -1) = q at *
        cases q <;> exact h
    · unfold evE at hev
      rw [hk] at hev
      exact absurd (show ((15 : Int) == 0) = true from hev) (by decide)
theorem okrap2 : SpecOK Tryd.prog 94 rapS := by
  refine okrap.froze fun args σ K h => ?_
  unfold rapS at h
  split at h
  rotate_right
  · exact h.elim
  rename_i hs p b0 b1 b2 a k n
  obtain ⟨h1, h⟩ := h
  refine ⟨rfl, h1, ?_⟩
  unfold aoP aoB aoA at h
  cases he : prE hs p b0 b1 b2 a.length k n == 0 with
  | true =>
    rw [he] at h
    have h : K (.tup [.agg [.int .i64 (nxP p k n), .bool (nxB 0 b0 k n), .bool (nxB 1 b1 k n), .bool (nxB 2 b2 k n), .data (.ints .i64 (nxA a k n))], .one (.int .i64 (prE hs p b0 b1 b2 a.length k n))]) [] := h
    rw [eq_of_beq he] at h
    cases h2 : k == 2 with
    | true =>
      have := eq_of_beq h2
      subst this
      refine ⟨_, ?_, h⟩
      exact ⟨⟨rfl, rfl, rfl, rfl, ⟨_, _, rfl, rfl, rfl⟩, trivial⟩, rfl, trivial⟩
    | false =>
      cases h3 : k == 3 with
      | true =>
        have := eq_of_beq h3
        subst this
        refine ⟨_, ?_, h⟩
        exact ⟨⟨rfl, rfl, rfl, rfl, ⟨_, _, rfl, rfl, (by show 0 + (a.length - 1) ≤ a.length; omega), rfl⟩, trivial⟩, rfl, trivial⟩
      | false =>
        unfold nxA at h
        rw [h2, h3] at h
        refine ⟨_, ?_, h⟩
        exact ⟨⟨rfl, rfl, rfl, rfl, ⟨_, _, rfl, rfl, rfl⟩, trivial⟩, rfl, trivial⟩
  | false =>
    rw [he] at h
    refine ⟨_, ?_, h⟩
    exact ⟨⟨rfl, rfl, rfl, rfl, .inr ⟨.ints .i64 [], rfl, rfl⟩, trivial⟩, rfl, trivial⟩
theorem okrbg2 : SpecOK Tryd.prog 69 rbeg2S := by
  refine okrbg.froze fun args σ K h => ?_
  unfold rbeg2S at h
  split at h
  rotate_right
  · exact h.elim
  refine ⟨rfl, _, ?_, h⟩
  exact ⟨rfl, rfl, rfl, rfl, .inr ⟨_, rfl, rfl⟩, trivial⟩
theorem okcpv : SpecOK Tryd.prog 91 cpvS := by
  refine specOK (n := 6) (m := 0) (lps := []) .nil Tryd.func91 (by kernel_rfl) (by kernel_rfl) (noLoops (by kernel_rfl)) fun args σ K h => ?_
  unfold cpvS at h
  split at h
  rotate_right
  · exact h.elim
  rename_i l
  rw [excpv l K]
  obtain ⟨h1, h⟩ := h
  rw [decide_eq_true (show l.length * 16 ≤ 140737488355328 ∧ l.length ≤ 140737488355328 by omega)]
  exact h
theorem okcpvD : SpecOK Tryd.prog 91 cpvDS := by
  refine okcpv.froze fun args σ K h => ?_
  unfold cpvDS at h
  split at h
  rotate_right
  · exact h.elim
  refine ⟨rfl, h.1, _, ?_, h.2⟩
  exact ⟨_, _, rfl, rfl, rfl⟩
theorem rpG_step {hs : List Int} {p : Int} {b0 b1 b2 : Bool} {a : List Int} {l : List (List Int)} {i : Int} (hi : i.toNat < l.length) (h0 : 0 ≤ i) :
    rpG hs p b0 b1 b2 a i (l.drop i.toNat) = bif prE hs p b0 b1 b2 a.length ((l.getD i.toNat []).getD 0 0) ((l.getD i.toNat []).getD 1 0) == 0 then
      rpG hs (nxP p ((l.getD i.toNat []).getD 0 0) ((l.getD i.toNat []).getD 1 0)) (nxB 0 b0 ((l.getD i.toNat []).getD 0 0) ((l.getD i.toNat []).getD 1 0)) (nxB 1 b1 ((l.getD i.toNat []).getD 0 0) ((l.getD i.toNat []).getD 1 0)) (nxB 2 b2 ((l.getD i.toNat []).getD 0 0) ((l.getD i.toNat []).getD 1 0)) (nxA a ((l.getD i.toNat []).getD 0 0) ((l.getD i.toNat []).getD 1 0)) (i + 1) (l.drop (i + 1).toNat)
      else ⟨0, false, false, false, [], i, prE hs p b0 b1 b2 a.length ((l.getD i.toNat []).getD 0 0) ((l.getD i.toNat []).getD 1 0)⟩ := by
  rw [drop_step [] hi, show (i + 1).toNat = i.toNat + 1 by omega]
  rfl
theorem rpG_nil (hs : List Int) (p : Int) (b0 b1 b2 : Bool) (a : List Int) (i : Int) : rpG hs p b0 b1 b2 a i [] = ⟨p, b0, b1, b2, a, 0, 0⟩ := rfl
theorem nxA_oth {a : List Int} {k n : Int} (h2 : (k == 2) = false) (h3 : (k == 3) = false) : nxA a k n = a := by unfold nxA; rw [h2, h3]; rfl
theorem nxA_nil {k n : Int} (h2 : (k == 2) = false) : nxA [] k n = [] := by unfold nxA; rw [h2]; cases k == 3 <;> rfl
theorem take_pred {a : List Int} {m : Nat} (hm : m ≤ a.length) : nxA (a.take m) 3 0 = a.take (m - 1) := by
  show (a.take m).take ((a.take m).length - 1) = a.take (m - 1)
  rw [List.length_take, Nat.min_eq_left hm, List.take_take, Nat.min_eq_left (by omega)]
theorem lokrpy_0 : LoopOK Erpy (lb Tryd.f89 0) [4, 8, 26, 27, 28] [4, 5, 6, 8] repL := by
  refine loopOK (.cons okcru (.cons ok70 (.cons ok69 (.cons okbgn (.cons okprc .nil))))) (noInner (by kernel_rfl)) (fun vs σ => match vs, σ with
    | [.one (.ptr 0 1 0 0), .one (.ptr 1 1 0 0), .one (.data (.mat .i64 2 _)), .one (.int .i64 n), .one (.int .i64 i)], [.cells [.int .i64 0, .bool false, .bool false, .bool false, .nil], .cells [.data (.ints .i64 _), .int .i64 _, .bool _, .bool _, .bool _, .nil]] => (n - i).toNat
    | [.one (.ptr 0 1 0 0), .one (.ptr 1 1 0 0), .one (.data (.mat .i64 2 _)), .one (.int .i64 n), .one (.int .i64 i)], [.cells [.int .i64 0, .bool false, .bool false, .bool false, .nil], .cells [.data (.ints .i64 _), .int .i64 _, .bool _, .bool _, .bool _, .own 2 1], .row 3 (.ints .i64 _)] => (n - i).toNat
    | [.one (.ptr 0 1 0 0), .one (.ptr 1 1 0 0), .one (.data (.mat .i64 2 _)), .one (.int .i64 n), .one (.int .i64 i)], [.cells [.int .i64 0, .bool false, .bool false, .bool false, .nil], .cells [.data (.ints .i64 _), .int .i64 _, .bool _, .bool _, .bool _, .sub 2 1 0 _], .row 3 (.ints .i64 _)] => (n - i).toNat
    | _, _ => 0) fun vs σ k h => ?_
  unfold repL at h
  split at h
  rotate_right
  · exact h.elim
  · rename_i l n i hs p b0 b1 b2
    rw [exrpyl0a l n i hs p b0 b1 b2 _]
    obtain ⟨⟨h1, rfl, h3, h4⟩, h⟩ := h
    by_cases hi : i < (l.length : Int)
    · have hw : IntKind.i64.wrap (i + 1) = i + 1 := wrap_id (by omega) (by omega)
      have hmu : ((l.length : Int) - (i + 1)).toNat < ((l.length : Int) - i).toNat := by omega
      have hi' : i.toNat < l.length := by omega
      rw [rpG_step hi' h3, List.length_nil] at h
      rw [decide_eq_true hi, decide_eq_true h3, decide_eq_true hi', hw]
      generalize (l.getD i.toNat []).getD 0 0 = k at *
      generalize (l.getD i.toNat []).getD 1 0 = n at *
      rw [bne_not]
      cases he : prE hs p b0 b1 b2 0 k n == 0 with
      | true =>
        simp only [he, cond_true] at h
        cases h2 : k == 2 with
        | true =>
          have := eq_of_beq h2
          subst this
          exact ⟨⟨⟨h1, rfl, by omega, by omega, by show ((1 : Nat) : Int) ≤ i + 1; omega⟩, h⟩, hmu⟩
        | false =>
          rw [nxA_nil h2] at h
          exact ⟨⟨⟨h1, rfl, by omega, by omega⟩, h⟩, hmu⟩
      | false =>
        simp only [he, cond_false] at h
        exact h _ _
    · rw [decide_eq_false hi]
      rw [List.drop_eq_nil_of_le (show l.length ≤ i.toNat by omega)] at h
      exact h.2.2 rfl
  · rename_i l n i hs p b0 b1 b2 a
    rw [exrpyl0b l n i hs p b0 b1 b2 a _]
    obtain ⟨⟨h1, rfl, h3, h4, h5⟩, h⟩ := h
    by_cases hi : i < (l.length : Int)
    · have hw : IntKind.i64.wrap (i + 1) = i + 1 := wrap_id (by omega) (by omega)
      have hmu : ((l.length : Int) - (i + 1)).toNat < ((l.length : Int) - i).toNat := by omega
      have hi' : i.toNat < l.length := by omega
      rw [rpG_step hi' h3] at h
      rw [decide_eq_true hi, decide_eq_true h3, decide_eq_true hi', hw]
      generalize (l.getD i.toNat []).getD 0 0 = k at *
      generalize (l.getD i.toNat []).getD 1 0 = n at *
      rw [bne_not]
      refine And.intro (by omega) ?_
      cases he : prE hs p b0 b1 b2 a.length k n == 0 with
      | true =>
        simp only [he, cond_true] at h
        cases h2 : k == 2 with
        | true =>
          have := eq_of_beq h2
          subst this
          exact ⟨⟨⟨h1, rfl, by omega, by omega, by rw [List.length_append, List.length_singleton]; omega⟩, h⟩, hmu⟩
        | false =>
          cases h3' : k == 3 with
          | true =>
            have := eq_of_beq h3'
            subst this
            exact ⟨⟨⟨h1, rfl, by omega, by omega, by omega, by omega⟩, h⟩, hmu⟩
          | false =>
            rw [nxA_oth h2 h3'] at h
            exact ⟨⟨⟨h1, rfl, by omega, by omega, by omega⟩, h⟩, hmu⟩
      | false =>
        simp only [he, cond_false] at h
        exact h _ _
    · rw [decide_eq_false hi]
      rw [List.drop_eq_nil_of_le (show l.length ≤ i.toNat by omega)] at h
      exact h.2.1
  · rename_i l n i hs p b0 b1 b2 m a
    rw [exrpyl0c l n i hs p b0 b1 b2 m a _]
    obtain ⟨⟨h1, rfl, h3, h4, h5, h6⟩, h⟩ := h
    by_cases hi : i < (l.length : Int)
    · have hw : IntKind.i64.wrap (i + 1) = i + 1 := wrap_id (by omega) (by omega)
      have hmu : ((l.length : Int) - (i + 1)).toNat < ((l.length : Int) - i).toNat := by omega
      have hi' : i.toNat < l.length := by omega
      rw [rpG_step hi' h3, show (a.take m).length = m by rw [List.length_take, Nat.min_eq_left h6]] at h
      rw [decide_eq_true hi, decide_eq_true h3, decide_eq_true hi', hw]
      generalize (l.getD i.toNat []).getD 0 0 = k at *
      generalize (l.getD i.toNat []).getD 1 0 = n at *
      rw [bne_not]
      refine And.intro ⟨h6, by omega⟩ ?_
      cases he : prE hs p b0 b1 b2 m k n == 0 with
      | true =>
        simp only [he, cond_true] at h
        cases h2 : k == 2 with
        | true =>
          have := eq_of_beq h2
          subst this
          exact ⟨⟨⟨h1, rfl, by omega, by omega, by rw [List.length_append, List.length_singleton, List.length_take, Nat.min_eq_left h6]; omega⟩, h⟩, hmu⟩
        | false =>
          cases h3' : k == 3 with
          | true =>
            have := eq_of_beq h3'
            subst this
            have e : nxA (a.take m) 3 n = a.take (m - 1) := take_pred h6
            rw [e] at h
            exact ⟨⟨⟨h1, rfl, by omega, by omega, by omega, by omega⟩, h⟩, hmu⟩
          | false =>
            rw [nxA_oth h2 h3'] at h
            exact ⟨⟨⟨h1, rfl, by omega, by omega, by omega, h6⟩, h⟩, hmu⟩
      | false =>
        simp only [he, cond_false] at h
        exact h _ _
    · rw [decide_eq_false hi]
      rw [List.drop_eq_nil_of_le (show l.length ≤ i.toNat by omega)] at h
      exact h.1 m a ⟨h6, rfl⟩
theorem okrpy : SpecOK Tryd.prog 89 rep0S := by
  refine specOK (n := 46) (m := 0) (lps := [(6, .spec [4, 8, 26, 27, 28] [4, 5, 6, 8] repL)]) (.cons okcru (.cons ok70 (.cons ok69 (.cons okbgn (.cons okprc .nil))))) Tryd.func89 (by kernel_rfl) (by kernel_rfl) (theLoops (n := 1) (by kernel_rfl) fun i hi => ?_) fun args σ K h => ?_
  · match i, hi with
    | 0, _ => exact loopHyp_of (key := 6) (by kernel_rfl) rfl lokrpy_0
  unfold rep0S at h
  split at h
  rotate_right
  · exact h.elim
  rename_i hs l
  rw [exrpy hs l K]
  obtain ⟨⟨h1, h2⟩, h⟩ := h
  refine And.intro h1 (And.intro (len2 _ _) ?_)
  have e : firstE [ruE hs, bif decide ((l.length : Int) ≤ 200) then 0 else 8] = rpE hs l := by
    unfold rpE firstE
    by_cases hr : ruE hs = 0
    · rw [hr]
      cases decide ((l.length : Int) ≤ 200) <;> rfl
    · rw [beq_ff hr]; rfl
  rw [e, bne_not]
  cases hq : rpE hs l == 0 with
  | false => rw [hq] at h; exact h
  | true =>
    rw [hq] at h
    refine And.intro ⟨h2, rfl, by decide, by omega⟩ ?_
    generalize rpG hs (-1) false false false [] 0 l = r at *
    cases hz : r.e == 0 with
    | true =>
      rw [hz] at h
      exact h
    | false =>
      rw [hz] at h
      exact fun _ _ => h
theorem okrepD : SpecOK Tryd.prog 89 repDS := by
  refine okrpy.froze fun args σ K h => ?_
  unfold repDS at h
  split at h
  rotate_right
  · exact h.elim
  rename_i hs l
  obtain ⟨h1, h⟩ := h
  refine ⟨rfl, h1, ?_⟩
  unfold rpR at h
  cases hq : rpE hs l == 0 with
  | false =>
    rw [hq] at h
    refine ⟨_, ?_, h⟩
    exact ⟨⟨rfl, rfl, rfl, rfl, .inr ⟨.ints .i64 [], rfl, rfl⟩, trivial⟩, rfl, rfl, trivial⟩
  | true =>
    rw [hq] at h
    simp only [cond_true] at h
    have hz0 : ∀ r : Rp, rpG hs (-1) false false false [] 0 l = r → (r.e == 0) = false → r = ⟨0, false, false, false, [], r.i, r.e⟩ := by
      have key : ∀ (l : List (List Int)) (p : Int) (b0 b1 b2 : Bool) (a : List Int) (i : Int), ((rpG hs p b0 b1 b2 a i l).e == 0) = false → rpG hs p b0 b1 b2 a i l = ⟨0, false, false, false, [], (rpG hs p b0 b1 b2 a i l).i, (rpG hs p b0 b1 b2 a i l).e⟩ := by
        intro l
        induction l with
        | nil => intro p b0 b1 b2 a i hx; exact absurd (show ((0 : Int) == 0) = false from hx) (by decide)
        | cons x l ih =>
          intro p b0 b1 b2 a i hx
          simp only [rpG] at hx ⊢
          cases he : prE hs p b0 b1 b2 a.length (x.getD 0 0) (x.getD 1 0) == 0 with
          | true => simp only [he, cond_true] at hx ⊢; exact ih _ _ _ _ _ _ hx
          | false => rfl
      intro r hr hx
      subst hr
      exact key _ _ _ _ _ _ _ hx
    have hi0 : ∀ r : Rp, rpG hs (-1) false false false [] 0 l = r → (r.e == 0) = true → r.i = 0 := by
      have key : ∀ (l : List (List Int)) (p : Int) (b0 b1 b2 : Bool) (a : List Int) (i : Int), ((rpG hs p b0 b1 b2 a i l).e == 0) = true → (rpG hs p b0 b1 b2 a i l).i = 0 := by
        intro l
        induction l with
        | nil => intro p b0 b1 b2 a i hx; rfl
        | cons x l ih =>
          intro p b0 b1 b2 a i hx
          simp only [rpG] at hx ⊢
          cases he : prE hs p b0 b1 b2 a.length (x.getD 0 0) (x.getD 1 0) == 0 with
          | true => simp only [he, cond_true] at hx ⊢; exact ih _ _ _ _ _ _ hx
          | false => simp only [he, cond_false] at hx; cases hx
      intro r hr hx
      subst hr
      exact key _ _ _ _ _ _ _ hx
    generalize hr : rpG hs (-1) false false false [] 0 l = r at *
    cases hz : r.e == 0 with
    | true =>
      have e1 := hi0 r rfl hz
      have e2 := eq_of_beq hz
      rw [e1, e2] at h
      refine And.intro ?_ (And.intro ?_ ?_)
      · rintro m a ⟨hm, ha⟩
        rw [← ha] at h
        refine ⟨_, ?_, h⟩
        exact ⟨⟨rfl, rfl, rfl, rfl, ⟨_, _, rfl, rfl, (by show 0 + m ≤ a.length; omega), rfl⟩, trivial⟩, rfl, rfl, trivial⟩
      · refine ⟨_, ?_, h⟩
        exact ⟨⟨rfl, rfl, rfl, rfl, ⟨_, _, rfl, rfl, rfl⟩, trivial⟩, rfl, rfl, trivial⟩
      · intro ha
        rw [ha] at h
        refine ⟨_, ?_, h⟩
        exact ⟨⟨rfl, rfl, rfl, rfl, .inr ⟨_, rfl, rfl⟩, trivial⟩, rfl, rfl, trivial⟩
    | false =>
      have e1 := hz0 r rfl hz
      rw [e1] at h
      refine ⟨_, ?_, h⟩
      exact ⟨⟨rfl, rfl, rfl, rfl, .inr ⟨.ints .i64 [], rfl, rfl⟩, trivial⟩, rfl, rfl, trivial⟩
theorem nxA_len {h : List Int} {p : Int} {b0 b1 b2 : Bool} {a : List Int} {k n : Int} (hl : a.length ≤ h.length) (he : (prE h p b0 b1 b2 a.length k n == 0) = true) : (nxA a k n).length ≤ h.length := by
  unfold nxA
  cases h2 : k == 2 with
  | true =>
    have := eq_of_beq h2
    subst this
    rw [cond_true, List.length_append, List.length_singleton]
    cases hw : withinG n 0 1 with
    | false => rw [prE_ans0 hw] at he; exact absurd he (by decide)
    | true =>
      rw [prE_ans hw] at he
      unfold asE at he
      by_cases hx : (a.length : Int) ≥ h.length
      · rw [decide_eq_true hx] at he; exact absurd (show ((21 : Int) == 0) = true from he) (by decide)
      · omega
  | false =>
    rw [cond_false]
    cases h3 : k == 3 with
    | true => rw [cond_true, List.length_take]; omega
    | false => exact hl
theorem lokrrp_0 : LoopOK Errp (lb Tryd.f92 0) [1, 2, 4, 7, 8] [4, 5, 6, 7] rrpL := by
  refine loopOK (.cons okrbg2 (.cons okrap2 .nil)) (noInner (by kernel_rfl)) (fun vs σ => match vs, σ with
    | [.one (.data (.mat .i64 2 l)), .one (.ptr 0 1 0 0), .one (.ptr 1 1 0 0), .one (.ptr 2 1 0 0), .one (.int .i64 i)], [.cells [.data (.ints .i64 _)], .cells [.int .i64 0, .bool false, .bool false, .bool false, .nil], .cells [.int .i64 _, .bool _, .bool _, .bool _, .data (.ints .i64 _)]] => (l.length - i).toNat
    | _, _ => 0) fun vs σ k h => ?_
  unfold rrpL at h
  split at h
  rotate_right
  · exact h.elim
  · rename_i l i hs p b0 b1 b2 a
    rw [exrrpl0a l i hs p b0 b1 b2 a _]
    obtain ⟨⟨h1, h2, h3, h4, h5⟩, h⟩ := h
    by_cases hi : i < (l.length : Int)
    · have hw : IntKind.i64.wrap (i + 1) = i + 1 := wrap_id (by omega) (by omega)
      have hmu : ((l.length : Int) - (i + 1)).toNat < ((l.length : Int) - i).toNat := by omega
      have hi' : i.toNat < l.length := by omega
      rw [rpG_step hi' h3] at h
      rw [decide_eq_true hi, decide_eq_true h3, decide_eq_true hi', hw]
      generalize (l.getD i.toNat []).getD 0 0 = k at *
      generalize (l.getD i.toNat []).getD 1 0 = n at *
      rw [bne_not]
      unfold aoP aoB aoA
      have hn := @nxA_len hs p b0 b1 b2 a k n h5
      refine And.intro (And.intro ⟨h5, h2⟩ ?_) ?_
      · cases he : prE hs p b0 b1 b2 a.length k n == 0 with
        | true =>
          simp only [he, cond_true] at h
          exact ⟨⟨⟨h1, h2, by omega, by omega, hn he⟩, h⟩, hmu⟩
        | false =>
          simp only [he, cond_false] at h
          exact h _
      · refine And.intro ⟨h5, h2⟩ ?_
        cases he : prE hs p b0 b1 b2 a.length k n == 0 with
        | true =>
          simp only [he, cond_true] at h
          exact ⟨⟨⟨h1, h2, by omega, by omega, hn he⟩, h⟩, hmu⟩
        | false =>
          simp only [he, cond_false] at h
          exact h _
    · rw [decide_eq_false hi]
      rw [List.drop_eq_nil_of_le (show l.length ≤ i.toNat by omega)] at h
      exact h
theorem okrrp : SpecOK Tryd.prog 92 rrp0S := by
  refine specOK (n := 40) (m := 0) (lps := [(5, .spec [1, 2, 4, 7, 8] [4, 5, 6, 7] rrpL)]) (.cons okrbg2 (.cons okrap2 .nil)) Tryd.func92 (by kernel_rfl) (by kernel_rfl) (theLoops (n := 1) (by kernel_rfl) fun i hi => ?_) fun args σ K h => ?_
  · match i, hi with
    | 0, _ => exact loopHyp_of (key := 5) (by kernel_rfl) rfl lokrrp_0
  unfold rrp0S at h
  split at h
  rotate_right
  · exact h.elim
  rename_i hs l
  rw [exrrp hs l K]
  obtain ⟨⟨h1, h2⟩, h⟩ := h
  unfold rrpE at h
  by_cases hl : (l.length : Int) > 200
  · rw [decide_eq_true hl] at h ⊢; exact h
  · rw [decide_eq_false hl] at h ⊢
    refine And.intro ⟨h2, h1, by decide, by omega, Nat.zero_le _⟩ ?_
    replace h : cond ((rpG hs (-1) false false false [] 0 l).e == 0) _ _ := h
    generalize rpG hs (-1) false false false [] 0 l = r at *
    cases hz : r.e == 0 with
    | true => rw [hz] at h; exact h
    | false => rw [hz] at h; exact fun _ => h
end Go.Ev
