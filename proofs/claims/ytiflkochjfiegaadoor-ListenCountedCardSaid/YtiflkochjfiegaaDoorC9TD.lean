/-
  Chapter 9, contracts: tests, outcomes, chances.
-/
import Derived.Test.YtiflkochjfiegaaDoorC9G
import Derived.Test.YtiflkochjfiegaaDoorC9T
import Derived.Test.YtiflkochjfiegaaDoorEvCut2
import Derived.KernelRfl
import Derived.Test.YtiflkochjfiegaaDoorC9H
import Derived.Test.YtiflkochjfiegaaDoorC9S
set_option linter.unusedVariables false
set_option linter.unusedSimpArgs false
set_option linter.unusedSectionVars false
namespace Go.Ev
open Go Go.Proofs
set_option maxRecDepth 20000

def teE (t u l : Int) : Int := bif withinG t 1 29 && (withinG u 1 t && withinG l 1 t) then 0 else 2
def teS : Spec := fun args σ K => match args, σ with
  | [.agg [.int .i64 t, .int .i64 u, .int .i64 l]], [] => K (.one (.int .i64 (teE t u l))) []
  | _, _ => False
def enK (u l d : Int) : Int := bif decide (d ≥ u) then 0 else (bif decide (-d ≥ l) then 1 else 2)
def enB (t u l i d : Int) : Bool := bif decide (d ≥ u) then true else (bif decide (-d ≥ l) then true else i == t)
def edS : Spec := fun args σ K => match args, σ with
  | [.agg [.int .i64 t, .int .i64 u, .int .i64 l], .one (.int .i64 i), .one (.int .i64 d)], [] => (-1000000 ≤ d ∧ d ≤ 1000000) ∧ K (.tup [.one (.int .i64 (enK u l d)), .one (.bool (enB t u l i d))]) []
  | _, _ => False
def boB (x : List D) : Bool := (x.getD 0 (.int 0)).toBool
/-- Outcome, answers used, error of a test from a difference on. -/
def ouG (t u l : Int) : Int → Int → List (List D) → Int × Int × Int
  | _, _, [] => (0, 0, 14)
  | d, i, x :: r => bif enB t u l (i + 1) (bif boB x then d + 1 else d - 1) then (enK u l (bif boB x then d + 1 else d - 1), i + 1, 0) else ouG t u l (bif boB x then d + 1 else d - 1) (i + 1) r
def outL : LSpec := fun vs σ k => match vs, σ with
  | [.one (.ptr 0 1 0 0), .one (.ptr 1 1 0 0), .one (.int .i64 d), .one (.data (.recs [.bool] r)), .one (.int .i64 n), .one (.int .i64 i)], [.cells [.int .i64 t, .int .i64 u, .int .i64 l], .cells [.int .i64 0, .int .i64 0]] =>
    (r.length ≤ 1000 ∧ 0 ≤ i ∧ n = r.length ∧ i ≤ n ∧ -1000 ≤ d - (n - i) ∧ d + (n - i) ≤ 1000) ∧
    bif (ouG t u l d i (r.drop i.toNat)).2.2 == 0 then k .ret [.one (.ptr 0 1 0 0), .one (.int .i64 0)] [.cells [.int .i64 (ouG t u l d i (r.drop i.toNat)).1, .int .i64 (ouG t u l d i (r.drop i.toNat)).2.1]] else k (.exit 0) [.one (.ptr 0 1 0 0), .any] [.cells [.int .i64 0, .int .i64 0]]
  | _, _ => False
def ouE (t u l : Int) (r : List (List D)) : Int := bif teE t u l == 0 then (bif decide ((r.length : Int) ≤ 200) then (ouG t u l 0 0 r).2.2 else 8) else teE t u l
def outS : Spec := fun args σ K => match args, σ with
  | [.agg [.int .i64 t, .int .i64 u, .int .i64 l], .one (.data (.recs [.bool] r))], [] => r.length ≤ 1000 ∧ K (.tup [.agg [.int .i64 (bif ouE t u l r == 0 then (ouG t u l 0 0 r).1 else 0), .int .i64 (bif ouE t u l r == 0 then (ouG t u l 0 0 r).2.1 else 0)], .one (.int .i64 (ouE t u l r))]) []
  | _, _ => False
def rouL : LSpec := fun vs σ k => match vs, σ with
  | [.one (.data (.recs [.bool] r)), .one (.ptr 0 1 0 0), .one (.ptr 1 1 0 0), .one (.int .i64 d), .one (.int .i64 i)], [.cells [.int .i64 t, .int .i64 u, .int .i64 l], .cells [.int .i64 0, .int .i64 0]] =>
    (r.length ≤ 1000 ∧ 0 ≤ i ∧ i ≤ r.length ∧ -l < d ∧ d < u ∧ 1 ≤ u ∧ u ≤ 29 ∧ 1 ≤ l ∧ l ≤ 29) ∧
    bif (ouG t u l d i (r.drop i.toNat)).2.2 == 0 then k .ret [.one (.ptr 0 1 0 0), .one (.bool true)] [.cells [.int .i64 (ouG t u l d i (r.drop i.toNat)).1, .int .i64 (ouG t u l d i (r.drop i.toNat)).2.1]] else k (.exit 0) [.one (.ptr 0 1 0 0), .any] [.cells [.int .i64 0, .int .i64 0]]
  | _, _ => False
def rouS : Spec := fun args σ K => match args, σ with
  | [.agg [.int .i64 t, .int .i64 u, .int .i64 l], .one (.data (.recs [.bool] r))], [] => (r.length ≤ 1000 ∧ teE t u l = 0) ∧ K (.tup [.agg [.int .i64 (ouG t u l 0 0 r).1, .int .i64 (ouG t u l 0 0 r).2.1], .one (.bool ((ouG t u l 0 0 r).2.2 == 0))]) []
  | _, _ => False
def cpaS : Spec := fun args σ K => match args, σ with
  | [.one (.data (.recs [.bool] r))], [] => r.length ≤ 1000000000000 ∧ K (.one (.own 0 1)) [.row 4 (.recs [.bool] r)]
  | _, _ => False
def cpaDS : Spec := fun args σ K => match args, σ with
  | [.one (.data (.recs [.bool] r))], [] => r.length ≤ 1000000000000 ∧ K (.one (.data (.recs [.bool] r))) []
  | _, _ => False

/-! ### Chances -/
/-- How many of all ways to go on so many times end with an outcome. -/
def cnt (u l k : Int) : Nat → Int → Int
  | 0, d => bif decide (d ≥ u) then (bif k == 0 then 1 else 0) else (bif decide (-d ≥ l) then (bif k == 1 then 1 else 0) else (bif k == 2 then 1 else 0))
  | m + 1, d => bif decide (d ≥ u) then (bif k == 0 then 2 ^ (m + 1) else 0) else (bif decide (-d ≥ l) then (bif k == 1 then 2 ^ (m + 1) else 0) else cnt u l k m (d + 1) + cnt u l k m (d - 1))
def kyI (x : List Int × List Int) : Int := x.1.getD 0 0
def vaI (x : List Int × List Int) : Int := x.2.getD 0 0
/-- All entries of a map, each with a weight. -/
def smM (f : Int → Int) : List (List Int × List Int) → Int
  | [] => 0
  | x :: M => vaI x * f (kyI x) + smM f M
def okM (u l : Int) (M : List (List Int × List Int)) : Prop := ∀ x ∈ M, -l < kyI x ∧ kyI x < u ∧ 0 ≤ vaI x
def okT (t u l : Int) : Prop := 1 ≤ t ∧ t ≤ 29 ∧ 1 ≤ u ∧ u ≤ t ∧ 1 ≤ l ∧ l ≤ t
def frN (n d : Int) : Int := wi (n.tdiv (gcdG n d))
def frD (n d : Int) : Int := wi (d.tdiv (gcdG n d))
def z6 : List Int := [0, 0, 0, 0, 0, 0]
/-- What the counts and the ways of a number of answers promise. -/
def okCn (t u l i : Int) (c : List Int) (M : List (List Int × List Int)) : Prop :=
  c.length = 3 ∧ okM u l M ∧ (∀ j, j < 3 → 0 ≤ c.getD j 0) ∧ c.getD 0 0 + c.getD 1 0 + c.getD 2 0 + smM (fun _ => 2 ^ (t - i).toNat) M = 2 ^ t.toNat ∧ (i = t → M = []) ∧
  ∀ j : Nat, j < 3 → c.getD j 0 + smM (cnt u l j (t - i).toNat) M = cnt u l j t.toNat 0
def chnA : LSpec := fun vs σ k => match vs, σ with
  | [.one (.ptr 0 1 0 0), .one (.ptr 1 1 0 0), .one (.ptr 2 1 0 0), .one (.ptr 3 1 0 0), .one (.mapv 4), .one (.int .i64 i)], [.cells [.int .i64 t, .int .i64 u, .int .i64 l], .row 100 (.ints .i64 a), .row 100 (.ints .i64 b), .row 109 (.ints .i64 c), .map 0 0 M] =>
    (okT t u l ∧ 1 ≤ i ∧ i ≤ t + 1 ∧ okCn t u l (i - 1) c M) ∧ k (.exit 0) [.one (.ptr 0 1 0 0), .one (.ptr 1 1 0 0), .one (.ptr 2 1 0 0), .one (.ptr 3 1 0 0)] [.cells [.int .i64 t, .int .i64 u, .int .i64 l], .row 100 (.ints .i64 a), .row 100 (.ints .i64 b), .row 109 (.ints .i64 [cnt u l 0 t.toNat 0, cnt u l 1 t.toNat 0, cnt u l 2 t.toNat 0])]
  | _, _ => False
/-- .. in the middle of a round. -/
def okRn (t u l i : Int) (c : List Int) (X R : List (List Int × List Int)) : Prop :=
  c.length = 3 ∧ okM u l X ∧ okM u l R ∧ (∀ j, j < 3 → 0 ≤ c.getD j 0) ∧ c.getD 0 0 + c.getD 1 0 + c.getD 2 0 + smM (fun _ => 2 ^ (t - i).toNat) X + smM (fun _ => 2 ^ ((t - i).toNat + 1)) R = 2 ^ t.toNat ∧ (i = t → X = []) ∧
  ∀ j : Nat, j < 3 → c.getD j 0 + smM (cnt u l j (t - i).toNat) X + smM (fun d => cnt u l j (t - i).toNat (d + 1) + cnt u l j (t - i).toNat (d - 1)) R = cnt u l j t.toNat 0
def chnB : LSpec := fun vs σ k => match vs, σ with
  | [.one (.ptr 0 1 0 0), .one (.ptr 1 1 0 0), .one (.ptr 2 1 0 0), .one (.ptr 3 1 0 0), .one (.int .i64 i), .one (.mapv 4), .one (.ptr 5 1 0 0)], [.cells [.int .i64 t, .int .i64 u, .int .i64 l], .row 100 (.ints .i64 a), .row 100 (.ints .i64 b), .row 109 (.ints .i64 c), .map 0 0 X, .iter m 0 0 R q] =>
    (okT t u l ∧ 1 ≤ i ∧ i ≤ t ∧ okRn t u l i c X R) ∧ ∀ c' X', okCn t u l i c' X' → k (.exit 2) [.one (.ptr 0 1 0 0), .one (.ptr 1 1 0 0), .one (.ptr 2 1 0 0), .one (.ptr 3 1 0 0), .one (.int .i64 i), .one (.mapv 4)] [.cells [.int .i64 t, .int .i64 u, .int .i64 l], .row 100 (.ints .i64 a), .row 100 (.ints .i64 b), .row 109 (.ints .i64 c'), .map 0 0 X']
  | _, _ => False
def chnS : Spec := fun args σ K => match args, σ with
  | [.agg [.int .i64 t, .int .i64 u, .int .i64 l]], [] => bif teE t u l == 0 then
      K (.tup [.agg [.int .i64 (frN (cnt u l 0 t.toNat 0) (2 ^ t.toNat)), .int .i64 (frD (cnt u l 0 t.toNat 0) (2 ^ t.toNat)), .int .i64 (frN (cnt u l 1 t.toNat 0) (2 ^ t.toNat)), .int .i64 (frD (cnt u l 1 t.toNat 0) (2 ^ t.toNat)), .int .i64 (frN (cnt u l 2 t.toNat 0) (2 ^ t.toNat)), .int .i64 (frD (cnt u l 2 t.toNat 0) (2 ^ t.toNat))], .one (.int .i64 0)]) []
    else K (.tup [.agg [.int .i64 0, .int .i64 0, .int .i64 0, .int .i64 0, .int .i64 0, .int .i64 0], .one (.int .i64 (teE t u l))]) []
  | _, _ => False
noncomputable abbrev Etet : Env := envOf Tryd.prog [(103, withinS), (104, unlessS)] [] 21 0
noncomputable abbrev Etre : Env := envOf Tryd.prog [(30, withinS)] [] 23 0
noncomputable abbrev Eend2 : Env := envOf Tryd.prog [] [] 23 0
noncomputable abbrev Eout : Env := envOf Tryd.prog [(77, teS), (104, unlessS), (98, firstS), (129, edS)] [(6, .spec [2, 4, 7, 24, 25, 26] [4, 5] outL)] 51 0
noncomputable abbrev Erot : Env := envOf Tryd.prog [] [(3, .spec [1, 2, 4, 6, 7] [4, 5] rouL)] 46 0
noncomputable abbrev Ecpa : Env := envOf Tryd.prog [] [] 6 0
noncomputable abbrev Echn2 : Env := envOf Tryd.prog [(77, teS), (129, edS), (102, lowS)] [(8, .spec [1, 2, 4, 6, 7, 8] [1, 2, 4, 6] chnA), (12, .spec [1, 2, 4, 6, 8, 9, 34] [1, 2, 4, 6, 8, 9] chnB), (15, .unroll 3), (24, .unroll 4)] 88 0
end Go.Ev

namespace Go.Ev
open Go Go.Proofs
set_option maxRecDepth 20000

def smW (f : Int → Int) : Int → List Int → Int
  | _, [] => 0
  | j, w :: ws => w * f j + smW f (j + 1) ws
def okW (t u l i hd nt : Int) (ws : List Int) : Prop :=
  (ws.length : Int) = l + u + 1 ∧ (∀ j, 0 ≤ ws.getD j 0) ∧ ws.getD 0 0 = 0 ∧ ws.getD (ws.length - 1) 0 = 0 ∧ 0 ≤ hd ∧ 0 ≤ nt ∧ hd + nt + smW (fun _ => 2 ^ (t - i).toNat) (-l) ws = 2 ^ t.toNat ∧
  hd + smW (cnt u l 0 (t - i).toNat) (-l) ws = cnt u l 0 t.toNat 0 ∧ nt + smW (cnt u l 1 (t - i).toNat) (-l) ws = cnt u l 1 t.toNat 0
def rchA : LSpec := fun vs σ k => match vs, σ with
  | [.one (.ptr 0 1 0 0), .one (.ptr 1 1 0 0), .one (.own 2 1), .one (.int .i64 hd), .one (.int .i64 nt), .one (.int .i64 i)], [.cells [.int .i64 t, .int .i64 u, .int .i64 l], .row 100 (.ints .i64 a), .row 3 (.ints .i64 ws)] =>
    (okT t u l ∧ 1 ≤ i ∧ i ≤ t + 1 ∧ okW t u l (i - 1) hd nt ws) ∧ k (.exit 0) [.one (.ptr 0 1 0 0), .one (.ptr 1 1 0 0), .one (.int .i64 (cnt u l 0 t.toNat 0)), .one (.int .i64 (cnt u l 1 t.toNat 0))] [.cells [.int .i64 t, .int .i64 u, .int .i64 l], .row 100 (.ints .i64 a)]
  | _, _ => False
def okV (l j : Int) (ws ns : List Int) : Prop :=
  ws.length = ns.length ∧ (∀ j, 0 ≤ ws.getD j 0) ∧ ws.getD 0 0 = 0 ∧ ws.getD (ws.length - 1) 0 = 0 ∧ (∀ j, 0 ≤ ns.getD j 0) ∧ smW (fun _ => 1) (-l) ns + 2 * smW (fun _ => 1) (-l + j) (ws.drop j.toNat) ≤ 1073741824
def rchB : LSpec := fun vs σ k => match vs, σ with
  | [.one (.ptr 0 1 0 0), .one (.ptr 1 1 0 0), .one (.own 2 1), .one (.int .i64 hd), .one (.int .i64 nt), .one (.int .i64 i), .one (.own 3 1), .one (.int .i64 j)], [.cells [.int .i64 t, .int .i64 u, .int .i64 l], .row 100 (.ints .i64 a), .row 3 (.ints .i64 ws), .row 3 (.ints .i64 ns)] =>
    (okT t u l ∧ ws.length ≤ 1000 ∧ 0 ≤ j ∧ j ≤ ws.length ∧ okV l j ws ns) ∧
    ∀ ns' : List Int, (ns'.length = ns.length ∧ (∀ j, 0 ≤ ns'.getD j 0) ∧ ∀ f : Int → Int, smW f (-l) ns' = smW f (-l) ns + smW (fun d => f (d + 1) + f (d - 1)) (-l + j) (ws.drop j.toNat)) →
      k (.exit 2) [.one (.ptr 0 1 0 0), .one (.ptr 1 1 0 0), .one (.int .i64 hd), .one (.int .i64 nt), .one (.int .i64 i), .one (.own 2 1)] [.cells [.int .i64 t, .int .i64 u, .int .i64 l], .row 100 (.ints .i64 a), .row 3 (.ints .i64 ns')]
  | _, _ => False
def rchS : Spec := fun args σ K => match args, σ with
  | [.agg [.int .i64 t, .int .i64 u, .int .i64 l]], [] => teE t u l = 0 ∧
      K (.agg [.int .i64 (frN (cnt u l 0 t.toNat 0) (2 ^ t.toNat)), .int .i64 (frD (cnt u l 0 t.toNat 0) (2 ^ t.toNat)), .int .i64 (frN (cnt u l 1 t.toNat 0) (2 ^ t.toNat)), .int .i64 (frD (cnt u l 1 t.toNat 0) (2 ^ t.toNat)), .int .i64 (frN (cnt u l 2 t.toNat 0) (2 ^ t.toNat)), .int .i64 (frD (cnt u l 2 t.toNat 0) (2 ^ t.toNat))]) []
  | _, _ => False
noncomputable abbrev Erch : Env := envOf Tryd.prog [(117, pwS), (48, lowestS)] [(5, .spec [1, 2, 3, 4, 5, 6] [1, 2, 4, 5] rchA), (9, .spec [1, 2, 3, 4, 5, 6, 7, 8] [1, 2, 4, 5, 6, 7] rchB)] 119 0
end Go.Ev

namespace Go.Ev
open Go Go.Proofs
set_option maxRecDepth 20000
set_option linter.unusedVariables false
set_option linter.unusedSimpArgs false

/-- A chance, if the test is valid. -/
def chN (t u l k : Int) : Int := bif teE t u l == 0 then frN (cnt u l k t.toNat 0) (2 ^ t.toNat) else 0
def chD (t u l k : Int) : Int := bif teE t u l == 0 then frD (cnt u l k t.toNat 0) (2 ^ t.toNat) else 0
def chn1S : Spec := fun args σ K => match args, σ with
  | [.agg [.int .i64 t, .int .i64 u, .int .i64 l]], [] => K (.tup [.agg [.int .i64 (chN t u l 0), .int .i64 (chD t u l 0), .int .i64 (chN t u l 1), .int .i64 (chD t u l 1), .int .i64 (chN t u l 2), .int .i64 (chD t u l 2)], .one (.int .i64 (teE t u l))]) []
  | _, _ => False
def rch1S : Spec := fun args σ K => match args, σ with
  | [.agg [.int .i64 t, .int .i64 u, .int .i64 l]], [] => teE t u l = 0 ∧ K (.agg [.int .i64 (chN t u l 0), .int .i64 (chD t u l 0), .int .i64 (chN t u l 1), .int .i64 (chD t u l 1), .int .i64 (chN t u l 2), .int .i64 (chD t u l 2)]) []
  | _, _ => False
def okLw (n d : Int) : Prop := divG n d ≠ 0 ∧ divG n d = gcdG n d
def lowFS : Spec := fun args σ K => match args, σ with
  | [.one (.int .i64 n), .one (.int .i64 d)], [] => okLw n d ∧ K (.agg [.int .i64 (frN n d), .int .i64 (frD n d)]) []
  | _, _ => False
def outK (t u l : Int) (r : List (List D)) : Int := bif ouE t u l r == 0 then (ouG t u l 0 0 r).1 else 0
def outU (t u l : Int) (r : List (List D)) : Int := bif ouE t u l r == 0 then (ouG t u l 0 0 r).2.1 else 0
def out1S : Spec := fun args σ K => match args, σ with
  | [.agg [.int .i64 t, .int .i64 u, .int .i64 l], .one (.data (.recs [.bool] r))], [] => r.length ≤ 1000 ∧ K (.tup [.agg [.int .i64 (outK t u l r), .int .i64 (outU t u l r)], .one (.int .i64 (ouE t u l r))]) []
  | _, _ => False
def ouB (t u l : Int) (r : List (List D)) : Bool := (ouG t u l 0 0 r).2.2 == 0
def rou1S : Spec := fun args σ K => match args, σ with
  | [.agg [.int .i64 t, .int .i64 u, .int .i64 l], .one (.data (.recs [.bool] r))], [] => (r.length ≤ 1000 ∧ teE t u l = 0) ∧ K (.tup [.agg [.int .i64 (ouG t u l 0 0 r).1, .int .i64 (ouG t u l 0 0 r).2.1], .one (.bool (ouB t u l r))]) []
  | _, _ => False
def lawTesS : Spec := fun args σ K => match args, σ with
  | [.agg [.int .i64 t, .int .i64 u, .int .i64 l], .one (.data (.recs [.bool] r))], [] => K (.one (.bool true)) []
  | _, _ => False
noncomputable abbrev Etes : Env := envOf Tryd.prog [(19, awakeS), (74, cpaDS), (73, out1S), (75, chn1S), (76, teS), (77, teS), (78, rch1S), (48, lowFS), (46, wholeS), (79, rou1S)] [] 172 0
end Go.Ev

namespace Go.Ev
open Go Go.Proofs
set_option maxRecDepth 20000
set_option linter.unusedVariables false

def bitB (n : Int) (j : Nat) : Bool := (n / 2 ^ j) % 2 == 1
def bitsL (m : Nat) (n : Int) : List (List D) := (List.range m).map fun j => [D.bool (bitB n j)]
/-- How many of the first n sequences of answers end with an outcome. -/
def nOut (t u l k : Int) : Nat → Int
  | 0 => 0
  | n + 1 => nOut t u l k n + (bif (ouG t u l 0 0 (bitsL t.toNat n)).1 == k then 1 else 0)
def okTn (t u l : Int) : Prop := okT t u l ∧ t ≤ 8
def cntB : LSpec := fun vs σ k => match vs, σ with
  | [.one (.ptr 0 1 0 0), .one (.ptr 1 1 0 0), .one (.int .i64 a), .one (.int .i64 n), .one .nil, .one (.int .i64 i)], [.cells [.int .i64 t, .int .i64 u, .int .i64 l], .row 109 (.ints .i64 c)] =>
    (okTn t u l ∧ 0 ≤ n ∧ n < 256 ∧ i = 0) ∧ k (.exit 2) [.one (.ptr 0 1 0 0), .one (.ptr 1 1 0 0), .one (.int .i64 a), .one (.int .i64 n), .one (.own 2 1)] [.cells [.int .i64 t, .int .i64 u, .int .i64 l], .row 109 (.ints .i64 c), .row 4 (.recs [.bool] (bitsL t.toNat n))]
  | [.one (.ptr 0 1 0 0), .one (.ptr 1 1 0 0), .one (.int .i64 a), .one (.int .i64 n), .one (.own 2 1), .one (.int .i64 i)], [.cells [.int .i64 t, .int .i64 u, .int .i64 l], .row 109 (.ints .i64 c), .row 4 (.recs [.bool] r)] =>
    (okTn t u l ∧ 0 ≤ n ∧ n < 256 ∧ 1 ≤ i ∧ i ≤ t ∧ r = bitsL i.toNat n) ∧ k (.exit 2) [.one (.ptr 0 1 0 0), .one (.ptr 1 1 0 0), .one (.int .i64 a), .one (.int .i64 n), .one (.own 2 1)] [.cells [.int .i64 t, .int .i64 u, .int .i64 l], .row 109 (.ints .i64 c), .row 4 (.recs [.bool] (bitsL t.toNat n))]
  | _, _ => False
def cntA : LSpec := fun vs σ k => match vs, σ with
  | [.one (.ptr 0 1 0 0), .one (.ptr 1 1 0 0), .one (.int .i64 a), .one (.int .i64 n)], [.cells [.int .i64 t, .int .i64 u, .int .i64 l], .row 109 (.ints .i64 c)] =>
    (okTn t u l ∧ a = 2 ^ t.toNat ∧ 0 ≤ n ∧ n ≤ a ∧ c = [nOut t u l 0 n.toNat, nOut t u l 1 n.toNat, nOut t u l 2 n.toNat]) ∧
    k (.exit 0) [.one (.ptr 0 1 0 0), .any, .one (.ptr 1 1 0 0), .one (.int .i64 a)] [.cells [.int .i64 t, .int .i64 u, .int .i64 l], .row 109 (.ints .i64 [cnt u l 0 t.toNat 0, cnt u l 1 t.toNat 0, cnt u l 2 t.toNat 0])]
  | _, _ => False
def lawCntS : Spec := fun args σ K => match args, σ with
  | [.agg [.int .i64 t, .int .i64 u, .int .i64 l]], [] => K (.one (.bool true)) []
  | _, _ => False
noncomputable abbrev Ecnt : Env := envOf Tryd.prog [(19, awakeS), (76, teS), (73, out1S), (30, withinS), (75, chn1S), (48, lowFS)] [(8, .spec [1, 3, 4, 5] [1, 2, 3, 4] cntA), (12, .spec [1, 3, 4, 5, 6, 7] [1, 3, 4, 5, 6] cntB)] 98 0
end Go.Ev

namespace Go.Ev
open Go Go.Proofs
set_option maxRecDepth 100000
theorem excnt (t u l : Int) (K : AV → List Blk → Prop) : evFn Ecnt Tryd.f12 [.agg [.int .i64 t, .int .i64 u, .int .i64 l]] [] K = (
 bif teE t u l != (0 : Int) then K (AV.one (SV.bool true)) []
 else
 bif decide (t > (8 : Int)) then K (AV.one (SV.bool true)) []
 else
 bif !decide (t < (0 : Int)) then
 (okTn t u l ∧
 IntKind.i64.wrap ((1 : Int) * (2 : Int) ^ min t.toNat (64 : Nat)) = (2 : Int) ^ t.toNat ∧
 (0 : Int) ≤ (0 : Int) ∧
 (0 : Int) ≤ IntKind.i64.wrap ((1 : Int) * (2 : Int) ^ min t.toNat (64 : Nat)) ∧
 [(0 : Int), (0 : Int), (0 : Int)] =
 [nOut t u l (0 : Int) (0 : Nat), nOut t u l (1 : Int) (0 : Nat), nOut t u l (2 : Int) (0 : Nat)]) ∧
 bif teE t u l == (0 : Int) then
 okLw (cnt u l (0 : Int) t.toNat (0 : Int))
 (IntKind.i64.wrap ((1 : Int) * (2 : Int) ^ min t.toNat (64 : Nat))) ∧
 okLw (cnt u l (1 : Int) t.toNat (0 : Int))
 (IntKind.i64.wrap ((1 : Int) * (2 : Int) ^ min t.toNat (64 : Nat))) ∧
 okLw (cnt u l (2 : Int) t.toNat (0 : Int))
 (IntKind.i64.wrap ((1 : Int) * (2 : Int) ^ min t.toNat (64 : Nat))) ∧
 K
 (AV.one
 (SV.bool
 (chN t u l (0 : Int) ==
 frN (cnt u l (0 : Int) t.toNat (0 : Int))
 (IntKind.i64.wrap ((1 : Int) * (2 : Int) ^ min t.toNat (64 : Nat))) &&
 chD t u l (0 : Int) ==
 frD (cnt u l (0 : Int) t.toNat (0 : Int))
 (IntKind.i64.wrap ((1 : Int) * (2 : Int) ^ min t.toNat (64 : Nat))) &&
 (chN t u l (1 : Int) ==
 frN (cnt u l (1 : Int) t.toNat (0 : Int))
 (IntKind.i64.wrap ((1 : Int) * (2 : Int) ^ min t.toNat (64 : Nat))) &&
 chD t u l (1 : Int) ==
 frD (cnt u l (1 : Int) t.toNat (0 : Int))
 (IntKind.i64.wrap ((1 : Int) * (2 : Int) ^ min t.toNat (64 : Nat))) &&
 (chN t u l (2 : Int) ==
 frN (cnt u l (2 : Int) t.toNat (0 : Int))
 (IntKind.i64.wrap ((1 : Int) * (2 : Int) ^ min t.toNat (64 : Nat))) &&
 chD t u l (2 : Int) ==
 frD (cnt u l (2 : Int) t.toNat (0 : Int))
 (IntKind.i64.wrap ((1 : Int) * (2 : Int) ^ min t.toNat (64 : Nat))))))))
 []
 else K (AV.one (SV.bool false)) []
 else False) := by kernel_rfl
theorem excntl0a (a n t u l : Int) (c : List Int) (K : Ex → List AV → List Blk → Prop) : evBody Ecnt (lb Tryd.f12 0) [1, 3, 4, 5] [1, 2, 3, 4] [.one (.ptr 0 1 0 0), .one (.ptr 1 1 0 0), .one (.int .i64 a), .one (.int .i64 n)] [.cells [.int .i64 t, .int .i64 u, .int .i64 l], .row 109 (.ints .i64 c)] K = (
 bif decide (n < a) then
 (okTn t u l ∧ (0 : Int) ≤ n ∧ n < (256 : Int) ∧ (0 : Int) = (0 : Int)) ∧
 (bitsL t.toNat n).length ≤ (1000 : Nat) ∧
 bif ouE t u l (bitsL t.toNat n) != (0 : Int) then
 K Ex.ret
 [AV.one (SV.ptr (0 : Nat) (1 : Nat) (0 : Nat) (0 : Nat)), AV.one (SV.bool false),
 AV.one (SV.ptr (1 : Nat) (1 : Nat) (0 : Nat) (0 : Nat)), AV.one (SV.int IntKind.i64 a)]
 [Blk.cells [SV.int IntKind.i64 t, SV.int IntKind.i64 u, SV.int IntKind.i64 l],
 Blk.row (109 : TypeId) (Row.ints IntKind.i64 c)]
 else
 bif
 !(decide ((0 : Int) ≤ outK t u l (bitsL t.toNat n)) &&
 decide (outK t u l (bitsL t.toNat n) ≤ (2 : Int))) then
 K Ex.ret
 [AV.one (SV.ptr (0 : Nat) (1 : Nat) (0 : Nat) (0 : Nat)), AV.one (SV.bool false),
 AV.one (SV.ptr (1 : Nat) (1 : Nat) (0 : Nat) (0 : Nat)), AV.one (SV.int IntKind.i64 a)]
 [Blk.cells [SV.int IntKind.i64 t, SV.int IntKind.i64 u, SV.int IntKind.i64 l],
 Blk.row (109 : TypeId) (Row.ints IntKind.i64 c)]
 else
 bif !(decide ((1 : Int) ≤ outU t u l (bitsL t.toNat n)) && decide (outU t u l (bitsL t.toNat n) ≤ t)) then
 K Ex.ret
 [AV.one (SV.ptr (0 : Nat) (1 : Nat) (0 : Nat) (0 : Nat)), AV.one (SV.bool false),
 AV.one (SV.ptr (1 : Nat) (1 : Nat) (0 : Nat) (0 : Nat)), AV.one (SV.int IntKind.i64 a)]
 [Blk.cells [SV.int IntKind.i64 t, SV.int IntKind.i64 u, SV.int IntKind.i64 l],
 Blk.row (109 : TypeId) (Row.ints IntKind.i64 c)]
 else
 bif
 decide ((0 : Int) ≤ outK t u l (bitsL t.toNat n)) &&
 decide (outK t u l (bitsL t.toNat n) < (3 : Int)) then
 bif decide ((0 : Nat) + (outK t u l (bitsL t.toNat n)).toNat + (0 : Nat) < c.length) then
 bif
 decide ((0 : Int) ≤ outK t u l (bitsL t.toNat n)) &&
 decide (outK t u l (bitsL t.toNat n) < (3 : Int)) then
 bif decide ((0 : Nat) + (outK t u l (bitsL t.toNat n)).toNat + (0 : Nat) < c.length) then
 K Ex.normal
 [AV.one (SV.ptr (0 : Nat) (1 : Nat) (0 : Nat) (0 : Nat)),
 AV.one (SV.ptr (1 : Nat) (1 : Nat) (0 : Nat) (0 : Nat)), AV.one (SV.int IntKind.i64 a),
 AV.one (SV.int IntKind.i64 (IntKind.i64.wrap (n + (1 : Int))))]
 [Blk.cells [SV.int IntKind.i64 t, SV.int IntKind.i64 u, SV.int IntKind.i64 l],
 Blk.row (109 : TypeId)
 (Row.ints IntKind.i64
 (c.set ((0 : Nat) + (outK t u l (bitsL t.toNat n)).toNat + (0 : Nat))
 (IntKind.i64.wrap
 (c.getD ((0 : Nat) + (outK t u l (bitsL t.toNat n)).toNat + (0 : Nat)) (0 : Int) +
 (1 : Int)))))]
 else False
 else False
 else False
 else False
 else
 K (Ex.exit (0 : Nat))
 [AV.one (SV.ptr (0 : Nat) (1 : Nat) (0 : Nat) (0 : Nat)), AV.any,
 AV.one (SV.ptr (1 : Nat) (1 : Nat) (0 : Nat) (0 : Nat)), AV.one (SV.int IntKind.i64 a)]
 [Blk.cells [SV.int IntKind.i64 t, SV.int IntKind.i64 u, SV.int IntKind.i64 l],
 Blk.row (109 : TypeId) (Row.ints IntKind.i64 c)]) := by kernel_rfl
theorem excntl1a (a n i t u l : Int) (c : List Int) (K : Ex → List AV → List Blk → Prop) : evBody Ecnt (lb Tryd.f12 1) [1, 3, 4, 5, 6, 7] [1, 3, 4, 5, 6] [.one (.ptr 0 1 0 0), .one (.ptr 1 1 0 0), .one (.int .i64 a), .one (.int .i64 n), .one .nil, .one (.int .i64 i)] [.cells [.int .i64 t, .int .i64 u, .int .i64 l], .row 109 (.ints .i64 c)] K = (
 bif decide (i < t) then
 bif !decide (i < (0 : Int)) then
 K Ex.normal
 [AV.one (SV.ptr (0 : Nat) (1 : Nat) (0 : Nat) (0 : Nat)), AV.one (SV.ptr (1 : Nat) (1 : Nat) (0 : Nat) (0 : Nat)),
 AV.one (SV.int IntKind.i64 a), AV.one (SV.int IntKind.i64 n), AV.one (SV.own (2 : Nat) (1 : Nat)),
 AV.one (SV.int IntKind.i64 (IntKind.i64.wrap (i + (1 : Int))))]
 [Blk.cells [SV.int IntKind.i64 t, SV.int IntKind.i64 u, SV.int IntKind.i64 l],
 Blk.row (109 : TypeId) (Row.ints IntKind.i64 c),
 Blk.row (4 : Nat)
 (Row.recs [CK.bool]
 [[D.bool
 (IntKind.i64.wrap
 (↑(BitVec.ofInt (64 : Nat) (n.fdiv ((2 : Int) ^ min i.toNat (64 : Nat))) &&&
 BitVec.ofInt (64 : Nat) (1 : Int)).toNat :
 Int) ==
 (1 : Int))]])]
 else False
 else
 K (Ex.exit (2 : Nat))
 [AV.one (SV.ptr (0 : Nat) (1 : Nat) (0 : Nat) (0 : Nat)), AV.one (SV.ptr (1 : Nat) (1 : Nat) (0 : Nat) (0 : Nat)),
 AV.one (SV.int IntKind.i64 a), AV.one (SV.int IntKind.i64 n), AV.one SV.nil]
 [Blk.cells [SV.int IntKind.i64 t, SV.int IntKind.i64 u, SV.int IntKind.i64 l],
 Blk.row (109 : TypeId) (Row.ints IntKind.i64 c)]) := by kernel_rfl
theorem excntl1b (a n i t u l : Int) (c : List Int) (r : List (List D)) (K : Ex → List AV → List Blk → Prop) : evBody Ecnt (lb Tryd.f12 1) [1, 3, 4, 5, 6, 7] [1, 3, 4, 5, 6] [.one (.ptr 0 1 0 0), .one (.ptr 1 1 0 0), .one (.int .i64 a), .one (.int .i64 n), .one (.own 2 1), .one (.int .i64 i)] [.cells [.int .i64 t, .int .i64 u, .int .i64 l], .row 109 (.ints .i64 c), .row 4 (.recs [.bool] r)] K = (
 bif decide (i < t) then
 bif !decide (i < (0 : Int)) then
 bif
 decide
 ((r ++
 [[D.bool
 (IntKind.i64.wrap
 (↑(BitVec.ofInt (64 : Nat) (n.fdiv ((2 : Int) ^ min i.toNat (64 : Nat))) &&&
 BitVec.ofInt (64 : Nat) (1 : Int)).toNat :
 Int) ==
 (1 : Int))]]).length *
 (1 : Nat) ≤
 (140737488355328 : Nat) ∧
 (r ++
 [[D.bool
 (IntKind.i64.wrap
 (↑(BitVec.ofInt (64 : Nat) (n.fdiv ((2 : Int) ^ min i.toNat (64 : Nat))) &&&
 BitVec.ofInt (64 : Nat) (1 : Int)).toNat :
 Int) ==
 (1 : Int))]]).length ≤
 (140737488355328 : Nat)) then
 K Ex.normal
 [AV.one (SV.ptr (0 : Nat) (1 : Nat) (0 : Nat) (0 : Nat)),
 AV.one (SV.ptr (1 : Nat) (1 : Nat) (0 : Nat) (0 : Nat)), AV.one (SV.int IntKind.i64 a),
 AV.one (SV.int IntKind.i64 n), AV.one (SV.own (2 : Nat) (1 : Nat)),
 AV.one (SV.int IntKind.i64 (IntKind.i64.wrap (i + (1 : Int))))]
 [Blk.cells [SV.int IntKind.i64 t, SV.int IntKind.i64 u, SV.int IntKind.i64 l],
 Blk.row (109 : TypeId) (Row.ints IntKind.i64 c),
 Blk.row (4 : Nat)
 (Row.recs [CK.bool]
 (r ++
 [[D.bool
 (IntKind.i64.wrap
 (↑(BitVec.ofInt (64 : Nat) (n.fdiv ((2 : Int) ^ min i.toNat (64 : Nat))) &&&
 BitVec.ofInt (64 : Nat) (1 : Int)).toNat :
 Int) ==
 (1 : Int))]]))]
 else False
 else False
 else
 K (Ex.exit (2 : Nat))
 [AV.one (SV.ptr (0 : Nat) (1 : Nat) (0 : Nat) (0 : Nat)), AV.one (SV.ptr (1 : Nat) (1 : Nat) (0 : Nat) (0 : Nat)),
 AV.one (SV.int IntKind.i64 a), AV.one (SV.int IntKind.i64 n), AV.one (SV.own (2 : Nat) (1 : Nat))]
 [Blk.cells [SV.int IntKind.i64 t, SV.int IntKind.i64 u, SV.int IntKind.i64 l],
 Blk.row (109 : TypeId) (Row.ints IntKind.i64 c), Blk.row (4 : TypeId) (Row.recs [CK.bool] r)]) := by kernel_rfl
end Go.Ev

namespace Go.Ev
open Go Go.Proofs
set_option maxRecDepth 100000
def extesA_x0 (t u l : Int) (r : List (List D)) (K : AV → List Blk → Prop) (B : St → Prop) : Prop := (
 r.length ≤ (1000 : Nat) ∧
 B
 {
 t :=
 [AV.agg [SV.int IntKind.i64 t, SV.int IntKind.i64 u, SV.int IntKind.i64 l],
 AV.one (SV.data (Row.recs [CK.bool] r)), AV.one (SV.ptr ([] : List Int).length (1 : Nat) (0 : Nat) (0 : Nat)), AV.any,
 AV.one (SV.bool false),
 AV.one
 (SV.ptr [Blk.cells [SV.int IntKind.i64 t, SV.int IntKind.i64 u, SV.int IntKind.i64 l]].length (1 : Nat)
 (0 : Nat) (0 : Nat)),
 AV.one (SV.int IntKind.i64 (ouE t u l r)), AV.any, AV.any, AV.any, AV.any, AV.any, AV.any,
 AV.one (SV.bool true), AV.one (SV.bool false), AV.one (SV.data (Row.recs [CK.bool] r)),
 AV.one (SV.int IntKind.i64 (↑r.length : Int)), AV.one (SV.bool (decide ((↑r.length : Int) > (60 : Int)))),
 AV.one (SV.bool true), AV.one (SV.data (Row.recs [CK.bool] r)), AV.one (SV.int IntKind.i64 (↑r.length : Int)),
 AV.one (SV.bool (decide ((↑r.length : Int) ≤ (200 : Int)))),
 AV.one (SV.bool (decide ((↑r.length : Int) ≤ (200 : Int)))), AV.one (SV.bool false),
 AV.one (SV.data (Row.recs [CK.bool] r)), AV.one (SV.int IntKind.i64 (↑r.length : Int)),
 AV.one (SV.bool (decide ((↑r.length : Int) > (204 : Int)))), AV.one (SV.bool false),
 AV.tup
 [TV.agg [SV.int IntKind.i64 (outK t u l r), SV.int IntKind.i64 (outU t u l r)],
 TV.one (SV.int IntKind.i64 (ouE t u l r))],
 AV.agg [SV.int IntKind.i64 t, SV.int IntKind.i64 u, SV.int IntKind.i64 l],
 AV.one (SV.data (Row.recs [CK.bool] r)), AV.one (SV.data (Row.recs [CK.bool] r)),
 AV.tup
 [TV.agg [SV.int IntKind.i64 (outK t u l r), SV.int IntKind.i64 (outU t u l r)],
 TV.one (SV.int IntKind.i64 (ouE t u l r))],
 AV.agg [SV.int IntKind.i64 (outK t u l r), SV.int IntKind.i64 (outU t u l r)],
 AV.one (SV.int IntKind.i64 (ouE t u l r)), AV.any, AV.any, AV.any, AV.any, AV.any, AV.any, AV.any, AV.any,
 AV.any, AV.any, AV.any, AV.any, AV.any, AV.any, AV.any, AV.any, AV.any, AV.any, AV.any, AV.any, AV.any,
 AV.any, AV.any, AV.any, AV.any, AV.any, AV.any, AV.any, AV.any, AV.any, AV.any, AV.any, AV.any, AV.any,
 AV.any, AV.any, AV.any, AV.any, AV.any, AV.any, AV.any, AV.any, AV.any, AV.any, AV.any, AV.any, AV.any,
 AV.any, AV.any, AV.any, AV.any, AV.any, AV.any, AV.any, AV.any, AV.any, AV.any, AV.any, AV.any, AV.any,
 AV.any, AV.any, AV.any, AV.any, AV.any, AV.any, AV.any, AV.any, AV.any, AV.any, AV.any, AV.any, AV.any,
 AV.any, AV.any, AV.any, AV.any, AV.any, AV.any, AV.any, AV.any, AV.any, AV.any, AV.any, AV.any, AV.any,
 AV.any, AV.any, AV.any, AV.any, AV.any, AV.any, AV.any, AV.any, AV.any, AV.any, AV.any, AV.any, AV.any,
 AV.any, AV.any, AV.any, AV.any, AV.any, AV.any, AV.any, AV.any, AV.any, AV.any, AV.any, AV.any, AV.any,
 AV.any, AV.any, AV.any, AV.any, AV.any, AV.any, AV.any, AV.any, AV.any, AV.any, AV.any, AV.any, AV.any,
 AV.any, AV.any, AV.any, AV.any, AV.any, AV.any, AV.any, AV.any, AV.any, AV.any, AV.any, AV.any],
 σ :=
 [Blk.cells [SV.int IntKind.i64 t, SV.int IntKind.i64 u, SV.int IntKind.i64 l],
 Blk.cells [SV.int IntKind.i64 (outK t u l r), SV.int IntKind.i64 (outU t u l r)]] })
def extesA_x1 (t u l : Int) (r : List (List D)) (K : AV → List Blk → Prop) (B : St → Prop) : Prop := (
 r.length ≤ (1000 : Nat) ∧
 B
 {
 t :=
 [AV.agg [SV.int IntKind.i64 t, SV.int IntKind.i64 u, SV.int IntKind.i64 l],
 AV.one (SV.data (Row.recs [CK.bool] r)), AV.one (SV.ptr ([] : List Int).length (1 : Nat) (0 : Nat) (0 : Nat)), AV.any,
 AV.one (SV.bool false),
 AV.one
 (SV.ptr [Blk.cells [SV.int IntKind.i64 t, SV.int IntKind.i64 u, SV.int IntKind.i64 l]].length (1 : Nat)
 (0 : Nat) (0 : Nat)),
 AV.one (SV.int IntKind.i64 (ouE t u l r)), AV.any, AV.any, AV.any, AV.any, AV.any, AV.any,
 AV.one (SV.bool true), AV.one (SV.bool false), AV.one (SV.data (Row.recs [CK.bool] r)),
 AV.one (SV.int IntKind.i64 (↑r.length : Int)), AV.one (SV.bool (decide ((↑r.length : Int) > (60 : Int)))),
 AV.one (SV.bool false), AV.tup [], AV.tup [], AV.tup [], AV.one (SV.bool false), AV.one (SV.bool false),
 AV.one (SV.data (Row.recs [CK.bool] r)), AV.one (SV.int IntKind.i64 (↑r.length : Int)),
 AV.one (SV.bool (decide ((↑r.length : Int) > (204 : Int)))), AV.one (SV.bool false),
 AV.tup
 [TV.agg [SV.int IntKind.i64 (outK t u l r), SV.int IntKind.i64 (outU t u l r)],
 TV.one (SV.int IntKind.i64 (ouE t u l r))],
 AV.agg [SV.int IntKind.i64 t, SV.int IntKind.i64 u, SV.int IntKind.i64 l],
 AV.one (SV.data (Row.recs [CK.bool] r)), AV.one (SV.data (Row.recs [CK.bool] r)),
 AV.tup
 [TV.agg [SV.int IntKind.i64 (outK t u l r), SV.int IntKind.i64 (outU t u l r)],
 TV.one (SV.int IntKind.i64 (ouE t u l r))],
 AV.agg [SV.int IntKind.i64 (outK t u l r), SV.int IntKind.i64 (outU t u l r)],
 AV.one (SV.int IntKind.i64 (ouE t u l r)), AV.any, AV.any, AV.any, AV.any, AV.any, AV.any, AV.any, AV.any,
 AV.any, AV.any, AV.any, AV.any, AV.any, AV.any, AV.any, AV.any, AV.any, AV.any, AV.any, AV.any, AV.any,
 AV.any, AV.any, AV.any, AV.any, AV.any, AV.any, AV.any, AV.any, AV.any, AV.any, AV.any, AV.any, AV.any,
 AV.any, AV.any, AV.any, AV.any, AV.any, AV.any, AV.any, AV.any, AV.any, AV.any, AV.any, AV.any, AV.any,
 AV.any, AV.any, AV.any, AV.any, AV.any, AV.any, AV.any, AV.any, AV.any, AV.any, AV.any, AV.any, AV.any,
 AV.any, AV.any, AV.any, AV.any, AV.any, AV.any, AV.any, AV.any, AV.any, AV.any, AV.any, AV.any, AV.any,
 AV.any, AV.any, AV.any, AV.any, AV.any, AV.any, AV.any, AV.any, AV.any, AV.any, AV.any, AV.any, AV.any,
 AV.any, AV.any, AV.any, AV.any, AV.any, AV.any, AV.any, AV.any, AV.any, AV.any, AV.any, AV.any, AV.any,
 AV.any, AV.any, AV.any, AV.any, AV.any, AV.any, AV.any, AV.any, AV.any, AV.any, AV.any, AV.any, AV.any,
 AV.any, AV.any, AV.any, AV.any, AV.any, AV.any, AV.any, AV.any, AV.any, AV.any, AV.any, AV.any, AV.any,
 AV.any, AV.any, AV.any, AV.any, AV.any, AV.any, AV.any, AV.any, AV.any, AV.any, AV.any, AV.any],
 σ :=
 [Blk.cells [SV.int IntKind.i64 t, SV.int IntKind.i64 u, SV.int IntKind.i64 l],
 Blk.cells [SV.int IntKind.i64 (outK t u l r), SV.int IntKind.i64 (outU t u l r)]] })
theorem extesA (t u l : Int) (r : List (List D)) (K : AV → List Blk → Prop) (B : St → Prop) : evStage Etes Tryd.f11 0 6 (st0 Tryd.f11 [.agg [.int .i64 t, .int .i64 u, .int .i64 l], .one (.data (.recs [.bool] r))] []) K B = (
 bif decide ((↑r.length : Int) > (60 : Int)) then
 bif decide ((↑r.length : Int) ≤ (200 : Int)) then K (AV.one (SV.bool true)) []
 else
 bif decide ((↑r.length : Int) > (204 : Int)) then K (AV.one (SV.bool true)) []
 else
 (r.length ≤ (1000000000000 : Nat) ∧ extesA_x0 t u l r K B ∧ extesA_x0 t u l r K B) ∧
 r.length ≤ (1000000000000 : Nat) ∧ extesA_x0 t u l r K B
 else
 bif decide ((↑r.length : Int) > (204 : Int)) then K (AV.one (SV.bool true)) []
 else
 (r.length ≤ (1000000000000 : Nat) ∧ extesA_x1 t u l r K B ∧ extesA_x1 t u l r K B) ∧
 r.length ≤ (1000000000000 : Nat) ∧ extesA_x1 t u l r K B) := by kernel_rfl
end Go.Ev

namespace Go.Ev
open Go Go.Proofs
set_option maxRecDepth 20000
set_option linter.unusedVariables false
set_option linter.unusedSimpArgs false

end Go.Ev

namespace Go.Ev
open Go Go.Proofs
set_option maxRecDepth 100000
theorem extesB (t u l oK oU e : Int) (r : List (List D)) (a0 a13 a14 a15 a16 a17 a18 a19 a20 a21 a22 a23 a24 a25 a26 a27 a28 a29 a30 a31 a32 a33 a34 : AV) (K : AV → List Blk → Prop) (B : St → Prop) : evStage Etes Tryd.f11 6 8 { t := ([a0, AV.one (SV.data (Row.recs [CK.bool] r)), AV.one (SV.ptr 0 (1 : Nat) (0 : Nat) (0 : Nat)), AV.any, AV.one (SV.bool false), AV.one (SV.ptr 1 (1 : Nat) (0 : Nat) (0 : Nat)), AV.one (SV.int IntKind.i64 (e)), AV.any, AV.any, AV.any, AV.any, AV.any, AV.any, a13, a14, a15, a16, a17, a18, a19, a20, a21, a22, a23, a24, a25, a26, a27, a28, a29, a30, a31, a32, a33, a34] ++ List.replicate 137 .any), σ := [Blk.cells [SV.int IntKind.i64 t, SV.int IntKind.i64 u, SV.int IntKind.i64 l], Blk.cells [SV.int IntKind.i64 (oK), SV.int IntKind.i64 (oU)]] } K B = (
 bif teE t u l != teE t u l then K (AV.one (SV.bool false)) []
 else
 bif teE t u l != (0 : Int) then
 bif e == teE t u l then
 bif teE t u l == teE t u l then
 bif oK == (0 : Int) && oU == (0 : Int) then
 K
 (AV.one
 (SV.bool
 (chN t u l (0 : Int) == (0 : Int) && chD t u l (0 : Int) == (0 : Int) &&
 (chN t u l (1 : Int) == (0 : Int) && chD t u l (1 : Int) == (0 : Int) &&
 (chN t u l (2 : Int) == (0 : Int) && chD t u l (2 : Int) == (0 : Int))))))
 []
 else K (AV.one (SV.bool false)) []
 else K (AV.one (SV.bool false)) []
 else K (AV.one (SV.bool false)) []
 else
 bif teE t u l != (0 : Int) then K (AV.one (SV.bool false)) []
 else
 teE t u l = (0 : Int) ∧
 bif
 !(chN t u l (0 : Int) == chN t u l (0 : Int) && chD t u l (0 : Int) == chD t u l (0 : Int) &&
 (chN t u l (1 : Int) == chN t u l (1 : Int) && chD t u l (1 : Int) == chD t u l (1 : Int) &&
 (chN t u l (2 : Int) == chN t u l (2 : Int) && chD t u l (2 : Int) == chD t u l (2 : Int)))) then
 K (AV.one (SV.bool false)) []
 else
 bif u == l then
 bif !(chN t u l (0 : Int) == chN t u l (1 : Int) && chD t u l (0 : Int) == chD t u l (1 : Int)) then
 K (AV.one (SV.bool false)) []
 else
 B
 {
 t :=
 [a0, AV.one (SV.data (Row.recs [CK.bool] r)),
 AV.one (SV.ptr (0 : Nat) (1 : Nat) (0 : Nat) (0 : Nat)), AV.any, AV.one (SV.bool false),
 AV.one (SV.ptr (1 : Nat) (1 : Nat) (0 : Nat) (0 : Nat)), AV.one (SV.int IntKind.i64 e),
 AV.one
 (SV.ptr
 [Blk.cells [SV.int IntKind.i64 t, SV.int IntKind.i64 u, SV.int IntKind.i64 l],
 Blk.cells [SV.int IntKind.i64 oK, SV.int IntKind.i64 oU]].length
 (1 : Nat) (0 : Nat) (0 : Nat)),
 AV.one (SV.int IntKind.i64 (teE t u l)), AV.one (SV.int IntKind.i64 (teE t u l)), AV.any, AV.any,
 AV.any, a13, a14, a15, a16, a17, a18, a19, a20, a21, a22, a23, a24, a25, a26, a27, a28, a29, a30,
 a31, a32, a33, a34,
 AV.tup
 [TV.agg
 [SV.int IntKind.i64 (chN t u l (0 : Int)), SV.int IntKind.i64 (chD t u l (0 : Int)),
 SV.int IntKind.i64 (chN t u l (1 : Int)), SV.int IntKind.i64 (chD t u l (1 : Int)),
 SV.int IntKind.i64 (chN t u l (2 : Int)), SV.int IntKind.i64 (chD t u l (2 : Int))],
 TV.one (SV.int IntKind.i64 (teE t u l))],
 AV.agg [SV.int IntKind.i64 t, SV.int IntKind.i64 u, SV.int IntKind.i64 l],
 AV.tup
 [TV.agg
 [SV.int IntKind.i64 (chN t u l (0 : Int)), SV.int IntKind.i64 (chD t u l (0 : Int)),
 SV.int IntKind.i64 (chN t u l (1 : Int)), SV.int IntKind.i64 (chD t u l (1 : Int)),
 SV.int IntKind.i64 (chN t u l (2 : Int)), SV.int IntKind.i64 (chD t u l (2 : Int))],
 TV.one (SV.int IntKind.i64 (teE t u l))],
 AV.agg
 [SV.int IntKind.i64 (chN t u l (0 : Int)), SV.int IntKind.i64 (chD t u l (0 : Int)),
 SV.int IntKind.i64 (chN t u l (1 : Int)), SV.int IntKind.i64 (chD t u l (1 : Int)),
 SV.int IntKind.i64 (chN t u l (2 : Int)), SV.int IntKind.i64 (chD t u l (2 : Int))],
 AV.one (SV.int IntKind.i64 (teE t u l)),
 AV.agg [SV.int IntKind.i64 t, SV.int IntKind.i64 u, SV.int IntKind.i64 l],
 AV.one (SV.int IntKind.i64 (teE t u l)),
 AV.agg [SV.int IntKind.i64 t, SV.int IntKind.i64 u, SV.int IntKind.i64 l],
 AV.one (SV.int IntKind.i64 (teE t u l)), AV.one (SV.int IntKind.i64 (teE t u l)),
 AV.one (SV.bool false), AV.one (SV.int IntKind.i64 (teE t u l)), AV.one (SV.bool false), AV.any,
 AV.any, AV.any, AV.any, AV.any, AV.any, AV.any, AV.any, AV.any, AV.any, AV.any, AV.any, AV.any,
 AV.any, AV.any, AV.any, AV.any, AV.any, AV.one (SV.int IntKind.i64 (teE t u l)),
 AV.one (SV.bool (teE t u l != (0 : Int))), AV.one (SV.bool false),
 AV.agg
 [SV.int IntKind.i64 (chN t u l (0 : Int)), SV.int IntKind.i64 (chD t u l (0 : Int)),
 SV.int IntKind.i64 (chN t u l (1 : Int)), SV.int IntKind.i64 (chD t u l (1 : Int)),
 SV.int IntKind.i64 (chN t u l (2 : Int)), SV.int IntKind.i64 (chD t u l (2 : Int))],
 AV.agg [SV.int IntKind.i64 t, SV.int IntKind.i64 u, SV.int IntKind.i64 l],
 AV.agg
 [SV.int IntKind.i64 (chN t u l (0 : Int)), SV.int IntKind.i64 (chD t u l (0 : Int)),
 SV.int IntKind.i64 (chN t u l (1 : Int)), SV.int IntKind.i64 (chD t u l (1 : Int)),
 SV.int IntKind.i64 (chN t u l (2 : Int)), SV.int IntKind.i64 (chD t u l (2 : Int))],
 AV.one
 (SV.bool
 !(chN t u l (0 : Int) == chN t u l (0 : Int) && chD t u l (0 : Int) == chD t u l (0 : Int) &&
 (chN t u l (1 : Int) == chN t u l (1 : Int) &&
 chD t u l (1 : Int) == chD t u l (1 : Int) &&
 (chN t u l (2 : Int) == chN t u l (2 : Int) &&
 chD t u l (2 : Int) == chD t u l (2 : Int))))),
 AV.one
 (SV.bool
 !(chN t u l (0 : Int) == chN t u l (0 : Int) && chD t u l (0 : Int) == chD t u l (0 : Int) &&
 (chN t u l (1 : Int) == chN t u l (1 : Int) &&
 chD t u l (1 : Int) == chD t u l (1 : Int) &&
 (chN t u l (2 : Int) == chN t u l (2 : Int) &&
 chD t u l (2 : Int) == chD t u l (2 : Int))))),
 AV.one (SV.bool false), AV.one (SV.ptr (0 : Nat) (1 : Nat) (0 : Nat) (1 : Nat)),
 AV.one (SV.int IntKind.i64 u), AV.one (SV.ptr (0 : Nat) (1 : Nat) (0 : Nat) (2 : Nat)),
 AV.one (SV.int IntKind.i64 l), AV.one (SV.bool (u == l)), AV.one (SV.bool true),
 AV.one
 (SV.ptr
 [Blk.cells [SV.int IntKind.i64 t, SV.int IntKind.i64 u, SV.int IntKind.i64 l],
 Blk.cells [SV.int IntKind.i64 oK, SV.int IntKind.i64 oU]].length
 (1 : Nat) (0 : Nat) (0 : Nat)),
 AV.agg [SV.int IntKind.i64 (chN t u l (0 : Int)), SV.int IntKind.i64 (chD t u l (0 : Int))],
 AV.one
 (SV.ptr
 [Blk.cells [SV.int IntKind.i64 t, SV.int IntKind.i64 u, SV.int IntKind.i64 l],
 Blk.cells [SV.int IntKind.i64 oK, SV.int IntKind.i64 oU]].length
 (1 : Nat) (2 : Nat) (0 : Nat)),
 AV.agg [SV.int IntKind.i64 (chN t u l (1 : Int)), SV.int IntKind.i64 (chD t u l (1 : Int))],
 AV.one
 (SV.bool
 !(chN t u l (0 : Int) == chN t u l (1 : Int) && chD t u l (0 : Int) == chD t u l (1 : Int))),
 AV.one
 (SV.bool
 !(chN t u l (0 : Int) == chN t u l (1 : Int) && chD t u l (0 : Int) == chD t u l (1 : Int))),
 AV.one (SV.bool false), AV.any, AV.any, AV.any, AV.any, AV.any, AV.any, AV.any, AV.any, AV.any,
 AV.any, AV.any, AV.any, AV.any, AV.any, AV.any, AV.any, AV.any, AV.any, AV.any, AV.any, AV.any,
 AV.any, AV.any, AV.any, AV.any, AV.any, AV.any, AV.any, AV.any, AV.any, AV.any, AV.any, AV.any,
 AV.any, AV.any, AV.any, AV.any, AV.any, AV.any, AV.any, AV.any, AV.any, AV.any, AV.any, AV.any,
 AV.any, AV.any, AV.any, AV.any, AV.any, AV.any, AV.any, AV.any, AV.any, AV.any, AV.any, AV.any,
 AV.any, AV.any, AV.any, AV.any, AV.any, AV.any, AV.any, AV.any, AV.any, AV.any, AV.any, AV.any,
 AV.any, AV.any, AV.any, AV.any, AV.any, AV.any, AV.any, AV.any, AV.any, AV.any, AV.any, AV.any,
 AV.any, AV.any, AV.any],
 σ :=
 [Blk.cells [SV.int IntKind.i64 t, SV.int IntKind.i64 u, SV.int IntKind.i64 l],
 Blk.cells [SV.int IntKind.i64 oK, SV.int IntKind.i64 oU],
 Blk.row (100 : Nat)
 (Row.ints IntKind.i64
 [chN t u l (0 : Int), chD t u l (0 : Int), chN t u l (1 : Int), chD t u l (1 : Int),
 chN t u l (2 : Int), chD t u l (2 : Int)])] }
 else
 B
 {
 t :=
 [a0, AV.one (SV.data (Row.recs [CK.bool] r)), AV.one (SV.ptr (0 : Nat) (1 : Nat) (0 : Nat) (0 : Nat)),
 AV.any, AV.one (SV.bool false), AV.one (SV.ptr (1 : Nat) (1 : Nat) (0 : Nat) (0 : Nat)),
 AV.one (SV.int IntKind.i64 e),
 AV.one
 (SV.ptr
 [Blk.cells [SV.int IntKind.i64 t, SV.int IntKind.i64 u, SV.int IntKind.i64 l],
 Blk.cells [SV.int IntKind.i64 oK, SV.int IntKind.i64 oU]].length
 (1 : Nat) (0 : Nat) (0 : Nat)),
 AV.one (SV.int IntKind.i64 (teE t u l)), AV.one (SV.int IntKind.i64 (teE t u l)), AV.any, AV.any,
 AV.any, a13, a14, a15, a16, a17, a18, a19, a20, a21, a22, a23, a24, a25, a26, a27, a28, a29, a30,
 a31, a32, a33, a34,
 AV.tup
 [TV.agg
 [SV.int IntKind.i64 (chN t u l (0 : Int)), SV.int IntKind.i64 (chD t u l (0 : Int)),
 SV.int IntKind.i64 (chN t u l (1 : Int)), SV.int IntKind.i64 (chD t u l (1 : Int)),
 SV.int IntKind.i64 (chN t u l (2 : Int)), SV.int IntKind.i64 (chD t u l (2 : Int))],
 TV.one (SV.int IntKind.i64 (teE t u l))],
 AV.agg [SV.int IntKind.i64 t, SV.int IntKind.i64 u, SV.int IntKind.i64 l],
 AV.tup
 [TV.agg
 [SV.int IntKind.i64 (chN t u l (0 : Int)), SV.int IntKind.i64 (chD t u l (0 : Int)),
 SV.int IntKind.i64 (chN t u l (1 : Int)), SV.int IntKind.i64 (chD t u l (1 : Int)),
 SV.int IntKind.i64 (chN t u l (2 : Int)), SV.int IntKind.i64 (chD t u l (2 : Int))],
 TV.one (SV.int IntKind.i64 (teE t u l))],
 AV.agg
 [SV.int IntKind.i64 (chN t u l (0 : Int)), SV.int IntKind.i64 (chD t u l (0 : Int)),
 SV.int IntKind.i64 (chN t u l (1 : Int)), SV.int IntKind.i64 (chD t u l (1 : Int)),
 SV.int IntKind.i64 (chN t u l (2 : Int)), SV.int IntKind.i64 (chD t u l (2 : Int))],
 AV.one (SV.int IntKind.i64 (teE t u l)),
 AV.agg [SV.int IntKind.i64 t, SV.int IntKind.i64 u, SV.int IntKind.i64 l],
 AV.one (SV.int IntKind.i64 (teE t u l)),
 AV.agg [SV.int IntKind.i64 t, SV.int IntKind.i64 u, SV.int IntKind.i64 l],
 AV.one (SV.int IntKind.i64 (teE t u l)), AV.one (SV.int IntKind.i64 (teE t u l)),
 AV.one (SV.bool false), AV.one (SV.int IntKind.i64 (teE t u l)), AV.one (SV.bool false), AV.any,
 AV.any, AV.any, AV.any, AV.any, AV.any, AV.any, AV.any, AV.any, AV.any, AV.any, AV.any, AV.any,
 AV.any, AV.any, AV.any, AV.any, AV.any, AV.one (SV.int IntKind.i64 (teE t u l)),
 AV.one (SV.bool (teE t u l != (0 : Int))), AV.one (SV.bool false),
 AV.agg
 [SV.int IntKind.i64 (chN t u l (0 : Int)), SV.int IntKind.i64 (chD t u l (0 : Int)),
 SV.int IntKind.i64 (chN t u l (1 : Int)), SV.int IntKind.i64 (chD t u l (1 : Int)),
 SV.int IntKind.i64 (chN t u l (2 : Int)), SV.int IntKind.i64 (chD t u l (2 : Int))],
 AV.agg [SV.int IntKind.i64 t, SV.int IntKind.i64 u, SV.int IntKind.i64 l],
 AV.agg
 [SV.int IntKind.i64 (chN t u l (0 : Int)), SV.int IntKind.i64 (chD t u l (0 : Int)),
 SV.int IntKind.i64 (chN t u l (1 : Int)), SV.int IntKind.i64 (chD t u l (1 : Int)),
 SV.int IntKind.i64 (chN t u l (2 : Int)), SV.int IntKind.i64 (chD t u l (2 : Int))],
 AV.one
 (SV.bool
 !(chN t u l (0 : Int) == chN t u l (0 : Int) && chD t u l (0 : Int) == chD t u l (0 : Int) &&
 (chN t u l (1 : Int) == chN t u l (1 : Int) && chD t u l (1 : Int) == chD t u l (1 : Int) &&
 (chN t u l (2 : Int) == chN t u l (2 : Int) &&
 chD t u l (2 : Int) == chD t u l (2 : Int))))),
 AV.one
 (SV.bool
 !(chN t u l (0 : Int) == chN t u l (0 : Int) && chD t u l (0 : Int) == chD t u l (0 : Int) &&
 (chN t u l (1 : Int) == chN t u l (1 : Int) && chD t u l (1 : Int) == chD t u l (1 : Int) &&
 (chN t u l (2 : Int) == chN t u l (2 : Int) &&
 chD t u l (2 : Int) == chD t u l (2 : Int))))),
 AV.one (SV.bool false), AV.one (SV.ptr (0 : Nat) (1 : Nat) (0 : Nat) (1 : Nat)),
 AV.one (SV.int IntKind.i64 u), AV.one (SV.ptr (0 : Nat) (1 : Nat) (0 : Nat) (2 : Nat)),
 AV.one (SV.int IntKind.i64 l), AV.one (SV.bool (u == l)), AV.one (SV.bool false), AV.tup [],
 AV.tup [], AV.tup [], AV.tup [], AV.tup [], AV.one (SV.bool false), AV.one (SV.bool false), AV.any,
 AV.any, AV.any, AV.any, AV.any, AV.any, AV.any, AV.any, AV.any, AV.any, AV.any, AV.any, AV.any,
 AV.any, AV.any, AV.any, AV.any, AV.any, AV.any, AV.any, AV.any, AV.any, AV.any, AV.any, AV.any,
 AV.any, AV.any, AV.any, AV.any, AV.any, AV.any, AV.any, AV.any, AV.any, AV.any, AV.any, AV.any,
 AV.any, AV.any, AV.any, AV.any, AV.any, AV.any, AV.any, AV.any, AV.any, AV.any, AV.any, AV.any,
 AV.any, AV.any, AV.any, AV.any, AV.any, AV.any, AV.any, AV.any, AV.any, AV.any, AV.any, AV.any,
 AV.any, AV.any, AV.any, AV.any, AV.any, AV.any, AV.any, AV.any, AV.any, AV.any, AV.any, AV.any,
 AV.any, AV.any, AV.any, AV.any, AV.any, AV.any, AV.any, AV.any, AV.any, AV.any, AV.any],
 σ :=
 [Blk.cells [SV.int IntKind.i64 t, SV.int IntKind.i64 u, SV.int IntKind.i64 l],
 Blk.cells [SV.int IntKind.i64 oK, SV.int IntKind.i64 oU],
 Blk.row (100 : Nat)
 (Row.ints IntKind.i64
 [chN t u l (0 : Int), chD t u l (0 : Int), chN t u l (1 : Int), chD t u l (1 : Int),
 chN t u l (2 : Int), chD t u l (2 : Int)])] }) := by kernel_rfl
end Go.Ev

namespace Go.Ev
open Go Go.Proofs
set_option maxRecDepth 20000
set_option linter.unusedVariables false
set_option linter.unusedSimpArgs false

end Go.Ev

namespace Go.Ev
open Go Go.Proofs
set_option maxRecDepth 100000
theorem extesC (t u l oK oU e n0 d0 n1 d1 n2 d2 : Int) (r : List (List D)) (a0 a8 a9 a13 a14 a15 a16 a17 a18 a19 a20 a21 a22 a23 a24 a25 a26 a27 a28 a29 a30 a31 a32 a33 a34 a35 a36 a37 a38 a39 a40 a41 a42 a43 a44 a45 a46 a47 a66 a67 a68 a69 a70 a71 a72 a73 a74 a75 a76 a77 a78 a79 a80 a81 a82 a83 a84 a85 a86 a87 : AV) (K : AV → List Blk → Prop) : evRest Etes Tryd.f11 14 { t := ([a0, AV.one (SV.data (Row.recs [CK.bool] r)), AV.one (SV.ptr (0 : Nat) (1 : Nat) (0 : Nat) (0 : Nat)), AV.any, AV.one (SV.bool false), AV.one (SV.ptr (1 : Nat) (1 : Nat) (0 : Nat) (0 : Nat)), AV.one (SV.int IntKind.i64 e), AV.one (SV.ptr 2 (1 : Nat) (0 : Nat) (0 : Nat)), a8, a9, AV.any, AV.any, AV.any, a13, a14, a15, a16, a17, a18, a19, a20, a21, a22, a23, a24, a25, a26, a27, a28, a29, a30, a31, a32, a33, a34, a35, a36, a37, a38, a39, a40, a41, a42, a43, a44, a45, a46, a47, AV.any, AV.any, AV.any, AV.any, AV.any, AV.any, AV.any, AV.any, AV.any, AV.any, AV.any, AV.any, AV.any, AV.any, AV.any, AV.any, AV.any, AV.any, a66, a67, a68, a69, a70, a71, a72, a73, a74, a75, a76, a77, a78, a79, a80, a81, a82, a83, a84, a85, a86, a87] ++ List.replicate 84 .any), σ := [Blk.cells [SV.int IntKind.i64 t, SV.int IntKind.i64 u, SV.int IntKind.i64 l], Blk.cells [SV.int IntKind.i64 oK, SV.int IntKind.i64 oU], Blk.row (100 : Nat) (Row.ints IntKind.i64 [n0, d0, n1, d1, n2, d2])] } K = (
 okLw (IntKind.i64.wrap (IntKind.i64.wrap (n0 * d1) + IntKind.i64.wrap (n1 * d0))) (IntKind.i64.wrap (d0 * d1)) ∧
 okLw
 (IntKind.i64.wrap
 (IntKind.i64.wrap
 (frN (IntKind.i64.wrap (IntKind.i64.wrap (n0 * d1) + IntKind.i64.wrap (n1 * d0)))
 (IntKind.i64.wrap (d0 * d1)) *
 d2) +
 IntKind.i64.wrap
 (n2 *
 frD (IntKind.i64.wrap (IntKind.i64.wrap (n0 * d1) + IntKind.i64.wrap (n1 * d0)))
 (IntKind.i64.wrap (d0 * d1)))))
 (IntKind.i64.wrap
 (frD (IntKind.i64.wrap (IntKind.i64.wrap (n0 * d1) + IntKind.i64.wrap (n1 * d0))) (IntKind.i64.wrap (d0 * d1)) *
 d2)) ∧
 bif
 !(frN
 (IntKind.i64.wrap
 (IntKind.i64.wrap
 (frN (IntKind.i64.wrap (IntKind.i64.wrap (n0 * d1) + IntKind.i64.wrap (n1 * d0)))
 (IntKind.i64.wrap (d0 * d1)) *
 d2) +
 IntKind.i64.wrap
 (n2 *
 frD (IntKind.i64.wrap (IntKind.i64.wrap (n0 * d1) + IntKind.i64.wrap (n1 * d0)))
 (IntKind.i64.wrap (d0 * d1)))))
 (IntKind.i64.wrap
 (frD (IntKind.i64.wrap (IntKind.i64.wrap (n0 * d1) + IntKind.i64.wrap (n1 * d0)))
 (IntKind.i64.wrap (d0 * d1)) *
 d2)) ==
 (1 : Int) &&
 frD
 (IntKind.i64.wrap
 (IntKind.i64.wrap
 (frN (IntKind.i64.wrap (IntKind.i64.wrap (n0 * d1) + IntKind.i64.wrap (n1 * d0)))
 (IntKind.i64.wrap (d0 * d1)) *
 d2) +
 IntKind.i64.wrap
 (n2 *
 frD (IntKind.i64.wrap (IntKind.i64.wrap (n0 * d1) + IntKind.i64.wrap (n1 * d0)))
 (IntKind.i64.wrap (d0 * d1)))))
 (IntKind.i64.wrap
 (frD (IntKind.i64.wrap (IntKind.i64.wrap (n0 * d1) + IntKind.i64.wrap (n1 * d0)))
 (IntKind.i64.wrap (d0 * d1)) *
 d2)) ==
 (1 : Int)) then
 K (AV.one (SV.bool false)) []
 else
 bif decide ((↑r.length : Int) > (200 : Int)) then
 bif e == (8 : Int) then K (AV.one (SV.bool (oK == (0 : Int) && oU == (0 : Int)))) []
 else K (AV.one (SV.bool false)) []
 else
 (r.length ≤ (1000 : Nat) ∧ teE t u l = (0 : Int)) ∧
 bif ouB t u l r then
 bif e == (0 : Int) then
 bif oK == (ouG t u l (0 : Int) (0 : Int) r).fst && oU == (ouG t u l (0 : Int) (0 : Int) r).snd.fst then
 K (AV.one (SV.bool true)) []
 else
 bif !ouB t u l r then
 bif e == (14 : Int) then K (AV.one (SV.bool (oK == (0 : Int) && oU == (0 : Int)))) []
 else K (AV.one (SV.bool false)) []
 else K (AV.one (SV.bool false)) []
 else
 bif !ouB t u l r then
 bif e == (14 : Int) then K (AV.one (SV.bool (oK == (0 : Int) && oU == (0 : Int)))) []
 else K (AV.one (SV.bool false)) []
 else K (AV.one (SV.bool false)) []
 else
 bif !ouB t u l r then
 bif e == (14 : Int) then K (AV.one (SV.bool (oK == (0 : Int) && oU == (0 : Int)))) []
 else K (AV.one (SV.bool false)) []
 else K (AV.one (SV.bool false)) []) := by kernel_rfl
end Go.Ev

namespace Go.Ev
open Go Go.Proofs
set_option maxRecDepth 100000
theorem exrch (t u l : Int) (K : AV → List Blk → Prop) : evFn Erch Tryd.f78 [.agg [.int .i64 t, .int .i64 u, .int .i64 l]] [] K = (
 bif
 decide ((0 : Int) ≤ IntKind.i64.wrap (IntKind.i64.wrap (l + u) + (1 : Int))) &&
 (decide
 (IntKind.i64.wrap (IntKind.i64.wrap (l + u) + (1 : Int)) ≤
 IntKind.i64.wrap (IntKind.i64.wrap (l + u) + (1 : Int))) &&
 decide
 (IntKind.i64.wrap (IntKind.i64.wrap (l + u) + (1 : Int)) * (8 : Int) ≤ (140737488355328 : Int) ∧
 IntKind.i64.wrap (IntKind.i64.wrap (l + u) + (1 : Int)) ≤ (140737488355328 : Int))) then
 bif
 decide ((0 : Int) ≤ l) &&
 decide
 (l <
 (↑(List.replicate (IntKind.i64.wrap (IntKind.i64.wrap (l + u) + (1 : Int))).toNat (0 : Int)).length :
 Int)) then
 bif
 decide
 (l.toNat + (0 : Nat) <
 (List.replicate (IntKind.i64.wrap (IntKind.i64.wrap (l + u) + (1 : Int))).toNat (0 : Int)).length) then
 (okT t u l ∧
 (1 : Int) ≤ (1 : Int) ∧
 (1 : Int) ≤ t + (1 : Int) ∧
 okW t u l (0 : Int) (0 : Int) (0 : Int)
 ((List.replicate (IntKind.i64.wrap (IntKind.i64.wrap (l + u) + (1 : Int))).toNat (0 : Int)).set
 (l.toNat + (0 : Nat)) (1 : Int))) ∧
 ((0 : Int) ≤ t ∧ t ≤ (1000 : Int)) ∧
 divG (cnt u l (0 : Int) t.toNat (0 : Int)) (pwG t.toNat (1 : Int)) ≠ (0 : Int) ∧
 divG (cnt u l (1 : Int) t.toNat (0 : Int)) (pwG t.toNat (1 : Int)) ≠ (0 : Int) ∧
 divG
 (IntKind.i64.wrap
 (IntKind.i64.wrap (pwG t.toNat (1 : Int) - cnt u l (0 : Int) t.toNat (0 : Int)) -
 cnt u l (1 : Int) t.toNat (0 : Int)))
 (pwG t.toNat (1 : Int)) ≠
 (0 : Int) ∧
 K
 (AV.agg
 [SV.int IntKind.i64
 (wi
 ((cnt u l (0 : Int) t.toNat (0 : Int)).tdiv
 (divG (cnt u l (0 : Int) t.toNat (0 : Int)) (pwG t.toNat (1 : Int))))),
 SV.int IntKind.i64
 (wi
 ((pwG t.toNat (1 : Int)).tdiv
 (divG (cnt u l (0 : Int) t.toNat (0 : Int)) (pwG t.toNat (1 : Int))))),
 SV.int IntKind.i64
 (wi
 ((cnt u l (1 : Int) t.toNat (0 : Int)).tdiv
 (divG (cnt u l (1 : Int) t.toNat (0 : Int)) (pwG t.toNat (1 : Int))))),
 SV.int IntKind.i64
 (wi
 ((pwG t.toNat (1 : Int)).tdiv
 (divG (cnt u l (1 : Int) t.toNat (0 : Int)) (pwG t.toNat (1 : Int))))),
 SV.int IntKind.i64
 (wi
 ((IntKind.i64.wrap
 (IntKind.i64.wrap (pwG t.toNat (1 : Int) - cnt u l (0 : Int) t.toNat (0 : Int)) -
 cnt u l (1 : Int) t.toNat (0 : Int))).tdiv
 (divG
 (IntKind.i64.wrap
 (IntKind.i64.wrap (pwG t.toNat (1 : Int) - cnt u l (0 : Int) t.toNat (0 : Int)) -
 cnt u l (1 : Int) t.toNat (0 : Int)))
 (pwG t.toNat (1 : Int))))),
 SV.int IntKind.i64
 (wi
 ((pwG t.toNat (1 : Int)).tdiv
 (divG
 (IntKind.i64.wrap
 (IntKind.i64.wrap (pwG t.toNat (1 : Int) - cnt u l (0 : Int) t.toNat (0 : Int)) -
 cnt u l (1 : Int) t.toNat (0 : Int)))
 (pwG t.toNat (1 : Int)))))])
 []
 else False
 else False
 else False) := by kernel_rfl
theorem exrchl0a (hd nt i t u l : Int) (a ws : List Int) (K : Ex → List AV → List Blk → Prop) : evBody Erch (lb Tryd.f78 0) [1, 2, 3, 4, 5, 6] [1, 2, 4, 5] [.one (.ptr 0 1 0 0), .one (.ptr 1 1 0 0), .one (.own 2 1), .one (.int .i64 hd), .one (.int .i64 nt), .one (.int .i64 i)] [.cells [.int .i64 t, .int .i64 u, .int .i64 l], .row 100 (.ints .i64 a), .row 3 (.ints .i64 ws)] K = (
 bif decide (i ≤ t) then
 bif
 decide ((0 : Int) ≤ (↑ws.length : Int)) &&
 (decide ((↑ws.length : Int) ≤ (↑ws.length : Int)) &&
 decide
 ((↑ws.length : Int) * (8 : Int) ≤ (140737488355328 : Int) ∧
 (↑ws.length : Int) ≤ (140737488355328 : Int))) then
 (okT t u l ∧
 ws.length ≤ (1000 : Nat) ∧
 (0 : Int) ≤ (0 : Int) ∧
 (0 : Int) ≤ (↑ws.length : Int) ∧ okV l (0 : Int) ws (List.replicate (↑ws.length : Int).toNat (0 : Int))) ∧
 ∀ (ns' : List Int),
 (ns'.length = (List.replicate (↑ws.length : Int).toNat (0 : Int)).length ∧
 (∀ (j : Nat), (0 : Int) ≤ ns'.getD j (0 : Int)) ∧
 ∀ (f : Int → Int),
 smW f (-l) ns' =
 smW f (-l) (List.replicate (↑ws.length : Int).toNat (0 : Int)) +
 smW (fun d => f (d + (1 : Int)) + f (d - (1 : Int))) (-l + (0 : Int)) ws) →
 bif
 decide ((0 : Int) ≤ IntKind.i64.wrap ((↑ns'.length : Int) - (1 : Int))) &&
 decide (IntKind.i64.wrap ((↑ns'.length : Int) - (1 : Int)) < (↑ns'.length : Int)) then
 bif decide ((IntKind.i64.wrap ((↑ns'.length : Int) - (1 : Int))).toNat + (0 : Nat) < ns'.length) then
 ((0 : Int) ≤ IntKind.i64.wrap (t - i) ∧ IntKind.i64.wrap (t - i) ≤ (1000 : Int)) ∧
 bif decide ((0 : Int) ≤ (0 : Int)) && decide ((0 : Int) < (↑ns'.length : Int)) then
 bif decide ((0 : Nat) < ns'.length) then
 ((0 : Int) ≤ IntKind.i64.wrap (t - i) ∧ IntKind.i64.wrap (t - i) ≤ (1000 : Int)) ∧
 bif decide ((0 : Int) ≤ (0 : Int)) && decide ((0 : Int) < (↑ns'.length : Int)) then
 bif decide ((0 : Nat) < ns'.length) then
 bif
 decide ((0 : Int) ≤ IntKind.i64.wrap ((↑ns'.length : Int) - (1 : Int))) &&
 decide
 (IntKind.i64.wrap ((↑ns'.length : Int) - (1 : Int)) <
 (↑(ns'.set (0 : Nat) (0 : Int)).length : Int)) then
 bif
 decide
 ((IntKind.i64.wrap ((↑ns'.length : Int) - (1 : Int))).toNat + (0 : Nat) <
 (ns'.set (0 : Nat) (0 : Int)).length) then
 K Ex.normal
 [AV.one (SV.ptr (0 : Nat) (1 : Nat) (0 : Nat) (0 : Nat)),
 AV.one (SV.ptr (1 : Nat) (1 : Nat) (0 : Nat) (0 : Nat)),
 AV.one (SV.own (2 : Nat) (1 : Nat)),
 AV.one
 (SV.int IntKind.i64
 (IntKind.i64.wrap
 (hd +
 IntKind.i64.wrap
 (ns'.getD
 ((IntKind.i64.wrap ((↑ns'.length : Int) - (1 : Int))).toNat + (0 : Nat))
 (0 : Int) *
 pwG (IntKind.i64.wrap (t - i)).toNat (1 : Int))))),
 AV.one
 (SV.int IntKind.i64
 (IntKind.i64.wrap
 (nt +
 IntKind.i64.wrap
 (ns'.getD (0 : Nat) (0 : Int) *
 pwG (IntKind.i64.wrap (t - i)).toNat (1 : Int))))),
 AV.one (SV.int IntKind.i64 (IntKind.i64.wrap (i + (1 : Int))))]
 [Blk.cells [SV.int IntKind.i64 t, SV.int IntKind.i64 u, SV.int IntKind.i64 l],
 Blk.row (100 : TypeId) (Row.ints IntKind.i64 a),
 Blk.row (3 : TypeId)
 (Row.ints IntKind.i64
 ((ns'.set (0 : Nat) (0 : Int)).set
 ((IntKind.i64.wrap ((↑ns'.length : Int) - (1 : Int))).toNat + (0 : Nat))
 (0 : Int)))]
 else False
 else False
 else False
 else False
 else False
 else False
 else False
 else False
 else False
 else
 K (Ex.exit (0 : Nat))
 [AV.one (SV.ptr (0 : Nat) (1 : Nat) (0 : Nat) (0 : Nat)), AV.one (SV.ptr (1 : Nat) (1 : Nat) (0 : Nat) (0 : Nat)),
 AV.one (SV.int IntKind.i64 hd), AV.one (SV.int IntKind.i64 nt)]
 [Blk.cells [SV.int IntKind.i64 t, SV.int IntKind.i64 u, SV.int IntKind.i64 l],
 Blk.row (100 : TypeId) (Row.ints IntKind.i64 a)]) := by kernel_rfl
theorem exrchl1a (hd nt i j t u l : Int) (a ws ns : List Int) (K : Ex → List AV → List Blk → Prop) : evBody Erch (lb Tryd.f78 1) [1, 2, 3, 4, 5, 6, 7, 8] [1, 2, 4, 5, 6, 7] [.one (.ptr 0 1 0 0), .one (.ptr 1 1 0 0), .one (.own 2 1), .one (.int .i64 hd), .one (.int .i64 nt), .one (.int .i64 i), .one (.own 3 1), .one (.int .i64 j)] [.cells [.int .i64 t, .int .i64 u, .int .i64 l], .row 100 (.ints .i64 a), .row 3 (.ints .i64 ws), .row 3 (.ints .i64 ns)] K = (
 bif decide (j < (↑ws.length : Int)) then
 bif decide ((0 : Int) ≤ j) && decide (j < (↑ws.length : Int)) then
 bif decide (j.toNat + (0 : Nat) < ws.length) then
 bif decide (ws.getD (j.toNat + (0 : Nat)) (0 : Int) > (0 : Int)) then
 bif
 decide ((0 : Int) ≤ IntKind.i64.wrap (j - (1 : Int))) &&
 decide (IntKind.i64.wrap (j - (1 : Int)) < (↑ns.length : Int)) then
 bif decide ((IntKind.i64.wrap (j - (1 : Int))).toNat + (0 : Nat) < ns.length) then
 bif decide ((0 : Int) ≤ j) && decide (j < (↑ws.length : Int)) then
 bif decide (j.toNat + (0 : Nat) < ws.length) then
 bif
 decide ((0 : Int) ≤ IntKind.i64.wrap (j + (1 : Int))) &&
 decide (IntKind.i64.wrap (j + (1 : Int)) < (↑ns.length : Int)) then
 bif decide ((IntKind.i64.wrap (j + (1 : Int))).toNat + (0 : Nat) < ns.length) then
 bif decide ((0 : Int) ≤ j) && decide (j < (↑ws.length : Int)) then
 bif decide (j.toNat + (0 : Nat) < ws.length) then
 bif
 decide ((0 : Int) ≤ IntKind.i64.wrap (j - (1 : Int))) &&
 decide (IntKind.i64.wrap (j - (1 : Int)) < (↑ns.length : Int)) then
 bif decide ((IntKind.i64.wrap (j - (1 : Int))).toNat + (0 : Nat) < ns.length) then
 bif
 decide ((0 : Int) ≤ IntKind.i64.wrap (j + (1 : Int))) &&
 decide
 (IntKind.i64.wrap (j + (1 : Int)) <
 (↑(ns.set ((IntKind.i64.wrap (j - (1 : Int))).toNat + (0 : Nat))
 (IntKind.i64.wrap
 (ns.getD ((IntKind.i64.wrap (j - (1 : Int))).toNat + (0 : Nat))
 (0 : Int) +
 ws.getD (j.toNat + (0 : Nat)) (0 : Int)))).length :
 Int)) then
 bif
 decide
 ((IntKind.i64.wrap (j + (1 : Int))).toNat + (0 : Nat) <
 (ns.set ((IntKind.i64.wrap (j - (1 : Int))).toNat + (0 : Nat))
 (IntKind.i64.wrap
 (ns.getD ((IntKind.i64.wrap (j - (1 : Int))).toNat + (0 : Nat)) (0 : Int) +
 ws.getD (j.toNat + (0 : Nat)) (0 : Int)))).length) then
 K Ex.normal
 [AV.one (SV.ptr (0 : Nat) (1 : Nat) (0 : Nat) (0 : Nat)),
 AV.one (SV.ptr (1 : Nat) (1 : Nat) (0 : Nat) (0 : Nat)),
 AV.one (SV.own (2 : Nat) (1 : Nat)), AV.one (SV.int IntKind.i64 hd),
 AV.one (SV.int IntKind.i64 nt), AV.one (SV.int IntKind.i64 i),
 AV.one (SV.own (3 : Nat) (1 : Nat)),
 AV.one (SV.int IntKind.i64 (IntKind.i64.wrap (j + (1 : Int))))]
 [Blk.cells [SV.int IntKind.i64 t, SV.int IntKind.i64 u, SV.int IntKind.i64 l],
 Blk.row (100 : TypeId) (Row.ints IntKind.i64 a),
 Blk.row (3 : TypeId) (Row.ints IntKind.i64 ws),
 Blk.row (3 : TypeId)
 (Row.ints IntKind.i64
 ((ns.set ((IntKind.i64.wrap (j - (1 : Int))).toNat + (0 : Nat))
 (IntKind.i64.wrap
 (ns.getD ((IntKind.i64.wrap (j - (1 : Int))).toNat + (0 : Nat))
 (0 : Int) +
 ws.getD (j.toNat + (0 : Nat)) (0 : Int)))).set
 ((IntKind.i64.wrap (j + (1 : Int))).toNat + (0 : Nat))
 (IntKind.i64.wrap
 (ns.getD ((IntKind.i64.wrap (j + (1 : Int))).toNat + (0 : Nat)) (0 : Int) +
 ws.getD (j.toNat + (0 : Nat)) (0 : Int)))))]
 else False
 else False
 else False
 else False
 else False
 else False
 else False
 else False
 else False
 else False
 else False
 else False
 else
 K Ex.normal
 [AV.one (SV.ptr (0 : Nat) (1 : Nat) (0 : Nat) (0 : Nat)),
 AV.one (SV.ptr (1 : Nat) (1 : Nat) (0 : Nat) (0 : Nat)), AV.one (SV.own (2 : Nat) (1 : Nat)),
 AV.one (SV.int IntKind.i64 hd), AV.one (SV.int IntKind.i64 nt), AV.one (SV.int IntKind.i64 i),
 AV.one (SV.own (3 : Nat) (1 : Nat)), AV.one (SV.int IntKind.i64 (IntKind.i64.wrap (j + (1 : Int))))]
 [Blk.cells [SV.int IntKind.i64 t, SV.int IntKind.i64 u, SV.int IntKind.i64 l],
 Blk.row (100 : TypeId) (Row.ints IntKind.i64 a), Blk.row (3 : TypeId) (Row.ints IntKind.i64 ws),
 Blk.row (3 : TypeId) (Row.ints IntKind.i64 ns)]
 else False
 else False
 else
 K (Ex.exit (2 : Nat))
 [AV.one (SV.ptr (0 : Nat) (1 : Nat) (0 : Nat) (0 : Nat)), AV.one (SV.ptr (1 : Nat) (1 : Nat) (0 : Nat) (0 : Nat)),
 AV.one (SV.int IntKind.i64 hd), AV.one (SV.int IntKind.i64 nt), AV.one (SV.int IntKind.i64 i),
 AV.one (SV.own (2 : Nat) (1 : Nat))]
 [Blk.cells [SV.int IntKind.i64 t, SV.int IntKind.i64 u, SV.int IntKind.i64 l],
 Blk.row (100 : TypeId) (Row.ints IntKind.i64 a), Blk.row (3 : TypeId) (Row.ints IntKind.i64 ns)]) := by kernel_rfl
end Go.Ev

namespace Go.Ev
open Go Go.Proofs
set_option maxRecDepth 100000
theorem extet (t u l : Int) (K : AV → List Blk → Prop) : evFn Etet Tryd.f77 [.agg [.int .i64 t, .int .i64 u, .int .i64 l]] [] K = (
 bif decide ((1 : Int) ≤ t) && decide (t ≤ (29 : Int)) then
 bif decide ((1 : Int) ≤ u) && decide (u ≤ t) then
 K (AV.one (SV.int IntKind.i64 (bif decide ((1 : Int) ≤ l) && decide (l ≤ t) then (0 : Int) else (2 : Int)))) []
 else K (AV.one (SV.int IntKind.i64 (2 : Int))) []
 else K (AV.one (SV.int IntKind.i64 (2 : Int))) []) := by kernel_rfl
theorem extre (t u l : Int) (K : AV → List Blk → Prop) : evFn Etre Tryd.f76 [.agg [.int .i64 t, .int .i64 u, .int .i64 l]] [] K = (
 bif !(decide ((1 : Int) ≤ t) && decide (t ≤ (29 : Int))) then K (AV.one (SV.int IntKind.i64 (2 : Int))) []
 else
 bif !(decide ((1 : Int) ≤ u) && decide (u ≤ t)) then K (AV.one (SV.int IntKind.i64 (2 : Int))) []
 else
 bif !(decide ((1 : Int) ≤ l) && decide (l ≤ t)) then K (AV.one (SV.int IntKind.i64 (2 : Int))) []
 else K (AV.one (SV.int IntKind.i64 (0 : Int))) []) := by kernel_rfl
theorem exend2 (t u l i d : Int) (K : AV → List Blk → Prop) : evFn Eend2 Tryd.f129 [.agg [.int .i64 t, .int .i64 u, .int .i64 l], .one (.int .i64 i), .one (.int .i64 d)] [] K = (
 bif decide (d ≥ u) then K (AV.tup [TV.one (SV.int IntKind.i64 (0 : Int)), TV.one (SV.bool true)]) []
 else
 bif decide (IntKind.i64.wrap ((0 : Int) - d) ≥ l) then
 K (AV.tup [TV.one (SV.int IntKind.i64 (1 : Int)), TV.one (SV.bool true)]) []
 else K (AV.tup [TV.one (SV.int IntKind.i64 (2 : Int)), TV.one (SV.bool (i == t))]) []) := by kernel_rfl
theorem exout (t u l : Int) (r : List (List D)) (K : AV → List Blk → Prop) : evFn Eout Tryd.f73 [.agg [.int .i64 t, .int .i64 u, .int .i64 l], .one (.data (.recs [.bool] r))] [] K = (
 [teE t u l, bif decide ((↑r.length : Int) ≤ (200 : Int)) then (0 : Int) else (8 : Int)].length ≤ (1000 : Nat) ∧
 bif firstE [teE t u l, bif decide ((↑r.length : Int) ≤ (200 : Int)) then (0 : Int) else (8 : Int)] != (0 : Int) then
 K
 (AV.tup
 [TV.agg [SV.int IntKind.i64 (0 : Int), SV.int IntKind.i64 (0 : Int)],
 TV.one
 (SV.int IntKind.i64
 (firstE [teE t u l, bif decide ((↑r.length : Int) ≤ (200 : Int)) then (0 : Int) else (8 : Int)]))])
 []
 else
 (r.length ≤ (1000 : Nat) ∧
 (0 : Int) ≤ (0 : Int) ∧
 (↑r.length : Int) = (↑r.length : Int) ∧
 (0 : Int) ≤ (↑r.length : Int) ∧
 (-1000 : Int) ≤ (0 : Int) - ((↑r.length : Int) - (0 : Int)) ∧
 (0 : Int) + ((↑r.length : Int) - (0 : Int)) ≤ (1000 : Int)) ∧
 bif (ouG t u l (0 : Int) (0 : Int) r).snd.snd == (0 : Int) then
 K
 (AV.tup
 [TV.agg
 [SV.int IntKind.i64 (ouG t u l (0 : Int) (0 : Int) r).fst,
 SV.int IntKind.i64 (ouG t u l (0 : Int) (0 : Int) r).snd.fst],
 TV.one (SV.int IntKind.i64 (0 : Int))])
 []
 else
 K
 (AV.tup
 [TV.agg [SV.int IntKind.i64 (0 : Int), SV.int IntKind.i64 (0 : Int)],
 TV.one (SV.int IntKind.i64 (14 : Int))])
 []) := by kernel_rfl
theorem exoutl0a (d : Int) (r : List (List D)) (n i t u l : Int) (K : Ex → List AV → List Blk → Prop) : evBody Eout (lb Tryd.f73 0) [2, 4, 7, 24, 25, 26] [4, 5] [.one (.ptr 0 1 0 0), .one (.ptr 1 1 0 0), .one (.int .i64 d), .one (.data (.recs [.bool] r)), .one (.int .i64 n), .one (.int .i64 i)] [.cells [.int .i64 t, .int .i64 u, .int .i64 l], .cells [.int .i64 0, .int .i64 0]] K = (
 bif decide (i < n) then
 bif decide ((0 : Int) ≤ i) && decide (i < (↑r.length : Int)) then
 bif decide ((0 : Nat) < (1 : Nat)) && decide (i.toNat < r.length) then
 bif ((r.getD i.toNat []).getD (0 : Nat) (D.int (0 : Int))).toBool then
 ((-1000000 : Int) ≤ IntKind.i64.wrap (d + (1 : Int)) ∧ IntKind.i64.wrap (d + (1 : Int)) ≤ (1000000 : Int)) ∧
 bif enB t u l (IntKind.i64.wrap (i + (1 : Int))) (IntKind.i64.wrap (d + (1 : Int))) then
 K Ex.ret [AV.one (SV.ptr (0 : Nat) (1 : Nat) (0 : Nat) (0 : Nat)), AV.one (SV.int IntKind.i64 (0 : Int))]
 [Blk.cells
 [SV.int IntKind.i64 (enK u l (IntKind.i64.wrap (d + (1 : Int)))),
 SV.int IntKind.i64 (IntKind.i64.wrap (i + (1 : Int)))]]
 else
 K Ex.normal
 [AV.one (SV.ptr (0 : Nat) (1 : Nat) (0 : Nat) (0 : Nat)),
 AV.one (SV.ptr (1 : Nat) (1 : Nat) (0 : Nat) (0 : Nat)),
 AV.one (SV.int IntKind.i64 (IntKind.i64.wrap (d + (1 : Int)))), AV.one (SV.data (Row.recs [CK.bool] r)),
 AV.one (SV.int IntKind.i64 n), AV.one (SV.int IntKind.i64 (IntKind.i64.wrap (i + (1 : Int))))]
 [Blk.cells [SV.int IntKind.i64 t, SV.int IntKind.i64 u, SV.int IntKind.i64 l],
 Blk.cells [SV.int IntKind.i64 (0 : Int), SV.int IntKind.i64 (0 : Int)]]
 else
 ((-1000000 : Int) ≤ IntKind.i64.wrap (d - (1 : Int)) ∧ IntKind.i64.wrap (d - (1 : Int)) ≤ (1000000 : Int)) ∧
 bif enB t u l (IntKind.i64.wrap (i + (1 : Int))) (IntKind.i64.wrap (d - (1 : Int))) then
 K Ex.ret [AV.one (SV.ptr (0 : Nat) (1 : Nat) (0 : Nat) (0 : Nat)), AV.one (SV.int IntKind.i64 (0 : Int))]
 [Blk.cells
 [SV.int IntKind.i64 (enK u l (IntKind.i64.wrap (d - (1 : Int)))),
 SV.int IntKind.i64 (IntKind.i64.wrap (i + (1 : Int)))]]
 else
 K Ex.normal
 [AV.one (SV.ptr (0 : Nat) (1 : Nat) (0 : Nat) (0 : Nat)),
 AV.one (SV.ptr (1 : Nat) (1 : Nat) (0 : Nat) (0 : Nat)),
 AV.one (SV.int IntKind.i64 (IntKind.i64.wrap (d - (1 : Int)))), AV.one (SV.data (Row.recs [CK.bool] r)),
 AV.one (SV.int IntKind.i64 n), AV.one (SV.int IntKind.i64 (IntKind.i64.wrap (i + (1 : Int))))]
 [Blk.cells [SV.int IntKind.i64 t, SV.int IntKind.i64 u, SV.int IntKind.i64 l],
 Blk.cells [SV.int IntKind.i64 (0 : Int), SV.int IntKind.i64 (0 : Int)]]
 else False
 else False
 else
 K (Ex.exit (0 : Nat)) [AV.one (SV.ptr (0 : Nat) (1 : Nat) (0 : Nat) (0 : Nat)), AV.any]
 [Blk.cells [SV.int IntKind.i64 (0 : Int), SV.int IntKind.i64 (0 : Int)]]) := by kernel_rfl
theorem exrot (t u l : Int) (r : List (List D)) (K : AV → List Blk → Prop) : evFn Erot Tryd.f79 [.agg [.int .i64 t, .int .i64 u, .int .i64 l], .one (.data (.recs [.bool] r))] [] K = (
 (r.length ≤ (1000 : Nat) ∧
 (0 : Int) ≤ (0 : Int) ∧
 (0 : Int) ≤ (↑r.length : Int) ∧
 -l < (0 : Int) ∧ (0 : Int) < u ∧ (1 : Int) ≤ u ∧ u ≤ (29 : Int) ∧ (1 : Int) ≤ l ∧ l ≤ (29 : Int)) ∧
 bif (ouG t u l (0 : Int) (0 : Int) r).snd.snd == (0 : Int) then
 K
 (AV.tup
 [TV.agg
 [SV.int IntKind.i64 (ouG t u l (0 : Int) (0 : Int) r).fst,
 SV.int IntKind.i64 (ouG t u l (0 : Int) (0 : Int) r).snd.fst],
 TV.one (SV.bool true)])
 []
 else K (AV.tup [TV.agg [SV.int IntKind.i64 (0 : Int), SV.int IntKind.i64 (0 : Int)], TV.one (SV.bool false)]) []) := by kernel_rfl
theorem exrotl0a (r : List (List D)) (d i t u l : Int) (K : Ex → List AV → List Blk → Prop) : evBody Erot (lb Tryd.f79 0) [1, 2, 4, 6, 7] [4, 5] [.one (.data (.recs [.bool] r)), .one (.ptr 0 1 0 0), .one (.ptr 1 1 0 0), .one (.int .i64 d), .one (.int .i64 i)] [.cells [.int .i64 t, .int .i64 u, .int .i64 l], .cells [.int .i64 0, .int .i64 0]] K = (
 bif decide (i < (↑r.length : Int)) then
 bif decide ((0 : Int) ≤ i) && decide (i < (↑r.length : Int)) then
 bif decide ((0 : Nat) < (1 : Nat)) && decide (i.toNat < r.length) then
 bif ((r.getD i.toNat []).getD (0 : Nat) (D.int (0 : Int))).toBool then
 bif IntKind.i64.wrap (d + (1 : Int)) == u then
 K Ex.ret [AV.one (SV.ptr (0 : Nat) (1 : Nat) (0 : Nat) (0 : Nat)), AV.one (SV.bool true)]
 [Blk.cells [SV.int IntKind.i64 (0 : Int), SV.int IntKind.i64 (IntKind.i64.wrap (i + (1 : Int)))]]
 else
 bif IntKind.i64.wrap (d + (1 : Int)) == IntKind.i64.wrap ((0 : Int) - l) then
 K Ex.ret [AV.one (SV.ptr (0 : Nat) (1 : Nat) (0 : Nat) (0 : Nat)), AV.one (SV.bool true)]
 [Blk.cells [SV.int IntKind.i64 (1 : Int), SV.int IntKind.i64 (IntKind.i64.wrap (i + (1 : Int)))]]
 else
 bif IntKind.i64.wrap (i + (1 : Int)) == t then
 K Ex.ret [AV.one (SV.ptr (0 : Nat) (1 : Nat) (0 : Nat) (0 : Nat)), AV.one (SV.bool true)]
 [Blk.cells [SV.int IntKind.i64 (2 : Int), SV.int IntKind.i64 (IntKind.i64.wrap (i + (1 : Int)))]]
 else
 K Ex.normal
 [AV.one (SV.data (Row.recs [CK.bool] r)), AV.one (SV.ptr (0 : Nat) (1 : Nat) (0 : Nat) (0 : Nat)),
 AV.one (SV.ptr (1 : Nat) (1 : Nat) (0 : Nat) (0 : Nat)),
 AV.one (SV.int IntKind.i64 (IntKind.i64.wrap (d + (1 : Int)))),
 AV.one (SV.int IntKind.i64 (IntKind.i64.wrap (i + (1 : Int))))]
 [Blk.cells [SV.int IntKind.i64 t, SV.int IntKind.i64 u, SV.int IntKind.i64 l],
 Blk.cells [SV.int IntKind.i64 (0 : Int), SV.int IntKind.i64 (0 : Int)]]
 else
 bif IntKind.i64.wrap (d - (1 : Int)) == u then
 K Ex.ret [AV.one (SV.ptr (0 : Nat) (1 : Nat) (0 : Nat) (0 : Nat)), AV.one (SV.bool true)]
 [Blk.cells [SV.int IntKind.i64 (0 : Int), SV.int IntKind.i64 (IntKind.i64.wrap (i + (1 : Int)))]]
 else
 bif IntKind.i64.wrap (d - (1 : Int)) == IntKind.i64.wrap ((0 : Int) - l) then
 K Ex.ret [AV.one (SV.ptr (0 : Nat) (1 : Nat) (0 : Nat) (0 : Nat)), AV.one (SV.bool true)]
 [Blk.cells [SV.int IntKind.i64 (1 : Int), SV.int IntKind.i64 (IntKind.i64.wrap (i + (1 : Int)))]]
 else
 bif IntKind.i64.wrap (i + (1 : Int)) == t then
 K Ex.ret [AV.one (SV.ptr (0 : Nat) (1 : Nat) (0 : Nat) (0 : Nat)), AV.one (SV.bool true)]
 [Blk.cells [SV.int IntKind.i64 (2 : Int), SV.int IntKind.i64 (IntKind.i64.wrap (i + (1 : Int)))]]
 else
 K Ex.normal
 [AV.one (SV.data (Row.recs [CK.bool] r)), AV.one (SV.ptr (0 : Nat) (1 : Nat) (0 : Nat) (0 : Nat)),
 AV.one (SV.ptr (1 : Nat) (1 : Nat) (0 : Nat) (0 : Nat)),
 AV.one (SV.int IntKind.i64 (IntKind.i64.wrap (d - (1 : Int)))),
 AV.one (SV.int IntKind.i64 (IntKind.i64.wrap (i + (1 : Int))))]
 [Blk.cells [SV.int IntKind.i64 t, SV.int IntKind.i64 u, SV.int IntKind.i64 l],
 Blk.cells [SV.int IntKind.i64 (0 : Int), SV.int IntKind.i64 (0 : Int)]]
 else False
 else False
 else
 K (Ex.exit (0 : Nat)) [AV.one (SV.ptr (0 : Nat) (1 : Nat) (0 : Nat) (0 : Nat)), AV.any]
 [Blk.cells [SV.int IntKind.i64 (0 : Int), SV.int IntKind.i64 (0 : Int)]]) := by kernel_rfl
theorem excpa (r : List (List D)) (K : AV → List Blk → Prop) : evFn Ecpa Tryd.f74 [.one (.data (.recs [.bool] r))] [] K = (
 bif decide (r.length * (1 : Nat) ≤ (140737488355328 : Nat) ∧ r.length ≤ (140737488355328 : Nat)) then
 K (AV.one (SV.own (0 : Nat) (1 : Nat))) [Blk.row (4 : Nat) (Row.recs [CK.bool] r)]
 else False) := by kernel_rfl
theorem exchn2 (t u l : Int) (K : AV → List Blk → Prop) : evFn Echn2 Tryd.f75 [.agg [.int .i64 t, .int .i64 u, .int .i64 l]] [] K = (
 bif teE t u l != (0 : Int) then
 K
 (AV.tup
 [TV.agg
 [SV.int IntKind.i64 (0 : Int), SV.int IntKind.i64 (0 : Int), SV.int IntKind.i64 (0 : Int),
 SV.int IntKind.i64 (0 : Int), SV.int IntKind.i64 (0 : Int), SV.int IntKind.i64 (0 : Int)],
 TV.one (SV.int IntKind.i64 (teE t u l))])
 []
 else
 (okT t u l ∧
 (1 : Int) ≤ (1 : Int) ∧
 (1 : Int) ≤ t + (1 : Int) ∧
 okCn t u l (0 : Int) [(0 : Int), (0 : Int), (0 : Int)] [([(0 : Int)], [(1 : Int)])]) ∧
 bif !decide (t < (0 : Int)) then
 gcdG (cnt u l (0 : Int) t.toNat (0 : Int)) (IntKind.i64.wrap ((1 : Int) * (2 : Int) ^ min t.toNat (64 : Nat))) ≠
 (0 : Int) ∧
 bif !decide (t < (0 : Int)) then
 gcdG (cnt u l (1 : Int) t.toNat (0 : Int))
 (IntKind.i64.wrap ((1 : Int) * (2 : Int) ^ min t.toNat (64 : Nat))) ≠
 (0 : Int) ∧
 bif !decide (t < (0 : Int)) then
 gcdG (cnt u l (2 : Int) t.toNat (0 : Int))
 (IntKind.i64.wrap ((1 : Int) * (2 : Int) ^ min t.toNat (64 : Nat))) ≠
 (0 : Int) ∧
 K
 (AV.tup
 [TV.agg
 [SV.int IntKind.i64
 ((List.take (4 : Nat)
 (List.take (2 : Nat)
 (List.take (0 : Nat)
 [(0 : Int), (0 : Int), (0 : Int), (0 : Int), (0 : Int), (0 : Int)] ++
 [wi
 ((cnt u l (0 : Int) t.toNat (0 : Int)).tdiv
 (gcdG (cnt u l (0 : Int) t.toNat (0 : Int))
 (IntKind.i64.wrap
 ((1 : Int) * (2 : Int) ^ min t.toNat (64 : Nat))))),
 wi
 ((IntKind.i64.wrap
 ((1 : Int) * (2 : Int) ^ min t.toNat (64 : Nat))).tdiv
 (gcdG (cnt u l (0 : Int) t.toNat (0 : Int))
 (IntKind.i64.wrap
 ((1 : Int) * (2 : Int) ^ min t.toNat (64 : Nat)))))] ++
 List.drop (0 : Nat) [(0 : Int), (0 : Int), (0 : Int), (0 : Int)]) ++
 [wi
 ((cnt u l (1 : Int) t.toNat (0 : Int)).tdiv
 (gcdG (cnt u l (1 : Int) t.toNat (0 : Int))
 (IntKind.i64.wrap ((1 : Int) * (2 : Int) ^ min t.toNat (64 : Nat))))),
 wi
 ((IntKind.i64.wrap ((1 : Int) * (2 : Int) ^ min t.toNat (64 : Nat))).tdiv
 (gcdG (cnt u l (1 : Int) t.toNat (0 : Int))
 (IntKind.i64.wrap
 ((1 : Int) * (2 : Int) ^ min t.toNat (64 : Nat)))))] ++
 List.drop
 ((2 : Nat) +
 [wi
 ((cnt u l (1 : Int) t.toNat (0 : Int)).tdiv
 (gcdG (cnt u l (1 : Int) t.toNat (0 : Int))
 (IntKind.i64.wrap
 ((1 : Int) * (2 : Int) ^ min t.toNat (64 : Nat))))),
 wi
 ((IntKind.i64.wrap
 ((1 : Int) * (2 : Int) ^ min t.toNat (64 : Nat))).tdiv
 (gcdG (cnt u l (1 : Int) t.toNat (0 : Int))
 (IntKind.i64.wrap
 ((1 : Int) * (2 : Int) ^ min t.toNat (64 : Nat)))))].length)
 (List.take (0 : Nat)
 [(0 : Int), (0 : Int), (0 : Int), (0 : Int), (0 : Int), (0 : Int)] ++
 [wi
 ((cnt u l (0 : Int) t.toNat (0 : Int)).tdiv
 (gcdG (cnt u l (0 : Int) t.toNat (0 : Int))
 (IntKind.i64.wrap
 ((1 : Int) * (2 : Int) ^ min t.toNat (64 : Nat))))),
 wi
 ((IntKind.i64.wrap
 ((1 : Int) * (2 : Int) ^ min t.toNat (64 : Nat))).tdiv
 (gcdG (cnt u l (0 : Int) t.toNat (0 : Int))
 (IntKind.i64.wrap
 ((1 : Int) * (2 : Int) ^ min t.toNat (64 : Nat)))))] ++
 List.drop (0 : Nat) [(0 : Int), (0 : Int), (0 : Int), (0 : Int)])) ++
 [wi
 ((cnt u l (2 : Int) t.toNat (0 : Int)).tdiv
 (gcdG (cnt u l (2 : Int) t.toNat (0 : Int))
 (IntKind.i64.wrap ((1 : Int) * (2 : Int) ^ min t.toNat (64 : Nat))))),
 wi
 ((IntKind.i64.wrap ((1 : Int) * (2 : Int) ^ min t.toNat (64 : Nat))).tdiv
 (gcdG (cnt u l (2 : Int) t.toNat (0 : Int))
 (IntKind.i64.wrap ((1 : Int) * (2 : Int) ^ min t.toNat (64 : Nat)))))] ++
 List.drop
 ((4 : Nat) +
 [wi
 ((cnt u l (2 : Int) t.toNat (0 : Int)).tdiv
 (gcdG (cnt u l (2 : Int) t.toNat (0 : Int))
 (IntKind.i64.wrap ((1 : Int) * (2 : Int) ^ min t.toNat (64 : Nat))))),
 wi
 ((IntKind.i64.wrap ((1 : Int) * (2 : Int) ^ min t.toNat (64 : Nat))).tdiv
 (gcdG (cnt u l (2 : Int) t.toNat (0 : Int))
 (IntKind.i64.wrap
 ((1 : Int) * (2 : Int) ^ min t.toNat (64 : Nat)))))].length)
 (List.take (2 : Nat)
 (List.take (0 : Nat)
 [(0 : Int), (0 : Int), (0 : Int), (0 : Int), (0 : Int), (0 : Int)] ++
 [wi
 ((cnt u l (0 : Int) t.toNat (0 : Int)).tdiv
 (gcdG (cnt u l (0 : Int) t.toNat (0 : Int))
 (IntKind.i64.wrap
 ((1 : Int) * (2 : Int) ^ min t.toNat (64 : Nat))))),
 wi
 ((IntKind.i64.wrap
 ((1 : Int) * (2 : Int) ^ min t.toNat (64 : Nat))).tdiv
 (gcdG (cnt u l (0 : Int) t.toNat (0 : Int))
 (IntKind.i64.wrap
 ((1 : Int) * (2 : Int) ^ min t.toNat (64 : Nat)))))] ++
 List.drop (0 : Nat) [(0 : Int), (0 : Int), (0 : Int), (0 : Int)]) ++
 [wi
 ((cnt u l (1 : Int) t.toNat (0 : Int)).tdiv
 (gcdG (cnt u l (1 : Int) t.toNat (0 : Int))
 (IntKind.i64.wrap ((1 : Int) * (2 : Int) ^ min t.toNat (64 : Nat))))),
 wi
 ((IntKind.i64.wrap ((1 : Int) * (2 : Int) ^ min t.toNat (64 : Nat))).tdiv
 (gcdG (cnt u l (1 : Int) t.toNat (0 : Int))
 (IntKind.i64.wrap
 ((1 : Int) * (2 : Int) ^ min t.toNat (64 : Nat)))))] ++
 List.drop
 ((2 : Nat) +
 [wi
 ((cnt u l (1 : Int) t.toNat (0 : Int)).tdiv
 (gcdG (cnt u l (1 : Int) t.toNat (0 : Int))
 (IntKind.i64.wrap
 ((1 : Int) * (2 : Int) ^ min t.toNat (64 : Nat))))),
 wi
 ((IntKind.i64.wrap
 ((1 : Int) * (2 : Int) ^ min t.toNat (64 : Nat))).tdiv
 (gcdG (cnt u l (1 : Int) t.toNat (0 : Int))
 (IntKind.i64.wrap
 ((1 : Int) * (2 : Int) ^ min t.toNat (64 : Nat)))))].length)
 (List.take (0 : Nat)
 [(0 : Int), (0 : Int), (0 : Int), (0 : Int), (0 : Int), (0 : Int)] ++
 [wi
 ((cnt u l (0 : Int) t.toNat (0 : Int)).tdiv
 (gcdG (cnt u l (0 : Int) t.toNat (0 : Int))
 (IntKind.i64.wrap
 ((1 : Int) * (2 : Int) ^ min t.toNat (64 : Nat))))),
 wi
 ((IntKind.i64.wrap
 ((1 : Int) * (2 : Int) ^ min t.toNat (64 : Nat))).tdiv
 (gcdG (cnt u l (0 : Int) t.toNat (0 : Int))
 (IntKind.i64.wrap
 ((1 : Int) * (2 : Int) ^ min t.toNat (64 : Nat)))))] ++
 List.drop (0 : Nat) [(0 : Int), (0 : Int), (0 : Int), (0 : Int)]))).getD
 (0 : Nat) (0 : Int)),
 SV.int IntKind.i64
 ((List.take (4 : Nat)
 (List.take (2 : Nat)
 (List.take (0 : Nat)
 [(0 : Int), (0 : Int), (0 : Int), (0 : Int), (0 : Int), (0 : Int)] ++
 [wi
 ((cnt u l (0 : Int) t.toNat (0 : Int)).tdiv
 (gcdG (cnt u l (0 : Int) t.toNat (0 : Int))
 (IntKind.i64.wrap
 ((1 : Int) * (2 : Int) ^ min t.toNat (64 : Nat))))),
 wi
 ((IntKind.i64.wrap
 ((1 : Int) * (2 : Int) ^ min t.toNat (64 : Nat))).tdiv
 (gcdG (cnt u l (0 : Int) t.toNat (0 : Int))
 (IntKind.i64.wrap
 ((1 : Int) * (2 : Int) ^ min t.toNat (64 : Nat)))))] ++
 List.drop (0 : Nat) [(0 : Int), (0 : Int), (0 : Int), (0 : Int)]) ++
 [wi
 ((cnt u l (1 : Int) t.toNat (0 : Int)).tdiv
 (gcdG (cnt u l (1 : Int) t.toNat (0 : Int))
 (IntKind.i64.wrap ((1 : Int) * (2 : Int) ^ min t.toNat (64 : Nat))))),
 wi
 ((IntKind.i64.wrap ((1 : Int) * (2 : Int) ^ min t.toNat (64 : Nat))).tdiv
 (gcdG (cnt u l (1 : Int) t.toNat (0 : Int))
 (IntKind.i64.wrap
 ((1 : Int) * (2 : Int) ^ min t.toNat (64 : Nat)))))] ++
 List.drop
 ((2 : Nat) +
 [wi
 ((cnt u l (1 : Int) t.toNat (0 : Int)).tdiv
 (gcdG (cnt u l (1 : Int) t.toNat (0 : Int))
 (IntKind.i64.wrap
 ((1 : Int) * (2 : Int) ^ min t.toNat (64 : Nat))))),
 wi
 ((IntKind.i64.wrap
 ((1 : Int) * (2 : Int) ^ min t.toNat (64 : Nat))).tdiv
 (gcdG (cnt u l (1 : Int) t.toNat (0 : Int))
 (IntKind.i64.wrap
 ((1 : Int) * (2 : Int) ^ min t.toNat (64 : Nat)))))].length)
 (List.take (0 : Nat)
 [(0 : Int), (0 : Int), (0 : Int), (0 : Int), (0 : Int), (0 : Int)] ++
 [wi
 ((cnt u l (0 : Int) t.toNat (0 : Int)).tdiv
 (gcdG (cnt u l (0 : Int) t.toNat (0 : Int))
 (IntKind.i64.wrap
 ((1 : Int) * (2 : Int) ^ min t.toNat (64 : Nat))))),
 wi
 ((IntKind.i64.wrap
 ((1 : Int) * (2 : Int) ^ min t.toNat (64 : Nat))).tdiv
 (gcdG (cnt u l (0 : Int) t.toNat (0 : Int))
 (IntKind.i64.wrap
 ((1 : Int) * (2 : Int) ^ min t.toNat (64 : Nat)))))] ++
 List.drop (0 : Nat) [(0 : Int), (0 : Int), (0 : Int), (0 : Int)])) ++
 [wi
 ((cnt u l (2 : Int) t.toNat (0 : Int)).tdiv
 (gcdG (cnt u l (2 : Int) t.toNat (0 : Int))
 (IntKind.i64.wrap ((1 : Int) * (2 : Int) ^ min t.toNat (64 : Nat))))),
 wi
 ((IntKind.i64.wrap ((1 : Int) * (2 : Int) ^ min t.toNat (64 : Nat))).tdiv
 (gcdG (cnt u l (2 : Int) t.toNat (0 : Int))
 (IntKind.i64.wrap ((1 : Int) * (2 : Int) ^ min t.toNat (64 : Nat)))))] ++
 List.drop
 ((4 : Nat) +
 [wi
 ((cnt u l (2 : Int) t.toNat (0 : Int)).tdiv
 (gcdG (cnt u l (2 : Int) t.toNat (0 : Int))
 (IntKind.i64.wrap ((1 : Int) * (2 : Int) ^ min t.toNat (64 : Nat))))),
 wi
 ((IntKind.i64.wrap ((1 : Int) * (2 : Int) ^ min t.toNat (64 : Nat))).tdiv
 (gcdG (cnt u l (2 : Int) t.toNat (0 : Int))
 (IntKind.i64.wrap
 ((1 : Int) * (2 : Int) ^ min t.toNat (64 : Nat)))))].length)
 (List.take (2 : Nat)
 (List.take (0 : Nat)
 [(0 : Int), (0 : Int), (0 : Int), (0 : Int), (0 : Int), (0 : Int)] ++
 [wi
 ((cnt u l (0 : Int) t.toNat (0 : Int)).tdiv
 (gcdG (cnt u l (0 : Int) t.toNat (0 : Int))
 (IntKind.i64.wrap
 ((1 : Int) * (2 : Int) ^ min t.toNat (64 : Nat))))),
 wi
 ((IntKind.i64.wrap
 ((1 : Int) * (2 : Int) ^ min t.toNat (64 : Nat))).tdiv
 (gcdG (cnt u l (0 : Int) t.toNat (0 : Int))
 (IntKind.i64.wrap
 ((1 : Int) * (2 : Int) ^ min t.toNat (64 : Nat)))))] ++
 List.drop (0 : Nat) [(0 : Int), (0 : Int), (0 : Int), (0 : Int)]) ++
 [wi
 ((cnt u l (1 : Int) t.toNat (0 : Int)).tdiv
 (gcdG (cnt u l (1 : Int) t.toNat (0 : Int))
 (IntKind.i64.wrap ((1 : Int) * (2 : Int) ^ min t.toNat (64 : Nat))))),
 wi
 ((IntKind.i64.wrap ((1 : Int) * (2 : Int) ^ min t.toNat (64 : Nat))).tdiv
 (gcdG (cnt u l (1 : Int) t.toNat (0 : Int))
 (IntKind.i64.wrap
 ((1 : Int) * (2 : Int) ^ min t.toNat (64 : Nat)))))] ++
 List.drop
 ((2 : Nat) +
 [wi
 ((cnt u l (1 : Int) t.toNat (0 : Int)).tdiv
 (gcdG (cnt u l (1 : Int) t.toNat (0 : Int))
 (IntKind.i64.wrap
 ((1 : Int) * (2 : Int) ^ min t.toNat (64 : Nat))))),
 wi
 ((IntKind.i64.wrap
 ((1 : Int) * (2 : Int) ^ min t.toNat (64 : Nat))).tdiv
 (gcdG (cnt u l (1 : Int) t.toNat (0 : Int))
 (IntKind.i64.wrap
 ((1 : Int) * (2 : Int) ^ min t.toNat (64 : Nat)))))].length)
 (List.take (0 : Nat)
 [(0 : Int), (0 : Int), (0 : Int), (0 : Int), (0 : Int), (0 : Int)] ++
 [wi
 ((cnt u l (0 : Int) t.toNat (0 : Int)).tdiv
 (gcdG (cnt u l (0 : Int) t.toNat (0 : Int))
 (IntKind.i64.wrap
 ((1 : Int) * (2 : Int) ^ min t.toNat (64 : Nat))))),
 wi
 ((IntKind.i64.wrap
 ((1 : Int) * (2 : Int) ^ min t.toNat (64 : Nat))).tdiv
 (gcdG (cnt u l (0 : Int) t.toNat (0 : Int))
 (IntKind.i64.wrap
 ((1 : Int) * (2 : Int) ^ min t.toNat (64 : Nat)))))] ++
 List.drop (0 : Nat) [(0 : Int), (0 : Int), (0 : Int), (0 : Int)]))).getD
 (1 : Nat) (0 : Int)),
 SV.int IntKind.i64
 ((List.take (4 : Nat)
 (List.take (2 : Nat)
 (List.take (0 : Nat)
 [(0 : Int), (0 : Int), (0 : Int), (0 : Int), (0 : Int), (0 : Int)] ++
 [wi
 ((cnt u l (0 : Int) t.toNat (0 : Int)).tdiv
 (gcdG (cnt u l (0 : Int) t.toNat (0 : Int))
 (IntKind.i64.wrap
 ((1 : Int) * (2 : Int) ^ min t.toNat (64 : Nat))))),
 wi
 ((IntKind.i64.wrap
 ((1 : Int) * (2 : Int) ^ min t.toNat (64 : Nat))).tdiv
 (gcdG (cnt u l (0 : Int) t.toNat (0 : Int))
 (IntKind.i64.wrap
 ((1 : Int) * (2 : Int) ^ min t.toNat (64 : Nat)))))] ++
 List.drop (0 : Nat) [(0 : Int), (0 : Int), (0 : Int), (0 : Int)]) ++
 [wi
 ((cnt u l (1 : Int) t.toNat (0 : Int)).tdiv
 (gcdG (cnt u l (1 : Int) t.toNat (0 : Int))
 (IntKind.i64.wrap ((1 : Int) * (2 : Int) ^ min t.toNat (64 : Nat))))),
 wi
 ((IntKind.i64.wrap ((1 : Int) * (2 : Int) ^ min t.toNat (64 : Nat))).tdiv
 (gcdG (cnt u l (1 : Int) t.toNat (0 : Int))
 (IntKind.i64.wrap
 ((1 : Int) * (2 : Int) ^ min t.toNat (64 : Nat)))))] ++
 List.drop
 ((2 : Nat) +
 [wi
 ((cnt u l (1 : Int) t.toNat (0 : Int)).tdiv
 (gcdG (cnt u l (1 : Int) t.toNat (0 : Int))
 (IntKind.i64.wrap
 ((1 : Int) * (2 : Int) ^ min t.toNat (64 : Nat))))),
 wi
 ((IntKind.i64.wrap
 ((1 : Int) * (2 : Int) ^ min t.toNat (64 : Nat))).tdiv
 (gcdG (cnt u l (1 : Int) t.toNat (0 : Int))
 (IntKind.i64.wrap
 ((1 : Int) * (2 : Int) ^ min t.toNat (64 : Nat)))))].length)
 (List.take (0 : Nat)
 [(0 : Int), (0 : Int), (0 : Int), (0 : Int), (0 : Int), (0 : Int)] ++
 [wi
 ((cnt u l (0 : Int) t.toNat (0 : Int)).tdiv
 (gcdG (cnt u l (0 : Int) t.toNat (0 : Int))
 (IntKind.i64.wrap
 ((1 : Int) * (2 : Int) ^ min t.toNat (64 : Nat))))),
 wi
 ((IntKind.i64.wrap
 ((1 : Int) * (2 : Int) ^ min t.toNat (64 : Nat))).tdiv
 (gcdG (cnt u l (0 : Int) t.toNat (0 : Int))
 (IntKind.i64.wrap
 ((1 : Int) * (2 : Int) ^ min t.toNat (64 : Nat)))))] ++
 List.drop (0 : Nat) [(0 : Int), (0 : Int), (0 : Int), (0 : Int)])) ++
 [wi
 ((cnt u l (2 : Int) t.toNat (0 : Int)).tdiv
 (gcdG (cnt u l (2 : Int) t.toNat (0 : Int))
 (IntKind.i64.wrap ((1 : Int) * (2 : Int) ^ min t.toNat (64 : Nat))))),
 wi
 ((IntKind.i64.wrap ((1 : Int) * (2 : Int) ^ min t.toNat (64 : Nat))).tdiv
 (gcdG (cnt u l (2 : Int) t.toNat (0 : Int))
 (IntKind.i64.wrap ((1 : Int) * (2 : Int) ^ min t.toNat (64 : Nat)))))] ++
 List.drop
 ((4 : Nat) +
 [wi
 ((cnt u l (2 : Int) t.toNat (0 : Int)).tdiv
 (gcdG (cnt u l (2 : Int) t.toNat (0 : Int))
 (IntKind.i64.wrap ((1 : Int) * (2 : Int) ^ min t.toNat (64 : Nat))))),
 wi
 ((IntKind.i64.wrap ((1 : Int) * (2 : Int) ^ min t.toNat (64 : Nat))).tdiv
 (gcdG (cnt u l (2 : Int) t.toNat (0 : Int))
 (IntKind.i64.wrap
 ((1 : Int) * (2 : Int) ^ min t.toNat (64 : Nat)))))].length)
 (List.take (2 : Nat)
 (List.take (0 : Nat)
 [(0 : Int), (0 : Int), (0 : Int), (0 : Int), (0 : Int), (0 : Int)] ++
 [wi
 ((cnt u l (0 : Int) t.toNat (0 : Int)).tdiv
 (gcdG (cnt u l (0 : Int) t.toNat (0 : Int))
 (IntKind.i64.wrap
 ((1 : Int) * (2 : Int) ^ min t.toNat (64 : Nat))))),
 wi
 ((IntKind.i64.wrap
 ((1 : Int) * (2 : Int) ^ min t.toNat (64 : Nat))).tdiv
 (gcdG (cnt u l (0 : Int) t.toNat (0 : Int))
 (IntKind.i64.wrap
 ((1 : Int) * (2 : Int) ^ min t.toNat (64 : Nat)))))] ++
 List.drop (0 : Nat) [(0 : Int), (0 : Int), (0 : Int), (0 : Int)]) ++
 [wi
 ((cnt u l (1 : Int) t.toNat (0 : Int)).tdiv
 (gcdG (cnt u l (1 : Int) t.toNat (0 : Int))
 (IntKind.i64.wrap ((1 : Int) * (2 : Int) ^ min t.toNat (64 : Nat))))),
 wi
 ((IntKind.i64.wrap ((1 : Int) * (2 : Int) ^ min t.toNat (64 : Nat))).tdiv
 (gcdG (cnt u l (1 : Int) t.toNat (0 : Int))
 (IntKind.i64.wrap
 ((1 : Int) * (2 : Int) ^ min t.toNat (64 : Nat)))))] ++
 List.drop
 ((2 : Nat) +
 [wi
 ((cnt u l (1 : Int) t.toNat (0 : Int)).tdiv
 (gcdG (cnt u l (1 : Int) t.toNat (0 : Int))
 (IntKind.i64.wrap
 ((1 : Int) * (2 : Int) ^ min t.toNat (64 : Nat))))),
 wi
 ((IntKind.i64.wrap
 ((1 : Int) * (2 : Int) ^ min t.toNat (64 : Nat))).tdiv
 (gcdG (cnt u l (1 : Int) t.toNat (0 : Int))
 (IntKind.i64.wrap
 ((1 : Int) * (2 : Int) ^ min t.toNat (64 : Nat)))))].length)
 (List.take (0 : Nat)
 [(0 : Int), (0 : Int), (0 : Int), (0 : Int), (0 : Int), (0 : Int)] ++
 [wi
 ((cnt u l (0 : Int) t.toNat (0 : Int)).tdiv
 (gcdG (cnt u l (0 : Int) t.toNat (0 : Int))
 (IntKind.i64.wrap
 ((1 : Int) * (2 : Int) ^ min t.toNat (64 : Nat))))),
 wi
 ((IntKind.i64.wrap
 ((1 : Int) * (2 : Int) ^ min t.toNat (64 : Nat))).tdiv
 (gcdG (cnt u l (0 : Int) t.toNat (0 : Int))
 (IntKind.i64.wrap
 ((1 : Int) * (2 : Int) ^ min t.toNat (64 : Nat)))))] ++
 List.drop (0 : Nat) [(0 : Int), (0 : Int), (0 : Int), (0 : Int)]))).getD
 (2 : Nat) (0 : Int)),
 SV.int IntKind.i64
 ((List.take (4 : Nat)
 (List.take (2 : Nat)
 (List.take (0 : Nat)
 [(0 : Int), (0 : Int), (0 : Int), (0 : Int), (0 : Int), (0 : Int)] ++
 [wi
 ((cnt u l (0 : Int) t.toNat (0 : Int)).tdiv
 (gcdG (cnt u l (0 : Int) t.toNat (0 : Int))
 (IntKind.i64.wrap
 ((1 : Int) * (2 : Int) ^ min t.toNat (64 : Nat))))),
 wi
 ((IntKind.i64.wrap
 ((1 : Int) * (2 : Int) ^ min t.toNat (64 : Nat))).tdiv
 (gcdG (cnt u l (0 : Int) t.toNat (0 : Int))
 (IntKind.i64.wrap
 ((1 : Int) * (2 : Int) ^ min t.toNat (64 : Nat)))))] ++
 List.drop (0 : Nat) [(0 : Int), (0 : Int), (0 : Int), (0 : Int)]) ++
 [wi
 ((cnt u l (1 : Int) t.toNat (0 : Int)).tdiv
 (gcdG (cnt u l (1 : Int) t.toNat (0 : Int))
 (IntKind.i64.wrap ((1 : Int) * (2 : Int) ^ min t.toNat (64 : Nat))))),
 wi
 ((IntKind.i64.wrap ((1 : Int) * (2 : Int) ^ min t.toNat (64 : Nat))).tdiv
 (gcdG (cnt u l (1 : Int) t.toNat (0 : Int))
 (IntKind.i64.wrap
 ((1 : Int) * (2 : Int) ^ min t.toNat (64 : Nat)))))] ++
 List.drop
 ((2 : Nat) +
 [wi
 ((cnt u l (1 : Int) t.toNat (0 : Int)).tdiv
 (gcdG (cnt u l (1 : Int) t.toNat (0 : Int))
 (IntKind.i64.wrap
 ((1 : Int) * (2 : Int) ^ min t.toNat (64 : Nat))))),
 wi
 ((IntKind.i64.wrap
 ((1 : Int) * (2 : Int) ^ min t.toNat (64 : Nat))).tdiv
 (gcdG (cnt u l (1 : Int) t.toNat (0 : Int))
 (IntKind.i64.wrap
 ((1 : Int) * (2 : Int) ^ min t.toNat (64 : Nat)))))].length)
 (List.take (0 : Nat)
 [(0 : Int), (0 : Int), (0 : Int), (0 : Int), (0 : Int), (0 : Int)] ++
 [wi
 ((cnt u l (0 : Int) t.toNat (0 : Int)).tdiv
 (gcdG (cnt u l (0 : Int) t.toNat (0 : Int))
 (IntKind.i64.wrap
 ((1 : Int) * (2 : Int) ^ min t.toNat (64 : Nat))))),
 wi
 ((IntKind.i64.wrap
 ((1 : Int) * (2 : Int) ^ min t.toNat (64 : Nat))).tdiv
 (gcdG (cnt u l (0 : Int) t.toNat (0 : Int))
 (IntKind.i64.wrap
 ((1 : Int) * (2 : Int) ^ min t.toNat (64 : Nat)))))] ++
 List.drop (0 : Nat) [(0 : Int), (0 : Int), (0 : Int), (0 : Int)])) ++
 [wi
 ((cnt u l (2 : Int) t.toNat (0 : Int)).tdiv
 (gcdG (cnt u l (2 : Int) t.toNat (0 : Int))
 (IntKind.i64.wrap ((1 : Int) * (2 : Int) ^ min t.toNat (64 : Nat))))),
 wi
 ((IntKind.i64.wrap ((1 : Int) * (2 : Int) ^ min t.toNat (64 : Nat))).tdiv
 (gcdG (cnt u l (2 : Int) t.toNat (0 : Int))
 (IntKind.i64.wrap ((1 : Int) * (2 : Int) ^ min t.toNat (64 : Nat)))))] ++
 List.drop
 ((4 : Nat) +
 [wi
 ((cnt u l (2 : Int) t.toNat (0 : Int)).tdiv
 (gcdG (cnt u l (2 : Int) t.toNat (0 : Int))
 (IntKind.i64.wrap ((1 : Int) * (2 : Int) ^ min t.toNat (64 : Nat))))),
 wi
 ((IntKind.i64.wrap ((1 : Int) * (2 : Int) ^ min t.toNat (64 : Nat))).tdiv
 (gcdG (cnt u l (2 : Int) t.toNat (0 : Int))
 (IntKind.i64.wrap
 ((1 : Int) * (2 : Int) ^ min t.toNat (64 : Nat)))))].length)
 (List.take (2 : Nat)
 (List.take (0 : Nat)
 [(0 : Int), (0 : Int), (0 : Int), (0 : Int), (0 : Int), (0 : Int)] ++
 [wi
 ((cnt u l (0 : Int) t.toNat (0 : Int)).tdiv
 (gcdG (cnt u l (0 : Int) t.toNat (0 : Int))
 (IntKind.i64.wrap
 ((1 : Int) * (2 : Int) ^ min t.toNat (64 : Nat))))),
 wi
 ((IntKind.i64.wrap
 ((1 : Int) * (2 : Int) ^ min t.toNat (64 : Nat))).tdiv
 (gcdG (cnt u l (0 : Int) t.toNat (0 : Int))
 (IntKind.i64.wrap
 ((1 : Int) * (2 : Int) ^ min t.toNat (64 : Nat)))))] ++
 List.drop (0 : Nat) [(0 : Int), (0 : Int), (0 : Int), (0 : Int)]) ++
 [wi
 ((cnt u l (1 : Int) t.toNat (0 : Int)).tdiv
 (gcdG (cnt u l (1 : Int) t.toNat (0 : Int))
 (IntKind.i64.wrap ((1 : Int) * (2 : Int) ^ min t.toNat (64 : Nat))))),
 wi
 ((IntKind.i64.wrap ((1 : Int) * (2 : Int) ^ min t.toNat (64 : Nat))).tdiv
 (gcdG (cnt u l (1 : Int) t.toNat (0 : Int))
 (IntKind.i64.wrap
 ((1 : Int) * (2 : Int) ^ min t.toNat (64 : Nat)))))] ++
 List.drop
 ((2 : Nat) +
 [wi
 ((cnt u l (1 : Int) t.toNat (0 : Int)).tdiv
 (gcdG (cnt u l (1 : Int) t.toNat (0 : Int))
 (IntKind.i64.wrap
 ((1 : Int) * (2 : Int) ^ min t.toNat (64 : Nat))))),
 wi
 ((IntKind.i64.wrap
 ((1 : Int) * (2 : Int) ^ min t.toNat (64 : Nat))).tdiv
 (gcdG (cnt u l (1 : Int) t.toNat (0 : Int))
 (IntKind.i64.wrap
 ((1 : Int) * (2 : Int) ^ min t.toNat (64 : Nat)))))].length)
 (List.take (0 : Nat)
 [(0 : Int), (0 : Int), (0 : Int), (0 : Int), (0 : Int), (0 : Int)] ++
 [wi
 ((cnt u l (0 : Int) t.toNat (0 : Int)).tdiv
 (gcdG (cnt u l (0 : Int) t.toNat (0 : Int))
 (IntKind.i64.wrap
 ((1 : Int) * (2 : Int) ^ min t.toNat (64 : Nat))))),
 wi
 ((IntKind.i64.wrap
 ((1 : Int) * (2 : Int) ^ min t.toNat (64 : Nat))).tdiv
 (gcdG (cnt u l (0 : Int) t.toNat (0 : Int))
 (IntKind.i64.wrap
 ((1 : Int) * (2 : Int) ^ min t.toNat (64 : Nat)))))] ++
 List.drop (0 : Nat) [(0 : Int), (0 : Int), (0 : Int), (0 : Int)]))).getD
 (3 : Nat) (0 : Int)),
 SV.int IntKind.i64
 ((List.take (4 : Nat)
 (List.take (2 : Nat)
 (List.take (0 : Nat)
 [(0 : Int), (0 : Int), (0 : Int), (0 : Int), (0 : Int), (0 : Int)] ++
 [wi
 ((cnt u l (0 : Int) t.toNat (0 : Int)).tdiv
 (gcdG (cnt u l (0 : Int) t.toNat (0 : Int))
 (IntKind.i64.wrap
 ((1 : Int) * (2 : Int) ^ min t.toNat (64 : Nat))))),
 wi
 ((IntKind.i64.wrap
 ((1 : Int) * (2 : Int) ^ min t.toNat (64 : Nat))).tdiv
 (gcdG (cnt u l (0 : Int) t.toNat (0 : Int))
 (IntKind.i64.wrap
 ((1 : Int) * (2 : Int) ^ min t.toNat (64 : Nat)))))] ++
 List.drop (0 : Nat) [(0 : Int), (0 : Int), (0 : Int), (0 : Int)]) ++
 [wi
 ((cnt u l (1 : Int) t.toNat (0 : Int)).tdiv
 (gcdG (cnt u l (1 : Int) t.toNat (0 : Int))
 (IntKind.i64.wrap ((1 : Int) * (2 : Int) ^ min t.toNat (64 : Nat))))),
 wi
 ((IntKind.i64.wrap ((1 : Int) * (2 : Int) ^ min t.toNat (64 : Nat))).tdiv
 (gcdG (cnt u l (1 : Int) t.toNat (0 : Int))
 (IntKind.i64.wrap
 ((1 : Int) * (2 : Int) ^ min t.toNat (64 : Nat)))))] ++
 List.drop
 ((2 : Nat) +
 [wi
 ((cnt u l (1 : Int) t.toNat (0 : Int)).tdiv
 (gcdG (cnt u l (1 : Int) t.toNat (0 : Int))
 (IntKind.i64.wrap
 ((1 : Int) * (2 : Int) ^ min t.toNat (64 : Nat))))),
 wi
 ((IntKind.i64.wrap
 ((1 : Int) * (2 : Int) ^ min t.toNat (64 : Nat))).tdiv
 (gcdG (cnt u l (1 : Int) t.toNat (0 : Int))
 (IntKind.i64.wrap
 ((1 : Int) * (2 : Int) ^ min t.toNat (64 : Nat)))))].length)
 (List.take (0 : Nat)
 [(0 : Int), (0 : Int), (0 : Int), (0 : Int), (0 : Int), (0 : Int)] ++
 [wi
 ((cnt u l (0 : Int) t.toNat (0 : Int)).tdiv
 (gcdG (cnt u l (0 : Int) t.toNat (0 : Int))
 (IntKind.i64.wrap
 ((1 : Int) * (2 : Int) ^ min t.toNat (64 : Nat))))),
 wi
 ((IntKind.i64.wrap
 ((1 : Int) * (2 : Int) ^ min t.toNat (64 : Nat))).tdiv
 (gcdG (cnt u l (0 : Int) t.toNat (0 : Int))
 (IntKind.i64.wrap
 ((1 : Int) * (2 : Int) ^ min t.toNat (64 : Nat)))))] ++
 List.drop (0 : Nat) [(0 : Int), (0 : Int), (0 : Int), (0 : Int)])) ++
 [wi
 ((cnt u l (2 : Int) t.toNat (0 : Int)).tdiv
 (gcdG (cnt u l (2 : Int) t.toNat (0 : Int))
 (IntKind.i64.wrap ((1 : Int) * (2 : Int) ^ min t.toNat (64 : Nat))))),
 wi
 ((IntKind.i64.wrap ((1 : Int) * (2 : Int) ^ min t.toNat (64 : Nat))).tdiv
 (gcdG (cnt u l (2 : Int) t.toNat (0 : Int))
 (IntKind.i64.wrap ((1 : Int) * (2 : Int) ^ min t.toNat (64 : Nat)))))] ++
 List.drop
 ((4 : Nat) +
 [wi
 ((cnt u l (2 : Int) t.toNat (0 : Int)).tdiv
 (gcdG (cnt u l (2 : Int) t.toNat (0 : Int))
 (IntKind.i64.wrap ((1 : Int) * (2 : Int) ^ min t.toNat (64 : Nat))))),
 wi
 ((IntKind.i64.wrap ((1 : Int) * (2 : Int) ^ min t.toNat (64 : Nat))).tdiv
 (gcdG (cnt u l (2 : Int) t.toNat (0 : Int))
 (IntKind.i64.wrap
 ((1 : Int) * (2 : Int) ^ min t.toNat (64 : Nat)))))].length)
 (List.take (2 : Nat)
 (List.take (0 : Nat)
 [(0 : Int), (0 : Int), (0 : Int), (0 : Int), (0 : Int), (0 : Int)] ++
 [wi
 ((cnt u l (0 : Int) t.toNat (0 : Int)).tdiv
 (gcdG (cnt u l (0 : Int) t.toNat (0 : Int))
 (IntKind.i64.wrap
 ((1 : Int) * (2 : Int) ^ min t.toNat (64 : Nat))))),
 wi
 ((IntKind.i64.wrap
 ((1 : Int) * (2 : Int) ^ min t.toNat (64 : Nat))).tdiv
 (gcdG (cnt u l (0 : Int) t.toNat (0 : Int))
 (IntKind.i64.wrap
 ((1 : Int) * (2 : Int) ^ min t.toNat (64 : Nat)))))] ++
 List.drop (0 : Nat) [(0 : Int), (0 : Int), (0 : Int), (0 : Int)]) ++
 [wi
 ((cnt u l (1 : Int) t.toNat (0 : Int)).tdiv
 (gcdG (cnt u l (1 : Int) t.toNat (0 : Int))
 (IntKind.i64.wrap ((1 : Int) * (2 : Int) ^ min t.toNat (64 : Nat))))),
 wi
 ((IntKind.i64.wrap ((1 : Int) * (2 : Int) ^ min t.toNat (64 : Nat))).tdiv
 (gcdG (cnt u l (1 : Int) t.toNat (0 : Int))
 (IntKind.i64.wrap
 ((1 : Int) * (2 : Int) ^ min t.toNat (64 : Nat)))))] ++
 List.drop
 ((2 : Nat) +
 [wi
 ((cnt u l (1 : Int) t.toNat (0 : Int)).tdiv
 (gcdG (cnt u l (1 : Int) t.toNat (0 : Int))
 (IntKind.i64.wrap
 ((1 : Int) * (2 : Int) ^ min t.toNat (64 : Nat))))),
 wi
 ((IntKind.i64.wrap
 ((1 : Int) * (2 : Int) ^ min t.toNat (64 : Nat))).tdiv
 (gcdG (cnt u l (1 : Int) t.toNat (0 : Int))
 (IntKind.i64.wrap
 ((1 : Int) * (2 : Int) ^ min t.toNat (64 : Nat)))))].length)
 (List.take (0 : Nat)
 [(0 : Int), (0 : Int), (0 : Int), (0 : Int), (0 : Int), (0 : Int)] ++
 [wi
 ((cnt u l (0 : Int) t.toNat (0 : Int)).tdiv
 (gcdG (cnt u l (0 : Int) t.toNat (0 : Int))
 (IntKind.i64.wrap
 ((1 : Int) * (2 : Int) ^ min t.toNat (64 : Nat))))),
 wi
 ((IntKind.i64.wrap
 ((1 : Int) * (2 : Int) ^ min t.toNat (64 : Nat))).tdiv
 (gcdG (cnt u l (0 : Int) t.toNat (0 : Int))
 (IntKind.i64.wrap
 ((1 : Int) * (2 : Int) ^ min t.toNat (64 : Nat)))))] ++
 List.drop (0 : Nat) [(0 : Int), (0 : Int), (0 : Int), (0 : Int)]))).getD
 (4 : Nat) (0 : Int)),
 SV.int IntKind.i64
 ((List.take (4 : Nat)
 (List.take (2 : Nat)
 (List.take (0 : Nat)
 [(0 : Int), (0 : Int), (0 : Int), (0 : Int), (0 : Int), (0 : Int)] ++
 [wi
 ((cnt u l (0 : Int) t.toNat (0 : Int)).tdiv
 (gcdG (cnt u l (0 : Int) t.toNat (0 : Int))
 (IntKind.i64.wrap
 ((1 : Int) * (2 : Int) ^ min t.toNat (64 : Nat))))),
 wi
 ((IntKind.i64.wrap
 ((1 : Int) * (2 : Int) ^ min t.toNat (64 : Nat))).tdiv
 (gcdG (cnt u l (0 : Int) t.toNat (0 : Int))
 (IntKind.i64.wrap
 ((1 : Int) * (2 : Int) ^ min t.toNat (64 : Nat)))))] ++
 List.drop (0 : Nat) [(0 : Int), (0 : Int), (0 : Int), (0 : Int)]) ++
 [wi
 ((cnt u l (1 : Int) t.toNat (0 : Int)).tdiv
 (gcdG (cnt u l (1 : Int) t.toNat (0 : Int))
 (IntKind.i64.wrap ((1 : Int) * (2 : Int) ^ min t.toNat (64 : Nat))))),
 wi
 ((IntKind.i64.wrap ((1 : Int) * (2 : Int) ^ min t.toNat (64 : Nat))).tdiv
 (gcdG (cnt u l (1 : Int) t.toNat (0 : Int))
 (IntKind.i64.wrap
 ((1 : Int) * (2 : Int) ^ min t.toNat (64 : Nat)))))] ++
 List.drop
 ((2 : Nat) +
 [wi
 ((cnt u l (1 : Int) t.toNat (0 : Int)).tdiv
 (gcdG (cnt u l (1 : Int) t.toNat (0 : Int))
 (IntKind.i64.wrap
 ((1 : Int) * (2 : Int) ^ min t.toNat (64 : Nat))))),
 wi
 ((IntKind.i64.wrap
 ((1 : Int) * (2 : Int) ^ min t.toNat (64 : Nat))).tdiv
 (gcdG (cnt u l (1 : Int) t.toNat (0 : Int))
 (IntKind.i64.wrap
 ((1 : Int) * (2 : Int) ^ min t.toNat (64 : Nat)))))].length)
 (List.take (0 : Nat)
 [(0 : Int), (0 : Int), (0 : Int), (0 : Int), (0 : Int), (0 : Int)] ++
 [wi
 ((cnt u l (0 : Int) t.toNat (0 : Int)).tdiv
 (gcdG (cnt u l (0 : Int) t.toNat (0 : Int))
 (IntKind.i64.wrap
 ((1 : Int) * (2 : Int) ^ min t.toNat (64 : Nat))))),
 wi
 ((IntKind.i64.wrap
 ((1 : Int) * (2 : Int) ^ min t.toNat (64 : Nat))).tdiv
 (gcdG (cnt u l (0 : Int) t.toNat (0 : Int))
 (IntKind.i64.wrap
 ((1 : Int) * (2 : Int) ^ min t.toNat (64 : Nat)))))] ++
 List.drop (0 : Nat) [(0 : Int), (0 : Int), (0 : Int), (0 : Int)])) ++
 [wi
 ((cnt u l (2 : Int) t.toNat (0 : Int)).tdiv
 (gcdG (cnt u l (2 : Int) t.toNat (0 : Int))
 (IntKind.i64.wrap ((1 : Int) * (2 : Int) ^ min t.toNat (64 : Nat))))),
 wi
 ((IntKind.i64.wrap ((1 : Int) * (2 : Int) ^ min t.toNat (64 : Nat))).tdiv
 (gcdG (cnt u l (2 : Int) t.toNat (0 : Int))
 (IntKind.i64.wrap ((1 : Int) * (2 : Int) ^ min t.toNat (64 : Nat)))))] ++
 List.drop
 ((4 : Nat) +
 [wi
 ((cnt u l (2 : Int) t.toNat (0 : Int)).tdiv
 (gcdG (cnt u l (2 : Int) t.toNat (0 : Int))
 (IntKind.i64.wrap ((1 : Int) * (2 : Int) ^ min t.toNat (64 : Nat))))),
 wi
 ((IntKind.i64.wrap ((1 : Int) * (2 : Int) ^ min t.toNat (64 : Nat))).tdiv
 (gcdG (cnt u l (2 : Int) t.toNat (0 : Int))
 (IntKind.i64.wrap
 ((1 : Int) * (2 : Int) ^ min t.toNat (64 : Nat)))))].length)
 (List.take (2 : Nat)
 (List.take (0 : Nat)
 [(0 : Int), (0 : Int), (0 : Int), (0 : Int), (0 : Int), (0 : Int)] ++
 [wi
 ((cnt u l (0 : Int) t.toNat (0 : Int)).tdiv
 (gcdG (cnt u l (0 : Int) t.toNat (0 : Int))
 (IntKind.i64.wrap
 ((1 : Int) * (2 : Int) ^ min t.toNat (64 : Nat))))),
 wi
 ((IntKind.i64.wrap
 ((1 : Int) * (2 : Int) ^ min t.toNat (64 : Nat))).tdiv
 (gcdG (cnt u l (0 : Int) t.toNat (0 : Int))
 (IntKind.i64.wrap
 ((1 : Int) * (2 : Int) ^ min t.toNat (64 : Nat)))))] ++
 List.drop (0 : Nat) [(0 : Int), (0 : Int), (0 : Int), (0 : Int)]) ++
 [wi
 ((cnt u l (1 : Int) t.toNat (0 : Int)).tdiv
 (gcdG (cnt u l (1 : Int) t.toNat (0 : Int))
 (IntKind.i64.wrap ((1 : Int) * (2 : Int) ^ min t.toNat (64 : Nat))))),
 wi
 ((IntKind.i64.wrap ((1 : Int) * (2 : Int) ^ min t.toNat (64 : Nat))).tdiv
 (gcdG (cnt u l (1 : Int) t.toNat (0 : Int))
 (IntKind.i64.wrap
 ((1 : Int) * (2 : Int) ^ min t.toNat (64 : Nat)))))] ++
 List.drop
 ((2 : Nat) +
 [wi
 ((cnt u l (1 : Int) t.toNat (0 : Int)).tdiv
 (gcdG (cnt u l (1 : Int) t.toNat (0 : Int))
 (IntKind.i64.wrap
 ((1 : Int) * (2 : Int) ^ min t.toNat (64 : Nat))))),
 wi
 ((IntKind.i64.wrap
 ((1 : Int) * (2 : Int) ^ min t.toNat (64 : Nat))).tdiv
 (gcdG (cnt u l (1 : Int) t.toNat (0 : Int))
 (IntKind.i64.wrap
 ((1 : Int) * (2 : Int) ^ min t.toNat (64 : Nat)))))].length)
 (List.take (0 : Nat)
 [(0 : Int), (0 : Int), (0 : Int), (0 : Int), (0 : Int), (0 : Int)] ++
 [wi
 ((cnt u l (0 : Int) t.toNat (0 : Int)).tdiv
 (gcdG (cnt u l (0 : Int) t.toNat (0 : Int))
 (IntKind.i64.wrap
 ((1 : Int) * (2 : Int) ^ min t.toNat (64 : Nat))))),
 wi
 ((IntKind.i64.wrap
 ((1 : Int) * (2 : Int) ^ min t.toNat (64 : Nat))).tdiv
 (gcdG (cnt u l (0 : Int) t.toNat (0 : Int))
 (IntKind.i64.wrap
 ((1 : Int) * (2 : Int) ^ min t.toNat (64 : Nat)))))] ++
 List.drop (0 : Nat) [(0 : Int), (0 : Int), (0 : Int), (0 : Int)]))).getD
 (5 : Nat) (0 : Int))],
 TV.one (SV.int IntKind.i64 (0 : Int))])
 []
 else False
 else False
 else False) := by kernel_rfl
theorem exchn2l0a (i t u l : Int) (a b c : List Int) (M : List (List Int × List Int)) (K : Ex → List AV → List Blk → Prop) : evBody Echn2 (lb Tryd.f75 0) [1, 2, 4, 6, 7, 8] [1, 2, 4, 6] [.one (.ptr 0 1 0 0), .one (.ptr 1 1 0 0), .one (.ptr 2 1 0 0), .one (.ptr 3 1 0 0), .one (.mapv 4), .one (.int .i64 i)] [.cells [.int .i64 t, .int .i64 u, .int .i64 l], .row 100 (.ints .i64 a), .row 100 (.ints .i64 b), .row 109 (.ints .i64 c), .map 0 0 M] K = (
 bif decide (i ≤ t) then
 ∀ (m : Nat),
 (okT t u l ∧ (1 : Int) ≤ i ∧ i ≤ t ∧ okRn t u l i c [] M) ∧
 ∀ (c' : List Int) (X' : List (List Int × List Int)),
 okCn t u l i c' X' →
 K Ex.normal
 [AV.one (SV.ptr (0 : Nat) (1 : Nat) (0 : Nat) (0 : Nat)),
 AV.one (SV.ptr (1 : Nat) (1 : Nat) (0 : Nat) (0 : Nat)),
 AV.one (SV.ptr (2 : Nat) (1 : Nat) (0 : Nat) (0 : Nat)),
 AV.one (SV.ptr (3 : Nat) (1 : Nat) (0 : Nat) (0 : Nat)), AV.one (SV.mapv (4 : Nat)),
 AV.one (SV.int IntKind.i64 (IntKind.i64.wrap (i + (1 : Int))))]
 [Blk.cells [SV.int IntKind.i64 t, SV.int IntKind.i64 u, SV.int IntKind.i64 l],
 Blk.row (100 : TypeId) (Row.ints IntKind.i64 a), Blk.row (100 : TypeId) (Row.ints IntKind.i64 b),
 Blk.row (109 : TypeId) (Row.ints IntKind.i64 c'), Blk.map (0 : Nat) (0 : Nat) X']
 else
 K (Ex.exit (0 : Nat))
 [AV.one (SV.ptr (0 : Nat) (1 : Nat) (0 : Nat) (0 : Nat)), AV.one (SV.ptr (1 : Nat) (1 : Nat) (0 : Nat) (0 : Nat)),
 AV.one (SV.ptr (2 : Nat) (1 : Nat) (0 : Nat) (0 : Nat)), AV.one (SV.ptr (3 : Nat) (1 : Nat) (0 : Nat) (0 : Nat))]
 [Blk.cells [SV.int IntKind.i64 t, SV.int IntKind.i64 u, SV.int IntKind.i64 l],
 Blk.row (100 : TypeId) (Row.ints IntKind.i64 a), Blk.row (100 : TypeId) (Row.ints IntKind.i64 b),
 Blk.row (109 : TypeId) (Row.ints IntKind.i64 c)]) := by kernel_rfl
theorem exchn2l1a (i t u l : Int) (a b c : List Int) (X : List (List Int × List Int)) (m : Nat) (R : List (List Int × List Int)) (q : Option (List Int × List Int)) (K : Ex → List AV → List Blk → Prop) : evBody Echn2 (lb Tryd.f75 1) [1, 2, 4, 6, 8, 9, 34] [1, 2, 4, 6, 8, 9] [.one (.ptr 0 1 0 0), .one (.ptr 1 1 0 0), .one (.ptr 2 1 0 0), .one (.ptr 3 1 0 0), .one (.int .i64 i), .one (.mapv 4), .one (.ptr 5 1 0 0)] [.cells [.int .i64 t, .int .i64 u, .int .i64 l], .row 100 (.ints .i64 a), .row 100 (.ints .i64 b), .row 109 (.ints .i64 c), .map 0 0 X, .iter m 0 0 R q] K = (
 (R = [] →
 K (Ex.exit (2 : Nat))
 [AV.one (SV.ptr (0 : Nat) (1 : Nat) (0 : Nat) (0 : Nat)), AV.one (SV.ptr (1 : Nat) (1 : Nat) (0 : Nat) (0 : Nat)),
 AV.one (SV.ptr (2 : Nat) (1 : Nat) (0 : Nat) (0 : Nat)),
 AV.one (SV.ptr (3 : Nat) (1 : Nat) (0 : Nat) (0 : Nat)), AV.one (SV.int IntKind.i64 i),
 AV.one (SV.mapv (4 : Nat))]
 [Blk.cells [SV.int IntKind.i64 t, SV.int IntKind.i64 u, SV.int IntKind.i64 l],
 Blk.row (100 : TypeId) (Row.ints IntKind.i64 a), Blk.row (100 : TypeId) (Row.ints IntKind.i64 b),
 Blk.row (109 : TypeId) (Row.ints IntKind.i64 c), Blk.map (0 : Nat) (0 : Nat) X]) ∧
 ∀ (i_1 : Nat) (x : List Int × List Int),
 R[i_1]? = some x →
 ((-1000000 : Int) ≤ IntKind.i64.wrap (x.1.getD (0 : Nat) (0 : Int) + (1 : Int)) ∧
 IntKind.i64.wrap (x.1.getD (0 : Nat) (0 : Int) + (1 : Int)) ≤ (1000000 : Int)) ∧
 bif enB t u l i (IntKind.i64.wrap (x.1.getD (0 : Nat) (0 : Int) + (1 : Int))) then
 bif
 decide ((0 : Int) ≤ enK u l (IntKind.i64.wrap (x.1.getD (0 : Nat) (0 : Int) + (1 : Int)))) &&
 decide (enK u l (IntKind.i64.wrap (x.1.getD (0 : Nat) (0 : Int) + (1 : Int))) < (3 : Int)) then
 bif
 decide
 ((0 : Nat) + (enK u l (IntKind.i64.wrap (x.1.getD (0 : Nat) (0 : Int) + (1 : Int)))).toNat +
 (0 : Nat) <
 c.length) then
 bif !decide (IntKind.i64.wrap (t - i) < (0 : Int)) then
 bif
 decide ((0 : Int) ≤ enK u l (IntKind.i64.wrap (x.1.getD (0 : Nat) (0 : Int) + (1 : Int)))) &&
 decide (enK u l (IntKind.i64.wrap (x.1.getD (0 : Nat) (0 : Int) + (1 : Int))) < (3 : Int)) then
 bif
 decide
 ((0 : Nat) + (enK u l (IntKind.i64.wrap (x.1.getD (0 : Nat) (0 : Int) + (1 : Int)))).toNat +
 (0 : Nat) <
 c.length) then
 ((-1000000 : Int) ≤ IntKind.i64.wrap (x.1.getD (0 : Nat) (0 : Int) - (1 : Int)) ∧
 IntKind.i64.wrap (x.1.getD (0 : Nat) (0 : Int) - (1 : Int)) ≤ (1000000 : Int)) ∧
 bif enB t u l i (IntKind.i64.wrap (x.1.getD (0 : Nat) (0 : Int) - (1 : Int))) then
 bif
 decide
 ((0 : Int) ≤ enK u l (IntKind.i64.wrap (x.1.getD (0 : Nat) (0 : Int) - (1 : Int)))) &&
 decide
 (enK u l (IntKind.i64.wrap (x.1.getD (0 : Nat) (0 : Int) - (1 : Int))) < (3 : Int)) then
 bif
 decide
 ((0 : Nat) +
 (enK u l (IntKind.i64.wrap (x.1.getD (0 : Nat) (0 : Int) - (1 : Int)))).toNat +
 (0 : Nat) <
 (c.set
 ((0 : Nat) +
 (enK u l
 (IntKind.i64.wrap (x.1.getD (0 : Nat) (0 : Int) + (1 : Int)))).toNat +
 (0 : Nat))
 (IntKind.i64.wrap
 (c.getD
 ((0 : Nat) +
 (enK u l
 (IntKind.i64.wrap
 (x.1.getD (0 : Nat) (0 : Int) + (1 : Int)))).toNat +
 (0 : Nat))
 (0 : Int) +
 IntKind.i64.wrap
 (x.2.getD (0 : Nat) (0 : Int) *
 (2 : Int) ^
 min (IntKind.i64.wrap (t - i)).toNat (64 : Nat))))).length) then
 bif !decide (IntKind.i64.wrap (t - i) < (0 : Int)) then
 bif
 decide
 ((0 : Int) ≤
 enK u l (IntKind.i64.wrap (x.1.getD (0 : Nat) (0 : Int) - (1 : Int)))) &&
 decide
 (enK u l (IntKind.i64.wrap (x.1.getD (0 : Nat) (0 : Int) - (1 : Int))) <
 (3 : Int)) then
 bif
 decide
 ((0 : Nat) +
 (enK u l
 (IntKind.i64.wrap (x.1.getD (0 : Nat) (0 : Int) - (1 : Int)))).toNat +
 (0 : Nat) <
 (c.set
 ((0 : Nat) +
 (enK u l
 (IntKind.i64.wrap
 (x.1.getD (0 : Nat) (0 : Int) + (1 : Int)))).toNat +
 (0 : Nat))
 (IntKind.i64.wrap
 (c.getD
 ((0 : Nat) +
 (enK u l
 (IntKind.i64.wrap
 (x.1.getD (0 : Nat) (0 : Int) + (1 : Int)))).toNat +
 (0 : Nat))
 (0 : Int) +
 IntKind.i64.wrap
 (x.2.getD (0 : Nat) (0 : Int) *
 (2 : Int) ^
 min (IntKind.i64.wrap (t - i)).toNat (64 : Nat))))).length) then
 K Ex.normal
 [AV.one (SV.ptr (0 : Nat) (1 : Nat) (0 : Nat) (0 : Nat)),
 AV.one (SV.ptr (1 : Nat) (1 : Nat) (0 : Nat) (0 : Nat)),
 AV.one (SV.ptr (2 : Nat) (1 : Nat) (0 : Nat) (0 : Nat)),
 AV.one (SV.ptr (3 : Nat) (1 : Nat) (0 : Nat) (0 : Nat)),
 AV.one (SV.int IntKind.i64 i), AV.one (SV.mapv (4 : Nat)),
 AV.one (SV.ptr (5 : Nat) (1 : Nat) (0 : Nat) (0 : Nat))]
 [Blk.cells [SV.int IntKind.i64 t, SV.int IntKind.i64 u, SV.int IntKind.i64 l],
 Blk.row (100 : TypeId) (Row.ints IntKind.i64 a),
 Blk.row (100 : TypeId) (Row.ints IntKind.i64 b),
 Blk.row (109 : TypeId)
 (Row.ints IntKind.i64
 ((c.set
 ((0 : Nat) +
 (enK u l
 (IntKind.i64.wrap
 (x.1.getD (0 : Nat) (0 : Int) + (1 : Int)))).toNat +
 (0 : Nat))
 (IntKind.i64.wrap
 (c.getD
 ((0 : Nat) +
 (enK u l
 (IntKind.i64.wrap
 (x.1.getD (0 : Nat) (0 : Int) + (1 : Int)))).toNat +
 (0 : Nat))
 (0 : Int) +
 IntKind.i64.wrap
 (x.2.getD (0 : Nat) (0 : Int) *
 (2 : Int) ^
 min (IntKind.i64.wrap (t - i)).toNat (64 : Nat))))).set
 ((0 : Nat) +
 (enK u l
 (IntKind.i64.wrap
 (x.1.getD (0 : Nat) (0 : Int) - (1 : Int)))).toNat +
 (0 : Nat))
 (IntKind.i64.wrap
 ((c.set
 ((0 : Nat) +
 (enK u l
 (IntKind.i64.wrap
 (x.1.getD (0 : Nat) (0 : Int) + (1 : Int)))).toNat +
 (0 : Nat))
 (IntKind.i64.wrap
 (c.getD
 ((0 : Nat) +
 (enK u l
 (IntKind.i64.wrap
 (x.1.getD (0 : Nat) (0 : Int) +
 (1 : Int)))).toNat +
 (0 : Nat))
 (0 : Int) +
 IntKind.i64.wrap
 (x.2.getD (0 : Nat) (0 : Int) *
 (2 : Int) ^
 min (IntKind.i64.wrap (t - i)).toNat (64 : Nat))))).getD
 ((0 : Nat) +
 (enK u l
 (IntKind.i64.wrap
 (x.1.getD (0 : Nat) (0 : Int) - (1 : Int)))).toNat +
 (0 : Nat))
 (0 : Int) +
 IntKind.i64.wrap
 (x.2.getD (0 : Nat) (0 : Int) *
 (2 : Int) ^ min (IntKind.i64.wrap (t - i)).toNat (64 : Nat)))))),
 Blk.map (0 : Nat) (0 : Nat) X,
 Blk.iter m (0 : Nat) (0 : Nat) (R.eraseIdx i_1) (some x)]
 else False
 else False
 else False
 else False
 else False
 else
 K Ex.normal
 [AV.one (SV.ptr (0 : Nat) (1 : Nat) (0 : Nat) (0 : Nat)),
 AV.one (SV.ptr (1 : Nat) (1 : Nat) (0 : Nat) (0 : Nat)),
 AV.one (SV.ptr (2 : Nat) (1 : Nat) (0 : Nat) (0 : Nat)),
 AV.one (SV.ptr (3 : Nat) (1 : Nat) (0 : Nat) (0 : Nat)), AV.one (SV.int IntKind.i64 i),
 AV.one (SV.mapv (4 : Nat)), AV.one (SV.ptr (5 : Nat) (1 : Nat) (0 : Nat) (0 : Nat))]
 [Blk.cells [SV.int IntKind.i64 t, SV.int IntKind.i64 u, SV.int IntKind.i64 l],
 Blk.row (100 : TypeId) (Row.ints IntKind.i64 a),
 Blk.row (100 : TypeId) (Row.ints IntKind.i64 b),
 Blk.row (109 : TypeId)
 (Row.ints IntKind.i64
 (c.set
 ((0 : Nat) +
 (enK u l (IntKind.i64.wrap (x.1.getD (0 : Nat) (0 : Int) + (1 : Int)))).toNat +
 (0 : Nat))
 (IntKind.i64.wrap
 (c.getD
 ((0 : Nat) +
 (enK u l
 (IntKind.i64.wrap (x.1.getD (0 : Nat) (0 : Int) + (1 : Int)))).toNat +
 (0 : Nat))
 (0 : Int) +
 IntKind.i64.wrap
 (x.2.getD (0 : Nat) (0 : Int) *
 (2 : Int) ^ min (IntKind.i64.wrap (t - i)).toNat (64 : Nat)))))),
 Blk.map (0 : Nat) (0 : Nat)
 (aset X [IntKind.i64.wrap (x.1.getD (0 : Nat) (0 : Int) - (1 : Int))]
 [IntKind.i64.wrap
 ((agetD X [IntKind.i64.wrap (x.1.getD (0 : Nat) (0 : Int) - (1 : Int))]).getD
 (0 : Nat) (0 : Int) +
 x.2.getD (0 : Nat) (0 : Int))]),
 Blk.iter m (0 : Nat) (0 : Nat) (R.eraseIdx i_1) (some x)]
 else False
 else False
 else False
 else False
 else False
 else
 ((-1000000 : Int) ≤ IntKind.i64.wrap (x.1.getD (0 : Nat) (0 : Int) - (1 : Int)) ∧
 IntKind.i64.wrap (x.1.getD (0 : Nat) (0 : Int) - (1 : Int)) ≤ (1000000 : Int)) ∧
 bif enB t u l i (IntKind.i64.wrap (x.1.getD (0 : Nat) (0 : Int) - (1 : Int))) then
 bif
 decide ((0 : Int) ≤ enK u l (IntKind.i64.wrap (x.1.getD (0 : Nat) (0 : Int) - (1 : Int)))) &&
 decide (enK u l (IntKind.i64.wrap (x.1.getD (0 : Nat) (0 : Int) - (1 : Int))) < (3 : Int)) then
 bif
 decide
 ((0 : Nat) + (enK u l (IntKind.i64.wrap (x.1.getD (0 : Nat) (0 : Int) - (1 : Int)))).toNat +
 (0 : Nat) <
 c.length) then
 bif !decide (IntKind.i64.wrap (t - i) < (0 : Int)) then
 bif
 decide ((0 : Int) ≤ enK u l (IntKind.i64.wrap (x.1.getD (0 : Nat) (0 : Int) - (1 : Int)))) &&
 decide
 (enK u l (IntKind.i64.wrap (x.1.getD (0 : Nat) (0 : Int) - (1 : Int))) < (3 : Int)) then
 bif
 decide
 ((0 : Nat) + (enK u l (IntKind.i64.wrap (x.1.getD (0 : Nat) (0 : Int) - (1 : Int)))).toNat +
 (0 : Nat) <
 c.length) then
 K Ex.normal
 [AV.one (SV.ptr (0 : Nat) (1 : Nat) (0 : Nat) (0 : Nat)),
 AV.one (SV.ptr (1 : Nat) (1 : Nat) (0 : Nat) (0 : Nat)),
 AV.one (SV.ptr (2 : Nat) (1 : Nat) (0 : Nat) (0 : Nat)),
 AV.one (SV.ptr (3 : Nat) (1 : Nat) (0 : Nat) (0 : Nat)), AV.one (SV.int IntKind.i64 i),
 AV.one (SV.mapv (4 : Nat)), AV.one (SV.ptr (5 : Nat) (1 : Nat) (0 : Nat) (0 : Nat))]
 [Blk.cells [SV.int IntKind.i64 t, SV.int IntKind.i64 u, SV.int IntKind.i64 l],
 Blk.row (100 : TypeId) (Row.ints IntKind.i64 a),
 Blk.row (100 : TypeId) (Row.ints IntKind.i64 b),
 Blk.row (109 : TypeId)
 (Row.ints IntKind.i64
 (c.set
 ((0 : Nat) +
 (enK u l (IntKind.i64.wrap (x.1.getD (0 : Nat) (0 : Int) - (1 : Int)))).toNat +
 (0 : Nat))
 (IntKind.i64.wrap
 (c.getD
 ((0 : Nat) +
 (enK u l
 (IntKind.i64.wrap (x.1.getD (0 : Nat) (0 : Int) - (1 : Int)))).toNat +
 (0 : Nat))
 (0 : Int) +
 IntKind.i64.wrap
 (x.2.getD (0 : Nat) (0 : Int) *
 (2 : Int) ^ min (IntKind.i64.wrap (t - i)).toNat (64 : Nat)))))),
 Blk.map (0 : Nat) (0 : Nat)
 (aset X [IntKind.i64.wrap (x.1.getD (0 : Nat) (0 : Int) + (1 : Int))]
 [IntKind.i64.wrap
 ((agetD X [IntKind.i64.wrap (x.1.getD (0 : Nat) (0 : Int) + (1 : Int))]).getD
 (0 : Nat) (0 : Int) +
 x.2.getD (0 : Nat) (0 : Int))]),
 Blk.iter m (0 : Nat) (0 : Nat) (R.eraseIdx i_1) (some x)]
 else False
 else False
 else False
 else False
 else False
 else
 K Ex.normal
 [AV.one (SV.ptr (0 : Nat) (1 : Nat) (0 : Nat) (0 : Nat)),
 AV.one (SV.ptr (1 : Nat) (1 : Nat) (0 : Nat) (0 : Nat)),
 AV.one (SV.ptr (2 : Nat) (1 : Nat) (0 : Nat) (0 : Nat)),
 AV.one (SV.ptr (3 : Nat) (1 : Nat) (0 : Nat) (0 : Nat)), AV.one (SV.int IntKind.i64 i),
 AV.one (SV.mapv (4 : Nat)), AV.one (SV.ptr (5 : Nat) (1 : Nat) (0 : Nat) (0 : Nat))]
 [Blk.cells [SV.int IntKind.i64 t, SV.int IntKind.i64 u, SV.int IntKind.i64 l],
 Blk.row (100 : TypeId) (Row.ints IntKind.i64 a), Blk.row (100 : TypeId) (Row.ints IntKind.i64 b),
 Blk.row (109 : TypeId) (Row.ints IntKind.i64 c),
 Blk.map (0 : Nat) (0 : Nat)
 (aset
 (aset X [IntKind.i64.wrap (x.1.getD (0 : Nat) (0 : Int) + (1 : Int))]
 [IntKind.i64.wrap
 ((agetD X [IntKind.i64.wrap (x.1.getD (0 : Nat) (0 : Int) + (1 : Int))]).getD (0 : Nat)
 (0 : Int) +
 x.2.getD (0 : Nat) (0 : Int))])
 [IntKind.i64.wrap (x.1.getD (0 : Nat) (0 : Int) - (1 : Int))]
 [IntKind.i64.wrap
 ((agetD
 (aset X [IntKind.i64.wrap (x.1.getD (0 : Nat) (0 : Int) + (1 : Int))]
 [IntKind.i64.wrap
 ((agetD X [IntKind.i64.wrap (x.1.getD (0 : Nat) (0 : Int) + (1 : Int))]).getD
 (0 : Nat) (0 : Int) +
 x.2.getD (0 : Nat) (0 : Int))])
 [IntKind.i64.wrap (x.1.getD (0 : Nat) (0 : Int) - (1 : Int))]).getD
 (0 : Nat) (0 : Int) +
 x.2.getD (0 : Nat) (0 : Int))]),
 Blk.iter m (0 : Nat) (0 : Nat) (R.eraseIdx i_1) (some x)]) := by kernel_rfl
end Go.Ev

namespace Go.Ev
open Go Go.Proofs
attribute [local irreducible] evFn evBody evRound

set_option maxRecDepth 20000

theorem dec_not_le {a b : Int} : (!decide (a ≤ b)) = decide (b < a) := by
  by_cases h : a ≤ b
  · rw [decide_eq_true h, decide_eq_false (show ¬ b < a by omega)]; rfl
  · rw [decide_eq_false h, decide_eq_true (show b < a by omega)]; rfl
theorem oktet : SpecOK Tryd.prog 77 teS := by
  refine specOK (n := 21) (m := 0) (lps := []) (.cons ok71 (.cons ok70 .nil)) Tryd.func77 (by kernel_rfl) (by kernel_rfl) (noLoops (by kernel_rfl)) fun args σ K h => ?_
  unfold teS at h
  split at h
  rotate_right
  · exact h.elim
  rename_i t u l
  rw [extet t u l K]
  unfold teE withinG at h
  generalize (decide ((1 : Int) ≤ t) && decide (t ≤ 29)) = x at *
  generalize (decide ((1 : Int) ≤ u) && decide (u ≤ t)) = y at *
  generalize (decide ((1 : Int) ≤ l) && decide (l ≤ t)) = z at *
  cases x <;> cases y <;> cases z <;> exact h
theorem oktre : SpecOK Tryd.prog 76 teS := by
  refine specOK (n := 23) (m := 0) (lps := []) (.cons ok25 .nil) Tryd.func76 (by kernel_rfl) (by kernel_rfl) (noLoops (by kernel_rfl)) fun args σ K h => ?_
  unfold teS at h
  split at h
  rotate_right
  · exact h.elim
  rename_i t u l
  rw [extre t u l K]
  unfold teE withinG at h
  generalize (decide ((1 : Int) ≤ t) && decide (t ≤ 29)) = x at *
  generalize (decide ((1 : Int) ≤ u) && decide (u ≤ t)) = y at *
  generalize (decide ((1 : Int) ≤ l) && decide (l ≤ t)) = z at *
  cases x <;> cases y <;> cases z <;> exact h
theorem teE_ok {t u l : Int} (h : teE t u l = 0) : okT t u l := by
  unfold teE withinG at h
  unfold okT
  cases hx : (decide ((1 : Int) ≤ t) && decide (t ≤ 29)) with
  | false => rw [hx] at h; exact absurd (show (2 : Int) = 0 from h) (by decide)
  | true =>
    cases hy : (decide ((1 : Int) ≤ u) && decide (u ≤ t)) with
    | false => rw [hx, hy] at h; exact absurd (show (2 : Int) = 0 from h) (by decide)
    | true =>
      cases hz : (decide ((1 : Int) ≤ l) && decide (l ≤ t)) with
      | false => rw [hx, hy, hz] at h; exact absurd (show (2 : Int) = 0 from h) (by decide)
      | true =>
        rw [Bool.and_eq_true, decide_eq_true_eq, decide_eq_true_eq] at hx hy hz
        omega
theorem okend2 : SpecOK Tryd.prog 129 edS := by
  refine specOK (n := 23) (m := 0) (lps := []) .nil Tryd.func129 (by kernel_rfl) (by kernel_rfl) (noLoops (by kernel_rfl)) fun args σ K h => ?_
  unfold edS at h
  split at h
  rotate_right
  · exact h.elim
  rename_i t u l i d
  rw [exend2 t u l i d K]
  obtain ⟨⟨h1, h2⟩, h⟩ := h
  rw [show IntKind.i64.wrap (0 - d) = -d by rw [wrap_id (by omega) (by omega)]; omega]
  unfold enK enB at h
  generalize decide (d ≥ u) = x at *
  generalize decide (-d ≥ l) = y at *
  cases x <;> cases y <;> exact h
theorem boB_mk (x : List D) : (mk .bool (x.getD 0 (.int 0))) = .bool (boB x) := rfl
theorem ouG_step {t u l d i : Int} {r : List (List D)} (hi : i.toNat < r.length) (h0 : 0 ≤ i) :
    ouG t u l d i (r.drop i.toNat) = bif enB t u l (i + 1) (bif boB (r.getD i.toNat []) then d + 1 else d - 1) then (enK u l (bif boB (r.getD i.toNat []) then d + 1 else d - 1), i + 1, 0) else ouG t u l (bif boB (r.getD i.toNat []) then d + 1 else d - 1) (i + 1) (r.drop (i + 1).toNat) := by
  rw [drop_step [] hi, show (i + 1).toNat = i.toNat + 1 by omega]
  rfl
theorem ouG_err (t u l : Int) : ∀ (r : List (List D)) (d i : Int), ((ouG t u l d i r).2.2 == 0) = false → ouG t u l d i r = (0, 0, 14)
  | [], _, _, _ => rfl
  | x :: r, d, i, h => by
    simp only [ouG] at h ⊢
    generalize (bif boB x then d + 1 else d - 1) = d' at *
    cases he : enB t u l (i + 1) d' with
    | true => rw [he] at h; exact absurd (show ((0 : Int) == 0) = false from h) (by decide)
    | false => rw [he, cond_false] at h; rw [cond_false]; exact ouG_err t u l r _ _ h
theorem ouG_ok (t u l : Int) : ∀ (r : List (List D)) (d i : Int), ((ouG t u l d i r).2.2 == 0) = true → (ouG t u l d i r).2.2 = 0 := fun _ _ _ h => eq_of_beq h
theorem lokout_0 : LoopOK Eout (lb Tryd.f73 0) [2, 4, 7, 24, 25, 26] [4, 5] outL := by
  refine loopOK (.cons oktet (.cons ok70 (.cons ok69 (.cons okend2 .nil)))) (noInner (by kernel_rfl)) (fun vs σ => match vs, σ with
    | [.one (.ptr 0 1 0 0), .one (.ptr 1 1 0 0), .one (.int .i64 _), .one (.data (.recs [.bool] _)), .one (.int .i64 n), .one (.int .i64 i)], [.cells [.int .i64 _, .int .i64 _, .int .i64 _], .cells [.int .i64 0, .int .i64 0]] => (n - i).toNat
    | _, _ => 0) fun vs σ k h => ?_
  unfold outL at h
  split at h
  rotate_right
  · exact h.elim
  · rename_i d r n i t u l
    rw [exoutl0a d r n i t u l _]
    obtain ⟨⟨h1, h2, rfl, h3, h4, h5⟩, h⟩ := h
    by_cases hi : i < (r.length : Int)
    · have hw : IntKind.i64.wrap (i + 1) = i + 1 := wrap_id (by omega) (by omega)
      have hw2 : IntKind.i64.wrap (d + 1) = d + 1 := wrap_id (by omega) (by omega)
      have hw3 : IntKind.i64.wrap (d - 1) = d - 1 := wrap_id (by omega) (by omega)
      have hi' : i.toNat < r.length := by omega
      have hmu : ((r.length : Int) - (i + 1)).toNat < ((r.length : Int) - i).toNat := by omega
      rw [ouG_step hi' h2] at h
      rw [decide_eq_true hi, decide_eq_true h2, decide_eq_true hi', hw, hw2, hw3]
      replace h : cond _ _ _ := h
      change cond (boB (r.getD i.toNat [])) _ _
      generalize boB (r.getD i.toNat []) = x at *
      cases x with
      | true =>
        refine And.intro ⟨by omega, by omega⟩ ?_
        simp only [cond_true] at h
        cases he : enB t u l (i + 1) (d + 1) with
        | true => rw [he] at h; exact h
        | false => rw [he] at h; exact ⟨⟨⟨h1, by omega, rfl, by omega, by omega, by omega⟩, h⟩, hmu⟩
      | false =>
        refine And.intro ⟨by omega, by omega⟩ ?_
        simp only [cond_false] at h
        cases he : enB t u l (i + 1) (d - 1) with
        | true => rw [he] at h; exact h
        | false => rw [he] at h; exact ⟨⟨⟨h1, by omega, rfl, by omega, by omega, by omega⟩, h⟩, hmu⟩
    · rw [decide_eq_false hi]
      rw [List.drop_eq_nil_of_le (show r.length ≤ i.toNat by omega)] at h
      exact h
theorem okout : SpecOK Tryd.prog 73 outS := by
  refine specOK (n := 51) (m := 0) (lps := [(6, .spec [2, 4, 7, 24, 25, 26] [4, 5] outL)]) (.cons oktet (.cons ok70 (.cons ok69 (.cons okend2 .nil)))) Tryd.func73 (by kernel_rfl) (by kernel_rfl) (theLoops (n := 1) (by kernel_rfl) fun i hi => ?_) fun args σ K h => ?_
  · match i, hi with
    | 0, _ => exact loopHyp_of (key := 6) (by kernel_rfl) rfl lokout_0
  unfold outS at h
  split at h
  rotate_right
  · exact h.elim
  rename_i t u l r
  rw [exout t u l r K]
  obtain ⟨h1, h⟩ := h
  refine And.intro ((by decide : (2 : Nat) ≤ 1000)) ?_
  have e : firstE [teE t u l, bif decide ((r.length : Int) ≤ 200) then 0 else 8] = bif teE t u l == 0 then (bif decide ((r.length : Int) ≤ 200) then 0 else 8) else teE t u l := by
    unfold firstE firstE firstE
    generalize teE t u l = a
    cases a == 0 <;> cases decide ((r.length : Int) ≤ 200) <;> rfl
  rw [e]
  unfold ouE at h
  by_cases h0 : teE t u l = 0
  · rw [h0] at h ⊢
    cases hd : decide ((r.length : Int) ≤ 200) with
    | false => rw [hd] at h; exact h
    | true =>
      rw [hd] at h
      refine And.intro ⟨h1, by decide, rfl, by omega, by omega, by omega⟩ ?_
      simp only [beq_self_eq_true, cond_true] at h
      cases hz : (ouG t u l 0 0 r).2.2 == 0 with
      | true => rw [hz, eq_of_beq hz] at h; exact h
      | false => rw [hz, ouG_err t u l r 0 0 hz] at h; exact h
  · rw [beq_ff h0] at h ⊢
    rw [cond_false] at h ⊢
    rw [beq_ff h0] at h
    rw [bne_tt h0]
    exact h
theorem lokrot_0 : LoopOK Erot (lb Tryd.f79 0) [1, 2, 4, 6, 7] [4, 5] rouL := by
  refine loopOK .nil (noInner (by kernel_rfl)) (fun vs σ => match vs, σ with
    | [.one (.data (.recs [.bool] r)), .one (.ptr 0 1 0 0), .one (.ptr 1 1 0 0), .one (.int .i64 _), .one (.int .i64 i)], [.cells [.int .i64 _, .int .i64 _, .int .i64 _], .cells [.int .i64 0, .int .i64 0]] => (r.length - i).toNat
    | _, _ => 0) fun vs σ k h => ?_
  unfold rouL at h
  split at h
  rotate_right
  · exact h.elim
  · rename_i r d i t u l
    rw [exrotl0a r d i t u l _]
    obtain ⟨⟨h1, h2, h3, h4, h5, h6, h7, h8, h9⟩, h⟩ := h
    by_cases hi : i < (r.length : Int)
    · have hw : IntKind.i64.wrap (i + 1) = i + 1 := wrap_id (by omega) (by omega)
      have hw2 : IntKind.i64.wrap (d + 1) = d + 1 := wrap_id (by omega) (by omega)
      have hw3 : IntKind.i64.wrap (d - 1) = d - 1 := wrap_id (by omega) (by omega)
      have hw4 : IntKind.i64.wrap (0 - l) = -l := by rw [wrap_id (by omega) (by omega)]; omega
      have hi' : i.toNat < r.length := by omega
      have hmu : ((r.length : Int) - (i + 1)).toNat < ((r.length : Int) - i).toNat := by omega
      rw [ouG_step hi' h2] at h
      rw [decide_eq_true hi, decide_eq_true h2, decide_eq_true hi', hw, hw2, hw3, hw4]
      change cond (boB (r.getD i.toNat [])) _ _
      have fin : ∀ d', (d' = d + 1 ∨ d' = d - 1) → (d' == u) = decide (d' ≥ u) ∧ (d' == -l) = decide (-d' ≥ l) := by
        intro d' hd'
        constructor
        · by_cases e : d' = u
          · rw [e, beq_self_eq_true, decide_eq_true (by omega)]
          · rw [beq_ff e, decide_eq_false (by omega)]
        · by_cases e : d' = -l
          · rw [e, beq_self_eq_true, decide_eq_true (by omega)]
          · rw [beq_ff e, decide_eq_false (by omega)]
      generalize boB (r.getD i.toNat []) = x at *
      cases x with
      | true =>
        simp only [cond_true] at h
        obtain ⟨f1, f2⟩ := fin (d + 1) (.inl rfl)
        unfold enB enK at h
        rw [f1, f2]
        change cond (decide (d + 1 ≥ u)) _ _
        cases g1 : decide (d + 1 ≥ u) with
        | true => rw [g1] at h; exact h
        | false =>
          rw [g1] at h
          change cond (decide (-(d + 1) ≥ l)) _ _
          cases g2 : decide (-(d + 1) ≥ l) with
          | true => rw [g2] at h; exact h
          | false =>
            rw [g2] at h
            change cond (i + 1 == t) _ _
            cases g3 : i + 1 == t with
            | true => rw [g3] at h; exact h
            | false =>
              rw [g3] at h
              exact ⟨⟨⟨h1, by omega, by omega, by simp only [decide_eq_false_iff_not] at g1 g2; omega, by simp only [decide_eq_false_iff_not] at g1 g2; omega, h6, h7, h8, h9⟩, h⟩, hmu⟩
      | false =>
        simp only [cond_false] at h
        obtain ⟨f1, f2⟩ := fin (d - 1) (.inr rfl)
        unfold enB enK at h
        rw [f1, f2]
        change cond (decide (d - 1 ≥ u)) _ _
        cases g1 : decide (d - 1 ≥ u) with
        | true => rw [g1] at h; exact h
        | false =>
          rw [g1] at h
          change cond (decide (-(d - 1) ≥ l)) _ _
          cases g2 : decide (-(d - 1) ≥ l) with
          | true => rw [g2] at h; exact h
          | false =>
            rw [g2] at h
            change cond (i + 1 == t) _ _
            cases g3 : i + 1 == t with
            | true => rw [g3] at h; exact h
            | false =>
              rw [g3] at h
              exact ⟨⟨⟨h1, by omega, by omega, by simp only [decide_eq_false_iff_not] at g1 g2; omega, by simp only [decide_eq_false_iff_not] at g1 g2; omega, h6, h7, h8, h9⟩, h⟩, hmu⟩
    · rw [decide_eq_false hi]
      rw [List.drop_eq_nil_of_le (show r.length ≤ i.toNat by omega)] at h
      exact h
theorem okrot : SpecOK Tryd.prog 79 rouS := by
  refine specOK (n := 46) (m := 0) (lps := [(3, .spec [1, 2, 4, 6, 7] [4, 5] rouL)]) .nil Tryd.func79 (by kernel_rfl) (by kernel_rfl) (theLoops (n := 1) (by kernel_rfl) fun i hi => ?_) fun args σ K h => ?_
  · match i, hi with
    | 0, _ => exact loopHyp_of (key := 3) (by kernel_rfl) rfl lokrot_0
  unfold rouS at h
  split at h
  rotate_right
  · exact h.elim
  rename_i t u l r
  rw [exrot t u l r K]
  obtain ⟨⟨h1, h2⟩, h⟩ := h
  obtain ⟨a1, a2, a3, a4, a5, a6⟩ := teE_ok h2
  refine And.intro ⟨h1, by decide, by omega, by omega, by omega, a3, by omega, a5, by omega⟩ ?_
  cases hz : (ouG t u l 0 0 r).2.2 == 0 with
  | true => rw [hz] at h; exact h
  | false => rw [hz, ouG_err t u l r 0 0 hz] at h; exact h
theorem okcpa : SpecOK Tryd.prog 74 cpaS := by
  refine specOK (n := 6) (m := 0) (lps := []) .nil Tryd.func74 (by kernel_rfl) (by kernel_rfl) (noLoops (by kernel_rfl)) fun args σ K h => ?_
  unfold cpaS at h
  split at h
  rotate_right
  · exact h.elim
  rename_i r
  rw [excpa r K]
  obtain ⟨h1, h⟩ := h
  rw [decide_eq_true (by omega)]
  exact h
theorem okcpaD : SpecOK Tryd.prog 74 cpaDS := by
  refine okcpa.froze fun args σ K h => ?_
  unfold cpaDS at h
  split at h
  rotate_right
  · exact h.elim
  refine ⟨rfl, h.1, _, ?_, h.2⟩
  exact ⟨_, _, rfl, rfl, rfl⟩
end Go.Ev

namespace Go.Ev
open Go Go.Proofs
attribute [local irreducible] evFn evBody evRound

set_option maxRecDepth 20000

/-! ### Sums over maps -/
theorem smM_aset (f : Int → Int) (d v : Int) : ∀ (X : List (List Int × List Int)), smM f (aset X [d] [(agetD X [d]).getD 0 0 + v]) = smM f X + v * f d
  | [] => by
    show (0 + v) * f d + 0 = 0 + v * f d
    rw [Int.zero_add, Int.zero_add, Int.add_zero]
  | x :: X => by
    cases hk : ([d] == x.1) with
    | true =>
      have e : [d] = x.1 := by simpa using hk
      have h1 : agetD (x :: X) [d] = x.2 := by simp only [agetD, aget, hk, cond_true, Option.getD_some]
      have h2 : kyI x = d := by unfold kyI; rw [← e]; rfl
      simp only [aset, hk, cond_true, h1, smM]
      show (x.2.getD 0 0 + v) * f d + smM f X = vaI x * f (kyI x) + smM f X + v * f d
      rw [h2, Int.add_mul]
      unfold vaI
      omega
    | false =>
      have h1 : agetD (x :: X) [d] = agetD X [d] := by simp only [agetD, aget, hk, cond_false]
      simp only [aset, hk, cond_false, h1, smM, smM_aset f d v X]
      omega
theorem okM_aset {u l d v : Int} (h1 : -l < d) (h2 : d < u) (h3 : 0 ≤ v) : ∀ {X : List (List Int × List Int)}, okM u l X → okM u l (aset X [d] [(agetD X [d]).getD 0 0 + v])
  | [], _ => by
    intro x hx
    simp only [aset, List.mem_singleton] at hx
    subst hx
    exact ⟨h1, h2, by show 0 ≤ 0 + v; omega⟩
  | y :: X, h => by
    have hy := h y (List.mem_cons_self ..)
    have hX : okM u l X := fun x hx => h x (List.mem_cons_of_mem _ hx)
    cases hk : ([d] == y.1) with
    | true =>
      have h1' : agetD (y :: X) [d] = y.2 := by simp only [agetD, aget, hk, cond_true, Option.getD_some]
      simp only [aset, hk, cond_true, h1']
      intro x hx
      rcases List.mem_cons.1 hx with rfl | hx
      · exact ⟨h1, h2, by show 0 ≤ vaI y + v; omega⟩
      · exact hX x hx
    | false =>
      have h1' : agetD (y :: X) [d] = agetD X [d] := by simp only [agetD, aget, hk, cond_false]
      simp only [aset, hk, cond_false, h1']
      intro x hx
      rcases List.mem_cons.1 hx with rfl | hx
      · exact hy
      · exact okM_aset h1 h2 h3 hX x hx
theorem aget_nonneg {u l : Int} (k : List Int) : ∀ {X : List (List Int × List Int)}, okM u l X → 0 ≤ (agetD X k).getD 0 0
  | [], _ => Int.le_refl _
  | y :: X, h => by
    have hX : okM u l X := fun x hx => h x (List.mem_cons_of_mem _ hx)
    cases hk : (k == y.1) with
    | true =>
      simp only [agetD, aget, hk, cond_true, Option.getD_some]
      exact (h y (List.mem_cons_self ..)).2.2
    | false =>
      have := aget_nonneg k hX
      simp only [agetD, aget, hk, cond_false] at this ⊢
      exact this
theorem smM_nonneg {u l : Int} {f : Int → Int} (hf : ∀ d, 0 ≤ f d) : ∀ {X : List (List Int × List Int)}, okM u l X → 0 ≤ smM f X
  | [], _ => Int.le_refl _
  | y :: X, h => by
    have hX : okM u l X := fun x hx => h x (List.mem_cons_of_mem _ hx)
    have h1 := smM_nonneg hf hX
    have h2 := Int.mul_nonneg (h y (List.mem_cons_self ..)).2.2 (hf (kyI y))
    simp only [smM]
    omega
theorem smM_erase (f : Int → Int) : ∀ {R : List (List Int × List Int)} {j : Nat} {x : List Int × List Int}, R[j]? = some x → smM f R = vaI x * f (kyI x) + smM f (R.eraseIdx j)
  | [], j, x, h => by simp at h
  | y :: R, 0, x, h => by simp at h; subst h; rfl
  | y :: R, j + 1, x, h => by
    simp only [List.getElem?_cons_succ] at h
    simp only [smM, List.eraseIdx_cons_succ, smM_erase f h]
    omega
theorem okM_erase {u l : Int} {R : List (List Int × List Int)} {j : Nat} (h : okM u l R) : okM u l (R.eraseIdx j) := fun x hx => h x (List.mem_of_mem_eraseIdx hx)
theorem aget_le {u l w : Int} (hw : 1 ≤ w) (d : Int) : ∀ {X : List (List Int × List Int)}, okM u l X → (agetD X [d]).getD 0 0 ≤ smM (fun _ => w) X
  | [], _ => Int.le_refl _
  | y :: X, h => by
    have hX : okM u l X := fun x hx => h x (List.mem_cons_of_mem _ hx)
    have h1 := smM_nonneg (f := fun _ => w) (fun _ => by omega) hX
    have hy := (h y (List.mem_cons_self ..)).2.2
    have h3 : vaI y ≤ vaI y * w := by
      have := Int.mul_le_mul_of_nonneg_left hw hy
      omega
    cases hk : ([d] == y.1) with
    | true =>
      simp only [agetD, aget, hk, cond_true, Option.getD_some, smM]
      show vaI y ≤ vaI y * w + _
      omega
    | false =>
      have h2 := aget_le hw d hX
      simp only [agetD, aget, hk, cond_false, smM] at h2 ⊢
      omega

/-! ### One way on -/
def stC (t u l i : Int) (m : Nat) (c : List Int) (d v : Int) : List Int := bif enB t u l i d then c.set (enK u l d).toNat (c.getD (enK u l d).toNat 0 + v * 2 ^ m) else c
def stX (t u l i : Int) (X : List (List Int × List Int)) (d v : Int) : List (List Int × List Int) := bif enB t u l i d then X else aset X [d] [(agetD X [d]).getD 0 0 + v]
/-- What holds in the middle of a round; r: what is still to come. -/
structure Mid (t u l i : Int) (m : Nat) (c : List Int) (X : List (List Int × List Int)) (r : Int) : Prop where
  len : c.length = 3
  ok : okM u l X
  pos : ∀ j, j < 3 → 0 ≤ c.getD j 0
  tot : c.getD 0 0 + c.getD 1 0 + c.getD 2 0 + smM (fun _ => 2 ^ m) X + r = 2 ^ t.toNat
  last : i = t → X = []

theorem enK_range (u l d : Int) : 0 ≤ enK u l d ∧ enK u l d < 3 := by
  unfold enK
  cases decide (d ≥ u) <;> cases decide (-d ≥ l) <;> decide
theorem cnt_end {t u l i d : Int} {m : Nat} (ht : okT t u l) (him : (t - i).toNat = m) (hi : i ≤ t) (he : enB t u l i d = true) (k : Int) : cnt u l k m d = bif k == enK u l d then 2 ^ m else 0 := by
  unfold enB at he
  unfold enK
  cases h1 : decide (d ≥ u) with
  | true =>
    cases m with
    | zero => rw [cnt, h1]; rfl
    | succ m => rw [cnt, h1]; rfl
  | false =>
    rw [h1] at he
    cases h2 : decide (-d ≥ l) with
    | true =>
      cases m with
      | zero => rw [cnt, h1, h2]; rfl
      | succ m => rw [cnt, h1, h2]; rfl
    | false =>
      rw [h2] at he
      have e : i = t := eq_of_beq he
      have hm : m = 0 := by omega
      subst hm
      rw [cnt, h1, h2]; rfl
theorem cnt_in {t u l i d : Int} (he : enB t u l i d = false) : -l < d ∧ d < u ∧ i ≠ t := by
  unfold enB at he
  by_cases h1 : d ≥ u
  · rw [decide_eq_true h1] at he; cases he
  · rw [decide_eq_false h1] at he
    by_cases h2 : -d ≥ l
    · rw [decide_eq_true h2] at he; cases he
    · rw [decide_eq_false h2] at he
      exact ⟨by omega, by omega, beq_eq_false_iff_ne.1 he⟩
theorem pow_pos (m : Nat) : (1 : Int) ≤ 2 ^ m := by
  have : (0 : Int) < 2 ^ m := Int.pow_pos (by decide)
  omega
theorem getD_set3 {c : List Int} (hl : c.length = 3) {a : Nat} (ha : a < 3) (y : Int) (j : Nat) (hj : j < 3) : (c.set a y).getD j 0 = if a = j then y else c.getD j 0 := by
  rw [List.getD, List.getElem?_set]
  by_cases h : a = j
  · subst h; rw [if_pos rfl, if_pos rfl, if_pos (by omega)]; rfl
  · rw [if_neg h, if_neg h]; rfl
theorem Mid.step {t u l i d v r : Int} {m : Nat} {c : List Int} {X : List (List Int × List Int)} (M : Mid t u l i m c X (v * 2 ^ m + r)) (hv : 0 ≤ v) : Mid t u l i m (stC t u l i m c d v) (stX t u l i X d v) r := by
  have hp := pow_pos m
  have hvm : 0 ≤ v * 2 ^ m := Int.mul_nonneg hv (by omega)
  have hK := enK_range u l d
  have hKn : (enK u l d).toNat < 3 := by omega
  unfold stC stX
  cases he : enB t u l i d with
  | true =>
    simp only [cond_true]
    have hg := getD_set3 M.len hKn (c.getD (enK u l d).toNat 0 + v * 2 ^ m)
    refine ⟨by rw [List.length_set]; exact M.len, M.ok, fun j hj => ?_, ?_, M.last⟩
    · rw [hg j hj]
      have := M.pos (enK u l d).toNat hKn
      have := M.pos j hj
      split <;> omega
    · rw [hg 0 (by decide), hg 1 (by decide), hg 2 (by decide)]
      have := M.tot
      rcases (show (enK u l d).toNat = 0 ∨ (enK u l d).toNat = 1 ∨ (enK u l d).toNat = 2 by omega) with e | e | e
      · rw [e, if_pos rfl, if_neg (by decide), if_neg (by decide)]; omega
      · rw [e, if_neg (by decide), if_pos rfl, if_neg (by decide)]; omega
      · rw [e, if_neg (by decide), if_neg (by decide), if_pos rfl]; omega
  | false =>
    simp only [cond_false]
    obtain ⟨i1, i2, i3⟩ := cnt_in he
    refine ⟨M.len, okM_aset i1 i2 hv M.ok, M.pos, ?_, fun h => absurd h i3⟩
    rw [smM_aset]
    have := M.tot
    omega
/-- How an outcome's chance goes on. -/
theorem step_cnt {t u l i d v : Int} {m : Nat} {c : List Int} {X : List (List Int × List Int)} (ht : okT t u l) (him : (t - i).toNat = m) (hi : i ≤ t) (hl : c.length = 3) (j : Nat) (hj : j < 3) :
    (stC t u l i m c d v).getD j 0 + smM (cnt u l j m) (stX t u l i X d v) = c.getD j 0 + smM (cnt u l j m) X + v * cnt u l j m d := by
  have hK := enK_range u l d
  have hKn : (enK u l d).toNat < 3 := by omega
  unfold stC stX
  cases he : enB t u l i d with
  | true =>
    simp only [cond_true]
    rw [getD_set3 hl hKn _ j hj, cnt_end ht him hi he]
    by_cases e : (enK u l d).toNat = j
    · rw [if_pos e, show ((j : Int) == enK u l d) = true by rw [beq_iff_eq]; omega, cond_true, e]
      omega
    · rw [if_neg e, show ((j : Int) == enK u l d) = false by rw [beq_eq_false_iff_ne]; omega, cond_false, Int.mul_zero]
      omega
  | false =>
    simp only [cond_false]
    rw [smM_aset]
    omega
theorem Mid.small {t u l i d v r : Int} {m : Nat} {c : List Int} {X : List (List Int × List Int)} (M : Mid t u l i m c X (v * 2 ^ m + r)) (hv : 0 ≤ v) (hr : 0 ≤ r) (ht : okT t u l) :
    (∀ j, j < 3 → 0 ≤ c.getD j 0 + v * 2 ^ m ∧ c.getD j 0 + v * 2 ^ m ≤ 536870912) ∧ 0 ≤ (agetD X [d]).getD 0 0 + v ∧ (agetD X [d]).getD 0 0 + v ≤ 536870912 ∧ 0 ≤ v * 2 ^ m ∧ v * 2 ^ m ≤ 536870912 := by
  have hp := pow_pos m
  have hvm : 0 ≤ v * 2 ^ m := Int.mul_nonneg hv (by omega)
  have hvv : v ≤ v * 2 ^ m := by
    have := Int.mul_le_mul_of_nonneg_left hp hv
    omega
  have hs := smM_nonneg (f := fun _ => (2 : Int) ^ m) (fun _ => by omega) M.ok
  have ha := aget_le (w := 2 ^ m) hp d M.ok
  have hn := aget_nonneg [d] M.ok
  have h0 := M.pos 0 (by decide)
  have h1 := M.pos 1 (by decide)
  have h2 := M.pos 2 (by decide)
  have htot := M.tot
  have hT : (2 : Int) ^ t.toNat ≤ 2 ^ 29 := by
    obtain ⟨a1, a2, _⟩ := ht
    have : (2 : Nat) ^ t.toNat ≤ 2 ^ 29 := Nat.pow_le_pow_right (by decide) (by omega)
    exact_mod_cast this
  have hT' : (2 : Int) ^ 29 = 536870912 := by decide
  refine ⟨fun j hj => ?_, by omega, by omega, hvm, by omega⟩
  have hj' := M.pos j hj
  rcases (show j = 0 ∨ j = 1 ∨ j = 2 by omega) with rfl | rfl | rfl <;> omega
theorem two_pow_min {m : Nat} (h : m ≤ 29) : min m 64 = m := by omega
theorem wrap_ok {x : Int} (h0 : 0 ≤ x) (h1 : x ≤ 536870912) : IntKind.i64.wrap x = x := wrap_id (by omega) (by omega)
theorem chnB_step {t u l i : Int} {c : List Int} {X R : List (List Int × List Int)} {j : Nat} {x : List Int × List Int} (ht : okT t u l) (hi1 : 1 ≤ i) (hi2 : i ≤ t) (H : okRn t u l i c X R) (hx : R[j]? = some x) :
    okRn t u l i (stC t u l i (t - i).toNat (stC t u l i (t - i).toNat c (kyI x + 1) (vaI x)) (kyI x - 1) (vaI x)) (stX t u l i (stX t u l i X (kyI x + 1) (vaI x)) (kyI x - 1) (vaI x)) (R.eraseIdx j) ∧
    Mid t u l i (t - i).toNat c X (vaI x * 2 ^ (t - i).toNat + (vaI x * 2 ^ (t - i).toNat + smM (fun _ => 2 ^ ((t - i).toNat + 1)) (R.eraseIdx j))) ∧
    Mid t u l i (t - i).toNat (stC t u l i (t - i).toNat c (kyI x + 1) (vaI x)) (stX t u l i X (kyI x + 1) (vaI x)) (vaI x * 2 ^ (t - i).toNat + smM (fun _ => 2 ^ ((t - i).toNat + 1)) (R.eraseIdx j)) ∧
    0 ≤ smM (fun _ => 2 ^ ((t - i).toNat + 1)) (R.eraseIdx j) ∧ (-l < kyI x ∧ kyI x < u ∧ 0 ≤ vaI x) := by
  obtain ⟨h1, h2, h3, h4, h5, h6, h7⟩ := H
  have hm := h3 x (List.mem_of_getElem? hx)
  have hR : okM u l (R.eraseIdx j) := okM_erase h3
  have hs := smM_nonneg (f := fun _ => (2 : Int) ^ ((t - i).toNat + 1)) (fun _ => by have := pow_pos ((t - i).toNat + 1); omega) hR
  have e1 := smM_erase (fun _ => (2 : Int) ^ ((t - i).toNat + 1)) hx
  have e2 : vaI x * (2 : Int) ^ ((t - i).toNat + 1) = vaI x * 2 ^ (t - i).toNat + vaI x * 2 ^ (t - i).toNat := by rw [Int.pow_succ, ← Int.mul_assoc]; omega
  have M1 : Mid t u l i (t - i).toNat c X (vaI x * 2 ^ (t - i).toNat + (vaI x * 2 ^ (t - i).toNat + smM (fun _ => 2 ^ ((t - i).toNat + 1)) (R.eraseIdx j))) := by
    refine ⟨h1, h2, h4, ?_, h6⟩
    rw [e1, e2] at h5
    omega
  have M2 := M1.step (d := kyI x + 1) hm.2.2
  have M3 := M2.step (d := kyI x - 1) hm.2.2
  refine ⟨⟨M3.len, M3.ok, hR, M3.pos, ?_, M3.last, fun k hk => ?_⟩, M1, M2, hs, hm⟩
  · have := M3.tot
    omega
  · have a1 := step_cnt (d := kyI x + 1) (v := vaI x) (c := c) (X := X) ht rfl hi2 h1 k hk
    have a2 := step_cnt (d := kyI x - 1) (v := vaI x) (c := stC t u l i (t - i).toNat c (kyI x + 1) (vaI x)) (X := stX t u l i X (kyI x + 1) (vaI x)) ht rfl hi2 M2.len k hk
    have a3 := h7 k hk
    rw [smM_erase _ hx, Int.mul_add] at a3
    omega
theorem okRn_end {t u l i : Int} {c : List Int} {X : List (List Int × List Int)} (H : okRn t u l i c X []) : okCn t u l i c X := by
  obtain ⟨h1, h2, h3, h4, h5, h6, h7⟩ := H
  refine ⟨h1, h2, h4, ?_, h6, fun j hj => ?_⟩
  · have : smM (fun _ => (2 : Int) ^ ((t - i).toNat + 1)) [] = 0 := rfl
    rw [this] at h5; omega
  · have := h7 j hj
    have e : smM (fun d => cnt u l j (t - i).toNat (d + 1) + cnt u l j (t - i).toNat (d - 1)) [] = 0 := rfl
    rw [e] at this; omega
theorem lokchn2_1 : LoopOK Echn2 (lb Tryd.f75 1) [1, 2, 4, 6, 8, 9, 34] [1, 2, 4, 6, 8, 9] chnB := by
  refine loopOK (.cons oktet (.cons okend2 (.cons oklow .nil))) (fun b' hb => by
    have hl : loopsOf (lb Tryd.f75 1) = [lb Tryd.f75 2] := by kernel_rfl
    rw [hl] at hb
    simp only [List.mem_cons, List.not_mem_nil, or_false] at hb
    subst hb
    exact loopHyp_none (key := 15) (n := 3) (by kernel_rfl) rfl) (fun vs σ => match vs, σ with
    | [.one (.ptr 0 1 0 0), .one (.ptr 1 1 0 0), .one (.ptr 2 1 0 0), .one (.ptr 3 1 0 0), .one (.int .i64 _), .one (.mapv 4), .one (.ptr 5 1 0 0)], [.cells [.int .i64 _, .int .i64 _, .int .i64 _], .row 100 (.ints .i64 _), .row 100 (.ints .i64 _), .row 109 (.ints .i64 _), .map 0 0 _, .iter _ 0 0 R _] => R.length
    | _, _ => 0) fun vs σ k h => ?_
  unfold chnB at h
  split at h
  rotate_right
  · exact h.elim
  · rename_i i t u l a b c X m R q
    rw [exchn2l1a i t u l a b c X m R q _]
    obtain ⟨⟨ht, hi1, hi2, H⟩, h⟩ := h
    refine And.intro (fun hR => ?_) (fun j x hx => ?_)
    · subst hR
      exact h c X (okRn_end H)
    · obtain ⟨H3, M1, M2, hs, hk1, hk2, hv⟩ := chnB_step ht hi1 hi2 H hx
      obtain ⟨t1, t2, u1, u2, l1, l2⟩ := ht
      have ht : okT t u l := ⟨t1, t2, u1, u2, l1, l2⟩
      have hlen : (R.eraseIdx j).length < R.length := by
        have := (List.getElem?_eq_some_iff.1 hx).1
        rw [List.length_eraseIdx_of_lt this]; omega
      have hvm : 0 ≤ vaI x * 2 ^ (t - i).toNat := Int.mul_nonneg hv (by have := pow_pos (t - i).toNat; omega)
      obtain ⟨s1, s2, s3, s4, s5⟩ := M1.small (d := kyI x + 1) hv (by omega) ht
      obtain ⟨r1, r2, r3, r4, r5⟩ := M2.small (d := kyI x - 1) hv hs ht
      obtain ⟨q1, q2, q3, q4, q5⟩ := M1.small (d := kyI x - 1) hv (by omega) ht
      have w1 : IntKind.i64.wrap (x.1.getD 0 0 + 1) = kyI x + 1 := wrap_id (by show _ ≤ kyI x + 1; omega) (by show kyI x + 1 < _; omega)
      have w2 : IntKind.i64.wrap (x.1.getD 0 0 - 1) = kyI x - 1 := wrap_id (by show _ ≤ kyI x - 1; omega) (by show kyI x - 1 < _; omega)
      have w3 : IntKind.i64.wrap (t - i) = t - i := wrap_id (by omega) (by omega)
      have w4 : IntKind.i64.wrap (x.2.getD 0 0 * 2 ^ min (t - i).toNat 64) = vaI x * 2 ^ (t - i).toNat := by
        rw [two_pow_min (by omega)]
        exact wrap_ok r4 r5
      rw [w1, w2, w3, w4]
      have z0 : ∀ y : Nat, 0 + y + 0 = y := fun y => by omega
      have k1 := enK_range u l (kyI x + 1)
      have k2 := enK_range u l (kyI x - 1)
      have n1 : (enK u l (kyI x + 1)).toNat < 3 := by omega
      have n2 : (enK u l (kyI x - 1)).toNat < 3 := by omega
      have hcl := M1.len
      rw [z0, z0]
      rw [wrap_ok (s1 _ n1).1 (s1 _ n1).2]
      rw [decide_eq_true k1.1, decide_eq_true k1.2, decide_eq_true k2.1, decide_eq_true k2.2, decide_eq_false (show ¬ t - i < 0 by omega)]
      rw [List.length_set, hcl, decide_eq_true n1, decide_eq_true n2]
      refine And.intro ⟨by omega, by omega⟩ ?_
      simp only [stC, stX] at H3 r1 r2 r3
      cases b1 : enB t u l i (kyI x + 1) with
      | true =>
        rw [b1] at H3 r1 r2 r3
        simp only [cond_true] at H3 r1 r2 r3
        refine And.intro ⟨by omega, by omega⟩ ?_
        cases b2 : enB t u l i (kyI x - 1) with
        | true =>
          rw [b2] at H3
          rw [wrap_ok (r1 _ n2).1 (r1 _ n2).2]
          exact ⟨⟨⟨ht, hi1, hi2, H3⟩, h⟩, hlen⟩
        | false =>
          rw [b2] at H3
          have w5 : IntKind.i64.wrap ((agetD X [kyI x - 1]).getD 0 0 + vaI x) = (agetD X [kyI x - 1]).getD 0 0 + vaI x := wrap_ok q2 q3
          have : okT t u l ∧ 1 ≤ i ∧ i ≤ t ∧ okRn t u l i (c.set (enK u l (kyI x + 1)).toNat (c.getD (enK u l (kyI x + 1)).toNat 0 + vaI x * 2 ^ (t - i).toNat)) (aset X [kyI x - 1] [IntKind.i64.wrap ((agetD X [kyI x - 1]).getD 0 0 + vaI x)]) (R.eraseIdx j) := by
            rw [w5]; exact ⟨ht, hi1, hi2, H3⟩
          exact ⟨⟨this, h⟩, hlen⟩
      | false =>
        rw [b1] at H3 r1 r2 r3
        simp only [cond_false] at H3 r1 r2 r3
        have w5 : IntKind.i64.wrap ((agetD X [kyI x + 1]).getD 0 0 + vaI x) = (agetD X [kyI x + 1]).getD 0 0 + vaI x := wrap_ok s2 s3
        refine And.intro ⟨by omega, by omega⟩ ?_
        cases b2 : enB t u l i (kyI x - 1) with
        | true =>
          rw [b2] at H3
          rw [wrap_ok (s1 _ n2).1 (s1 _ n2).2]
          have : okT t u l ∧ 1 ≤ i ∧ i ≤ t ∧ okRn t u l i (c.set (enK u l (kyI x - 1)).toNat (c.getD (enK u l (kyI x - 1)).toNat 0 + vaI x * 2 ^ (t - i).toNat)) (aset X [kyI x + 1] [IntKind.i64.wrap ((agetD X [kyI x + 1]).getD 0 0 + vaI x)]) (R.eraseIdx j) := by
            rw [w5]; exact ⟨ht, hi1, hi2, H3⟩
          exact ⟨⟨this, h⟩, hlen⟩
        | false =>
          rw [b2] at H3
          have w6 : IntKind.i64.wrap ((agetD (aset X [kyI x + 1] [(agetD X [kyI x + 1]).getD 0 0 + vaI x]) [kyI x - 1]).getD 0 0 + vaI x) = (agetD (aset X [kyI x + 1] [(agetD X [kyI x + 1]).getD 0 0 + vaI x]) [kyI x - 1]).getD 0 0 + vaI x := wrap_ok r2 r3
          have : okT t u l ∧ 1 ≤ i ∧ i ≤ t ∧ okRn t u l i c (aset (aset X [kyI x + 1] [IntKind.i64.wrap ((agetD X [kyI x + 1]).getD 0 0 + vaI x)]) [kyI x - 1] [IntKind.i64.wrap ((agetD (aset X [kyI x + 1] [IntKind.i64.wrap ((agetD X [kyI x + 1]).getD 0 0 + vaI x)]) [kyI x - 1]).getD 0 0 + vaI x)]) (R.eraseIdx j) := by
            rw [w5, w6]; exact ⟨ht, hi1, hi2, H3⟩
          exact ⟨⟨this, h⟩, hlen⟩
theorem smM_congr {u l : Int} {f g : Int → Int} (hfg : ∀ d, -l < d → d < u → f d = g d) : ∀ {M : List (List Int × List Int)}, okM u l M → smM f M = smM g M
  | [], _ => rfl
  | x :: M, h => by
    have hx := h x (List.mem_cons_self ..)
    have hM : okM u l M := fun y hy => h y (List.mem_cons_of_mem _ hy)
    simp only [smM, hfg _ hx.1 hx.2.1, smM_congr hfg hM]
theorem cnt_mid {u l k d : Int} {m : Nat} (h1 : -l < d) (h2 : d < u) : cnt u l k (m + 1) d = cnt u l k m (d + 1) + cnt u l k m (d - 1) := by
  rw [cnt, decide_eq_false (show ¬ d ≥ u by omega), decide_eq_false (show ¬ -d ≥ l by omega)]
  rfl
theorem list3 {c : List Int} (h : c.length = 3) : c = [c.getD 0 0, c.getD 1 0, c.getD 2 0] := by
  match c, h with
  | [a, b, d], _ => rfl
theorem lokchn2_0 : LoopOK Echn2 (lb Tryd.f75 0) [1, 2, 4, 6, 7, 8] [1, 2, 4, 6] chnA := by
  refine loopOK (.cons oktet (.cons okend2 (.cons oklow .nil))) (fun b' hb => by
    have hl : loopsOf (lb Tryd.f75 0) = [lb Tryd.f75 1, lb Tryd.f75 2] := by kernel_rfl
    rw [hl] at hb
    simp only [List.mem_cons, List.not_mem_nil, or_false] at hb
    rcases hb with rfl | rfl
    · exact loopHyp_of (key := 12) (by kernel_rfl) rfl lokchn2_1
    · exact loopHyp_none (key := 15) (n := 3) (by kernel_rfl) rfl) (fun vs σ => match vs, σ with
    | [.one (.ptr 0 1 0 0), .one (.ptr 1 1 0 0), .one (.ptr 2 1 0 0), .one (.ptr 3 1 0 0), .one (.mapv 4), .one (.int .i64 i)], [.cells [.int .i64 t, .int .i64 _, .int .i64 _], .row 100 (.ints .i64 _), .row 100 (.ints .i64 _), .row 109 (.ints .i64 _), .map 0 0 _] => (t + 1 - i).toNat
    | _, _ => 0) fun vs σ k h => ?_
  unfold chnA at h
  split at h
  rotate_right
  · exact h.elim
  · rename_i i t u l a b c M
    rw [exchn2l0a i t u l a b c M _]
    obtain ⟨⟨ht, h1, h2, H⟩, h⟩ := h
    obtain ⟨t1, t2, u1, u2, l1, l2⟩ := ht
    have ht : okT t u l := ⟨t1, t2, u1, u2, l1, l2⟩
    obtain ⟨a1, a2, a3, a4, a5, a6⟩ := H
    by_cases hi : i ≤ t
    · have hw : IntKind.i64.wrap (i + 1) = i + 1 := wrap_id (by omega) (by omega)
      have hmu : (t + 1 - (i + 1)).toNat < (t + 1 - i).toNat := by omega
      have hm : (t - (i - 1)).toNat = (t - i).toNat + 1 := by omega
      rw [hm] at a4 a6
      rw [decide_eq_true hi, hw]
      have H2 : okRn t u l i c [] M := by
        refine ⟨a1, fun x hx => by simp at hx, a2, a3, ?_, fun _ => rfl, fun j hj => ?_⟩
        · have e : smM (fun _ => (2 : Int) ^ (t - i).toNat) [] = 0 := rfl
          rw [e]; omega
        · have e : smM (cnt u l j (t - i).toNat) [] = 0 := rfl
          have := a6 j hj
          rw [smM_congr (fun d x y => cnt_mid x y) a2] at this
          rw [e]; omega
      intro m
      refine And.intro ⟨ht, h1, hi, H2⟩ (fun c' X' H' => ?_)
      refine ⟨⟨⟨ht, by omega, by omega, ?_⟩, h⟩, hmu⟩
      rw [show i + 1 - 1 = i by omega]
      exact H'
    · rw [decide_eq_false hi]
      have hM : M = [] := a5 (by omega)
      subst hM
      have e : ∀ j : Nat, smM (cnt u l j (t - (i - 1)).toNat) [] = 0 := fun _ => rfl
      have c0 := a6 0 (by decide)
      have c1 := a6 1 (by decide)
      have c2 := a6 2 (by decide)
      rw [e, Int.add_zero] at c0 c1 c2
      rw [list3 a1, c0, c1, c2]
      exact h
theorem okchn2 : SpecOK Tryd.prog 75 chnS := by
  refine specOK (n := 88) (m := 0) (lps := [(8, .spec [1, 2, 4, 6, 7, 8] [1, 2, 4, 6] chnA), (12, .spec [1, 2, 4, 6, 8, 9, 34] [1, 2, 4, 6, 8, 9] chnB), (15, .unroll 3), (24, .unroll 4)]) (.cons oktet (.cons okend2 (.cons oklow .nil))) Tryd.func75 (by kernel_rfl) (by kernel_rfl) (theLoops (n := 4) (by kernel_rfl) fun i hi => ?_) fun args σ K h => ?_
  · match i, hi with
    | 0, _ => exact loopHyp_of (key := 8) (by kernel_rfl) rfl lokchn2_0
    | 1, _ => exact loopHyp_of (key := 12) (by kernel_rfl) rfl lokchn2_1
    | 2, _ => exact loopHyp_none (key := 15) (n := 3) (by kernel_rfl) rfl
    | 3, _ => exact loopHyp_none (key := 24) (n := 4) (by kernel_rfl) rfl
  unfold chnS at h
  split at h
  rotate_right
  · exact h.elim
  rename_i t u l
  rw [exchn2 t u l K]
  by_cases h0 : teE t u l = 0
  rotate_left
  · rw [beq_ff h0] at h
    rw [bne_tt h0]; exact h
  · have ht := teE_ok h0
    obtain ⟨t1, t2, u1, u2, l1, l2⟩ := teE_ok h0
    rw [h0] at h ⊢
    have e2 : IntKind.i64.wrap (1 * 2 ^ min t.toNat 64) = 2 ^ t.toNat := by
      rw [Int.one_mul, show min t.toNat 64 = t.toNat by omega]
      have hp := pow_pos t.toNat
      have : (2 : Nat) ^ t.toNat ≤ 2 ^ 29 := Nat.pow_le_pow_right (by decide) (by omega)
      have h29 : (2 : Int) ^ t.toNat ≤ 2 ^ 29 := by exact_mod_cast this
      exact wrap_ok (by omega) (by have : (2 : Int) ^ 29 = 536870912 := by decide
                                   omega)
    have hg : ∀ n, gcdG n (2 ^ t.toNat) ≠ 0 := fun n => gcd_ne n (by have := pow_pos t.toNat; omega)
    rw [e2, decide_eq_false (show ¬ t < 0 by omega)]
    refine And.intro ⟨ht, by decide, by omega, rfl, ?_, ?_, ?_, fun e => by omega, ?_⟩ (And.intro (hg _) (And.intro (hg _) (And.intro (hg _) ?_)))
    · intro x hx
      simp only [aset, List.mem_singleton] at hx
      subst hx
      exact ⟨by show -l < 0; omega, by show 0 < u; omega, by decide⟩
    · intro j hj
      rcases (show j = 0 ∨ j = 1 ∨ j = 2 by omega) with rfl | rfl | rfl <;> decide
    · show (0 : Int) + 0 + 0 + (1 * 2 ^ (t - (1 - 1)).toNat + 0) = 2 ^ t.toNat
      rw [show (t - (1 - 1)).toNat = t.toNat by omega]; omega
    · intro j hj
      have e3 : ([0, 0, 0] : List Int).getD j 0 = 0 := by rcases (show j = 0 ∨ j = 1 ∨ j = 2 by omega) with rfl | rfl | rfl <;> rfl
      rw [e3]
      show (0 : Int) + (1 * cnt u l j (t - (1 - 1)).toNat 0 + 0) = _
      rw [show (t - (1 - 1)).toNat = t.toNat by omega]; omega
    · exact h
end Go.Ev

namespace Go.Ev
open Go Go.Proofs
attribute [local irreducible] evFn evBody evRound

set_option maxRecDepth 20000

theorem smW_set (f : Int → Int) (y : Int) : ∀ (ws : List Int) (a : Int) (j : Nat), j < ws.length → smW f a (ws.set j y) = smW f a ws + (y - ws.getD j 0) * f (a + j)
  | [], a, j, h => by simp at h
  | w :: ws, a, 0, _ => by
    show y * f a + smW f (a + 1) ws = w * f a + smW f (a + 1) ws + (y - w) * f (a + (0 : Nat))
    rw [show a + ((0 : Nat) : Int) = a by omega, Int.sub_mul]; omega
  | w :: ws, a, j + 1, h => by
    have h' : j < ws.length := by simpa using h
    show w * f a + smW f (a + 1) (ws.set j y) = w * f a + smW f (a + 1) ws + (y - ws.getD j 0) * f (a + ((j + 1 : Nat) : Int))
    rw [smW_set f y ws (a + 1) j h', show a + ((j + 1 : Nat) : Int) = a + 1 + (j : Int) by omega]; omega
theorem smW_drop (f : Int → Int) (a : Int) : ∀ (ws : List Int) (j : Nat), j < ws.length → smW f (a + j) (ws.drop j) = ws.getD j 0 * f (a + j) + smW f (a + ((j + 1 : Nat) : Int)) (ws.drop (j + 1)) := by
  intro ws j h
  rw [drop_step 0 h]
  show _ * f (a + j) + smW f (a + j + 1) _ = _
  rw [show a + (j : Int) + 1 = a + ((j + 1 : Nat) : Int) by omega]
theorem smW_zero (f : Int → Int) : ∀ (n : Nat) (a : Int), smW f a (List.replicate n 0) = 0
  | 0, _ => rfl
  | n + 1, a => by
    show 0 * f a + smW f (a + 1) (List.replicate n 0) = 0
    rw [smW_zero f n (a + 1)]; omega
theorem smW_nonneg {f : Int → Int} (hf : ∀ d, 0 ≤ f d) : ∀ (ws : List Int) (a : Int), (∀ j : Nat, 0 ≤ ws.getD j 0) → 0 ≤ smW f a ws
  | [], _, _ => Int.le_refl _
  | w :: ws, a, h => by
    have h1 := smW_nonneg hf ws (a + 1) (fun j => by have := h (j + 1); simpa using this)
    have h2 := Int.mul_nonneg (show 0 ≤ w from h 0) (hf a)
    show 0 ≤ w * f a + _
    omega
theorem smW_const (c : Int) : ∀ (ws : List Int) (a : Int), smW (fun _ => c) a ws = smW (fun _ => 1) a ws * c
  | [], _ => by show (0 : Int) = 0 * c; rw [Int.zero_mul]
  | w :: ws, a => by
    show w * c + smW (fun _ => c) (a + 1) ws = (w * 1 + smW (fun _ => 1) (a + 1) ws) * c
    rw [smW_const c ws (a + 1), Int.add_mul, Int.mul_one]
theorem smW_elem : ∀ (ws : List Int) (a : Int) (j : Nat), (∀ j : Nat, 0 ≤ ws.getD j 0) → ws.getD j 0 ≤ smW (fun _ => 1) a ws
  | [], _, j, _ => by show ([] : List Int).getD j 0 ≤ 0; simp
  | w :: ws, a, j, h => by
    have hs : ∀ j : Nat, 0 ≤ ws.getD j 0 := fun j => by have := h (j + 1); simpa using this
    have h1 := smW_nonneg (f := fun _ => 1) (fun _ => by decide) ws (a + 1) hs
    have h0 : 0 ≤ w := h 0
    show _ ≤ w * 1 + smW (fun _ => 1) (a + 1) ws
    cases j with
    | zero => show w ≤ _; omega
    | succ j =>
      have := smW_elem ws (a + 1) j hs
      show ws.getD j 0 ≤ _
      omega
theorem smW_congr {f g : Int → Int} : ∀ (ws : List Int) (a : Int), (∀ j : Nat, j < ws.length → ws.getD j 0 = 0 ∨ f (a + j) = g (a + j)) → smW f a ws = smW g a ws
  | [], _, _ => rfl
  | w :: ws, a, h => by
    have h1 := smW_congr ws (a + 1) (fun j hj => by
      have := h (j + 1) (by simpa using hj)
      rw [show a + ((j + 1 : Nat) : Int) = a + 1 + (j : Int) by omega] at this
      simpa using this)
    show w * f a + _ = w * g a + _
    rw [h1]
    have h0 := h 0 (by simp)
    rw [show a + ((0 : Nat) : Int) = a by omega] at h0
    rcases h0 with h0 | h0
    · have : w = 0 := h0
      rw [this]; omega
    · rw [h0]
theorem getD_set' (ws : List Int) (a : Nat) (y : Int) (j : Nat) : (ws.set a y).getD j 0 = if a = j ∧ a < ws.length then y else ws.getD j 0 := by
  rw [List.getD, List.getElem?_set]
  by_cases h : a = j
  · subst h
    rw [if_pos rfl]
    by_cases hl : a < ws.length
    · rw [if_pos hl, if_pos ⟨rfl, hl⟩]; rfl
    · rw [if_neg hl, if_neg (fun h => hl h.2), List.getD, List.getElem?_eq_none (by omega)]
  · rw [if_neg h, if_neg (fun e => h e.1)]; rfl
theorem cnt_sum (u l : Int) : ∀ (m : Nat) (d : Int), cnt u l 0 m d + cnt u l 1 m d + cnt u l 2 m d = 2 ^ m
  | 0, d => by
    simp only [cnt]
    cases decide (d ≥ u) <;> cases decide (-d ≥ l) <;> rfl
  | m + 1, d => by
    simp only [cnt]
    have h1 := cnt_sum u l m (d + 1)
    have h2 := cnt_sum u l m (d - 1)
    cases decide (d ≥ u) with
    | true => show (2 : Int) ^ (m + 1) + 0 + 0 = _; omega
    | false =>
      cases decide (-d ≥ l) with
      | true => show (0 : Int) + 2 ^ (m + 1) + 0 = _; omega
      | false =>
        show (cnt u l 0 m (d + 1) + cnt u l 0 m (d - 1)) + (cnt u l 1 m (d + 1) + cnt u l 1 m (d - 1)) + (cnt u l 2 m (d + 1) + cnt u l 2 m (d - 1)) = _
        rw [Int.pow_succ]; omega
theorem cnt_nonneg (u l k : Int) : ∀ (m : Nat) (d : Int), 0 ≤ cnt u l k m d
  | 0, d => by
    simp only [cnt]
    cases decide (d ≥ u) <;> cases decide (-d ≥ l) <;> simp only [cond_true, cond_false]
    · cases k == 2 <;> decide
    · cases k == 1 <;> decide
    · cases k == 0 <;> decide
    · cases k == 0 <;> decide
  | m + 1, d => by
    have h1 := cnt_nonneg u l k m (d + 1)
    have h2 := cnt_nonneg u l k m (d - 1)
    have hp := pow_pos (m + 1)
    simp only [cnt]
    cases decide (d ≥ u) <;> cases decide (-d ≥ l) <;> simp only [cond_true, cond_false]
    · omega
    · cases k == 1 <;> simp only [cond_true, cond_false] <;> omega
    · cases k == 0 <;> simp only [cond_true, cond_false] <;> omega
    · cases k == 0 <;> simp only [cond_true, cond_false] <;> omega
theorem pwG_pow : ∀ (m : Nat) (o : Int), 0 ≤ o → o * 2 ^ m ≤ 536870912 → pwG m o = o * 2 ^ m
  | 0, o, _, _ => by show o = o * 1; omega
  | m + 1, o, h0, h1 => by
    have hp := pow_pos m
    have e : o * 2 ^ (m + 1) = (2 * o) * 2 ^ m := by rw [Int.pow_succ, Int.mul_comm 2 o, Int.mul_assoc, Int.mul_comm 2 (2 ^ m)]
    have h2 : 2 * o ≤ (2 * o) * 2 ^ m := by
      have := Int.mul_le_mul_of_nonneg_left hp (show 0 ≤ 2 * o by omega)
      omega
    have hw : wi (2 * o) = 2 * o := wrap_ok (by omega) (by omega)
    show pwG m (wi (2 * o)) = _
    rw [hw, pwG_pow m (2 * o) (by omega) (by omega), e]
theorem pow29 {t : Int} (h : t ≤ 29) : (2 : Int) ^ t.toNat ≤ 536870912 := by
  have : (2 : Nat) ^ t.toNat ≤ 2 ^ 29 := Nat.pow_le_pow_right (by decide) (by omega)
  have h2 : (2 : Int) ^ t.toNat ≤ 2 ^ 29 := by exact_mod_cast this
  have h3 : (2 : Int) ^ 29 = 536870912 := by decide
  omega
theorem pw29 {n : Int} (h : n ≤ 29) : pwG n.toNat 1 = 2 ^ n.toNat := by
  rw [pwG_pow n.toNat 1 (by decide) (by have := pow29 h; omega)]; omega
theorem lokrch_1 : LoopOK Erch (lb Tryd.f78 1) [1, 2, 3, 4, 5, 6, 7, 8] [1, 2, 4, 5, 6, 7] rchB := by
  refine loopOK (.cons okpw (.cons ok76 .nil)) (noInner (by kernel_rfl)) (fun vs σ => match vs, σ with
    | [.one (.ptr 0 1 0 0), .one (.ptr 1 1 0 0), .one (.own 2 1), .one (.int .i64 _), .one (.int .i64 _), .one (.int .i64 _), .one (.own 3 1), .one (.int .i64 j)], [.cells [.int .i64 _, .int .i64 _, .int .i64 _], .row 100 (.ints .i64 _), .row 3 (.ints .i64 ws), .row 3 (.ints .i64 _)] => (ws.length - j).toNat
    | _, _ => 0) fun vs σ k h => ?_
  unfold rchB at h
  split at h
  rotate_right
  · exact h.elim
  · rename_i hd nt i j t u l a ws ns
    rw [exrchl1a hd nt i j t u l a ws ns _]
    obtain ⟨⟨ht, h1, h2, h3, v1, v2, v3, v4, v5, v6⟩, h⟩ := h
    by_cases hj : j < (ws.length : Int)
    · have hw1 : IntKind.i64.wrap (j + 1) = j + 1 := wrap_id (by omega) (by omega)
      have hw2 : IntKind.i64.wrap (j - 1) = j - 1 := wrap_id (by omega) (by omega)
      have hJ : j.toNat < ws.length := by omega
      have hmu : ((ws.length : Int) - (j + 1)).toNat < ((ws.length : Int) - j).toNat := by omega
      have hcast : ((j.toNat : Nat) : Int) = j := by omega
      have hcast1 : ((j.toNat + 1 : Nat) : Int) = j + 1 := by omega
      have hdrop : ∀ f : Int → Int, smW f (-l + j) (ws.drop j.toNat) = ws.getD j.toNat 0 * f (-l + j) + smW f (-l + (j + 1)) (ws.drop (j + 1).toNat) := by
        intro f
        have := smW_drop f (-l) ws j.toNat hJ
        rw [hcast, hcast1] at this
        rw [this, show (j + 1).toNat = j.toNat + 1 by omega]
      rw [decide_eq_true hj, decide_eq_true h2, hw1, hw2]
      rw [show j.toNat + 0 = j.toNat from rfl, show (j - 1).toNat + 0 = (j - 1).toNat from rfl, show (j + 1).toNat + 0 = (j + 1).toNat from rfl]
      rw [decide_eq_true hJ]
      by_cases hp : ws.getD j.toNat 0 > 0
      · have hj0 : 1 ≤ j := by
          rcases Nat.eq_zero_or_pos j.toNat with e | e
          · rw [e] at hp; omega
          · omega
        have hjl : j + 1 < ws.length := by
          rcases Nat.lt_or_ge (j.toNat + 1) ws.length with e | e
          · omega
          · rw [show j.toNat = ws.length - 1 by omega] at hp; omega
        have e1 := smW_elem ns (-l) (j - 1).toNat v5
        have e2 := smW_elem ns (-l) (j + 1).toNat v5
        have e3 := hdrop (fun _ => 1)
        have hnn := smW_nonneg (f := fun _ => 1) (fun _ => by decide) (ws.drop (j + 1).toNat) (-l + (j + 1)) (fun q => by
          have := v2 ((j + 1).toNat + q)
          simpa [List.getD, List.getElem?_drop] using this)
        have n1 := v5 (j - 1).toNat
        have n2 := v5 (j + 1).toNat
        rw [e3] at v6
        have x1 : IntKind.i64.wrap (ns.getD (j - 1).toNat 0 + ws.getD j.toNat 0) = ns.getD (j - 1).toNat 0 + ws.getD j.toNat 0 := wrap_id (by omega) (by omega)
        have x2 : IntKind.i64.wrap (ns.getD (j + 1).toNat 0 + ws.getD j.toNat 0) = ns.getD (j + 1).toNat 0 + ws.getD j.toNat 0 := wrap_id (by omega) (by omega)
        rw [x1, x2]
        rw [List.length_set, ← v1]
        rw [decide_eq_true hp, decide_eq_true (show (0 : Int) ≤ j - 1 by omega), decide_eq_true (show j - 1 < (ws.length : Int) by omega), decide_eq_true (show (j - 1).toNat < ws.length by omega), decide_eq_true (show (0 : Int) ≤ j + 1 by omega), decide_eq_true (show j + 1 < (ws.length : Int) by omega), decide_eq_true (show (j + 1).toNat < ws.length by omega)]
        have hsm : ∀ f : Int → Int, smW f (-l) ((ns.set (j - 1).toNat (ns.getD (j - 1).toNat 0 + ws.getD j.toNat 0)).set (j + 1).toNat (ns.getD (j + 1).toNat 0 + ws.getD j.toNat 0)) = smW f (-l) ns + ws.getD j.toNat 0 * (f (-l + j + 1) + f (-l + j - 1)) := by
          intro f
          rw [smW_set f _ _ _ _ (by rw [List.length_set]; omega), getD_set', if_neg (by omega), smW_set f _ _ _ _ (by omega)]
          rw [show -l + ((j - 1).toNat : Int) = -l + j - 1 by omega, show -l + ((j + 1).toNat : Int) = -l + j + 1 by omega, Int.mul_add]
          rw [show ns.getD (j - 1).toNat 0 + ws.getD j.toNat 0 - ns.getD (j - 1).toNat 0 = ws.getD j.toNat 0 by omega, show ns.getD (j + 1).toNat 0 + ws.getD j.toNat 0 - ns.getD (j + 1).toNat 0 = ws.getD j.toNat 0 by omega]
          omega
        refine ⟨⟨⟨ht, h1, by omega, by omega, by simp only [List.length_set]; omega, v2, v3, v4, fun q => ?_, ?_⟩, fun ns' H => h ns' ?_⟩, hmu⟩
        · rw [getD_set']
          split
          · omega
          · rw [getD_set']
            split
            · omega
            · exact v5 q
        · rw [hsm]
          omega
        · obtain ⟨g1, g2, g3⟩ := H
          refine ⟨by rw [g1]; simp only [List.length_set], g2, fun f => ?_⟩
          rw [g3 f, hsm f, hdrop]
          rw [show -l + (j : Int) + 1 = -l + j + 1 from rfl]
          omega
      · have hz : ws.getD j.toNat 0 = 0 := by have := v2 j.toNat; omega
        rw [decide_eq_false hp]
        have e3 := hdrop (fun _ => 1)
        rw [hz] at e3
        refine ⟨⟨⟨ht, h1, by omega, by omega, v1, v2, v3, v4, v5, ?_⟩, fun ns' H => h ns' ?_⟩, hmu⟩
        · rw [e3] at v6; omega
        · obtain ⟨g1, g2, g3⟩ := H
          refine ⟨g1, g2, fun f => ?_⟩
          rw [g3 f, hdrop, hz]
          omega
    · rw [decide_eq_false hj]
      refine h ns ⟨rfl, v5, fun f => ?_⟩
      rw [List.drop_eq_nil_of_le (show ws.length ≤ j.toNat by omega)]
      show _ = _ + (0 : Int)
      omega
theorem cnt_hi {u l k : Int} {m : Nat} : cnt u l k m u = bif k == 0 then 2 ^ m else 0 := by
  cases m with
  | zero => rw [cnt, decide_eq_true (Int.le_refl u)]; rfl
  | succ m => rw [cnt, decide_eq_true (Int.le_refl u)]; rfl
theorem cnt_lo {u l k : Int} (hu : 1 ≤ u) (hl : 1 ≤ l) {m : Nat} : cnt u l k m (-l) = bif k == 1 then 2 ^ m else 0 := by
  cases m with
  | zero => rw [cnt, decide_eq_false (show ¬ -l ≥ u by omega), decide_eq_true (show -(-l) ≥ l by omega)]; rfl
  | succ m => rw [cnt, decide_eq_false (show ¬ -l ≥ u by omega), decide_eq_true (show -(-l) ≥ l by omega)]; rfl
theorem okW_len {t u l i hd nt : Int} {ws : List Int} (H : okW t u l i hd nt ws) (ht : okT t u l) : ws.length ≤ 100 ∧ 3 ≤ ws.length := by
  obtain ⟨t1, t2, u1, u2, l1, l2⟩ := ht
  have := H.1
  omega
/-- The next numbers of ways, their ends taken away. -/
theorem okW_step {t u l i hd nt : Int} {ws ns : List Int} (ht : okT t u l) (h1 : 1 ≤ i) (h2 : i ≤ t) (H : okW t u l (i - 1) hd nt ws) (hn : ns.length = ws.length) (hp : ∀ j : Nat, 0 ≤ ns.getD j 0)
    (hf : ∀ f : Int → Int, smW f (-l) ns = smW (fun d => f (d + 1) + f (d - 1)) (-l) ws) :
    okW t u l i (hd + ns.getD (ns.length - 1) 0 * 2 ^ (t - i).toNat) (nt + ns.getD 0 0 * 2 ^ (t - i).toNat) ((ns.set 0 0).set (ns.length - 1) 0) ∧
    0 ≤ ns.getD (ns.length - 1) 0 * 2 ^ (t - i).toNat ∧ 0 ≤ ns.getD 0 0 * 2 ^ (t - i).toNat ∧ hd + ns.getD (ns.length - 1) 0 * 2 ^ (t - i).toNat ≤ 536870912 ∧ nt + ns.getD 0 0 * 2 ^ (t - i).toNat ≤ 536870912 := by
  obtain ⟨c1, c2⟩ := okW_len H ht
  obtain ⟨t1, t2, u1, u2, l1, l2⟩ := ht
  obtain ⟨w1, w2, w3, w4, w5, w6, w7, w8, w9⟩ := H
  have hm : (t - (i - 1)).toNat = (t - i).toNat + 1 := by omega
  rw [hm] at w7 w8 w9
  unfold okW
  generalize (t - i).toNat = m at *
  have hpm := pow_pos m
  have hlast : -l + ((ns.length - 1 : Nat) : Int) = u := by omega
  have hend : ∀ f : Int → Int, smW f (-l) ((ns.set 0 0).set (ns.length - 1) 0) = smW f (-l) ns - ns.getD 0 0 * f (-l) - ns.getD (ns.length - 1) 0 * f u := by
    intro f
    rw [smW_set f _ _ _ _ (by rw [List.length_set]; omega), getD_set', if_neg (by omega), smW_set f _ _ _ _ (by omega), hlast, show -l + ((0 : Nat) : Int) = -l by omega, Int.sub_mul, Int.sub_mul, Int.zero_mul, Int.zero_mul]
    omega
  have a1 : 0 ≤ ns.getD (ns.length - 1) 0 * 2 ^ m := Int.mul_nonneg (hp _) (by omega)
  have a2 : 0 ≤ ns.getD 0 0 * 2 ^ m := Int.mul_nonneg (hp _) (by omega)
  have hpos : ∀ j : Nat, 0 ≤ ((ns.set 0 0).set (ns.length - 1) 0).getD j 0 := by
    intro j
    rw [getD_set']
    split
    · omega
    · rw [getD_set']
      split
      · omega
      · exact hp j
  have key : ∀ k : Int, smW (cnt u l k (m + 1)) (-l) ws = smW (cnt u l k m) (-l) ns := by
    intro k
    rw [hf]
    refine smW_congr ws (-l) fun j hj => ?_
    rcases Nat.eq_zero_or_pos j with e | e
    · left; rw [e]; exact w3
    · rcases Nat.lt_or_ge (j + 1) ws.length with e2 | e2
      · right; exact cnt_mid (by omega) (by omega)
      · left; rw [show j = ws.length - 1 by omega]; exact w4
  have tot : hd + ns.getD (ns.length - 1) 0 * 2 ^ m + (nt + ns.getD 0 0 * 2 ^ m) + smW (fun _ => 2 ^ m) (-l) ((ns.set 0 0).set (ns.length - 1) 0) = 2 ^ t.toNat := by
    rw [hend]
    have e := hf (fun _ => 2 ^ m)
    have e2 : smW (fun _ => (2 : Int) ^ m + 2 ^ m) (-l) ws = smW (fun _ => 2 ^ (m + 1)) (-l) ws := by
      congr 1
      funext _
      rw [Int.pow_succ]; omega
    rw [e, e2]
    omega
  have hs := smW_nonneg (f := fun _ => (2 : Int) ^ m) (fun _ => by omega) ((ns.set 0 0).set (ns.length - 1) 0) (-l) hpos
  have h29 := pow29 (t := t) t2
  refine ⟨⟨by simp only [List.length_set]; omega, hpos, ?_, ?_, by omega, by omega, tot, ?_, ?_⟩, a1, a2, by omega, by omega⟩
  · rw [getD_set', if_neg (by omega), getD_set', if_pos ⟨rfl, by omega⟩]
  · simp only [List.length_set]
    rw [getD_set', if_pos ⟨rfl, by rw [List.length_set]; omega⟩]
  · rw [hend, cnt_hi, cnt_lo u1 l1, ← key]
    show hd + ns.getD (ns.length - 1) 0 * 2 ^ m + (smW (cnt u l 0 (m + 1)) (-l) ws - ns.getD 0 0 * 0 - ns.getD (ns.length - 1) 0 * 2 ^ m) = _
    rw [Int.mul_zero]; omega
  · rw [hend, cnt_hi, cnt_lo u1 l1, ← key]
    show nt + ns.getD 0 0 * 2 ^ m + (smW (cnt u l 1 (m + 1)) (-l) ws - ns.getD 0 0 * 2 ^ m - ns.getD (ns.length - 1) 0 * 0) = _
    rw [Int.mul_zero]; omega
theorem okW_end {t u l hd nt : Int} {ws : List Int} (ht : okT t u l) (H : okW t u l t hd nt ws) : hd = cnt u l 0 t.toNat 0 ∧ nt = cnt u l 1 t.toNat 0 := by
  obtain ⟨t1, t2, u1, u2, l1, l2⟩ := ht
  obtain ⟨w1, w2, w3, w4, w5, w6, w7, w8, w9⟩ := H
  have hm : (t - t).toNat = 0 := by omega
  rw [hm] at w8 w9
  have z : ∀ k : Int, k = 0 ∨ k = 1 → smW (cnt u l k 0) (-l) ws = 0 := by
    intro k hk
    rw [smW_congr (g := fun _ => 0) ws (-l) fun j hj => ?_, smW_const]
    · omega
    · rcases Nat.eq_zero_or_pos j with e | e
      · left; rw [e]; exact w3
      · rcases Nat.lt_or_ge (j + 1) ws.length with e2 | e2
        · right
          rw [cnt, decide_eq_false (show ¬ -l + (j : Int) ≥ u by omega), decide_eq_false (show ¬ -(-l + (j : Int)) ≥ l by omega)]
          rcases hk with rfl | rfl <;> rfl
        · left; rw [show j = ws.length - 1 by omega]; exact w4
  rw [z 0 (.inl rfl)] at w8
  rw [z 1 (.inr rfl)] at w9
  omega
theorem lokrch_0 : LoopOK Erch (lb Tryd.f78 0) [1, 2, 3, 4, 5, 6] [1, 2, 4, 5] rchA := by
  refine loopOK (.cons okpw (.cons ok76 .nil)) (fun b' hb => by
    have hl : loopsOf (lb Tryd.f78 0) = [lb Tryd.f78 1] := by kernel_rfl
    rw [hl] at hb
    simp only [List.mem_cons, List.not_mem_nil, or_false] at hb
    subst hb
    exact loopHyp_of (key := 9) (by kernel_rfl) rfl lokrch_1) (fun vs σ => match vs, σ with
    | [.one (.ptr 0 1 0 0), .one (.ptr 1 1 0 0), .one (.own 2 1), .one (.int .i64 _), .one (.int .i64 _), .one (.int .i64 i)], [.cells [.int .i64 t, .int .i64 _, .int .i64 _], .row 100 (.ints .i64 _), .row 3 (.ints .i64 _)] => (t + 1 - i).toNat
    | _, _ => 0) fun vs σ k h => ?_
  unfold rchA at h
  split at h
  rotate_right
  · exact h.elim
  · rename_i hd nt i t u l a ws
    rw [exrchl0a hd nt i t u l a ws _]
    obtain ⟨⟨ht, h1, h2, H⟩, h⟩ := h
    obtain ⟨c1, c2⟩ := okW_len H ht
    obtain ⟨t1, t2, u1, u2, l1, l2⟩ := ht
    have ht : okT t u l := ⟨t1, t2, u1, u2, l1, l2⟩
    by_cases hi : i ≤ t
    · have hw : IntKind.i64.wrap (i + 1) = i + 1 := wrap_id (by omega) (by omega)
      have hw2 : IntKind.i64.wrap (t - i) = t - i := wrap_id (by omega) (by omega)
      have hmu : (t + 1 - (i + 1)).toNat < (t + 1 - i).toNat := by omega
      have hcn : ((ws.length : Nat) : Int).toNat = ws.length := by omega
      rw [decide_eq_true hi, hw, hw2, hcn, pw29 (show t - i ≤ 29 by omega)]
      rw [decide_eq_true (show (0 : Int) ≤ (ws.length : Int) by omega), decide_eq_true (Int.le_refl (ws.length : Int)), decide_eq_true (show (ws.length : Int) * 8 ≤ 140737488355328 ∧ (ws.length : Int) ≤ 140737488355328 by omega)]
      have hsum : smW (fun _ => 1) (-l) ws ≤ 536870912 := by
        obtain ⟨w1, w2, w3, w4, w5, w6, w7, w8, w9⟩ := H
        rw [smW_const] at w7
        have hnn := smW_nonneg (f := fun _ => 1) (fun _ => by decide) ws (-l) w2
        have := Int.mul_le_mul_of_nonneg_left (pow_pos (t - (i - 1)).toNat) hnn
        have h29 := pow29 (t := t) t2
        omega
      refine And.intro ⟨ht, by omega, by decide, by omega, by rw [List.length_replicate], H.2.1, H.2.2.1, H.2.2.2.1, fun j => ?_, ?_⟩ (fun ns' HN => ?_)
      · rw [List.getD, List.getElem?_replicate]
        split <;> exact Int.le_refl _
      · rw [smW_zero, show -l + (0 : Int) = -l by omega]
        show 0 + 2 * smW (fun _ => 1) (-l) ws ≤ _
        omega
      · obtain ⟨g1, g2, g3⟩ := HN
        rw [List.length_replicate] at g1
        have hf : ∀ f : Int → Int, smW f (-l) ns' = smW (fun d => f (d + 1) + f (d - 1)) (-l) ws := by
          intro f
          rw [g3 f, smW_zero, show -l + (0 : Int) = -l by omega]; omega
        obtain ⟨H', b1, b2, b3, b4⟩ := okW_step ht h1 hi H g1 g2 hf
        have hw3 : IntKind.i64.wrap ((ns'.length : Int) - 1) = ((ns'.length - 1 : Nat) : Int) := by rw [wrap_id (by omega) (by omega)]; omega
        have hd0 : 0 ≤ hd := H.2.2.2.2.1
        have nt0 : 0 ≤ nt := H.2.2.2.2.2.1
        rw [hw3]
        rw [show ((ns'.length - 1 : Nat) : Int).toNat + 0 = ns'.length - 1 by omega]
        rw [wrap_ok b1 (by omega), wrap_ok b2 (by omega), wrap_ok (show 0 ≤ hd + ns'.getD (ns'.length - 1) 0 * 2 ^ (t - i).toNat by omega) b3, wrap_ok (show 0 ≤ nt + ns'.getD 0 0 * 2 ^ (t - i).toNat by omega) b4]
        rw [List.length_set]
        rw [decide_eq_true (show (0 : Int) ≤ ((ns'.length - 1 : Nat) : Int) by omega), decide_eq_true (show ((ns'.length - 1 : Nat) : Int) < (ns'.length : Int) by omega), decide_eq_true (show ns'.length - 1 < ns'.length by omega), decide_eq_true (show (0 : Int) < (ns'.length : Int) by omega), decide_eq_true (show 0 < ns'.length by omega)]
        refine And.intro ⟨by omega, by omega⟩ (And.intro ⟨by omega, by omega⟩ ?_)
        refine ⟨⟨⟨ht, by omega, by omega, ?_⟩, h⟩, hmu⟩
        rw [show i + 1 - 1 = i by omega]
        exact H'
    · rw [decide_eq_false hi]
      have e : i - 1 = t := by omega
      rw [e] at H
      obtain ⟨e1, e2⟩ := okW_end ht H
      subst e1 e2
      exact h
theorem cnt_le {u l k t : Int} (ht : okT t u l) (hk : k = 0 ∨ k = 1 ∨ k = 2) : 0 ≤ cnt u l k t.toNat 0 ∧ cnt u l k t.toNat 0 ≤ 2 ^ t.toNat := by
  have h0 := cnt_nonneg u l 0 t.toNat 0
  have h1 := cnt_nonneg u l 1 t.toNat 0
  have h2 := cnt_nonneg u l 2 t.toNat 0
  have hs := cnt_sum u l t.toNat 0
  rcases hk with rfl | rfl | rfl <;> omega
theorem okrch : SpecOK Tryd.prog 78 rchS := by
  refine specOK (n := 119) (m := 0) (lps := [(5, .spec [1, 2, 3, 4, 5, 6] [1, 2, 4, 5] rchA), (9, .spec [1, 2, 3, 4, 5, 6, 7, 8] [1, 2, 4, 5, 6, 7] rchB)]) (.cons okpw (.cons ok76 .nil)) Tryd.func78 (by kernel_rfl) (by kernel_rfl) (theLoops (n := 2) (by kernel_rfl) fun i hi => ?_) fun args σ K h => ?_
  · match i, hi with
    | 0, _ => exact loopHyp_of (key := 5) (by kernel_rfl) rfl lokrch_0
    | 1, _ => exact loopHyp_of (key := 9) (by kernel_rfl) rfl lokrch_1
  unfold rchS at h
  split at h
  rotate_right
  · exact h.elim
  rename_i t u l
  rw [exrch t u l K]
  obtain ⟨h0, h⟩ := h
  have ht := teE_ok h0
  obtain ⟨t1, t2, u1, u2, l1, l2⟩ := teE_ok h0
  have hw1 : IntKind.i64.wrap (l + u) = l + u := wrap_id (by omega) (by omega)
  have hw2 : IntKind.i64.wrap (l + u + 1) = l + u + 1 := wrap_id (by omega) (by omega)
  have c0 := cnt_le ht (k := 0) (.inl rfl)
  have c1 := cnt_le ht (k := 1) (.inr (.inl rfl))
  have c2 := cnt_le ht (k := 2) (.inr (.inr rfl))
  have hs := cnt_sum u l t.toNat 0
  have h29 := pow29 (t := t) t2
  have hp := pow_pos t.toNat
  have hw3 : IntKind.i64.wrap (IntKind.i64.wrap (2 ^ t.toNat - cnt u l 0 t.toNat 0) - cnt u l 1 t.toNat 0) = cnt u l 2 t.toNat 0 := by
    rw [wrap_ok (x := 2 ^ t.toNat - cnt u l 0 t.toNat 0) (by omega) (by omega), wrap_ok (by omega) (by omega)]; omega
  rw [hw1, hw2, pw29 t2, hw3]
  have hdv : ∀ k : Int, k = 0 ∨ k = 1 ∨ k = 2 → divG (cnt u l k t.toNat 0) (2 ^ t.toNat) = gcdG (cnt u l k t.toNat 0) (2 ^ t.toNat) ∧ 0 < gcdG (cnt u l k t.toNat 0) (2 ^ t.toNat) := by
    intro k hk
    obtain ⟨e1, e2, _⟩ := divG_gcdG (a := cnt u l k t.toNat 0) (b := 2 ^ t.toNat) (cnt_le ht hk).1 (by omega) (by omega)
    exact ⟨e1, e2⟩
  obtain ⟨d0, g0⟩ := hdv 0 (.inl rfl)
  obtain ⟨d1, g1⟩ := hdv 1 (.inr (.inl rfl))
  obtain ⟨d2, g2⟩ := hdv 2 (.inr (.inr rfl))
  rw [d0, d1, d2]
  rw [List.length_replicate]
  rw [decide_eq_true (show (0 : Int) ≤ l + u + 1 by omega), decide_eq_true (Int.le_refl (l + u + 1)), decide_eq_true (show (l + u + 1) * 8 ≤ 140737488355328 ∧ l + u + 1 ≤ 140737488355328 by omega), decide_eq_true (show (0 : Int) ≤ l by omega), decide_eq_true (show l < (((l + u + 1).toNat : Nat) : Int) by omega), decide_eq_true (show l.toNat + 0 < (l + u + 1).toNat by omega)]
  have hset : ∀ f : Int → Int, smW f (-l) ((List.replicate (l + u + 1).toNat 0).set (l.toNat + 0) 1) = f 0 := by
    intro f
    rw [smW_set f _ _ _ _ (by rw [List.length_replicate]; omega), smW_zero, List.getD, List.getElem?_replicate, if_pos (by omega), show -l + ((l.toNat + 0 : Nat) : Int) = 0 by omega]
    show (0 : Int) + (1 - 0) * f 0 = f 0
    omega
  have hr : ∀ j : Nat, (List.replicate (l + u + 1).toNat (0 : Int)).getD j 0 = 0 := by
    intro j
    rw [List.getD, List.getElem?_replicate]
    split <;> rfl
  refine And.intro ⟨ht, by decide, by omega, ?_, fun j => ?_, ?_, ?_, by decide, by decide, ?_, ?_, ?_⟩ (And.intro ⟨by omega, by omega⟩ (And.intro (by omega) (And.intro (by omega) (And.intro (by omega) h))))
  · rw [List.length_set, List.length_replicate]; omega
  · rw [getD_set', hr]
    split <;> decide
  · rw [getD_set', if_neg (by omega), hr]
  · rw [List.length_set, List.length_replicate, getD_set', if_neg (by omega), hr]
  · rw [hset]
    show (0 : Int) + 0 + 2 ^ (t - (1 - 1)).toNat = _
    rw [show (t - (1 - 1)).toNat = t.toNat by omega]; omega
  · rw [hset, show (t - 0).toNat = t.toNat by omega]; omega
  · rw [hset, show (t - 0).toNat = t.toNat by omega]; omega
end Go.Ev

namespace Go.Ev
open Go Go.Proofs
attribute [local irreducible] evFn evBody evRound

set_option maxRecDepth 20000
set_option linter.unusedVariables false
set_option linter.unusedSimpArgs false

theorem frac_facts {c p : Int} (h0 : 0 ≤ c) (h1 : c ≤ p) (hp : 0 < p) (h2 : p ≤ 536870912) :
    frN c p * p = c * frD c p ∧ 0 ≤ frN c p ∧ frN c p ≤ frD c p ∧ 1 ≤ frD c p ∧ frD c p ≤ p := by
  obtain ⟨_, g1, g2, ⟨a, ha⟩, ⟨b, hb⟩⟩ := divG_gcdG (a := c) (b := p) h0 hp (by omega)
  unfold frN frD
  generalize gcdG c p = g at *
  have e1 : c.tdiv g = a := by rw [ha, Int.mul_tdiv_cancel_left _ (by omega)]
  have e2 : p.tdiv g = b := by rw [hb, Int.mul_tdiv_cancel_left _ (by omega)]
  have a0 : 0 ≤ a := by
    rcases Int.lt_or_le a 0 with h | h
    · have := Int.mul_neg_of_pos_of_neg g1 h; omega
    · exact h
  have b0 : 1 ≤ b := by
    rcases Int.lt_or_le b 1 with h | h
    · have := Int.mul_nonpos_of_nonneg_of_nonpos (show 0 ≤ g by omega) (show b ≤ 0 by omega); omega
    · exact h
  have ab : a ≤ b := by
    rcases Int.lt_or_le b a with h | h
    · have := Int.mul_lt_mul_of_pos_left h g1; omega
    · exact h
  have bp : b ≤ p := by
    have := Int.mul_le_mul_of_nonneg_right (show 1 ≤ g by omega) (show 0 ≤ b by omega)
    omega
  have w1 : wi a = a := wrap_ok a0 (by omega)
  have w2 : wi b = b := wrap_ok (by omega) (by omega)
  rw [e1, e2, w1, w2]
  refine ⟨?_, a0, ab, b0, bp⟩
  rw [ha, hb, Int.mul_comm g a, Int.mul_assoc]
  
theorem gcdG_self {x : Int} (h : 0 < x) : gcdG x x = x := by
  rw [gcdG_nat (by omega) (by omega), Nat.gcd_self]
  omega
theorem low_unique {s e x p : Int} (hs : 0 ≤ s) (he : 0 < e) (hp : 0 < p) (hx : 0 ≤ x) (hg : gcdG s e = 1) (h : s * p = x * e) : e ≤ p := by
  obtain ⟨s, rfl⟩ := Int.eq_ofNat_of_zero_le hs
  obtain ⟨e, rfl⟩ := Int.eq_ofNat_of_zero_le (Int.le_of_lt he)
  obtain ⟨p, rfl⟩ := Int.eq_ofNat_of_zero_le (Int.le_of_lt hp)
  obtain ⟨x, rfl⟩ := Int.eq_ofNat_of_zero_le hx
  rw [gcdG_nat (Int.natCast_nonneg _) (Int.natCast_nonneg _)] at hg
  simp only [Int.toNat_natCast] at hg
  have hg' : Nat.gcd s e = 1 := by omega
  have h' : s * p = x * e := by exact_mod_cast h
  have hd : e ∣ s * p := ⟨x, by rw [h', Nat.mul_comm]⟩
  have hc : Nat.Coprime e s := by unfold Nat.Coprime; rw [Nat.gcd_comm]; exact hg'
  have := Nat.Coprime.dvd_of_dvd_mul_left hc hd
  have := Nat.le_of_dvd (by omega) this
  omega
theorem cnt_mirror (u : Int) : ∀ (m : Nat) (d : Int), 1 ≤ u → cnt u u 0 m d = cnt u u 1 m (-d)
  | 0, d, hu => by
    simp only [cnt]
    by_cases h1 : d ≥ u
    · rw [decide_eq_true h1, decide_eq_false (show ¬ -d ≥ u by omega), decide_eq_true (show -(-d) ≥ u by omega)]; rfl
    · rw [decide_eq_false h1, decide_eq_false (show ¬ -(-d) ≥ u by omega)]
      by_cases h2 : -d ≥ u
      · rw [decide_eq_true h2]; rfl
      · rw [decide_eq_false h2]; rfl
  | m + 1, d, hu => by
    simp only [cnt]
    by_cases h1 : d ≥ u
    · rw [decide_eq_true h1, decide_eq_false (show ¬ -d ≥ u by omega), decide_eq_true (show -(-d) ≥ u by omega)]; rfl
    · rw [decide_eq_false h1, decide_eq_false (show ¬ -(-d) ≥ u by omega)]
      by_cases h2 : -d ≥ u
      · rw [decide_eq_true h2]; rfl
      · rw [decide_eq_false h2]
        show cnt u u 0 m (d + 1) + cnt u u 0 m (d - 1) = cnt u u 1 m (-d + 1) + cnt u u 1 m (-d - 1)
        rw [cnt_mirror u m (d + 1) hu, cnt_mirror u m (d - 1) hu, show -(d + 1) = -d - 1 by omega, show -(d - 1) = -d + 1 by omega]
        omega
theorem mul_bnd {a b A B : Int} (h1 : 0 ≤ a) (h2 : a ≤ A) (h3 : 0 ≤ b) (h4 : b ≤ B) : 0 ≤ a * b ∧ a * b ≤ A * B :=
  ⟨Int.mul_nonneg h1 h3, Int.mul_le_mul h2 h4 h3 (by omega)⟩
theorem tdiv_of {a g q : Int} (hg : g ≠ 0) (h : a = g * q) : a.tdiv g = q := by rw [h, Int.mul_tdiv_cancel_left _ hg]
/-- Three chances that add up to one do so as fractions. -/
theorem sum_one {n0 d0 n1 d1 n2 d2 c0 c1 c2 p : Int} (f0 : n0 * p = c0 * d0 ∧ 0 ≤ n0 ∧ n0 ≤ d0 ∧ 1 ≤ d0 ∧ d0 ≤ p) (f1 : n1 * p = c1 * d1 ∧ 0 ≤ n1 ∧ n1 ≤ d1 ∧ 1 ≤ d1 ∧ d1 ≤ p) (f2 : n2 * p = c2 * d2 ∧ 0 ≤ n2 ∧ n2 ≤ d2 ∧ 1 ≤ d2 ∧ d2 ≤ p)
    (hc0 : 0 ≤ c0) (hc1 : 0 ≤ c1) (hs : c0 + c1 + c2 = p) (hp : 0 < p) (hp2 : p ≤ 536870912) :
    ∃ s e g : Int, IntKind.i64.wrap (IntKind.i64.wrap (n0 * d1) + IntKind.i64.wrap (n1 * d0)) = g * s ∧ IntKind.i64.wrap (d0 * d1) = g * e ∧ divG (g * s) (g * e) = g ∧ gcdG (g * s) (g * e) = g ∧ 0 < g ∧ wi s = s ∧ wi e = e ∧ 0 < e * d2 ∧
      IntKind.i64.wrap (IntKind.i64.wrap (s * d2) + IntKind.i64.wrap (n2 * e)) = e * d2 ∧ IntKind.i64.wrap (e * d2) = e * d2 ∧ divG (e * d2) (e * d2) = e * d2 ∧ gcdG (e * d2) (e * d2) = e * d2 := by
  obtain ⟨a1, a2, a3, a4, a5⟩ := f0
  obtain ⟨b1, b2, b3, b4, b5⟩ := f1
  obtain ⟨z1, z2, z3, z4, z5⟩ := f2
  have m1 := mul_bnd a2 (show n0 ≤ 536870912 by omega) (show 0 ≤ d1 by omega) (show d1 ≤ 536870912 by omega)
  have m2 := mul_bnd b2 (show n1 ≤ 536870912 by omega) (show 0 ≤ d0 by omega) (show d0 ≤ 536870912 by omega)
  have m3 := mul_bnd (show 0 ≤ d0 by omega) (show d0 ≤ 536870912 by omega) (show 0 ≤ d1 by omega) (show d1 ≤ 536870912 by omega)
  have hb : (536870912 : Int) * 536870912 = 288230376151711744 := by decide
  have w1 : IntKind.i64.wrap (n0 * d1) = n0 * d1 := wrap_id (by omega) (by omega)
  have w2 : IntKind.i64.wrap (n1 * d0) = n1 * d0 := wrap_id (by omega) (by omega)
  have w3 : IntKind.i64.wrap (n0 * d1 + n1 * d0) = n0 * d1 + n1 * d0 := wrap_id (by omega) (by omega)
  have w4 : IntKind.i64.wrap (d0 * d1) = d0 * d1 := wrap_id (by omega) (by omega)
  have hD : 0 < d0 * d1 := Int.mul_pos (by omega) (by omega)
  obtain ⟨k1, k2, k3, ⟨s, k4⟩, ⟨e, k5⟩⟩ := divG_gcdG (a := n0 * d1 + n1 * d0) (b := d0 * d1) (by omega) hD (by omega)
  have hcop := low_gcd (a := n0 * d1 + n1 * d0) (b := d0 * d1) (by omega) hD
  rw [tdiv_of (by omega) k4, tdiv_of (by omega) k5] at hcop
  generalize hg : gcdG (n0 * d1 + n1 * d0) (d0 * d1) = g at *
  have he : 0 < e := by
    rcases Int.lt_or_le 0 e with h | h
    · exact h
    · have := Int.mul_nonpos_of_nonneg_of_nonpos (show 0 ≤ g by omega) h; omega
  have hs0 : 0 ≤ s := by
    rcases Int.lt_or_le s 0 with h | h
    · have := Int.mul_neg_of_pos_of_neg k2 h; omega
    · exact h
  -- (c0 + c1) / p = s / e
  have hNP : (n0 * d1 + n1 * d0) * p = (c0 + c1) * (d0 * d1) := by
    have e1 : n0 * d1 * p = c0 * (d0 * d1) := by rw [Int.mul_assoc, Int.mul_comm d1 p, ← Int.mul_assoc, a1, Int.mul_assoc]
    have e2 : n1 * d0 * p = c1 * (d0 * d1) := by rw [Int.mul_assoc, Int.mul_comm d0 p, ← Int.mul_assoc, b1, Int.mul_assoc, Int.mul_comm d1 d0]
    rw [Int.add_mul, e1, e2, Int.add_mul]
  have hsp : s * p = (c0 + c1) * e := by
    have h1 : g * (s * p) = g * ((c0 + c1) * e) := by
      rw [← Int.mul_assoc, ← k4, hNP, k5, Int.mul_left_comm]
    exact Int.eq_of_mul_eq_mul_left (by omega) h1
  have hep : e ≤ p := low_unique hs0 he hp (by omega) hcop hsp
  have hse : s ≤ e := by
    rcases Int.lt_or_le e s with h | h
    · have h1 := Int.mul_lt_mul_of_pos_right h hp
      have h2 : (c0 + c1) * e ≤ p * e := by
        have hc2 : 0 ≤ c2 := by
          rcases Int.lt_or_le c2 0 with h' | h'
          · have hh := Int.mul_neg_of_neg_of_pos h' (show 0 < d2 by omega)
            have := Int.mul_nonneg z2 (show 0 ≤ p by omega)
            omega
          · exact h'
        exact Int.mul_le_mul_of_nonneg_right (by omega) (by omega)
      rw [Int.mul_comm p e] at h2
      omega
    · exact h
  have m4 := mul_bnd hs0 (show s ≤ 536870912 by omega) (show 0 ≤ d2 by omega) (show d2 ≤ 536870912 by omega)
  have m5 := mul_bnd z2 (show n2 ≤ 536870912 by omega) (show 0 ≤ e by omega) (show e ≤ 536870912 by omega)
  have m6 := mul_bnd (show 0 ≤ e by omega) (show e ≤ 536870912 by omega) (show 0 ≤ d2 by omega) (show d2 ≤ 536870912 by omega)
  have hed : 0 < e * d2 := Int.mul_pos he (by omega)
  have hME : s * d2 + n2 * e = e * d2 := by
    have h1 : (s * d2 + n2 * e) * p = (e * d2) * p := by
      have e1 : s * d2 * p = (c0 + c1) * (e * d2) := by rw [Int.mul_assoc, Int.mul_comm d2 p, ← Int.mul_assoc, hsp, Int.mul_assoc]
      have e2 : n2 * e * p = c2 * (e * d2) := by rw [Int.mul_assoc, Int.mul_comm e p, ← Int.mul_assoc, z1, Int.mul_assoc, Int.mul_comm d2 e]
      rw [Int.add_mul, e1, e2, ← Int.add_mul, hs, Int.mul_comm]
    exact Int.eq_of_mul_eq_mul_right (by omega) h1
  refine ⟨s, e, g, by rw [w1, w2, w3, ← k4], by rw [w4, ← k5], by rw [← k4, ← k5]; exact k1, by rw [← k4, ← k5]; exact hg, k2, wrap_ok hs0 (by omega), wrap_ok (by omega) (by omega), hed, ?_, wrap_id (by omega) (by omega), ?_, gcdG_self hed⟩
  · rw [wrap_id (n := s * d2) (by omega) (by omega), wrap_id (n := n2 * e) (by omega) (by omega), hME, wrap_id (by omega) (by omega)]
  · rw [(divG_gcdG (a := e * d2) (b := e * d2) (by omega) hed (by omega)).1]
    exact gcdG_self hed
theorem out_facts {t u l : Int} (r : List (List D)) : ouE t u l r = 0 ∨ ((ouE t u l r == 0) = false) := by
  by_cases h : ouE t u l r = 0
  · exact .inl h
  · exact .inr (beq_ff h)
theorem sum_two {n0 d0 n1 d1 n2 d2 c0 c1 c2 p : Int} (f0 : n0 * p = c0 * d0 ∧ 0 ≤ n0 ∧ n0 ≤ d0 ∧ 1 ≤ d0 ∧ d0 ≤ p) (f1 : n1 * p = c1 * d1 ∧ 0 ≤ n1 ∧ n1 ≤ d1 ∧ 1 ≤ d1 ∧ d1 ≤ p) (f2 : n2 * p = c2 * d2 ∧ 0 ≤ n2 ∧ n2 ≤ d2 ∧ 1 ≤ d2 ∧ d2 ≤ p)
    (hc0 : 0 ≤ c0) (hc1 : 0 ≤ c1) (hs : c0 + c1 + c2 = p) (hp : 0 < p) (hp2 : p ≤ 536870912) :
    ∃ s e x : Int, okLw (IntKind.i64.wrap (IntKind.i64.wrap (n0 * d1) + IntKind.i64.wrap (n1 * d0))) (IntKind.i64.wrap (d0 * d1)) ∧ frN (IntKind.i64.wrap (IntKind.i64.wrap (n0 * d1) + IntKind.i64.wrap (n1 * d0))) (IntKind.i64.wrap (d0 * d1)) = s ∧ frD (IntKind.i64.wrap (IntKind.i64.wrap (n0 * d1) + IntKind.i64.wrap (n1 * d0))) (IntKind.i64.wrap (d0 * d1)) = e ∧
      IntKind.i64.wrap (IntKind.i64.wrap (s * d2) + IntKind.i64.wrap (n2 * e)) = x ∧ IntKind.i64.wrap (e * d2) = x ∧ okLw x x ∧ frN x x = 1 ∧ frD x x = 1 := by
  obtain ⟨s, e, g, q1, q2, q3, q3', q4, q5, q6, q7, q8, q9, q10, q11⟩ := sum_one f0 f1 f2 hc0 hc1 hs hp hp2
  rw [q1, q2]
  have h1 : (e * d2).tdiv (e * d2) = 1 := Int.tdiv_self (by omega)
  refine ⟨s, e, e * d2, ⟨by rw [q3]; omega, by rw [q3, q3']⟩, ?_, ?_, q8, q9, ⟨by rw [q10]; omega, by rw [q10, q11]⟩, ?_, ?_⟩
  · unfold frN; rw [q3', tdiv_of (show g ≠ 0 by omega) rfl, q5]
  · unfold frD; rw [q3', tdiv_of (show g ≠ 0 by omega) rfl, q6]
  · unfold frN; rw [q11, h1]; decide
  · unfold frD; rw [q11, h1]; decide
theorem chN_ok {t u l : Int} (h : teE t u l = 0) (k : Int) : chN t u l k = frN (cnt u l k t.toNat 0) (2 ^ t.toNat) := by unfold chN; rw [h]; rfl
theorem chD_ok {t u l : Int} (h : teE t u l = 0) (k : Int) : chD t u l k = frD (cnt u l k t.toNat 0) (2 ^ t.toNat) := by unfold chD; rw [h]; rfl
theorem chN_no {t u l : Int} (h : teE t u l ≠ 0) (k : Int) : chN t u l k = 0 := by unfold chN; rw [beq_ff h]; rfl
theorem chD_no {t u l : Int} (h : teE t u l ≠ 0) (k : Int) : chD t u l k = 0 := by unfold chD; rw [beq_ff h]; rfl
theorem okchn1 : SpecOK Tryd.prog 75 chn1S := by
  refine okchn2.weak fun args σ K h => ?_
  unfold chn1S at h
  split at h
  rotate_right
  · exact h.elim
  rename_i t u l
  unfold chnS
  by_cases h0 : teE t u l = 0
  · rw [chN_ok h0, chN_ok h0, chN_ok h0, chD_ok h0, chD_ok h0, chD_ok h0, h0] at h
    simp only [h0, beq_self_eq_true, if_true]
    exact h
  · rw [chN_no h0, chN_no h0, chN_no h0, chD_no h0, chD_no h0, chD_no h0] at h
    simp only [beq_ff h0, Bool.false_eq_true, if_false]
    exact h
theorem okrch1 : SpecOK Tryd.prog 78 rch1S := by
  refine okrch.weak fun args σ K h => ?_
  unfold rch1S at h
  split at h
  rotate_right
  · exact h.elim
  obtain ⟨h0, h⟩ := h
  rw [chN_ok h0, chN_ok h0, chN_ok h0, chD_ok h0, chD_ok h0, chD_ok h0] at h
  exact ⟨h0, h⟩
theorem oklowF : SpecOK Tryd.prog 48 lowFS := by
  refine ok76.weak fun args σ K h => ?_
  unfold lowFS at h
  split at h
  rotate_right
  · exact h.elim
  obtain ⟨⟨h0, h1⟩, h⟩ := h
  refine ⟨h0, ?_⟩
  unfold frN frD at h
  rw [h1]; exact h
theorem okout1 : SpecOK Tryd.prog 73 out1S := by
  refine okout.weak fun args σ K h => ?_
  unfold out1S at h
  split at h
  rotate_right
  · exact h.elim
  exact h
theorem okrou1 : SpecOK Tryd.prog 79 rou1S := by
  refine okrot.weak fun args σ K h => ?_
  unfold rou1S at h
  split at h
  rotate_right
  · exact h.elim
  exact h
attribute [local irreducible] evStage evRest
theorem tesC (t u l oK oU e n0 d0 n1 d1 n2 d2 : Int) (r : List (List D)) (a0 a8 a9 a13 a14 a15 a16 a17 a18 a19 a20 a21 a22 a23 a24 a25 a26 a27 a28 a29 a30 a31 a32 a33 a34 a35 a36 a37 a38 a39 a40 a41 a42 a43 a44 a45 a46 a47 a66 a67 a68 a69 a70 a71 a72 a73 a74 a75 a76 a77 a78 a79 a80 a81 a82 a83 a84 a85 a86 a87 : AV) (K : AV → List Blk → Prop) (h0 : teE t u l = 0) (hr : r.length ≤ 204) (h1 : oK = outK t u l r) (h2 : oU = outU t u l r) (h3 : e = ouE t u l r) (g0 : n0 = chN t u l 0) (g1 : d0 = chD t u l 0) (g2 : n1 = chN t u l 1) (g3 : d1 = chD t u l 1) (g4 : n2 = chN t u l 2) (g5 : d2 = chD t u l 2) (hK : K (.one (.bool true)) []) :
    evRest Etes Tryd.f11 14 { t := ([a0, AV.one (SV.data (Row.recs [CK.bool] r)), AV.one (SV.ptr (0 : Nat) (1 : Nat) (0 : Nat) (0 : Nat)), AV.any, AV.one (SV.bool false), AV.one (SV.ptr (1 : Nat) (1 : Nat) (0 : Nat) (0 : Nat)), AV.one (SV.int IntKind.i64 e), AV.one (SV.ptr 2 (1 : Nat) (0 : Nat) (0 : Nat)), a8, a9, AV.any, AV.any, AV.any, a13, a14, a15, a16, a17, a18, a19, a20, a21, a22, a23, a24, a25, a26, a27, a28, a29, a30, a31, a32, a33, a34, a35, a36, a37, a38, a39, a40, a41, a42, a43, a44, a45, a46, a47, AV.any, AV.any, AV.any, AV.any, AV.any, AV.any, AV.any, AV.any, AV.any, AV.any, AV.any, AV.any, AV.any, AV.any, AV.any, AV.any, AV.any, AV.any, a66, a67, a68, a69, a70, a71, a72, a73, a74, a75, a76, a77, a78, a79, a80, a81, a82, a83, a84, a85, a86, a87] ++ List.replicate 84 .any), σ := [Blk.cells [SV.int IntKind.i64 t, SV.int IntKind.i64 u, SV.int IntKind.i64 l], Blk.cells [SV.int IntKind.i64 oK, SV.int IntKind.i64 oU], Blk.row (100 : Nat) (Row.ints IntKind.i64 [n0, d0, n1, d1, n2, d2])] } K := by
  rw [extesC]
  have ht := teE_ok h0
  obtain ⟨t1, t2, _⟩ := teE_ok h0
  have c0 := cnt_le ht (k := 0) (.inl rfl)
  have c1 := cnt_le ht (k := 1) (.inr (.inl rfl))
  have c2 := cnt_le ht (k := 2) (.inr (.inr rfl))
  have hs := cnt_sum u l t.toNat 0
  have h29 := pow29 (t := t) t2
  have hp := pow_pos t.toNat
  have f0 := frac_facts c0.1 c0.2 (by omega) h29
  have f1 := frac_facts c1.1 c1.2 (by omega) h29
  have f2 := frac_facts c2.1 c2.2 (by omega) h29
  rw [chN_ok h0] at g0 g2 g4
  rw [chD_ok h0] at g1 g3 g5
  rw [← g0, ← g1] at f0
  rw [← g2, ← g3] at f1
  rw [← g4, ← g5] at f2
  obtain ⟨s, e', x, q1, q2, q3, q4, q5, q6, q7, q8⟩ := sum_two f0 f1 f2 c0.1 c1.1 hs (by omega) h29
  refine And.intro q1 ?_
  rw [q2, q3, q4, q5, q7, q8]
  refine And.intro q6 ?_
  rw [show (!((1 : Int) == 1 && (1 : Int) == 1)) = false from rfl, cond_false]
  subst h1 h2 h3
  have hE : ouE t u l r = bif decide ((r.length : Int) ≤ 200) then (ouG t u l 0 0 r).2.2 else 8 := by
    unfold ouE; rw [h0]; rfl
  unfold outK outU ouB
  by_cases hl : (r.length : Int) > 200
  · rw [decide_eq_true hl, hE, decide_eq_false (show ¬ (r.length : Int) ≤ 200 by omega)]
    exact hK
  · rw [decide_eq_false hl, hE, decide_eq_true (show (r.length : Int) ≤ 200 by omega)]
    refine And.intro ⟨by omega, h0⟩ ?_
    simp only [cond_true]
    cases hz : (ouG t u l 0 0 r).2.2 == 0 with
    | true =>
      simp only [cond_true, beq_self_eq_true, Bool.and_self]
      exact hK
    | false =>
      rw [ouG_err t u l r 0 0 hz]
      exact hK
theorem tesB (t u l oK oU e : Int) (r : List (List D)) (a0 a13 a14 a15 a16 a17 a18 a19 a20 a21 a22 a23 a24 a25 a26 a27 a28 a29 a30 a31 a32 a33 a34 : AV) (K : AV → List Blk → Prop) (B : St → Prop) (hr : r.length ≤ 204) (h1 : oK = outK t u l r) (h2 : oU = outU t u l r) (h3 : e = ouE t u l r) (hB : B = fun s => evRest Etes Tryd.f11 14 s K) (h : K (.one (.bool true)) []) :
    evStage Etes Tryd.f11 6 8 { t := ([a0, AV.one (SV.data (Row.recs [CK.bool] r)), AV.one (SV.ptr 0 (1 : Nat) (0 : Nat) (0 : Nat)), AV.any, AV.one (SV.bool false), AV.one (SV.ptr 1 (1 : Nat) (0 : Nat) (0 : Nat)), AV.one (SV.int IntKind.i64 (e)), AV.any, AV.any, AV.any, AV.any, AV.any, AV.any, a13, a14, a15, a16, a17, a18, a19, a20, a21, a22, a23, a24, a25, a26, a27, a28, a29, a30, a31, a32, a33, a34] ++ List.replicate 137 .any), σ := [Blk.cells [SV.int IntKind.i64 t, SV.int IntKind.i64 u, SV.int IntKind.i64 l], Blk.cells [SV.int IntKind.i64 (oK), SV.int IntKind.i64 (oU)]] } K B := by
  rw [extesB]
  have z : ∀ n : Int, (n != n) = false := fun n => by rw [bne, beq_self_eq_true]; rfl
  by_cases h0 : teE t u l = 0
  · have zz : (teE t u l != 0) = false := by rw [h0]; rfl
    rw [z, zz]
    simp only [cond_false]
    refine And.intro h0 ?_
    simp only [beq_self_eq_true, Bool.and_self, Bool.not_true, cond_false]
    have ht := teE_ok h0
    have e : cond (u == l) (!(chN t u l 0 == chN t u l 1 && chD t u l 0 == chD t u l 1)) false = false := by
      by_cases hu : u = l
      · subst hu
        rw [chN_ok h0, chN_ok h0, chD_ok h0, chD_ok h0, cnt_mirror u t.toNat 0 ht.2.2.1, Int.neg_zero]
        simp only [beq_self_eq_true, Bool.and_self, Bool.not_true, cond_true]
      · rw [beq_ff hu]; rfl
    cases hu : u == l with
    | true =>
      rw [hu] at e
      simp only [cond_true] at e ⊢
      rw [e, cond_false]
      rw [hB]
      exact tesC _ _ _ _ _ _ _ _ _ _ _ _ _ _ _ _ _ _ _ _ _ _ _ _ _ _ _ _ _ _ _ _ _ _ _ _ _ _ _ _ _ _ _ _ _ _ _ _ _ _ _ _ _ _ _ _ _ _ _ _ _ _ _ _ _ _ _ _ _ _ _ _ _ _ h0 hr h1 h2 h3 rfl rfl rfl rfl rfl rfl h
    | false =>
      rw [cond_false]
      rw [hB]
      exact tesC _ _ _ _ _ _ _ _ _ _ _ _ _ _ _ _ _ _ _ _ _ _ _ _ _ _ _ _ _ _ _ _ _ _ _ _ _ _ _ _ _ _ _ _ _ _ _ _ _ _ _ _ _ _ _ _ _ _ _ _ _ _ _ _ _ _ _ _ _ _ _ _ _ _ h0 hr h1 h2 h3 rfl rfl rfl rfl rfl rfl h
  · have hE : ouE t u l r = teE t u l := by unfold ouE; rw [beq_ff h0]; rfl
    have hk : outK t u l r = 0 := by unfold outK; rw [hE, beq_ff h0]; rfl
    have hu : outU t u l r = 0 := by unfold outU; rw [hE, beq_ff h0]; rfl
    rw [z, bne_tt h0, h3, hE, beq_self_eq_true, h1, h2, hk, hu, chN_no h0, chN_no h0, chN_no h0, chD_no h0, chD_no h0, chD_no h0]
    exact h
theorem oktes : SpecOK Tryd.prog 11 lawTesS := by
  refine specOK (n := 172) (m := 0) (lps := []) (.cons okawk (.cons okcpaD (.cons okout1 (.cons okchn1 (.cons oktre (.cons oktet (.cons okrch1 (.cons oklowF (.cons ok68 (.cons okrou1 .nil)))))))))) Tryd.func11 (by kernel_rfl) (by kernel_rfl) (noLoops (by kernel_rfl)) fun args σ K h => ?_
  unfold lawTesS at h
  split at h
  rotate_right
  · exact h.elim
  rename_i t u l r
  rw [evFn_rest (by kernel_rfl) (by kernel_rfl), evRest_stage Etes Tryd.f11 0 6, extesA]
  cases decide ((r.length : Int) > 60) with
  | true =>
    cases decide ((r.length : Int) ≤ 200) with
    | true => exact h
    | false =>
      simp only [cond_true, cond_false]
      by_cases hr : (r.length : Int) > 204
      · rw [decide_eq_true hr]; exact h
      · rw [decide_eq_false hr]
        have x1 : extesA_x0 t u l r K (fun s' => evRest Etes Tryd.f11 (0 + 6) s' K) := by
          unfold extesA_x0
          refine And.intro (by omega) ?_
          show evRest Etes Tryd.f11 (0 + 6) _ K
          rw [evRest_stage Etes Tryd.f11 (0 + 6) 8]
          exact tesB _ _ _ _ _ _ _ _ _ _ _ _ _ _ _ _ _ _ _ _ _ _ _ _ _ _ _ _ _ _ _ _ (by omega) rfl rfl rfl rfl h
        exact And.intro (And.intro (by omega) (And.intro x1 x1)) (And.intro (by omega) x1)
  | false =>
    simp only [cond_true, cond_false]
    by_cases hr : (r.length : Int) > 204
    · rw [decide_eq_true hr]; exact h
    · rw [decide_eq_false hr]
      have x1 : extesA_x1 t u l r K (fun s' => evRest Etes Tryd.f11 (0 + 6) s' K) := by
        unfold extesA_x1
        refine And.intro (by omega) ?_
        show evRest Etes Tryd.f11 (0 + 6) _ K
        rw [evRest_stage Etes Tryd.f11 (0 + 6) 8]
        exact tesB _ _ _ _ _ _ _ _ _ _ _ _ _ _ _ _ _ _ _ _ _ _ _ _ _ _ _ _ _ _ _ _ (by omega) rfl rfl rfl rfl h
      exact And.intro (And.intro (by omega) (And.intro x1 x1)) (And.intro (by omega) x1)
end Go.Ev

namespace Go.Ev
open Go Go.Proofs
attribute [local irreducible] evFn evBody evRound
set_option maxRecDepth 20000
set_option linter.unusedVariables false
set_option linter.unusedSimpArgs false

theorem bitB_succ (n : Int) (j : Nat) : bitB n (j + 1) = bitB (n / 2) j := by
  unfold bitB
  rw [Int.pow_succ, Int.mul_comm, Int.ediv_ediv, if_neg (by omega), Int.sub_zero]
theorem bitsL_cons (m : Nat) (n : Int) : bitsL (m + 1) n = [D.bool (n % 2 == 1)] :: bitsL m (n / 2) := by
  unfold bitsL
  rw [List.range_succ_eq_map, List.map_cons, List.map_map]
  congr 1
  · unfold bitB; rw [Int.pow_zero, Int.ediv_one]
  · apply List.map_congr_left
    intro j _
    show [D.bool (bitB n (j + 1))] = [D.bool (bitB (n / 2) j)]
    rw [bitB_succ]
theorem bitsL_snoc (m : Nat) (n : Int) : bitsL (m + 1) n = bitsL m n ++ [[D.bool (bitB n m)]] := by
  unfold bitsL
  rw [List.range_succ, List.map_append]; rfl
theorem bitsL_len (m : Nat) (n : Int) : (bitsL m n).length = m := by
  unfold bitsL; rw [List.length_map, List.length_range]
/-- Where so many answers, the bits of a number, lead. -/
def Fo (u l : Int) : Nat → Int → Int → Int
  | 0, d, _ => enK u l d
  | m + 1, d, n => bif decide (d ≥ u) then 0 else (bif decide (-d ≥ l) then 1 else Fo u l m (bif n % 2 == 1 then d + 1 else d - 1) (n / 2))
theorem Fo_up {u l d : Int} (h : d ≥ u) : ∀ (m : Nat) (n : Int), Fo u l m d n = 0
  | 0, _ => by unfold Fo enK; rw [decide_eq_true h]; rfl
  | m + 1, _ => by unfold Fo; rw [decide_eq_true h]; rfl
theorem Fo_dn {u l d : Int} (h0 : ¬ d ≥ u) (h : -d ≥ l) : ∀ (m : Nat) (n : Int), Fo u l m d n = 1
  | 0, _ => by unfold Fo enK; rw [decide_eq_false h0, decide_eq_true h]; rfl
  | m + 1, _ => by unfold Fo; rw [decide_eq_false h0, decide_eq_true h]; rfl
theorem Fo_go {u l d : Int} (h0 : ¬ d ≥ u) (h : ¬ -d ≥ l) (m : Nat) (n : Int) : Fo u l (m + 1) d n = Fo u l m (bif n % 2 == 1 then d + 1 else d - 1) (n / 2) := by
  show cond _ _ (cond _ _ _) = _
  rw [decide_eq_false h0, decide_eq_false h]; rfl
theorem ouG_Fo {t u l : Int} : ∀ (m : Nat) (d i n : Int), i + (m + 1) = t → ¬ d ≥ u → ¬ -d ≥ l → ∃ w, ouG t u l d i (bitsL (m + 1) n) = (Fo u l (m + 1) d n, w, 0) ∧ i + 1 ≤ w ∧ w ≤ t
  | m, d, i, n, hi, h1, h2 => by
    rw [bitsL_cons, Fo_go h1 h2]
    show ∃ w, (cond (enB t u l (i + 1) (bif (n % 2 == 1) then d + 1 else d - 1)) (enK u l (bif (n % 2 == 1) then d + 1 else d - 1), i + 1, 0) (ouG t u l (bif (n % 2 == 1) then d + 1 else d - 1) (i + 1) (bitsL m (n / 2)))) = _ ∧ _
    generalize (bif (n % 2 == 1) then d + 1 else d - 1) = d'
    by_cases g1 : d' ≥ u
    · refine ⟨i + 1, ?_, by omega, by omega⟩
      rw [Fo_up g1]; unfold enB enK; rw [decide_eq_true g1]; rfl
    · by_cases g2 : -d' ≥ l
      · refine ⟨i + 1, ?_, by omega, by omega⟩
        rw [Fo_dn g1 g2]; unfold enB enK; rw [decide_eq_false g1, decide_eq_true g2]; rfl
      · match m, hi with
        | 0, hi =>
          refine ⟨i + 1, ?_, by omega, by omega⟩
          have hit : i + 1 = t := by simpa using hi
          unfold enB enK Fo enK; rw [decide_eq_false g1, decide_eq_false g2, hit, beq_self_eq_true]; rfl
        | m' + 1, hi =>
          have hit : i + 1 ≠ t := by omega
          obtain ⟨w, e, w1, w2⟩ := ouG_Fo (t := t) m' d' (i + 1) (n / 2) (by omega) g1 g2
          refine ⟨w, ?_, by omega, w2⟩
          rw [e]; unfold enB; rw [decide_eq_false g1, decide_eq_false g2, beq_ff hit]; rfl
def cN (f : Int → Int) (k : Int) : Nat → Int
  | 0 => 0
  | n + 1 => cN f k n + (bif f n == k then 1 else 0)
theorem cN_congr {f g : Int → Int} {k : Int} (h : ∀ j : Nat, f j = g j) : ∀ n, cN f k n = cN g k n
  | 0 => rfl
  | n + 1 => by unfold cN; rw [cN_congr h n, h n]
theorem cN_const (c k : Int) : ∀ n : Nat, cN (fun _ => c) k n = bif c == k then (n : Int) else 0
  | 0 => by unfold cN; cases c == k <;> rfl
  | n + 1 => by
    unfold cN; rw [cN_const c k n]
    cases c == k with
    | true => simp only [cond_true]; omega
    | false => rfl
theorem cN_two (f : Int → Int) (k : Int) : ∀ n : Nat, cN f k (2 * n) = cN (fun j => f (2 * j)) k n + cN (fun j => f (2 * j + 1)) k n
  | 0 => rfl
  | n + 1 => by
    show cN f k (2 * n) + (bif f ((2 * n : Nat) : Int) == k then 1 else 0) + (bif f ((2 * n + 1 : Nat) : Int) == k then 1 else 0) = (cN (fun j => f (2 * j)) k n + (bif f (2 * (n : Int)) == k then 1 else 0)) + (cN (fun j => f (2 * j + 1)) k n + (bif f (2 * (n : Int) + 1) == k then 1 else 0))
    rw [cN_two f k n]
    have e1 : ((2 * n : Nat) : Int) = 2 * (n : Int) := by omega
    have e2 : ((2 * n + 1 : Nat) : Int) = 2 * (n : Int) + 1 := by omega
    rw [e1, e2]
    omega
theorem cN_Fo (u l k : Int) : ∀ (m : Nat) (d : Int), cN (Fo u l m d) k (2 ^ m) = cnt u l k m d
  | 0, d => by
    show (0 : Int) + (bif enK u l d == k then 1 else 0) = _
    unfold cnt enK
    cases decide (d ≥ u) with
    | true => simp only [cond_true, Int.zero_add]; rw [Bool.beq_comm (a := (0 : Int))]
    | false =>
      cases decide (-d ≥ l) with
      | true => simp only [cond_true, cond_false, Int.zero_add]; rw [Bool.beq_comm (a := (1 : Int))]
      | false => simp only [cond_false, Int.zero_add]; rw [Bool.beq_comm (a := (2 : Int))]
  | m + 1, d => by
    by_cases h1 : d ≥ u
    · rw [cN_congr (g := fun _ => 0) (fun j => Fo_up h1 _ _), cN_const]
      unfold cnt; rw [decide_eq_true h1, cond_true, Bool.beq_comm (a := (0 : Int))]
      simp
    · by_cases h2 : -d ≥ l
      · rw [cN_congr (g := fun _ => 1) (fun j => Fo_dn h1 h2 _ _), cN_const]
        unfold cnt; rw [decide_eq_false h1, decide_eq_true h2, cond_true, cond_false, Bool.beq_comm (a := (1 : Int))]
        simp
      · rw [Nat.pow_succ, Nat.mul_comm, cN_two]
        unfold cnt
        rw [decide_eq_false h1, decide_eq_false h2, cond_false, cond_false, ← cN_Fo u l k m (d + 1), ← cN_Fo u l k m (d - 1)]
        rw [cN_congr (g := Fo u l m (d - 1)) (fun j => by
          show Fo u l (m + 1) d (2 * (j : Int)) = _
          rw [Fo_go h1 h2, show (2 * (j : Int)) % 2 = 0 by omega, show (2 * (j : Int)) / 2 = j by omega]; rfl)]
        rw [cN_congr (f := fun j => Fo u l (m + 1) d (2 * j + 1)) (g := Fo u l m (d + 1)) (fun j => by
          show Fo u l (m + 1) d (2 * (j : Int) + 1) = _
          rw [Fo_go h1 h2, show (2 * (j : Int) + 1) % 2 = 1 by omega, show (2 * (j : Int) + 1) / 2 = j by omega]; rfl)]
        omega
/-- What the outcome of a number's answers is. -/
theorem out_of {t u l : Int} (ht : okTn t u l) (n : Int) : ∃ w, ouG t u l 0 0 (bitsL t.toNat n) = (Fo u l t.toNat 0 n, w, 0) ∧ 1 ≤ w ∧ w ≤ t := by
  obtain ⟨⟨t1, t2, u1, u2, l1, l2⟩, t8⟩ := ht
  obtain ⟨m, hm⟩ : ∃ m : Nat, t.toNat = m + 1 := ⟨t.toNat - 1, by omega⟩
  rw [hm]
  exact ouG_Fo m 0 0 n (by omega) (by omega) (by omega)
theorem nOut_cN {t u l : Int} (ht : okTn t u l) (k : Int) : ∀ n : Nat, nOut t u l k n = cN (Fo u l t.toNat 0) k n
  | 0 => rfl
  | n + 1 => by
    unfold nOut cN
    obtain ⟨w, e, _⟩ := out_of ht n
    rw [nOut_cN ht k n, e]
theorem Fo_012 (u l : Int) : ∀ (m : Nat) (d n : Int), Fo u l m d n = 0 ∨ Fo u l m d n = 1 ∨ Fo u l m d n = 2
  | 0, d, n => by
    unfold Fo enK
    cases decide (d ≥ u) <;> cases decide (-d ≥ l) <;> simp
  | m + 1, d, n => by
    unfold Fo
    cases decide (d ≥ u) with
    | true => exact .inl rfl
    | false =>
      cases decide (-d ≥ l) with
      | true => exact .inr (.inl rfl)
      | false => exact Fo_012 u l m _ _
theorem nOut_all {t u l : Int} (ht : okTn t u l) (k : Int) : nOut t u l k (2 ^ t.toNat) = cnt u l k t.toNat 0 := by
  rw [nOut_cN ht, cN_Fo]
theorem nOut_le (t u l k : Int) : ∀ n : Nat, 0 ≤ nOut t u l k n ∧ nOut t u l k n ≤ n
  | 0 => ⟨Int.le_refl _, Int.le_refl _⟩
  | n + 1 => by
    have h := nOut_le t u l k n
    unfold nOut
    cases (ouG t u l 0 0 (bitsL t.toNat n)).1 == k with
    | true => simp only [cond_true]; omega
    | false => simp only [cond_false]; omega
theorem and_one {x : Int} (h0 : 0 ≤ x) (h1 : x < 9223372036854775808) : ((BitVec.ofInt 64 x &&& BitVec.ofInt 64 1).toNat : Int) = x % 2 := by
  obtain ⟨n, rfl⟩ := Int.eq_ofNat_of_zero_le h0
  have e1 : BitVec.ofInt 64 (n : Int) = BitVec.ofNat 64 n := by
    apply BitVec.eq_of_toNat_eq
    simp
  have e2 : BitVec.ofInt 64 1 = BitVec.ofNat 64 1 := by decide
  rw [e1, e2, BitVec.toNat_and, BitVec.toNat_ofNat, BitVec.toNat_ofNat, Nat.mod_eq_of_lt (show n < 2 ^ 64 by omega), show (1 : Nat) % 2 ^ 64 = 1 by decide, Nat.and_one_is_mod]
  omega
theorem bit_eq {n : Int} {i : Int} (h0 : 0 ≤ n) (h1 : n < 256) (hi : 0 ≤ i) (hi2 : i ≤ 8) : (IntKind.i64.wrap ((BitVec.ofInt 64 (n.fdiv ((2 : Int) ^ min i.toNat 64)) &&& BitVec.ofInt 64 1).toNat : Int) == 1) = bitB n i.toNat := by
  rw [Nat.min_eq_left (by omega)]
  have hp : (0 : Int) < 2 ^ i.toNat := pow_pos _
  rw [Int.fdiv_eq_ediv_of_nonneg _ (Int.le_of_lt hp)]
  have q0 : 0 ≤ n / 2 ^ i.toNat := Int.ediv_nonneg h0 (Int.le_of_lt hp)
  have q1 : n / 2 ^ i.toNat ≤ n := Int.ediv_le_self _ h0
  rw [and_one q0 (by omega), wrap_ok (by omega) (by omega)]
  rfl
theorem okLw_of {a b : Int} (h0 : 0 ≤ a) (hp : 0 < b) (hb : b ≤ 536870912) : okLw a b := by
  obtain ⟨e, g1, _⟩ := divG_gcdG (a := a) (b := b) h0 hp (by omega)
  exact ⟨by rw [e]; omega, e⟩
theorem lokcnt_1 : LoopOK Ecnt (lb Tryd.f12 1) [1, 3, 4, 5, 6, 7] [1, 3, 4, 5, 6] cntB := by
  refine loopOK (.cons okawk (.cons oktre (.cons okout1 (.cons ok25 (.cons okchn1 (.cons oklowF .nil)))))) (noInner (by kernel_rfl)) (fun vs σ => match vs, σ with
    | [.one (.ptr 0 1 0 0), .one (.ptr 1 1 0 0), .one (.int .i64 _), .one (.int .i64 _), .one .nil, .one (.int .i64 i)], [.cells [.int .i64 t, .int .i64 _, .int .i64 _], .row 109 (.ints .i64 _)] => (t - i).toNat
    | [.one (.ptr 0 1 0 0), .one (.ptr 1 1 0 0), .one (.int .i64 _), .one (.int .i64 _), .one (.own 2 1), .one (.int .i64 i)], [.cells [.int .i64 t, .int .i64 _, .int .i64 _], .row 109 (.ints .i64 _), .row 4 (.recs [.bool] _)] => (t - i).toNat
    | _, _ => 0) fun vs σ k h => ?_
  unfold cntB at h
  split at h
  rotate_right
  · exact h.elim
  · rename_i a n i t u l c
    rw [excntl1a a n i t u l c _]
    obtain ⟨⟨ht, h1, h2, rfl⟩, h⟩ := h
    obtain ⟨⟨t1, t2, u1, u2, l1, l2⟩, t8⟩ := ht
    rw [decide_eq_true (show (0 : Int) < t by omega)]
    simp only [cond_true]
    rw [bit_eq h1 h2 (by omega) (by omega), show IntKind.i64.wrap ((0 : Int) + 1) = 1 by decide]
    exact ⟨⟨⟨⟨⟨t1, t2, u1, u2, l1, l2⟩, t8⟩, h1, h2, by decide, by omega, rfl⟩, h⟩, by omega⟩
  · rename_i a n i t u l c r
    rw [excntl1b a n i t u l c r _]
    obtain ⟨⟨ht, h1, h2, h3, h4, rfl⟩, h⟩ := h
    obtain ⟨⟨t1, t2, u1, u2, l1, l2⟩, t8⟩ := ht
    by_cases hi : i < t
    · rw [decide_eq_true hi, decide_eq_false (show ¬ i < 0 by omega)]
      simp only [cond_true, Bool.not_false]
      have hw : IntKind.i64.wrap (i + 1) = i + 1 := wrap_id (by omega) (by omega)
      rw [bit_eq h1 h2 (by omega) (by omega), ← bitsL_snoc, bitsL_len, decide_eq_true (by omega), hw, show i.toNat + 1 = (i + 1).toNat by omega]
      exact ⟨⟨⟨⟨⟨t1, t2, u1, u2, l1, l2⟩, t8⟩, h1, h2, by omega, by omega, rfl⟩, h⟩, by omega⟩
    · rw [decide_eq_false hi, cond_false]
      have : i = t := by omega
      subst this
      exact h
theorem lokcnt_0 : LoopOK Ecnt (lb Tryd.f12 0) [1, 3, 4, 5] [1, 2, 3, 4] cntA := by
  refine loopOK (.cons okawk (.cons oktre (.cons okout1 (.cons ok25 (.cons okchn1 (.cons oklowF .nil)))))) (fun b' hb => by
    have hl : loopsOf (lb Tryd.f12 0) = [lb Tryd.f12 1] := by kernel_rfl
    rw [hl] at hb
    simp only [List.mem_cons, List.not_mem_nil, or_false] at hb
    subst hb
    exact loopHyp_of (key := 12) (by kernel_rfl) rfl lokcnt_1) (fun vs σ => match vs, σ with
    | [.one (.ptr 0 1 0 0), .one (.ptr 1 1 0 0), .one (.int .i64 a), .one (.int .i64 n)], [.cells [.int .i64 _, .int .i64 _, .int .i64 _], .row 109 (.ints .i64 _)] => (a - n).toNat
    | _, _ => 0) fun vs σ k h => ?_
  unfold cntA at h
  split at h
  rotate_right
  · exact h.elim
  · rename_i a n t u l c
    rw [excntl0a a n t u l c _]
    obtain ⟨⟨ht, rfl, h1, h2, rfl⟩, h⟩ := h
    obtain ⟨⟨t1, t2, u1, u2, l1, l2⟩, t8⟩ := ht
    have ht : okTn t u l := ⟨⟨t1, t2, u1, u2, l1, l2⟩, t8⟩
    have h256 : (2 : Int) ^ t.toNat ≤ 256 := by
      have : (2 : Nat) ^ t.toNat ≤ 2 ^ 8 := Nat.pow_le_pow_right (by decide) (by omega)
      have h2 : (2 : Int) ^ t.toNat ≤ 2 ^ 8 := by exact_mod_cast this
      have h3 : (2 : Int) ^ 8 = 256 := by decide
      omega
    by_cases hn : n < 2 ^ t.toNat
    · rw [decide_eq_true hn]
      refine And.intro ⟨ht, h1, by omega, rfl⟩ (And.intro (by rw [bitsL_len]; omega) ?_)
      obtain ⟨w, e, w1, w2⟩ := out_of ht n
      have hl : ((bitsL t.toNat n).length : Int) ≤ 200 := by rw [bitsL_len]; omega
      have h0 : teE t u l = 0 := by
        unfold teE withinG
        rw [decide_eq_true t1, decide_eq_true t2, decide_eq_true u1, decide_eq_true u2, decide_eq_true l1, decide_eq_true l2]; rfl
      have hE : ouE t u l (bitsL t.toNat n) = 0 := by unfold ouE; rw [h0, decide_eq_true hl, e]; rfl
      have hK : outK t u l (bitsL t.toNat n) = Fo u l t.toNat 0 n := by unfold outK; rw [hE, e]; rfl
      have hU : outU t u l (bitsL t.toNat n) = w := by unfold outU; rw [hE, e]; rfl
      have hw : IntKind.i64.wrap (n + 1) = n + 1 := wrap_id (by omega) (by omega)
      rw [hE, hK, hU, decide_eq_true w1, decide_eq_true w2, hw]
      have hmu : ((2 : Int) ^ t.toNat - (n + 1)).toNat < ((2 : Int) ^ t.toNat - n).toNat := by omega
      have hn1 : (n + 1).toNat = n.toNat + 1 := by omega
      have hnn : ((n.toNat : Nat) : Int) = n := by omega
      have b0 := nOut_le t u l 0 n.toNat
      have b1 := nOut_le t u l 1 n.toNat
      have b2 := nOut_le t u l 2 n.toNat
      have s : ∀ k, nOut t u l k (n.toNat + 1) = nOut t u l k n.toNat + (bif Fo u l t.toNat 0 n == k then 1 else 0) := by
        intro k
        show nOut t u l k n.toNat + (bif (ouG t u l 0 0 (bitsL t.toNat (n.toNat : Int))).1 == k then 1 else 0) = _
        rw [hnn, e]
      have w0 : IntKind.i64.wrap (nOut t u l 0 n.toNat + 1) = nOut t u l 0 n.toNat + 1 := wrap_id (by omega) (by omega)
      have w1' : IntKind.i64.wrap (nOut t u l 1 n.toNat + 1) = nOut t u l 1 n.toNat + 1 := wrap_id (by omega) (by omega)
      have w2' : IntKind.i64.wrap (nOut t u l 2 n.toNat + 1) = nOut t u l 2 n.toNat + 1 := wrap_id (by omega) (by omega)
      rcases Fo_012 u l t.toNat 0 n with hf | hf | hf
      · rw [hf] at s ⊢
        refine ⟨⟨⟨ht, rfl, by omega, by omega, ?_⟩, h⟩, hmu⟩
        rw [hn1, s, s, s]
        show [IntKind.i64.wrap (nOut t u l 0 n.toNat + 1), nOut t u l 1 n.toNat, nOut t u l 2 n.toNat] = [nOut t u l 0 n.toNat + 1, nOut t u l 1 n.toNat + 0, nOut t u l 2 n.toNat + 0]
        rw [w0, Int.add_zero, Int.add_zero]
      · rw [hf] at s ⊢
        refine ⟨⟨⟨ht, rfl, by omega, by omega, ?_⟩, h⟩, hmu⟩
        rw [hn1, s, s, s]
        show [nOut t u l 0 n.toNat, IntKind.i64.wrap (nOut t u l 1 n.toNat + 1), nOut t u l 2 n.toNat] = [nOut t u l 0 n.toNat + 0, nOut t u l 1 n.toNat + 1, nOut t u l 2 n.toNat + 0]
        rw [w1', Int.add_zero, Int.add_zero]
      · rw [hf] at s ⊢
        refine ⟨⟨⟨ht, rfl, by omega, by omega, ?_⟩, h⟩, hmu⟩
        rw [hn1, s, s, s]
        show [nOut t u l 0 n.toNat, nOut t u l 1 n.toNat, IntKind.i64.wrap (nOut t u l 2 n.toNat + 1)] = [nOut t u l 0 n.toNat + 0, nOut t u l 1 n.toNat + 0, nOut t u l 2 n.toNat + 1]
        rw [w2', Int.add_zero, Int.add_zero]
    · rw [decide_eq_false hn]
      have hne : n = 2 ^ t.toNat := by omega
      have e1 : n.toNat = 2 ^ t.toNat := by
        rw [hne]
        have : ((2 ^ t.toNat : Nat) : Int) = (2 : Int) ^ t.toNat := by simp
        omega
      rw [e1, nOut_all ht, nOut_all ht, nOut_all ht]
      exact h
theorem okcnt : SpecOK Tryd.prog 12 lawCntS := by
  refine specOK (n := 98) (m := 0) (lps := [(8, .spec [1, 3, 4, 5] [1, 2, 3, 4] cntA), (12, .spec [1, 3, 4, 5, 6, 7] [1, 3, 4, 5, 6] cntB)]) (.cons okawk (.cons oktre (.cons okout1 (.cons ok25 (.cons okchn1 (.cons oklowF .nil)))))) Tryd.func12 (by kernel_rfl) (by kernel_rfl) (theLoops (n := 2) (by kernel_rfl) fun i hi => ?_) fun args σ K h => ?_
  · match i, hi with
    | 0, _ => exact loopHyp_of (key := 8) (by kernel_rfl) rfl lokcnt_0
    | 1, _ => exact loopHyp_of (key := 12) (by kernel_rfl) rfl lokcnt_1
  unfold lawCntS at h
  split at h
  rotate_right
  · exact h.elim
  rename_i t u l
  rw [excnt t u l K]
  by_cases h0 : teE t u l = 0
  · have hz : (teE t u l != 0) = false := by rw [h0]; rfl
    rw [hz, cond_false]
    have hT := teE_ok h0
    obtain ⟨t1, t2, u1, u2, l1, l2⟩ := teE_ok h0
    by_cases h8 : t > 8
    · rw [decide_eq_true h8]; exact h
    · rw [decide_eq_false h8, decide_eq_false (show ¬ t < 0 by omega)]
      have ht : okTn t u l := ⟨hT, by omega⟩
      have h256 := pow29 (t := t) t2
      have hp := pow_pos t.toNat
      have ew : IntKind.i64.wrap (1 * 2 ^ min t.toNat 64) = 2 ^ t.toNat := by
        rw [Nat.min_eq_left (by omega), Int.one_mul, wrap_id (by omega) (by omega)]
      rw [ew, h0]
      refine And.intro ⟨ht, rfl, by decide, by omega, rfl⟩ ?_
      have c0 := cnt_le hT (k := 0) (.inl rfl)
      have c1 := cnt_le hT (k := 1) (.inr (.inl rfl))
      have c2 := cnt_le hT (k := 2) (.inr (.inr rfl))
      refine And.intro (okLw_of c0.1 hp h256) (And.intro (okLw_of c1.1 hp h256) (And.intro (okLw_of c2.1 hp h256) ?_))
      rw [chN_ok h0, chN_ok h0, chN_ok h0, chD_ok h0, chD_ok h0, chD_ok h0]
      simp only [beq_self_eq_true, Bool.and_self]
      exact h
  · rw [bne_tt h0]; exact h
end Go.Ev
