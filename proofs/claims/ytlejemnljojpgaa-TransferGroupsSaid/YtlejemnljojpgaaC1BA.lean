/-
  Chapter 1, contracts: groups, and which of them are valid.
-/
import Derived.Test.YtlejemnljojpgaaC1R
import Derived.Test.YtlejemnljojpgaaEvKit2
import Derived.KernelRfl
set_option linter.unusedVariables false
set_option linter.unusedSimpArgs false
set_option linter.unusedSectionVars false
namespace Go.Ev
open Go Go.Proofs
set_option maxRecDepth 20000
set_option linter.unusedVariables false
def lostF (c : Int) : Int → List Int → Int
  | _, [] => 0
  | last, x :: l => bif withinG x 0 (c - 1) then (bif decide (x > last) then lostF c x l else 9) else 6
def lstS : Spec := fun args σ K => match args, σ with
  | [.one (.int .i64 x), .one (.ptr 0 1 0 0), .one (.ptr 1 1 0 0)], [.cells [.int .i64 c], .cells [.int .i64 last]] => (0 ≤ c ∧ c ≤ 1000000) ∧ K (.one (.int .i64 (bif withinG x 0 (c - 1) then (bif decide (x > last) then 0 else 9) else 6))) [.cells [.int .i64 c], .cells [.int .i64 x]]
  | _, _ => False
def elsL : LSpec := fun vs σ k => match vs, σ with
  | [.one (.func 136 [0, 1]), .one (.data (.ints .i64 l)), .one (.int .i64 n), .one (.int .i64 i)], [.cells [.int .i64 c], .cells [.int .i64 last]] => (l.length ≤ 1000000 ∧ n = l.length ∧ 0 ≤ i ∧ 0 ≤ c ∧ c ≤ 1000000) ∧
      bif lostF c last (l.drop i.toNat) == 0 then (∀ y, k (.exit 0) [.any] [.cells [.int .i64 c], .cells [.int .i64 y]]) else (∀ y, k .ret [.one (.int .i64 (lostF c last (l.drop i.toNat)))] [.cells [.int .i64 c], .cells [.int .i64 y]])
  | _, _ => False
def elsS : Spec := fun args σ K => match args, σ with
  | [.one (.data (.ints .i64 l)), .one (.func 136 [0, 1])], [.cells [.int .i64 c], .cells [.int .i64 last]] => (l.length ≤ 1000000 ∧ 0 ≤ c ∧ c ≤ 1000000) ∧ ∀ y, K (.one (.int .i64 (lostF c last l))) [.cells [.int .i64 c], .cells [.int .i64 y]]
  | _, _ => False
def loeS : Spec := fun args σ K => match args, σ with
  | [.one (.data (.ints .i64 l)), .one (.int .i64 c)], [] => (l.length ≤ 1000000 ∧ 0 ≤ c ∧ c ≤ 1000000) ∧ K (.one (.int .i64 (lostF c (-1) l))) []
  | _, _ => False
def resG (n : Int) : Bool := withinG n 0 65536
def resRow (xs : List Int) : Bool := xs.all resG
def rsS : Spec := fun args σ K => match args, σ with
  | [.one (.int .i64 n)], [] => K (.one (.int .i64 (bif resG n then 0 else 2))) []
  | _, _ => False
def ersL : LSpec := fun vs σ k => match vs, σ with
  | [.one (.func 122 []), .one (.data (.ints .i64 l)), .one (.int .i64 n), .one (.int .i64 i)], [] => (l.length ≤ 1000000 ∧ n = l.length ∧ 0 ≤ i) ∧ bif (l.drop i.toNat).all resG then k (.exit 0) [.any] [] else k .ret [.one (.int .i64 2)] []
  | _, _ => False
def ersS : Spec := fun args σ K => match args, σ with
  | [.one (.data (.ints .i64 l)), .one (.func 122 [])], [] => l.length ≤ 1000000 ∧ K (.one (.int .i64 (bif l.all resG then 0 else 2))) []
  | _, _ => False
def rsrS : Spec := fun args σ K => match args, σ with
  | [.agg [.int .i64 x0, .int .i64 x1, .int .i64 x2, .int .i64 x3, .int .i64 x4, .int .i64 x5, .int .i64 x6, .int .i64 x7]], [] => K (.one (.int .i64 (bif resRow [x0, x1, x2, x3, x4, x5, x6, x7] then 0 else 2))) []
  | _, _ => False
def keptR (ws : List Int) : Int → List (List Int) → Bool
  | _, [] => true
  | i, xs :: l => (memB i ws || resRow xs) && keptR ws (i + 1) l
def kepL : LSpec := fun vs σ k => match vs, σ with
  | [.one (.data (.ints .i64 ws)), .one (.func 82 []), .one (.data (.mat .i64 8 l)), .one (.int .i64 n), .one (.int .i64 i)], [] => (l.length ≤ 1000000 ∧ ws.length ≤ 1000000 ∧ n = l.length ∧ 0 ≤ i ∧ l.all len8 = true) ∧ bif keptB ws i (l.drop i.toNat) then k (.exit 0) [.any] [] else k .ret [.one (.int .i64 2)] []
  | [.one (.data (.ints .i64 ws)), .one (.func 121 []), .one (.data (.mat .i64 8 l)), .one (.int .i64 n), .one (.int .i64 i)], [] => (l.length ≤ 1000000 ∧ ws.length ≤ 1000000 ∧ n = l.length ∧ 0 ≤ i ∧ l.all len8 = true) ∧ bif keptR ws i (l.drop i.toNat) then k (.exit 0) [.any] [] else k .ret [.one (.int .i64 2)] []
  | _, _ => False
def kepS : Spec := fun args σ K => match args, σ with
  | [.one (.data (.mat .i64 8 l)), .one (.data (.ints .i64 ws)), .one (.func 82 [])], [] => (l.length ≤ 1000000 ∧ ws.length ≤ 1000000 ∧ l.all len8 = true) ∧ K (.one (.int .i64 (bif keptB ws 0 l then 0 else 2))) []
  | [.one (.data (.mat .i64 8 l)), .one (.data (.ints .i64 ws)), .one (.func 121 [])], [] => (l.length ≤ 1000000 ∧ ws.length ≤ 1000000 ∧ l.all len8 = true) ∧ K (.one (.int .i64 (bif keptR ws 0 l then 0 else 2))) []
  | _, _ => False
def okG (D P : List (List Int)) (L Q : List Int) : Prop := D.length ≤ 1000 ∧ P.length ≤ 1000 ∧ L.length ≤ 1000 ∧ Q.length ≤ 1000 ∧ D.all len8 = true ∧ P.all len8 = true
def groE (D P : List (List Int)) (L Q : List Int) : Int := firstE [bif decide ((D.length : Int) > 0) && decide ((P.length : Int) > 0) then 0 else 10, bif decide ((D.length : Int) ≤ 12) && decide ((P.length : Int) ≤ 4) then 0 else 8, lostF D.length (-1) L, lostF P.length (-1) Q, bif keptB L 0 D then 0 else 2, bif keptR Q 0 P then 0 else 2]
def groS : Spec := fun args σ K => match args, σ with
  | [.agg [.data (.mat .i64 8 D), .data (.mat .i64 8 P), .data (.ints .i64 L), .data (.ints .i64 Q)]], [] => okG D P L Q ∧ K (.one (.int .i64 (groE D P L Q))) []
  | _, _ => False
def cloS : Spec := fun args σ K => match args, σ with
  | [.one (.data (.mat .i64 8 l))], [] => (0 < l.length ∧ l.length ≤ 1000000) ∧ K (.one (.own 0 8)) [.row 35 (.mat .i64 8 l)]
  | _, _ => False
def hasL : LSpec := fun vs σ k => match vs, σ with
  | [.one (.data (.ints .i64 l)), .one (.int .i64 v), .one (.int .i64 i)], [] => (l.length ≤ 1000000 ∧ 0 ≤ i) ∧ bif memB v (l.drop i.toNat) then k .ret [.one (.bool true)] [] else k (.exit 0) [.any] []
  | _, _ => False
def hasS : Spec := fun args σ K => match args, σ with
  | [.one (.data (.ints .i64 l)), .one (.int .i64 v)], [] => l.length ≤ 1000000 ∧ K (.one (.bool (memB v l))) []
  | _, _ => False
def rlsL : LSpec := fun vs σ k => match vs, σ with
  | [.one (.data (.ints .i64 l)), .one (.int .i64 c), .one (.int .i64 i)], [] => (l.length ≤ 1000000 ∧ 0 ≤ c ∧ c ≤ 1000000 ∧ 0 ≤ i ∧ (0 < i → i ≤ l.length)) ∧ bif lostF c (bif i == 0 then -1 else l.getD (i.toNat - 1) 0) (l.drop i.toNat) == 0 then k (.exit 0) [.any] [] else k .ret [.one (.int .i64 (lostF c (bif i == 0 then -1 else l.getD (i.toNat - 1) 0) (l.drop i.toNat)))] []
  | _, _ => False
def rgeA : LSpec := fun vs σ k => match vs, σ with
  | [.one (.ptr 0 1 0 0), .one (.int .i64 i)], [.cells [.data (.mat .i64 8 D), .data (.mat .i64 8 P), .data (.ints .i64 L), .data (.ints .i64 Q)]] => (okG D P L Q ∧ 0 ≤ i) ∧
      bif keptB L i (D.drop i.toNat) then k (.exit 0) [.one (.ptr 0 1 0 0), .any] [.cells [.data (.mat .i64 8 D), .data (.mat .i64 8 P), .data (.ints .i64 L), .data (.ints .i64 Q)]] else k .ret [.one (.ptr 0 1 0 0), .one (.int .i64 2)] [.cells [.data (.mat .i64 8 D), .data (.mat .i64 8 P), .data (.ints .i64 L), .data (.ints .i64 Q)]]
  | _, _ => False
def rgeB : LSpec := fun vs σ k => match vs, σ with
  | [.one (.ptr 0 1 0 0), .one (.int .i64 i)], [.cells [.data (.mat .i64 8 D), .data (.mat .i64 8 P), .data (.ints .i64 L), .data (.ints .i64 Q)]] => (okG D P L Q ∧ 0 ≤ i) ∧
      bif keptR Q i (P.drop i.toNat) then k (.exit 2) [.any] [.cells [.data (.mat .i64 8 D), .data (.mat .i64 8 P), .data (.ints .i64 L), .data (.ints .i64 Q)]] else k .ret [.one (.int .i64 2)] [.cells [.data (.mat .i64 8 D), .data (.mat .i64 8 P), .data (.ints .i64 L), .data (.ints .i64 Q)]]
  | _, _ => False
def resAt (P : List (List Int)) (i s : Nat) : Bool := ((P.getD i []).drop s).all resG
def rgeC : LSpec := fun vs σ k => match vs, σ with
  | [.one (.ptr 0 1 0 0), .one (.int .i64 i), .one (.int .i64 s)], [.cells [.data (.mat .i64 8 D), .data (.mat .i64 8 P), .data (.ints .i64 L), .data (.ints .i64 Q)]] => (okG D P L Q ∧ 0 ≤ i ∧ i < P.length ∧ 0 ≤ s ∧ s ≤ 8) ∧
      bif memB i Q || resAt P i.toNat s.toNat then k (.exit 4) [.any] [.cells [.data (.mat .i64 8 D), .data (.mat .i64 8 P), .data (.ints .i64 L), .data (.ints .i64 Q)]] else k .ret [.one (.int .i64 2)] [.cells [.data (.mat .i64 8 D), .data (.mat .i64 8 P), .data (.ints .i64 L), .data (.ints .i64 Q)]]
  | _, _ => False
def cgrS : Spec := fun args σ K => match args, σ with
  | [.agg [.data (.mat .i64 8 D), .data (.mat .i64 8 P), .data (.ints .i64 L), .data (.ints .i64 Q)]], [] => okG D P L Q ∧ K (.agg [.own 0 8, .own 1 8, .own 2 1, .own 3 1]) [.row 35 (.mat .i64 8 D), .row 35 (.mat .i64 8 P), .row 3 (.ints .i64 L), .row 3 (.ints .i64 Q)]
  | _, _ => False
noncomputable abbrev Elst : Env := envOf Try.prog [(71, withinS), (70, unlessS), (69, firstS)] [] 19 2
noncomputable abbrev Eels : Env := envOf Try.prog [(136, lstS)] [(2, .spec [1, 8, 9, 10] [4] elsL)] 21 2
noncomputable abbrev Eloe : Env := envOf Try.prog [(91, elsS)] [] 9 0
noncomputable abbrev Ers : Env := envOf Try.prog [(97, residueS), (70, unlessS)] [] 6 0
noncomputable abbrev Eers : Env := envOf Try.prog [(122, rsS)] [(2, .spec [1, 8, 9, 10] [4] ersL)] 21 0
noncomputable abbrev Ersr : Env := envOf Try.prog [(91, ersS)] [] 5 0
noncomputable abbrev Ekep : Env := envOf Try.prog [(113, containsS), (82, samplesS), (121, rsrS)] [(2, .spec [1, 2, 10, 11, 12] [6] kepL)] 27 0
noncomputable abbrev Egro : Env := envOf Try.prog [(70, unlessS), (123, loeS), (124, kepS), (69, firstS)] [] 51 0
noncomputable abbrev Eclo : Env := envOf Try.prog [] [] 8 0
noncomputable abbrev Ehas : Env := envOf Try.prog [] [(2, .spec [0, 1, 5] [4] hasL)] 18 0
noncomputable abbrev Erls : Env := envOf Try.prog [(25, withinS)] [(2, .spec [0, 1, 5] [4] rlsL)] 34 0
noncomputable abbrev Erge : Env := envOf Try.prog [(119, loeS), (120, hasS), (29, samplesS), (25, withinS)] [(12, .spec [1, 5] [1, 2] rgeA), (17, .frm 1 [1, 6] [2] rgeB), (20, .frm 1 [1, 6, 7] [2] rgeC)] 94 0
noncomputable abbrev ErgeF1 : Env := envOf Try.prog [(119, loeS), (120, hasS), (29, samplesS), (25, withinS)] [(12, .spec [1, 5] [1, 2] rgeA), (17, .frm 1 [1, 6] [2] rgeB), (20, .frm 1 [1, 6, 7] [2] rgeC)] 94 1
noncomputable abbrev Ecgr : Env := envOf Try.prog [(41, copyDataS), (35, copyIntsS)] [] 16 0
end Go.Ev

namespace Go.Ev
open Go Go.Proofs
set_option maxRecDepth 100000
theorem exlst (x c last : Int) (K : AV → List Blk → Prop) : evFn Elst Try.f136 [.one (.int .i64 x), .one (.ptr 0 1 0 0), .one (.ptr 1 1 0 0)] [.cells [.int .i64 c], .cells [.int .i64 last]] K = ( [bif decide (0 ≤ x) && decide (x ≤ IntKind.i64.wrap (c - 1)) then (0 :Int) else (6 :Int), bif decide (x > last) then (0 :Int) else (9 :Int)].length ≤ 1000 ∧ K (.one (.int .i64 (firstE [bif decide (0 ≤ x) && decide (x ≤ IntKind.i64.wrap (c - 1)) then (0 :Int) else (6 :Int), bif decide (x > last) then (0 :Int) else (9 :Int)]))) [Blk.cells [SV.int .i64 c], Blk.cells [SV.int .i64 x]]) := by kernel_rfl
theorem exels (l : List Int) (c last : Int) (K : AV → List Blk → Prop) : evFn Eels Try.f91 [.one (.data (.ints .i64 l)), .one (.func 136 [0, 1])] [.cells [.int .i64 c], .cells [.int .i64 last]] K = ( (l.length ≤ 1000000 ∧ (↑l.length : Int) = (↑l.length : Int) ∧ (0 :Int) ≤ (0 :Int) ∧ 0 ≤ c ∧ c ≤ 1000000) ∧ bif lostF c last l == 0 then ∀ (y : Int), K (.one (.int .i64 0)) [Blk.cells [SV.int .i64 c], Blk.cells [SV.int .i64 y]] else ∀ (y : Int), K (.one (.int .i64 (lostF c last l))) [Blk.cells [SV.int .i64 c], Blk.cells [SV.int .i64 y]]) := by kernel_rfl
theorem exelsl0a (l : List Int) (n i c last : Int) (K : Ex → List AV → List Blk → Prop) : evBody Eels (lb Try.f91 0) [1, 8, 9, 10] [4] [.one (.func 136 [0, 1]), .one (.data (.ints .i64 l)), .one (.int .i64 n), .one (.int .i64 i)] [.cells [.int .i64 c], .cells [.int .i64 last]] K = ( bif decide (i < n) then bif decide (0 ≤ i) && decide (i < (↑l.length : Int)) then bif decide (i.toNat + 0 < l.length) then (0 ≤ c ∧ c ≤ 1000000) ∧ bif (bif withinG (l.getD (i.toNat + 0) 0) 0 (c - 1) then bif decide (l.getD (i.toNat + 0) 0 > last) then (0 :Int) else (9 :Int) else (6 :Int)) != 0 then K .ret [.one (.int .i64 (bif withinG (l.getD (i.toNat + 0) 0) 0 (c - 1) then bif decide (l.getD (i.toNat + 0) 0 > last) then (0 :Int) else (9 :Int) else (6 :Int)))] [Blk.cells [SV.int .i64 c], Blk.cells [SV.int .i64 (l.getD (i.toNat + 0) 0)]] else K .normal [.one (.func (136 : FuncId) [0, 1]), .one (.data (Row.ints .i64 l)), .one (.int .i64 n), .one (.int .i64 (IntKind.i64.wrap (i + 1)))] [Blk.cells [SV.int .i64 c], Blk.cells [SV.int .i64 (l.getD (i.toNat + 0) 0)]] else False else False else K (.exit 0) [AV.any] [Blk.cells [SV.int .i64 c], Blk.cells [SV.int .i64 last]]) := by kernel_rfl
theorem exloe (l : List Int) (c : Int) (K : AV → List Blk → Prop) : evFn Eloe Try.f123 [.one (.data (.ints .i64 l)), .one (.int .i64 c)] [] K = ( (l.length ≤ 1000000 ∧ 0 ≤ c ∧ c ≤ 1000000) ∧ ∀ (y : Int), K (.one (.int .i64 (lostF c (-1 : Int) l))) []) := by kernel_rfl
theorem exrs (n : Int) (K : AV → List Blk → Prop) : evFn Ers Try.f122 [.one (.int .i64 n)] [] K = ( K (.one (.int .i64 (bif withinG n 0 65536 then (0 :Int) else (2 :Int)))) []) := by kernel_rfl
theorem exers (l : List Int) (K : AV → List Blk → Prop) : evFn Eers Try.f91 [.one (.data (.ints .i64 l)), .one (.func 122 [])] [] K = ( (l.length ≤ 1000000 ∧ (↑l.length : Int) = (↑l.length : Int) ∧ (0 :Int) ≤ (0 :Int)) ∧ bif l.all resG then K (.one (.int .i64 0)) [] else K (.one (.int .i64 2)) []) := by kernel_rfl
theorem exersl0a (l : List Int) (n i : Int) (K : Ex → List AV → List Blk → Prop) : evBody Eers (lb Try.f91 0) [1, 8, 9, 10] [4] [.one (.func 122 []), .one (.data (.ints .i64 l)), .one (.int .i64 n), .one (.int .i64 i)] [] K = ( bif decide (i < n) then bif decide (0 ≤ i) && decide (i < (↑l.length : Int)) then bif decide (i.toNat + 0 < l.length) then bif (bif resG (l.getD (i.toNat + 0) 0) then (0 :Int) else (2 :Int)) != 0 then K .ret [.one (.int .i64 (bif resG (l.getD (i.toNat + 0) 0) then (0 :Int) else (2 :Int)))] [] else K .normal [.one (.func (122 : FuncId) []), .one (.data (Row.ints .i64 l)), .one (.int .i64 n), .one (.int .i64 (IntKind.i64.wrap (i + 1)))] [] else False else False else K (.exit 0) [AV.any] []) := by kernel_rfl
theorem exrsr (x0 x1 x2 x3 x4 x5 x6 x7 : Int) (K : AV → List Blk → Prop) : evFn Ersr Try.f121 [.agg [.int .i64 x0, .int .i64 x1, .int .i64 x2, .int .i64 x3, .int .i64 x4, .int .i64 x5, .int .i64 x6, .int .i64 x7]] [] K = ( [x0, x1, x2, x3, x4, x5, x6, x7].length ≤ 1000000 ∧ K (.one (.int .i64 (bif [x0, x1, x2, x3, x4, x5, x6, x7].all resG then (0 :Int) else (2 :Int)))) []) := by kernel_rfl
theorem exkep_0 (l : List (List Int)) (ws : List Int) (K : AV → List Blk → Prop) : evFn Ekep Try.f124 [.one (.data (.mat .i64 8 l)), .one (.data (.ints .i64 ws)), .one (.func 82 [])] [] K = ( (l.length ≤ 1000000 ∧ ws.length ≤ 1000000 ∧ (↑l.length : Int) = (↑l.length : Int) ∧ (0 :Int) ≤ (0 :Int) ∧ l.all len8 = true) ∧ bif keptB ws 0 l then K (.one (.int .i64 0)) [] else K (.one (.int .i64 2)) []) := by kernel_rfl
theorem exkep_1 (l : List (List Int)) (ws : List Int) (K : AV → List Blk → Prop) : evFn Ekep Try.f124 [.one (.data (.mat .i64 8 l)), .one (.data (.ints .i64 ws)), .one (.func 121 [])] [] K = ( (l.length ≤ 1000000 ∧ ws.length ≤ 1000000 ∧ (↑l.length : Int) = (↑l.length : Int) ∧ (0 :Int) ≤ (0 :Int) ∧ l.all len8 = true) ∧ bif keptR ws 0 l then K (.one (.int .i64 0)) [] else K (.one (.int .i64 2)) []) := by kernel_rfl
theorem exkepl0a (ws : List Int) (l : List (List Int)) (n i : Int) (K : Ex → List AV → List Blk → Prop) : evBody Ekep (lb Try.f124 0) [1, 2, 10, 11, 12] [6] [.one (.data (.ints .i64 ws)), .one (.func 82 []), .one (.data (.mat .i64 8 l)), .one (.int .i64 n), .one (.int .i64 i)] [] K = ( bif decide (i < n) then bif decide (0 ≤ i) && decide (i < (↑l.length : Int)) then bif decide (7 < 8) && decide (i.toNat < l.length) then ws.length ≤ 1000000000 ∧ bif memB i ws then K .normal [.one (.data (Row.ints .i64 ws)), .one (.func (82 : FuncId) []), .one (.data (Row.mat .i64 8 l)), .one (.int .i64 n), .one (.int .i64 (IntKind.i64.wrap (i + 1)))] [] else bif (bif [(l.getD i.toNat []).getD 0 0, (l.getD i.toNat []).getD 1 0, (l.getD i.toNat []).getD 2 0, (l.getD i.toNat []).getD 3 0, (l.getD i.toNat []).getD 4 0, (l.getD i.toNat []).getD 5 0, (l.getD i.toNat []).getD 6 0, (l.getD i.toNat []).getD 7 0].all sampleG then (0 :Int) else (2 :Int)) != 0 then K .ret [.one (.int .i64 (bif [(l.getD i.toNat []).getD 0 0, (l.getD i.toNat []).getD 1 0, (l.getD i.toNat []).getD 2 0, (l.getD i.toNat []).getD 3 0, (l.getD i.toNat []).getD 4 0, (l.getD i.toNat []).getD 5 0, (l.getD i.toNat []).getD 6 0, (l.getD i.toNat []).getD 7 0].all sampleG then (0 :Int) else (2 :Int)))] [] else K .normal [.one (.data (Row.ints .i64 ws)), .one (.func (82 : FuncId) []), .one (.data (Row.mat .i64 8 l)), .one (.int .i64 n), .one (.int .i64 (IntKind.i64.wrap (i + 1)))] [] else False else False else K (.exit 0) [AV.any] []) := by kernel_rfl
theorem exkepl0b (ws : List Int) (l : List (List Int)) (n i : Int) (K : Ex → List AV → List Blk → Prop) : evBody Ekep (lb Try.f124 0) [1, 2, 10, 11, 12] [6] [.one (.data (.ints .i64 ws)), .one (.func 121 []), .one (.data (.mat .i64 8 l)), .one (.int .i64 n), .one (.int .i64 i)] [] K = ( bif decide (i < n) then bif decide (0 ≤ i) && decide (i < (↑l.length : Int)) then bif decide (7 < 8) && decide (i.toNat < l.length) then ws.length ≤ 1000000000 ∧ bif memB i ws then K .normal [.one (.data (Row.ints .i64 ws)), .one (.func (121 : FuncId) []), .one (.data (Row.mat .i64 8 l)), .one (.int .i64 n), .one (.int .i64 (IntKind.i64.wrap (i + 1)))] [] else bif (bif resRow [(l.getD i.toNat []).getD 0 0, (l.getD i.toNat []).getD 1 0, (l.getD i.toNat []).getD 2 0, (l.getD i.toNat []).getD 3 0, (l.getD i.toNat []).getD 4 0, (l.getD i.toNat []).getD 5 0, (l.getD i.toNat []).getD 6 0, (l.getD i.toNat []).getD 7 0] then (0 :Int) else (2 :Int)) != 0 then K .ret [.one (.int .i64 (bif resRow [(l.getD i.toNat []).getD 0 0, (l.getD i.toNat []).getD 1 0, (l.getD i.toNat []).getD 2 0, (l.getD i.toNat []).getD 3 0, (l.getD i.toNat []).getD 4 0, (l.getD i.toNat []).getD 5 0, (l.getD i.toNat []).getD 6 0, (l.getD i.toNat []).getD 7 0] then (0 :Int) else (2 :Int)))] [] else K .normal [.one (.data (Row.ints .i64 ws)), .one (.func (121 : FuncId) []), .one (.data (Row.mat .i64 8 l)), .one (.int .i64 n), .one (.int .i64 (IntKind.i64.wrap (i + 1)))] [] else False else False else K (.exit 0) [AV.any] []) := by kernel_rfl
theorem exgro (D P : List (List Int)) (L Q : List Int) (K : AV → List Blk → Prop) : evFn Egro Try.f66 [.agg [.data (.mat .i64 8 D), .data (.mat .i64 8 P), .data (.ints .i64 L), .data (.ints .i64 Q)]] [] K = ( bif decide ((↑D.length : Int) > 0) then bif decide ((↑D.length : Int) ≤ 12) then (L.length ≤ 1000000 ∧ 0 ≤ (↑D.length : Int) ∧ (↑D.length : Int) ≤ 1000000) ∧ (Q.length ≤ 1000000 ∧ 0 ≤ (↑P.length : Int) ∧ (↑P.length : Int) ≤ 1000000) ∧ (D.length ≤ 1000000 ∧ L.length ≤ 1000000 ∧ D.all len8 = true) ∧ (P.length ≤ 1000000 ∧ Q.length ≤ 1000000 ∧ P.all len8 = true) ∧ [bif decide ((↑P.length : Int) > 0) then (0 :Int) else (10 :Int), bif decide ((↑P.length : Int) ≤ 4) then (0 :Int) else (8 :Int), lostF (↑D.length : Int) (-1 : Int) L, lostF (↑P.length : Int) (-1 : Int) Q, bif keptB L 0 D then (0 :Int) else (2 :Int), bif keptR Q 0 P then (0 :Int) else (2 :Int)].length ≤ 1000 ∧ K (.one (.int .i64 (firstE [bif decide ((↑P.length : Int) > 0) then (0 :Int) else (10 :Int), bif decide ((↑P.length : Int) ≤ 4) then (0 :Int) else (8 :Int), lostF (↑D.length : Int) (-1 : Int) L, lostF (↑P.length : Int) (-1 : Int) Q, bif keptB L 0 D then (0 :Int) else (2 :Int), bif keptR Q 0 P then (0 :Int) else (2 :Int)]))) [] else (L.length ≤ 1000000 ∧ 0 ≤ (↑D.length : Int) ∧ (↑D.length : Int) ≤ 1000000) ∧ (Q.length ≤ 1000000 ∧ 0 ≤ (↑P.length : Int) ∧ (↑P.length : Int) ≤ 1000000) ∧ (D.length ≤ 1000000 ∧ L.length ≤ 1000000 ∧ D.all len8 = true) ∧ (P.length ≤ 1000000 ∧ Q.length ≤ 1000000 ∧ P.all len8 = true) ∧ [bif decide ((↑P.length : Int) > 0) then (0 :Int) else (10 :Int), 8, lostF (↑D.length : Int) (-1 : Int) L, lostF (↑P.length : Int) (-1 : Int) Q, bif keptB L 0 D then (0 :Int) else (2 :Int), bif keptR Q 0 P then (0 :Int) else (2 :Int)].length ≤ 1000 ∧ K (.one (.int .i64 (firstE [bif decide ((↑P.length : Int) > 0) then (0 :Int) else (10 :Int), 8, lostF (↑D.length : Int) (-1 : Int) L, lostF (↑P.length : Int) (-1 : Int) Q, bif keptB L 0 D then (0 :Int) else (2 :Int), bif keptR Q 0 P then (0 :Int) else (2 :Int)]))) [] else bif decide ((↑D.length : Int) ≤ 12) then (L.length ≤ 1000000 ∧ 0 ≤ (↑D.length : Int) ∧ (↑D.length : Int) ≤ 1000000) ∧ (Q.length ≤ 1000000 ∧ 0 ≤ (↑P.length : Int) ∧ (↑P.length : Int) ≤ 1000000) ∧ (D.length ≤ 1000000 ∧ L.length ≤ 1000000 ∧ D.all len8 = true) ∧ (P.length ≤ 1000000 ∧ Q.length ≤ 1000000 ∧ P.all len8 = true) ∧ [10, bif decide ((↑P.length : Int) ≤ 4) then (0 :Int) else (8 :Int), lostF (↑D.length : Int) (-1 : Int) L, lostF (↑P.length : Int) (-1 : Int) Q, bif keptB L 0 D then (0 :Int) else (2 :Int), bif keptR Q 0 P then (0 :Int) else (2 :Int)].length ≤ 1000 ∧ K (.one (.int .i64 (firstE [10, bif decide ((↑P.length : Int) ≤ 4) then (0 :Int) else (8 :Int), lostF (↑D.length : Int) (-1 : Int) L, lostF (↑P.length : Int) (-1 : Int) Q, bif keptB L 0 D then (0 :Int) else (2 :Int), bif keptR Q 0 P then (0 :Int) else (2 :Int)]))) [] else (L.length ≤ 1000000 ∧ 0 ≤ (↑D.length : Int) ∧ (↑D.length : Int) ≤ 1000000) ∧ (Q.length ≤ 1000000 ∧ 0 ≤ (↑P.length : Int) ∧ (↑P.length : Int) ≤ 1000000) ∧ (D.length ≤ 1000000 ∧ L.length ≤ 1000000 ∧ D.all len8 = true) ∧ (P.length ≤ 1000000 ∧ Q.length ≤ 1000000 ∧ P.all len8 = true) ∧ [10, 8, lostF (↑D.length : Int) (-1 : Int) L, lostF (↑P.length : Int) (-1 : Int) Q, bif keptB L 0 D then (0 :Int) else (2 :Int), bif keptR Q 0 P then (0 :Int) else (2 :Int)].length ≤ 1000 ∧ K (.one (.int .i64 (firstE [10, 8, lostF (↑D.length : Int) (-1 : Int) L, lostF (↑P.length : Int) (-1 : Int) Q, bif keptB L 0 D then (0 :Int) else (2 :Int), bif keptR Q 0 P then (0 :Int) else (2 :Int)]))) []) := by kernel_rfl
def exclo_x0 (l : List (List Int)) (K : AV → List Blk → Prop) : Prop := (
 bif decide (l.length * (64 : Nat) ≤ (140737488355328 : Nat) ∧ l.length ≤ (140737488355328 : Nat)) then
 K (AV.one (SV.own (0 : Nat) (8 : Nat))) [Blk.row (35 : Nat) (Row.mat IntKind.i64 (8 : Nat) l)]
 else False)
theorem exclo (l : List (List Int)) (K : AV → List Blk → Prop) : evFn Eclo Try.f114 [.one (.data (.mat .i64 8 l))] [] K = ( bif decide (l.length = 0) then K (.one .nil) [] ∧ exclo_x0 l K else exclo_x0 l K) := by kernel_rfl
theorem exhas (l : List Int) (v : Int) (K : AV → List Blk → Prop) : evFn Ehas Try.f120 [.one (.data (.ints .i64 l)), .one (.int .i64 v)] [] K = ( (l.length ≤ 1000000 ∧ (0 :Int) ≤ (0 :Int)) ∧ bif memB v l then K (.one (.bool true)) [] else K (.one (.bool false)) []) := by kernel_rfl
theorem exhasl0a (l : List Int) (v i : Int) (K : Ex → List AV → List Blk → Prop) : evBody Ehas (lb Try.f120 0) [0, 1, 5] [4] [.one (.data (.ints .i64 l)), .one (.int .i64 v), .one (.int .i64 i)] [] K = ( bif decide (i < (↑l.length : Int)) then bif decide (0 ≤ i) && decide (i < (↑l.length : Int)) then bif decide (i.toNat + 0 < l.length) then bif l.getD (i.toNat + 0) 0 == v then K .ret [.one (.bool true)] [] else K .normal [.one (.data (Row.ints .i64 l)), .one (.int .i64 v), .one (.int .i64 (IntKind.i64.wrap (i + 1)))] [] else False else False else K (.exit 0) [AV.any] []) := by kernel_rfl
theorem exrls (l : List Int) (c : Int) (K : AV → List Blk → Prop) : evFn Erls Try.f119 [.one (.data (.ints .i64 l)), .one (.int .i64 c)] [] K = ( (l.length ≤ 1000000 ∧ 0 ≤ c ∧ c ≤ 1000000 ∧ (0 :Int) ≤ (0 :Int) ∧ ((0 :Int) < (0 :Int) → 0 ≤ (↑l.length : Int))) ∧ bif lostF c (bif true then (-1 :Int) else l.getD 0 0) l == 0 then K (.one (.int .i64 0)) [] else K (.one (.int .i64 (lostF c (bif true then (-1 :Int) else l.getD 0 0) l))) []) := by kernel_rfl
theorem exrlsl0a (l : List Int) (c i : Int) (K : Ex → List AV → List Blk → Prop) : evBody Erls (lb Try.f119 0) [0, 1, 5] [4] [.one (.data (.ints .i64 l)), .one (.int .i64 c), .one (.int .i64 i)] [] K = ( bif decide (i < (↑l.length : Int)) then bif decide (0 ≤ i) && decide (i < (↑l.length : Int)) then bif decide (i.toNat + 0 < l.length) then bif !(decide (0 ≤ l.getD (i.toNat + 0) 0) && decide (l.getD (i.toNat + 0) 0 ≤ IntKind.i64.wrap (c - 1))) then K .ret [.one (.int .i64 6)] [] else bif decide (i > 0) then bif decide (0 ≤ i) && decide (i < (↑l.length : Int)) then bif decide (i.toNat + 0 < l.length) then bif decide (0 ≤ IntKind.i64.wrap (i - 1)) && decide (IntKind.i64.wrap (i - 1) < (↑l.length : Int)) then bif decide ((IntKind.i64.wrap (i - 1)).toNat + 0 < l.length) then bif decide (l.getD (i.toNat + 0) 0 ≤ l.getD ((IntKind.i64.wrap (i - 1)).toNat + 0) 0) then K .ret [.one (.int .i64 9)] [] else K .normal [.one (.data (Row.ints .i64 l)), .one (.int .i64 c), .one (.int .i64 (IntKind.i64.wrap (i + 1)))] [] else False else False else False else False else K .normal [.one (.data (Row.ints .i64 l)), .one (.int .i64 c), .one (.int .i64 (IntKind.i64.wrap (i + 1)))] [] else False else False else K (.exit 0) [AV.any] []) := by kernel_rfl
theorem exrge (D P : List (List Int)) (L Q : List Int) (K : AV → List Blk → Prop) : evFn Erge Try.f65 [.agg [.data (.mat .i64 8 D), .data (.mat .i64 8 P), .data (.ints .i64 L), .data (.ints .i64 Q)]] [] K = ( bif (↑D.length : Int) == 0 then K (.one (.int .i64 10)) [] else bif (↑P.length : Int) == 0 then K (.one (.int .i64 10)) [] else bif decide ((↑D.length : Int) > 12) then K (.one (.int .i64 8)) [] else bif decide ((↑P.length : Int) > 4) then K (.one (.int .i64 8)) [] else (L.length ≤ 1000000 ∧ 0 ≤ (↑D.length : Int) ∧ (↑D.length : Int) ≤ 1000000) ∧ bif lostF (↑D.length : Int) (-1 : Int) L != 0 then K (.one (.int .i64 (lostF (↑D.length : Int) (-1 : Int) L))) [] else (Q.length ≤ 1000000 ∧ 0 ≤ (↑P.length : Int) ∧ (↑P.length : Int) ≤ 1000000) ∧ bif lostF (↑P.length : Int) (-1 : Int) Q != 0 then K (.one (.int .i64 (lostF (↑P.length : Int) (-1 : Int) Q))) [] else (okG D P L Q ∧ (0 :Int) ≤ (0 :Int)) ∧ bif keptB L 0 D then (okG D P L Q ∧ (0 :Int) ≤ (0 :Int)) ∧ bif keptR Q 0 P then K (.one (.int .i64 0)) [] else K (.one (.int .i64 2)) [] else K (.one (.int .i64 2)) []) := by kernel_rfl
theorem exrgel0a (i : Int) (D P : List (List Int)) (L Q : List Int) (K : Ex → List AV → List Blk → Prop) : evBody Erge (lb Try.f65 0) [1, 5] [1, 2] [.one (.ptr 0 1 0 0), .one (.int .i64 i)] [.cells [.data (.mat .i64 8 D), .data (.mat .i64 8 P), .data (.ints .i64 L), .data (.ints .i64 Q)]] K = ( bif decide (i < (↑D.length : Int)) then L.length ≤ 1000000 ∧ bif !memB i L then bif decide (0 ≤ i) && decide (i < (↑D.length : Int)) then bif decide (7 < 8) && decide (i.toNat < D.length) then bif (bif [(D.getD i.toNat []).getD 0 0, (D.getD i.toNat []).getD 1 0, (D.getD i.toNat []).getD 2 0, (D.getD i.toNat []).getD 3 0, (D.getD i.toNat []).getD 4 0, (D.getD i.toNat []).getD 5 0, (D.getD i.toNat []).getD 6 0, (D.getD i.toNat []).getD 7 0].all sampleG then (0 :Int) else (2 :Int)) != 0 then K .ret [.one (.ptr 0 1 0 0), .one (.int .i64 2)] [Blk.cells [SV.data (Row.mat .i64 8 D), SV.data (Row.mat .i64 8 P), SV.data (Row.ints .i64 L), SV.data (Row.ints .i64 Q)]] else K .normal [.one (.ptr 0 1 0 0), .one (.int .i64 (IntKind.i64.wrap (i + 1)))] [Blk.cells [SV.data (Row.mat .i64 8 D), SV.data (Row.mat .i64 8 P), SV.data (Row.ints .i64 L), SV.data (Row.ints .i64 Q)]] else False else False else K .normal [.one (.ptr 0 1 0 0), .one (.int .i64 (IntKind.i64.wrap (i + 1)))] [Blk.cells [SV.data (Row.mat .i64 8 D), SV.data (Row.mat .i64 8 P), SV.data (Row.ints .i64 L), SV.data (Row.ints .i64 Q)]] else K (.exit 0) [.one (.ptr 0 1 0 0), AV.any] [Blk.cells [SV.data (Row.mat .i64 8 D), SV.data (Row.mat .i64 8 P), SV.data (Row.ints .i64 L), SV.data (Row.ints .i64 Q)]]) := by kernel_rfl
theorem exrgel1a (i : Int) (D P : List (List Int)) (L Q : List Int) (K : Ex → List AV → List Blk → Prop) : evBody ErgeF1 (lb Try.f65 1) [1, 6] [2] [.one (.ptr 0 1 0 0), .one (.int .i64 i)] [.cells [.data (.mat .i64 8 D), .data (.mat .i64 8 P), .data (.ints .i64 L), .data (.ints .i64 Q)]] K = ( bif decide (i < (↑P.length : Int)) then (okG D P L Q ∧ 0 ≤ i ∧ i < (↑P.length : Int) ∧ (0 :Int) ≤ (0 :Int) ∧ (0 :Int) ≤ (8 :Int)) ∧ bif memB i Q || resAt P i.toNat 0 then K .normal [.one (.ptr 0 1 0 0), .one (.int .i64 (IntKind.i64.wrap (i + 1)))] [Blk.cells [SV.data (Row.mat .i64 8 D), SV.data (Row.mat .i64 8 P), SV.data (Row.ints .i64 L), SV.data (Row.ints .i64 Q)]] else K .ret [.one (.int .i64 2)] [Blk.cells [SV.data (Row.mat .i64 8 D), SV.data (Row.mat .i64 8 P), SV.data (Row.ints .i64 L), SV.data (Row.ints .i64 Q)]] else K (.exit 2) [AV.any] [Blk.cells [SV.data (Row.mat .i64 8 D), SV.data (Row.mat .i64 8 P), SV.data (Row.ints .i64 L), SV.data (Row.ints .i64 Q)]]) := by kernel_rfl
theorem exrgel2a (i s : Int) (D P : List (List Int)) (L Q : List Int) (K : Ex → List AV → List Blk → Prop) : evBody ErgeF1 (lb Try.f65 2) [1, 6, 7] [2] [.one (.ptr 0 1 0 0), .one (.int .i64 i), .one (.int .i64 s)] [.cells [.data (.mat .i64 8 D), .data (.mat .i64 8 P), .data (.ints .i64 L), .data (.ints .i64 Q)]] K = ( bif decide (s < 8) then Q.length ≤ 1000000 ∧ bif !memB i Q then bif decide (0 ≤ i) && decide (i < (↑P.length : Int)) then bif decide (0 ≤ s) && decide (s < 8) then bif decide (0 + s.toNat + 0 < 8) && decide (i.toNat < P.length) then bif !(decide (0 ≤ (P.getD i.toNat []).getD (0 + s.toNat + 0) 0) && decide ((P.getD i.toNat []).getD (0 + s.toNat + 0) (0 :Int) ≤ (65536 :Int))) then K .ret [.one (.int .i64 2)] [Blk.cells [SV.data (Row.mat .i64 8 D), SV.data (Row.mat .i64 8 P), SV.data (Row.ints .i64 L), SV.data (Row.ints .i64 Q)]] else K .normal [.one (.ptr 0 1 0 0), .one (.int .i64 i), .one (.int .i64 (IntKind.i64.wrap (s + 1)))] [Blk.cells [SV.data (Row.mat .i64 8 D), SV.data (Row.mat .i64 8 P), SV.data (Row.ints .i64 L), SV.data (Row.ints .i64 Q)]] else False else False else False else K .normal [.one (.ptr 0 1 0 0), .one (.int .i64 i), .one (.int .i64 (IntKind.i64.wrap (s + 1)))] [Blk.cells [SV.data (Row.mat .i64 8 D), SV.data (Row.mat .i64 8 P), SV.data (Row.ints .i64 L), SV.data (Row.ints .i64 Q)]] else K (.exit 4) [AV.any] [Blk.cells [SV.data (Row.mat .i64 8 D), SV.data (Row.mat .i64 8 P), SV.data (Row.ints .i64 L), SV.data (Row.ints .i64 Q)]]) := by kernel_rfl
theorem excgr (D P : List (List Int)) (L Q : List Int) (K : AV → List Blk → Prop) : evFn Ecgr Try.f64 [.agg [.data (.mat .i64 8 D), .data (.mat .i64 8 P), .data (.ints .i64 L), .data (.ints .i64 Q)]] [] K = ( D.length ≤ 1000000 ∧ P.length ≤ 1000000 ∧ L.length ≤ 1000000000000 ∧ Q.length ≤ 1000000000000 ∧ K (AV.agg [SV.own 0 8, SV.own 1 8, SV.own 2 1, SV.own 3 1]) [Blk.row 35 (Row.mat .i64 8 D), Blk.row 35 (Row.mat .i64 8 P), Blk.row 3 (Row.ints .i64 L), Blk.row 3 (Row.ints .i64 Q)]) := by kernel_rfl
end Go.Ev

namespace Go.Ev
open Go Go.Proofs
attribute [local irreducible] evFn evBody evRound
set_option maxRecDepth 20000
set_option linter.unusedVariables false
set_option linter.unusedSimpArgs false
theorem eta_r8 {l : List (List Int)} {n : Nat} (h8 : l.all len8 = true) (h : n < l.length) : [(l.getD n []).getD 0 0, (l.getD n []).getD 1 0, (l.getD n []).getD 2 0, (l.getD n []).getD 3 0, (l.getD n []).getD 4 0, (l.getD n []).getD 5 0, (l.getD n []).getD 6 0, (l.getD n []).getD 7 0] = l.getD n [] := by
  obtain ⟨xs, _, hx, _, he⟩ := row_some h h8
  rw [he]; exact list8 hx
theorem lostF_step {c last : Int} {l : List Int} {i : Int} (h0 : 0 ≤ i) (h : i < l.length) : lostF c last (l.drop i.toNat) = bif withinG (l.getD i.toNat 0) 0 (c - 1) then (bif decide (l.getD i.toNat 0 > last) then lostF c (l.getD i.toNat 0) (l.drop (i + 1).toNat) else 9) else 6 := by
  rw [drop_step 0 (by omega), show (i + 1).toNat = i.toNat + 1 by omega]; rfl
theorem oklst : SpecOK Try.prog 136 lstS := by
  refine specOK (n := 19) (m := 2) (lps := []) (.cons ok71 (.cons ok70 (.cons ok69 .nil))) Try.func136 (by kernel_rfl) (by kernel_rfl) (noLoops (by kernel_rfl)) fun args σ K h => ?_
  unfold lstS at h
  split at h
  rotate_right
  · exact h.elim
  rename_i x c last
  rw [exlst x c last K]
  obtain ⟨⟨h1, h2⟩, h⟩ := h
  refine And.intro (by simp) ?_
  rw [wrap_id (n := c - 1) (by omega) (by omega)]
  show K (.one (.int .i64 (firstE [bif withinG x 0 (c - 1) then 0 else 6, bif decide (x > last) then 0 else 9]))) _
  revert h
  generalize withinG x 0 (c - 1) = a
  generalize decide (x > last) = b
  intro h
  cases a <;> cases b <;> exact h
theorem lokels_0 : LoopOK Eels (lb Try.f91 0) [1, 8, 9, 10] [4] elsL := by
  refine loopOK (.cons oklst .nil) (noInner (by kernel_rfl)) (fun vs σ => match vs, σ with
    | [.one (.func 136 [0, 1]), .one (.data (.ints .i64 l)), .one (.int .i64 _), .one (.int .i64 i)], [.cells [.int .i64 _], .cells [.int .i64 _]] => (l.length - i).toNat
    | _, _ => 0) fun vs σ k h => ?_
  unfold elsL at h
  split at h
  rotate_right
  · exact h.elim
  · rename_i l n i c last
    rw [exelsl0a l n i c last _]
    obtain ⟨⟨h1, rfl, h3, h4, h5⟩, h⟩ := h
    by_cases hi : i < (l.length : Int)
    · have hw : IntKind.i64.wrap (i + 1) = i + 1 := wrap_id (by omega) (by omega)
      have e0 : l.getD (i.toNat + 0) 0 = l.getD i.toNat 0 := rfl
      have d1 : decide (i < (l.length : Int)) = true := decide_eq_true hi
      have d2 : decide (0 ≤ i) = true := decide_eq_true h3
      have d3 : decide (i.toNat + 0 < l.length) = true := decide_eq_true (by omega)
      rw [e0, hw]
      simp only [d1, d2, d3, Bool.and_self, cond_true]
      refine And.intro ⟨h4, h5⟩ ?_
      rw [lostF_step h3 hi] at h
      cases ha : withinG (l.getD i.toNat 0) 0 (c - 1) with
      | false => rw [ha] at h; exact h _
      | true =>
        rw [ha] at h
        simp only [cond_true] at h ⊢
        cases hb : decide (l.getD i.toNat 0 > last) with
        | false => rw [hb] at h; exact h _
        | true =>
          rw [hb] at h
          simp only [cond_true] at h ⊢
          exact ⟨⟨⟨h1, rfl, by omega, h4, h5⟩, h⟩, by omega⟩
    · rw [decide_eq_false hi]
      rw [List.drop_eq_nil_of_le (by omega)] at h
      exact h _
theorem okels : SpecOK Try.prog 91 elsS := by
  refine specOK (n := 21) (m := 2) (lps := [(2, .spec [1, 8, 9, 10] [4] elsL)]) (.cons oklst .nil) Try.func91 (by kernel_rfl) (by kernel_rfl) (theLoops (n := 1) (by kernel_rfl) fun i hi => ?_) fun args σ K h => ?_
  · match i, hi with
    | 0, _ => exact loopHyp_of (key := 2) (by kernel_rfl) rfl lokels_0
  unfold elsS at h
  split at h
  rotate_right
  · exact h.elim
  rename_i l c last
  rw [exels l c last K]
  obtain ⟨⟨h1, h2, h3⟩, h⟩ := h
  refine And.intro ⟨h1, rfl, by omega, h2, h3⟩ ?_
  cases hc : lostF c last l == 0 with
  | false => exact fun y => h y
  | true =>
    rw [eq_of_beq hc] at h
    exact fun y => h y
theorem okloe : SpecOK Try.prog 123 loeS := by
  refine specOK (n := 9) (m := 0) (lps := []) (.cons okels .nil) Try.func123 (by kernel_rfl) (by kernel_rfl) (noLoops (by kernel_rfl)) fun args σ K h => ?_
  unfold loeS at h
  split at h
  rotate_right
  · exact h.elim
  rename_i l c
  rw [exloe l c K]
  exact ⟨h.1, fun _ => h.2⟩
theorem okrs : SpecOK Try.prog 122 rsS := by
  refine specOK (n := 6) (m := 0) (lps := []) (.cons ok97 (.cons ok70 .nil)) Try.func122 (by kernel_rfl) (by kernel_rfl) (noLoops (by kernel_rfl)) fun args σ K h => ?_
  unfold rsS at h
  split at h
  rotate_right
  · exact h.elim
  rename_i n
  rw [exrs n K]
  exact h
theorem lokers_0 : LoopOK Eers (lb Try.f91 0) [1, 8, 9, 10] [4] ersL := by
  refine loopOK (.cons okrs .nil) (noInner (by kernel_rfl)) (fun vs σ => match vs, σ with
    | [.one (.func 122 []), .one (.data (.ints .i64 l)), .one (.int .i64 _), .one (.int .i64 i)], [] => (l.length - i).toNat
    | _, _ => 0) fun vs σ k h => ?_
  unfold ersL at h
  split at h
  rotate_right
  · exact h.elim
  · rename_i l n i
    rw [exersl0a l n i _]
    obtain ⟨⟨h1, rfl, h3⟩, h⟩ := h
    by_cases hi : i < (l.length : Int)
    · have hw : IntKind.i64.wrap (i + 1) = i + 1 := wrap_id (by omega) (by omega)
      have e0 : l.getD (i.toNat + 0) 0 = l.getD i.toNat 0 := rfl
      have d1 : decide (i < (l.length : Int)) = true := decide_eq_true hi
      have d2 : decide (0 ≤ i) = true := decide_eq_true h3
      have d3 : decide (i.toNat + 0 < l.length) = true := decide_eq_true (by omega)
      rw [e0, hw]
      simp only [d1, d2, d3, Bool.and_self, cond_true]
      rw [drop_step 0 (by omega : i.toNat < l.length), List.all_cons, show i.toNat + 1 = (i + 1).toNat by omega] at h
      cases ha : resG (l.getD i.toNat 0) with
      | false => rw [ha] at h; exact h
      | true => rw [ha] at h; exact ⟨⟨⟨h1, rfl, by omega⟩, h⟩, by omega⟩
    · rw [decide_eq_false hi]
      rw [List.drop_eq_nil_of_le (by omega)] at h
      exact h
theorem okers : SpecOK Try.prog 91 ersS := by
  refine specOK (n := 21) (m := 0) (lps := [(2, .spec [1, 8, 9, 10] [4] ersL)]) (.cons okrs .nil) Try.func91 (by kernel_rfl) (by kernel_rfl) (theLoops (n := 1) (by kernel_rfl) fun i hi => ?_) fun args σ K h => ?_
  · match i, hi with
    | 0, _ => exact loopHyp_of (key := 2) (by kernel_rfl) rfl lokers_0
  unfold ersS at h
  split at h
  rotate_right
  · exact h.elim
  rename_i l
  rw [exers l K]
  obtain ⟨h1, h⟩ := h
  refine And.intro ⟨h1, rfl, by omega⟩ ?_
  cases hs : l.all resG with
  | true => rw [hs] at h; exact h
  | false => rw [hs] at h; exact h
theorem okrsr : SpecOK Try.prog 121 rsrS := by
  refine specOK (n := 5) (m := 0) (lps := []) (.cons okers .nil) Try.func121 (by kernel_rfl) (by kernel_rfl) (noLoops (by kernel_rfl)) fun args σ K h => ?_
  unfold rsrS at h
  split at h
  rotate_right
  · exact h.elim
  rename_i x0 x1 x2 x3 x4 x5 x6 x7
  rw [exrsr x0 x1 x2 x3 x4 x5 x6 x7 K]
  exact ⟨by simp, h⟩
theorem keptB_step {ws : List Int} {l : List (List Int)} {i : Int} (h0 : 0 ≤ i) (h : i < l.length) : keptB ws i (l.drop i.toNat) = ((memB i ws || okRow (l.getD i.toNat [])) && keptB ws (i + 1) (l.drop (i + 1).toNat)) := by
  rw [drop_step [] (by omega : i.toNat < l.length), show (i + 1).toNat = i.toNat + 1 by omega]; rfl
theorem keptR_step {ws : List Int} {l : List (List Int)} {i : Int} (h0 : 0 ≤ i) (h : i < l.length) : keptR ws i (l.drop i.toNat) = ((memB i ws || resRow (l.getD i.toNat [])) && keptR ws (i + 1) (l.drop (i + 1).toNat)) := by
  rw [drop_step [] (by omega : i.toNat < l.length), show (i + 1).toNat = i.toNat + 1 by omega]; rfl
theorem lokkep_0 : LoopOK Ekep (lb Try.f124 0) [1, 2, 10, 11, 12] [6] kepL := by
  refine loopOK (.cons ok113 (.cons ok82 (.cons okrsr .nil))) (noInner (by kernel_rfl)) (fun vs σ => match vs, σ with
    | [.one (.data (.ints .i64 _)), .one (.func 82 []), .one (.data (.mat .i64 8 l)), .one (.int .i64 _), .one (.int .i64 i)], [] => (l.length - i).toNat
    | [.one (.data (.ints .i64 _)), .one (.func 121 []), .one (.data (.mat .i64 8 l)), .one (.int .i64 _), .one (.int .i64 i)], [] => (l.length - i).toNat
    | _, _ => 0) fun vs σ k h => ?_
  unfold kepL at h
  split at h
  rotate_right
  · exact h.elim
  · rename_i ws l n i
    rw [exkepl0a ws l n i _]
    obtain ⟨⟨h1, h2, rfl, h4, h5⟩, h⟩ := h
    by_cases hi : i < (l.length : Int)
    · have hw : IntKind.i64.wrap (i + 1) = i + 1 := wrap_id (by omega) (by omega)
      have d1 : decide (i < (l.length : Int)) = true := decide_eq_true hi
      have d2 : decide (0 ≤ i) = true := decide_eq_true h4
      have d3 : decide (i.toNat < l.length) = true := decide_eq_true (by omega)
      rw [eta_r8 h5 (by omega), hw]
      simp only [d1, d2, d3, show decide (7 < 8) = true by decide, Bool.and_self, cond_true]
      refine And.intro (by omega) ?_
      rw [keptB_step h4 hi] at h
      cases ha : memB i ws with
      | true =>
        rw [ha] at h
        exact ⟨⟨⟨h1, h2, rfl, by omega, h5⟩, h⟩, by omega⟩
      | false =>
        rw [ha] at h
        simp only [cond_false]
        unfold okRow at h
        cases hb : (l.getD i.toNat []).all sampleG with
        | true => rw [hb] at h; exact ⟨⟨⟨h1, h2, rfl, by omega, h5⟩, h⟩, by omega⟩
        | false => rw [hb] at h; exact h
    · rw [decide_eq_false hi]
      rw [List.drop_eq_nil_of_le (by omega)] at h
      exact h
  · rename_i ws l n i
    rw [exkepl0b ws l n i _]
    obtain ⟨⟨h1, h2, rfl, h4, h5⟩, h⟩ := h
    by_cases hi : i < (l.length : Int)
    · have hw : IntKind.i64.wrap (i + 1) = i + 1 := wrap_id (by omega) (by omega)
      have d1 : decide (i < (l.length : Int)) = true := decide_eq_true hi
      have d2 : decide (0 ≤ i) = true := decide_eq_true h4
      have d3 : decide (i.toNat < l.length) = true := decide_eq_true (by omega)
      rw [eta_r8 h5 (by omega), hw]
      simp only [d1, d2, d3, show decide (7 < 8) = true by decide, Bool.and_self, cond_true]
      refine And.intro (by omega) ?_
      rw [keptR_step h4 hi] at h
      cases ha : memB i ws with
      | true =>
        rw [ha] at h
        exact ⟨⟨⟨h1, h2, rfl, by omega, h5⟩, h⟩, by omega⟩
      | false =>
        rw [ha] at h
        simp only [cond_false]
        cases hb : resRow (l.getD i.toNat []) with
        | true => rw [hb] at h; exact ⟨⟨⟨h1, h2, rfl, by omega, h5⟩, h⟩, by omega⟩
        | false => rw [hb] at h; exact h
    · rw [decide_eq_false hi]
      rw [List.drop_eq_nil_of_le (by omega)] at h
      exact h
theorem okkep : SpecOK Try.prog 124 kepS := by
  refine specOK (n := 27) (m := 0) (lps := [(2, .spec [1, 2, 10, 11, 12] [6] kepL)]) (.cons ok113 (.cons ok82 (.cons okrsr .nil))) Try.func124 (by kernel_rfl) (by kernel_rfl) (theLoops (n := 1) (by kernel_rfl) fun i hi => ?_) fun args σ K h => ?_
  · match i, hi with
    | 0, _ => exact loopHyp_of (key := 2) (by kernel_rfl) rfl lokkep_0
  unfold kepS at h
  split at h
  rotate_right
  · exact h.elim
  · rename_i l ws
    rw [exkep_0 l ws K]
    obtain ⟨⟨h1, h2, h3⟩, h⟩ := h
    refine And.intro ⟨h1, h2, rfl, by omega, h3⟩ ?_
    cases hs : keptB ws 0 l with
    | true => rw [hs] at h; exact h
    | false => rw [hs] at h; exact h
  · rename_i l ws
    rw [exkep_1 l ws K]
    obtain ⟨⟨h1, h2, h3⟩, h⟩ := h
    refine And.intro ⟨h1, h2, rfl, by omega, h3⟩ ?_
    cases hs : keptR ws 0 l with
    | true => rw [hs] at h; exact h
    | false => rw [hs] at h; exact h
theorem okgro : SpecOK Try.prog 66 groS := by
  refine specOK (n := 51) (m := 0) (lps := []) (.cons ok70 (.cons okloe (.cons okkep (.cons ok69 .nil)))) Try.func66 (by kernel_rfl) (by kernel_rfl) (noLoops (by kernel_rfl)) fun args σ K h => ?_
  unfold groS at h
  split at h
  rotate_right
  · exact h.elim
  rename_i D P L Q
  rw [exgro D P L Q K]
  obtain ⟨⟨h1, h2, h3, h4, h5, h6⟩, h⟩ := h
  have w1 : L.length ≤ 1000000 ∧ (0 : Int) ≤ (D.length : Int) ∧ (D.length : Int) ≤ 1000000 := by omega
  have w2 : Q.length ≤ 1000000 ∧ (0 : Int) ≤ (P.length : Int) ∧ (P.length : Int) ≤ 1000000 := by omega
  have w3 : D.length ≤ 1000000 ∧ L.length ≤ 1000000 ∧ D.all len8 = true := ⟨by omega, by omega, h5⟩
  have w4 : P.length ≤ 1000000 ∧ Q.length ≤ 1000000 ∧ P.all len8 = true := ⟨by omega, by omega, h6⟩
  unfold groE at h
  cases ha : decide ((D.length : Int) > 0) <;> cases hb : decide ((D.length : Int) ≤ 12) <;> rw [ha, hb] at h <;> exact ⟨w1, w2, w3, w4, by simp, h⟩
theorem okclo : SpecOK Try.prog 114 cloS := by
  refine specOK (n := 8) (m := 0) (lps := []) .nil Try.func114 (by kernel_rfl) (by kernel_rfl) (noLoops (by kernel_rfl)) fun args σ K h => ?_
  unfold cloS at h
  split at h
  rotate_right
  · exact h.elim
  rename_i l
  rw [exclo l K]
  obtain ⟨⟨h1, h2⟩, h⟩ := h
  rw [decide_eq_false (by omega), cond_false]
  unfold exclo_x0
  rw [decide_eq_true (by omega)]
  exact h
theorem memB_step {v : Int} {l : List Int} {i : Int} (h0 : 0 ≤ i) (h : i < l.length) : memB v (l.drop i.toNat) = (v == l.getD i.toNat 0 || memB v (l.drop (i + 1).toNat)) := by
  rw [drop_step 0 (by omega : i.toNat < l.length), show (i + 1).toNat = i.toNat + 1 by omega]; rfl
theorem lokhas_0 : LoopOK Ehas (lb Try.f120 0) [0, 1, 5] [4] hasL := by
  refine loopOK .nil (noInner (by kernel_rfl)) (fun vs σ => match vs, σ with
    | [.one (.data (.ints .i64 l)), .one (.int .i64 _), .one (.int .i64 i)], [] => (l.length - i).toNat
    | _, _ => 0) fun vs σ k h => ?_
  unfold hasL at h
  split at h
  rotate_right
  · exact h.elim
  · rename_i l v i
    rw [exhasl0a l v i _]
    obtain ⟨⟨h1, h2⟩, h⟩ := h
    by_cases hi : i < (l.length : Int)
    · have hw : IntKind.i64.wrap (i + 1) = i + 1 := wrap_id (by omega) (by omega)
      have e0 : l.getD (i.toNat + 0) 0 = l.getD i.toNat 0 := rfl
      have d1 : decide (i < (l.length : Int)) = true := decide_eq_true hi
      have d2 : decide (0 ≤ i) = true := decide_eq_true h2
      have d3 : decide (i.toNat + 0 < l.length) = true := decide_eq_true (by omega)
      rw [e0, hw]
      simp only [d1, d2, d3, Bool.and_self, cond_true]
      rw [memB_step h2 hi, BEq.comm] at h
      cases ha : l.getD i.toNat 0 == v with
      | true => rw [ha] at h; exact h
      | false => rw [ha] at h; exact ⟨⟨⟨h1, by omega⟩, h⟩, by omega⟩
    · rw [decide_eq_false hi]
      rw [List.drop_eq_nil_of_le (by omega)] at h
      exact h
theorem okhas : SpecOK Try.prog 120 hasS := by
  refine specOK (n := 18) (m := 0) (lps := [(2, .spec [0, 1, 5] [4] hasL)]) .nil Try.func120 (by kernel_rfl) (by kernel_rfl) (theLoops (n := 1) (by kernel_rfl) fun i hi => ?_) fun args σ K h => ?_
  · match i, hi with
    | 0, _ => exact loopHyp_of (key := 2) (by kernel_rfl) rfl lokhas_0
  unfold hasS at h
  split at h
  rotate_right
  · exact h.elim
  rename_i l v
  rw [exhas l v K]
  obtain ⟨h1, h⟩ := h
  refine And.intro ⟨h1, by omega⟩ ?_
  cases hs : memB v l with
  | true => rw [hs] at h; exact h
  | false => rw [hs] at h; exact h
theorem lokrls_0 : LoopOK Erls (lb Try.f119 0) [0, 1, 5] [4] rlsL := by
  refine loopOK (.cons ok25 .nil) (noInner (by kernel_rfl)) (fun vs σ => match vs, σ with
    | [.one (.data (.ints .i64 l)), .one (.int .i64 _), .one (.int .i64 i)], [] => (l.length - i).toNat
    | _, _ => 0) fun vs σ k h => ?_
  unfold rlsL at h
  split at h
  rotate_right
  · exact h.elim
  · rename_i l c i
    rw [exrlsl0a l c i _]
    obtain ⟨⟨h1, h2, h3, h4, h5⟩, h⟩ := h
    by_cases hi : i < (l.length : Int)
    · have hw : IntKind.i64.wrap (i + 1) = i + 1 := wrap_id (by omega) (by omega)
      have hw2 : IntKind.i64.wrap (i - 1) = i - 1 := wrap_id (by omega) (by omega)
      have hw3 : IntKind.i64.wrap (c - 1) = c - 1 := wrap_id (by omega) (by omega)
      have e0 : l.getD (i.toNat + 0) 0 = l.getD i.toNat 0 := rfl
      have d1 : decide (i < (l.length : Int)) = true := decide_eq_true hi
      have d2 : decide (0 ≤ i) = true := decide_eq_true h4
      have d3 : decide (i.toNat + 0 < l.length) = true := decide_eq_true (by omega)
      rw [lostF_step h4 hi] at h
      rw [e0, hw, hw2, hw3]
      simp only [d1, d2, d3, Bool.and_self, cond_true]
      have hb : (!(decide (0 ≤ l.getD i.toNat 0) && decide (l.getD i.toNat 0 ≤ c - 1))) = !(withinG (l.getD i.toNat 0) 0 (c - 1)) := rfl
      rw [hb]
      have hnx : (bif i + 1 == 0 then (-1 : Int) else l.getD ((i + 1).toNat - 1) 0) = l.getD i.toNat 0 := by
        rw [show (i + 1 == 0) = false by simp; omega, cond_false, show (i + 1).toNat - 1 = i.toNat by omega]
      cases ha : withinG (l.getD i.toNat 0) 0 (c - 1) with
      | false => rw [ha] at h; exact h
      | true =>
        rw [ha] at h
        simp only [cond_true, Bool.not_true, cond_false] at h ⊢
        by_cases hz : i > 0
        · have d4 : decide (i > 0) = true := decide_eq_true hz
          have d5 : decide (0 ≤ i - 1) = true := decide_eq_true (by omega)
          have d6 : decide (i - 1 < (l.length : Int)) = true := decide_eq_true (by omega)
          have d7 : decide ((i - 1).toNat + 0 < l.length) = true := decide_eq_true (by omega)
          have e1 : l.getD ((i - 1).toNat + 0) 0 = l.getD (i.toNat - 1) 0 := by rw [show (i - 1).toNat + 0 = i.toNat - 1 by omega]
          rw [e1]
          simp only [d4, d5, d6, d7, Bool.and_self, cond_true]
          rw [show (i == 0) = false by simp; omega, cond_false] at h
          by_cases hle : l.getD i.toNat 0 ≤ l.getD (i.toNat - 1) 0
          · rw [decide_eq_false (show ¬ l.getD i.toNat 0 > l.getD (i.toNat - 1) 0 by omega)] at h
            rw [decide_eq_true hle]
            exact h
          · rw [decide_eq_true (show l.getD i.toNat 0 > l.getD (i.toNat - 1) 0 by omega), cond_true] at h
            rw [decide_eq_false hle]
            refine ⟨⟨⟨h1, h2, h3, by omega, by omega⟩, ?_⟩, by omega⟩
            rw [hnx]; exact h
        · have hi0 : i = 0 := by omega
          rw [decide_eq_false hz, cond_false]
          rw [show (i == 0) = true by simpa using hi0, cond_true] at h
          have hge : l.getD i.toNat 0 > -1 := by
            unfold withinG at ha; simp only [Bool.and_eq_true, decide_eq_true_eq] at ha; omega
          rw [decide_eq_true hge, cond_true] at h
          refine ⟨⟨⟨h1, h2, h3, by omega, by omega⟩, ?_⟩, by omega⟩
          rw [hnx]; exact h
    · rw [decide_eq_false hi]
      rw [List.drop_eq_nil_of_le (by omega)] at h
      exact h
theorem okrls : SpecOK Try.prog 119 loeS := by
  refine specOK (n := 34) (m := 0) (lps := [(2, .spec [0, 1, 5] [4] rlsL)]) (.cons ok25 .nil) Try.func119 (by kernel_rfl) (by kernel_rfl) (theLoops (n := 1) (by kernel_rfl) fun i hi => ?_) fun args σ K h => ?_
  · match i, hi with
    | 0, _ => exact loopHyp_of (key := 2) (by kernel_rfl) rfl lokrls_0
  unfold loeS at h
  split at h
  rotate_right
  · exact h.elim
  rename_i l c
  rw [exrls l c K]
  obtain ⟨⟨h1, h2, h3⟩, h⟩ := h
  refine And.intro ⟨h1, h2, h3, by omega, fun hh => absurd hh (by decide)⟩ ?_
  simp only [cond_true]
  cases hs : lostF c (-1) l == 0 with
  | true => rw [eq_of_beq hs] at h; exact h
  | false => exact h
theorem lokrge_0 : LoopOK Erge (lb Try.f65 0) [1, 5] [1, 2] rgeA := by
  refine loopOK (.cons okrls (.cons okhas (.cons ok29 (.cons ok25 .nil)))) (noInner (by kernel_rfl)) (fun vs σ => match vs, σ with
    | [.one (.ptr 0 1 0 0), .one (.int .i64 i)], [.cells [.data (.mat .i64 8 D), .data (.mat .i64 8 _), .data (.ints .i64 _), .data (.ints .i64 _)]] => (D.length - i).toNat
    | _, _ => 0) fun vs σ k h => ?_
  unfold rgeA at h
  split at h
  rotate_right
  · exact h.elim
  · rename_i i D P L Q
    rw [exrgel0a i D P L Q _]
    obtain ⟨⟨hg, h2⟩, h⟩ := h
    have hg' := hg
    obtain ⟨g1, g2, g3, g4, g5, g6⟩ := hg'
    by_cases hi : i < (D.length : Int)
    · have hw : IntKind.i64.wrap (i + 1) = i + 1 := wrap_id (by omega) (by omega)
      have d1 : decide (i < (D.length : Int)) = true := decide_eq_true hi
      have d2 : decide (0 ≤ i) = true := decide_eq_true h2
      have d3 : decide (i.toNat < D.length) = true := decide_eq_true (by omega)
      rw [eta_r8 g5 (by omega), hw]
      simp only [d1, d2, d3, show decide (7 < 8) = true by decide, Bool.and_self, cond_true]
      refine And.intro (by omega) ?_
      rw [keptB_step h2 hi] at h
      cases ha : memB i L with
      | true =>
        rw [ha] at h
        exact ⟨⟨⟨hg, by omega⟩, h⟩, by omega⟩
      | false =>
        rw [ha] at h
        simp only [Bool.not_false, cond_true]
        unfold okRow at h
        cases hb : (D.getD i.toNat []).all sampleG with
        | true => rw [hb] at h; exact ⟨⟨⟨hg, by omega⟩, h⟩, by omega⟩
        | false => rw [hb] at h; exact h
    · rw [decide_eq_false hi]
      rw [List.drop_eq_nil_of_le (by omega)] at h
      exact h
theorem resAt_step {P : List (List Int)} {i s : Nat} (h8 : P.all len8 = true) (hi : i < P.length) (hs : s < 8) : resAt P i s = (resG ((P.getD i []).getD s 0) && resAt P i (s + 1)) := by
  obtain ⟨xs, _, hx, _, he⟩ := row_some hi h8
  unfold resAt
  rw [he, drop_step 0 (by omega : s < xs.length)]; rfl
theorem resAt_end {P : List (List Int)} {i : Nat} (h8 : P.all len8 = true) (hi : i < P.length) : resAt P i 8 = true := by
  obtain ⟨xs, _, hx, _, he⟩ := row_some hi h8
  unfold resAt
  rw [he, List.drop_eq_nil_of_le (by omega)]; rfl
theorem lokrge_2 : LoopOK ErgeF1 (lb Try.f65 2) [1, 6, 7] [2] rgeC := by
  refine loopOK (.cons okrls (.cons okhas (.cons ok29 (.cons ok25 .nil)))) (noInner (by kernel_rfl)) (fun vs σ => match vs, σ with
    | [.one (.ptr 0 1 0 0), .one (.int .i64 _), .one (.int .i64 s)], [.cells [.data (.mat .i64 8 _), .data (.mat .i64 8 _), .data (.ints .i64 _), .data (.ints .i64 _)]] => (8 - s).toNat
    | _, _ => 0) fun vs σ k h => ?_
  unfold rgeC at h
  split at h
  rotate_right
  · exact h.elim
  · rename_i i s D P L Q
    rw [exrgel2a i s D P L Q _]
    obtain ⟨⟨hg, h2, h3, h4, h5⟩, h⟩ := h
    have hg' := hg
    obtain ⟨g1, g2, g3, g4, g5, g6⟩ := hg'
    by_cases hs : s < 8
    · have hw : IntKind.i64.wrap (s + 1) = s + 1 := wrap_id (by omega) (by omega)
      have d1 : decide (s < 8) = true := decide_eq_true hs
      have d2 : decide (0 ≤ i) = true := decide_eq_true h2
      have d3 : decide (i < (P.length : Int)) = true := decide_eq_true h3
      have d4 : decide (0 ≤ s) = true := decide_eq_true h4
      have d5 : decide (0 + s.toNat + 0 < 8) = true := decide_eq_true (by omega)
      have d6 : decide (i.toNat < P.length) = true := decide_eq_true (by omega)
      have e0 : (P.getD i.toNat []).getD (0 + s.toNat + 0) 0 = (P.getD i.toNat []).getD s.toNat 0 := by rw [show 0 + s.toNat + 0 = s.toNat by omega]
      rw [e0, hw]
      simp only [d1, d2, d3, d4, d5, d6, Bool.and_self, cond_true]
      refine And.intro (by omega) ?_
      have hb : (!(decide (0 ≤ (P.getD i.toNat []).getD s.toNat 0) && decide ((P.getD i.toNat []).getD s.toNat 0 ≤ 65536))) = !(resG ((P.getD i.toNat []).getD s.toNat 0)) := rfl
      rw [hb]
      rw [resAt_step g6 (by omega) (by omega), show s.toNat + 1 = (s + 1).toNat by omega] at h
      cases ha : memB i Q with
      | true =>
        rw [ha] at h
        exact ⟨⟨⟨hg, h2, h3, by omega, by omega⟩, by rw [ha]; exact h⟩, by omega⟩
      | false =>
        rw [ha] at h
        simp only [Bool.not_false, cond_true]
        cases hr : resG ((P.getD i.toNat []).getD s.toNat 0) with
        | true =>
          rw [hr] at h
          exact ⟨⟨⟨hg, h2, h3, by omega, by omega⟩, by rw [ha]; exact h⟩, by omega⟩
        | false => rw [hr] at h; exact h
    · rw [decide_eq_false hs]
      have : s.toNat = 8 := by omega
      rw [this, resAt_end g6 (by omega), Bool.or_true] at h
      exact h
theorem lokrge_1 : LoopOK ErgeF1 (lb Try.f65 1) [1, 6] [2] rgeB := by
  refine loopOK (.cons okrls (.cons okhas (.cons ok29 (.cons ok25 .nil)))) (fun b' hb => by
    have hl : loopsOf (lb Try.f65 1) = [lb Try.f65 2] := by kernel_rfl
    rw [hl] at hb
    simp only [List.mem_cons, List.not_mem_nil, or_false] at hb
    subst hb
    exact loopHyp_frm (E' := ErgeF1) (key := 20) (m := 1) (by kernel_rfl) rfl rfl lokrge_2) (fun vs σ => match vs, σ with
    | [.one (.ptr 0 1 0 0), .one (.int .i64 i)], [.cells [.data (.mat .i64 8 _), .data (.mat .i64 8 P), .data (.ints .i64 _), .data (.ints .i64 _)]] => (P.length - i).toNat
    | _, _ => 0) fun vs σ k h => ?_
  unfold rgeB at h
  split at h
  rotate_right
  · exact h.elim
  · rename_i i D P L Q
    rw [exrgel1a i D P L Q _]
    obtain ⟨⟨hg, h2⟩, h⟩ := h
    have hg' := hg
    obtain ⟨g1, g2, g3, g4, g5, g6⟩ := hg'
    by_cases hi : i < (P.length : Int)
    · have hw : IntKind.i64.wrap (i + 1) = i + 1 := wrap_id (by omega) (by omega)
      rw [decide_eq_true hi, cond_true, hw]
      refine And.intro ⟨hg, h2, hi, by decide, by decide⟩ ?_
      rw [keptR_step h2 hi] at h
      have e : resAt P i.toNat 0 = resRow (P.getD i.toNat []) := rfl
      have e' : resAt P i.toNat (Int.toNat 0) = resRow (P.getD i.toNat []) := rfl
      first | rw [e] | rw [e'] | skip
      cases ha : memB i Q || resRow (P.getD i.toNat []) with
      | true =>
        rw [ha] at h
        exact ⟨⟨⟨hg, by omega⟩, h⟩, by show ((P.length : Int) - (i + 1)).toNat < ((P.length : Int) - i).toNat; omega⟩
      | false =>
        rw [ha] at h
        exact h
    · rw [decide_eq_false hi]
      rw [List.drop_eq_nil_of_le (by omega)] at h
      exact h
theorem okrge : SpecOK Try.prog 65 groS := by
  refine specOK (n := 94) (m := 0) (lps := [(12, .spec [1, 5] [1, 2] rgeA), (17, .frm 1 [1, 6] [2] rgeB), (20, .frm 1 [1, 6, 7] [2] rgeC)]) (.cons okrls (.cons okhas (.cons ok29 (.cons ok25 .nil)))) Try.func65 (by kernel_rfl) (by kernel_rfl) (theLoops (n := 3) (by kernel_rfl) fun i hi => ?_) fun args σ K h => ?_
  · match i, hi with
    | 0, _ => exact loopHyp_of (key := 12) (by kernel_rfl) rfl lokrge_0
    | 1, _ => exact loopHyp_frm (E' := ErgeF1) (key := 17) (m := 1) (by kernel_rfl) rfl rfl lokrge_1
    | 2, _ => exact loopHyp_frm (E' := ErgeF1) (key := 20) (m := 1) (by kernel_rfl) rfl rfl lokrge_2
  unfold groS at h
  split at h
  rotate_right
  · exact h.elim
  rename_i D P L Q
  rw [exrge D P L Q K]
  obtain ⟨hg, h⟩ := h
  have hg' := hg
  obtain ⟨g1, g2, g3, g4, g5, g6⟩ := hg'
  unfold groE at h
  by_cases a1 : D.length = 0
  · rw [show ((D.length : Int) == 0) = true by simp [a1]]
    rw [show decide ((D.length : Int) > 0) = false by simp [a1]] at h
    exact h
  · rw [show ((D.length : Int) == 0) = false from beq_eq_false_iff_ne.2 (by omega), cond_false]
    rw [show decide ((D.length : Int) > 0) = true from decide_eq_true (by omega), Bool.true_and] at h
    by_cases a2 : P.length = 0
    · rw [show ((P.length : Int) == 0) = true by simp [a2]]
      rw [show decide ((P.length : Int) > 0) = false by simp [a2]] at h
      exact h
    · rw [show ((P.length : Int) == 0) = false from beq_eq_false_iff_ne.2 (by omega), cond_false]
      rw [show decide ((P.length : Int) > 0) = true from decide_eq_true (by omega), cond_true] at h
      by_cases a3 : (D.length : Int) > 12
      · rw [decide_eq_true a3]
        rw [show decide ((D.length : Int) ≤ 12) = false from decide_eq_false (by omega)] at h
        exact h
      · rw [decide_eq_false a3, cond_false]
        rw [show decide ((D.length : Int) ≤ 12) = true from decide_eq_true (by omega), Bool.true_and] at h
        by_cases a4 : (P.length : Int) > 4
        · rw [decide_eq_true a4]
          rw [show decide ((P.length : Int) ≤ 4) = false from decide_eq_false (by omega)] at h
          exact h
        · rw [decide_eq_false a4, cond_false]
          rw [show decide ((P.length : Int) ≤ 4) = true from decide_eq_true (by omega), cond_true] at h
          refine And.intro (by omega) ?_
          unfold firstE at h
          rw [show ((0 : Int) == 0) = true by decide, cond_true] at h
          unfold firstE at h
          rw [show ((0 : Int) == 0) = true by decide, cond_true] at h
          unfold firstE at h
          cases b1 : lostF D.length (-1) L == 0 with
          | false =>
            rw [b1] at h
            rw [bne, b1]; exact h
          | true =>
            rw [b1, cond_true] at h
            rw [bne, b1, Bool.not_true, cond_false]
            refine And.intro (by omega) ?_
            unfold firstE at h
            cases b2 : lostF P.length (-1) Q == 0 with
            | false =>
              rw [b2] at h
              rw [bne, b2]; exact h
            | true =>
              rw [b2, cond_true] at h
              rw [bne, b2, Bool.not_true, cond_false]
              refine And.intro ⟨hg, by omega⟩ ?_
              cases b3 : keptB L 0 D with
              | false => rw [b3] at h; exact h
              | true =>
                rw [b3] at h
                refine And.intro ⟨hg, by omega⟩ ?_
                cases b4 : keptR Q 0 P with
                | false => rw [b4] at h; exact h
                | true => rw [b4] at h; exact h
theorem okcgr : SpecOK Try.prog 64 cgrS := by
  refine specOK (n := 16) (m := 0) (lps := []) (.cons ok41 (.cons ok35 .nil)) Try.func64 (by kernel_rfl) (by kernel_rfl) (noLoops (by kernel_rfl)) fun args σ K h => ?_
  unfold cgrS at h
  split at h
  rotate_right
  · exact h.elim
  rename_i D P L Q
  rw [excgr D P L Q K]
  obtain ⟨⟨g1, g2, g3, g4, g5, g6⟩, h⟩ := h
  exact ⟨by omega, by omega, by omega, by omega, h⟩
end Go.Ev
