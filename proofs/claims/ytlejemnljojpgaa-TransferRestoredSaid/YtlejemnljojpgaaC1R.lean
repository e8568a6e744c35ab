/-
  Chapter 1, contracts: parities.
-/
import Derived.Test.YtlejemnljojpgaaC1J
import Derived.Test.YtlejemnljojpgaaC1CI
import Derived.Test.YtlejemnljojpgaaC1Q
import Derived.KernelRfl
set_option linter.unusedVariables false
set_option linter.unusedSimpArgs false
set_option linter.unusedSectionVars false
namespace Go.Ev
open Go Go.Proofs
set_option maxRecDepth 20000
def memB (v : Int) (l : List Int) : Bool := l.any fun x => v == x
def idxOfI (v : Int) : Int → List Int → Int
  | _, [] => -1
  | i, x :: l => bif v == x then i else idxOfI v (i + 1) l
def indexL : LSpec := fun vs σ k => match vs, σ with
  | [.one (.data (.ints .i64 l)), .one (.int .i64 v), .one (.int .i64 n), .one (.int .i64 i)], [] =>
    (l.length ≤ 1000000000 ∧ 0 ≤ i ∧ n = l.length) ∧ bif memB v (l.drop i.toNat) then k .ret [.one (.int .i64 (idxOfI v i (l.drop i.toNat)))] [] else k (.exit 0) [.any] []
  | _, _ => False
def indexS : Spec := fun args σ K => match args, σ with
  | [.one (.data (.ints .i64 l)), .one (.int .i64 v)], [] => l.length ≤ 1000000000 ∧ K (.one (.int .i64 (idxOfI v 0 l))) []
  | _, _ => False
def containsS : Spec := fun args σ K => match args, σ with
  | [.one (.data (.ints .i64 l)), .one (.int .i64 v)], [] => l.length ≤ 1000000000 ∧ K (.one (.bool (memB v l))) []
  | _, _ => False
def facG (i j : Int) : Int := invG (modG (4 + i - j))
def factorS : Spec := fun args σ K => match args, σ with
  | [.one (.int .i64 i), .one (.int .i64 j)], [] => (0 ≤ i ∧ i ≤ 1000 ∧ 0 ≤ j ∧ j ≤ 1000) ∧ K (.one (.int .i64 (facG i j))) []
  | _, _ => False
def len8 (xs : List Int) : Bool := xs.length == 8
def okRow (xs : List Int) : Bool := xs.all sampleG
def keptB (ws : List Int) : Int → List (List Int) → Bool
  | _, [] => true
  | i, xs :: l => (memB i ws || okRow xs) && keptB ws (i + 1) l
def parR (ws : List Int) (j : Int) (at_ : Nat) : Int → Int → List (List Int) → Int
  | out, _, [] => out
  | out, i, xs :: l => parR ws j at_ (bif memB i ws then out else modG (out + modG (facG i j * modG (xs.getD at_ 0 + 32768)))) (i + 1) l
def parityL : LSpec := fun vs σ k => match vs, σ with
  | [.one (.data (.ints .i64 ws)), .one (.int .i64 j), .one (.int .i64 a), .one (.int .i64 out), .one (.data (.mat .i64 8 xss)), .one (.int .i64 n), .one (.int .i64 i)], [] =>
    (ws.length ≤ 1000 ∧ xss.length ≤ 1000 ∧ 0 ≤ j ∧ j ≤ 1000 ∧ 0 ≤ a ∧ a ≤ 7 ∧ 0 ≤ i ∧ n = xss.length ∧ 0 ≤ out ∧ out < 65537 ∧ xss.all len8 = true ∧ keptB ws i (xss.drop i.toNat) = true) ∧
    k (.exit 0) [.one (.int .i64 (parR ws j a.toNat out i (xss.drop i.toNat)))] []
  | _, _ => False
def parityS : Spec := fun args σ K => match args, σ with
  | [.one (.data (.mat .i64 8 xss)), .one (.data (.ints .i64 ws)), .one (.int .i64 j), .one (.int .i64 a)], [] =>
    (ws.length ≤ 1000 ∧ xss.length ≤ 1000 ∧ 0 ≤ j ∧ j ≤ 1000 ∧ 0 ≤ a ∧ a ≤ 7 ∧ xss.all len8 = true ∧ keptB ws 0 xss = true) ∧ K (.one (.int .i64 (parR ws j a.toNat 0 0 xss))) []
  | _, _ => False
def each8L : LSpec := fun vs σ k => match vs, σ with
  | [.one (.func 82 []), .one (.data (.mat .i64 8 l)), .one (.int .i64 n), .one (.int .i64 i)], [] =>
    (l.length ≤ 1000000000 ∧ 0 ≤ i ∧ n = l.length ∧ l.all len8 = true) ∧ bif (l.drop i.toNat).all okRow then k (.exit 0) [.any] [] else k .ret [.one (.int .i64 2)] []
  | _, _ => False
def each8S : Spec := fun args σ K => match args, σ with
  | [.one (.data (.mat .i64 8 l)), .one (.func 82 [])], [] => (l.length ≤ 1000000000 ∧ l.all len8 = true) ∧ K (.one (.int .i64 (bif l.all okRow then 0 else 2))) []
  | _, _ => False
def colsF (xss : List (List Int)) (j : Int) : Nat → Nat → List Int
  | _, 0 => []
  | a, c + 1 => parR [] j a 0 0 xss :: colsF xss j (a + 1) c
def rowsF (xss : List (List Int)) : Int → Nat → List (List Int)
  | _, 0 => []
  | j, c + 1 => colsF xss j 0 8 :: rowsF xss (j + 1) c
def parM (xss : List (List Int)) (count : Int) : List (List Int) := rowsF xss 0 count.toNat
def okData (xss : List (List Int)) : Prop := xss.length ≤ 1000 ∧ xss.all len8 = true ∧ keptB [] 0 xss = true
def par6L : LSpec := fun vs σ k => match vs, σ with
  | [.one (.data (.mat .i64 8 xss)), .one (.own 0 8), .one (.int .i64 n), .one (.int .i64 j)], [.row 35 (.mat .i64 8 out)] =>
    (okData xss ∧ n = out.length ∧ out.length ≤ 100 ∧ 0 ≤ j ∧ j ≤ n ∧ out.all len8 = true) ∧ k (.exit 0) [.one (.own 0 8)] [.row 35 (.mat .i64 8 (out.take j.toNat ++ rowsF xss j (n - j).toNat))]
  | _, _ => False
def par9L : LSpec := fun vs σ k => match vs, σ with
  | [.one (.data (.mat .i64 8 xss)), .one (.own 0 8), .one (.int .i64 j), .one (.int .i64 n), .one (.int .i64 jj), .one (.int .i64 a)], [.row 35 (.mat .i64 8 out)] =>
    (okData xss ∧ out.length ≤ 100 ∧ 0 ≤ j ∧ j < out.length ∧ 0 ≤ a ∧ a ≤ 8 ∧ out.all len8 = true) ∧
    k (.exit 2) [.one (.data (.mat .i64 8 xss)), .one (.own 0 8), .one (.int .i64 n), .one (.int .i64 jj)] [.row 35 (.mat .i64 8 (out.set j.toNat ((out.getD j.toNat []).take a.toNat ++ colsF xss j a.toNat (8 - a).toNat)))]
  | _, _ => False
def dataE (xss : List (List Int)) (c : Int) : Int := firstE [bif decide ((xss.length : Int) > 0) then 0 else 10, bif decide ((xss.length : Int) ≤ 12) then 0 else 8, bif xss.all okRow then 0 else 2, bif withinG c 1 4 then 0 else 2]
def parityOfS : Spec := fun args σ K => match args, σ with
  | [.one (.data (.mat .i64 8 xss)), .one (.int .i64 c)], [] => (xss.length ≤ 1000000000 ∧ xss.all len8 = true) ∧
    bif dataE xss c == 0 then K (.tup [.one (.own 0 8), .one (.int .i64 0)]) [.row 35 (.mat .i64 8 (parM xss c))] else K (.tup [.one .nil, .one (.int .i64 (dataE xss c))]) []
  | _, _ => False
def copyDataS : Spec := fun args σ K => match args, σ with
  | [.one (.data (.mat .i64 8 l))], [] => l.length ≤ 1000000 ∧ K (.one (.own 0 8)) [.row 35 (.mat .i64 8 l)]
  | _, _ => False
def dataErrL : LSpec := fun vs σ k => match vs, σ with
  | [.one (.data (.mat .i64 8 l)), .one (.int .i64 c), .one (.int .i64 i)], [] =>
    (l.length ≤ 1000000000 ∧ 0 ≤ i ∧ l.all len8 = true) ∧ bif (l.drop i.toNat).all okRow then k (.exit 0) [.one (.int .i64 c), .any] [] else k .ret [.one (.int .i64 c), .one (.int .i64 2)] []
  | _, _ => False
def sameDataL : LSpec := fun vs σ k => match vs, σ with
  | [.one (.data (.mat .i64 8 a)), .one (.data (.mat .i64 8 b)), .one (.int .i64 i)], [] =>
    (a.length ≤ 1000000000 ∧ a.length = b.length ∧ 0 ≤ i ∧ a.all len8 = true ∧ b.all len8 = true) ∧ bif a.drop i.toNat == b.drop i.toNat then k (.exit 0) [.any] [] else k .ret [.one (.bool false)] []
  | _, _ => False
def sameDataS : Spec := fun args σ K => match args, σ with
  | [.one (.data (.mat .i64 8 a)), .one (.data (.mat .i64 8 b))], [] => (a.length ≤ 1000000000 ∧ a.all len8 = true ∧ b.all len8 = true) ∧ K (.one (.bool (a == b))) []
  | _, _ => False
noncomputable abbrev E135 : Env := envOf Try.prog [] [(2, .spec [0, 1, 7, 8] [4] indexL)] 19 0
noncomputable abbrev E113 : Env := envOf Try.prog [(135, indexS)] [] 9 0
noncomputable abbrev E115 : Env := envOf Try.prog [(116, moduloS), (98, inverseS)] [] 11 0
noncomputable abbrev E100 : Env := envOf Try.prog [(113, containsS), (115, factorS), (116, moduloS), (130, timesS)] [(3, .spec [1, 2, 3, 9, 12, 13, 14] [9] parityL)] 37 0
noncomputable abbrev E99 : Env := envOf Try.prog [(82, samplesS)] [(2, .spec [1, 8, 9, 10] [4] each8L)] 21 0
noncomputable abbrev E40 : Env := envOf Try.prog [(70, unlessS), (99, each8S), (71, withinS), (69, firstS), (100, parityS)] [(6, .spec [0, 7, 31, 32] [7] par6L), (9, .spec [0, 7, 8, 31, 32, 35] [0, 7, 31, 32] par9L)] 50 0
noncomputable abbrev E41 : Env := envOf Try.prog [] [] 6 0
noncomputable abbrev E44 : Env := envOf Try.prog [(29, samplesS), (25, withinS)] [(6, .spec [0, 1, 5] [1, 4] dataErrL)] 30 0
noncomputable abbrev E45 : Env := envOf Try.prog [] [(4, .spec [0, 1, 5] [4] sameDataL)] 26 0
end Go.Ev

namespace Go.Ev
open Go Go.Proofs
set_option maxRecDepth 100000
theorem ex135 (l : List Int) (v : Int) (K : AV → List Blk → Prop) : evFn E135 Try.f135 [.one (.data (.ints .i64 l)), .one (.int .i64 v)] [] K = ( (l.length ≤ 1000000000 ∧ (0 : Int) ≤ (0 : Int) ∧ (↑l.length : Int) = (↑l.length : Int)) ∧ bif memB v l then K (.one (.int .i64 (idxOfI v (0 : Int) l))) [] else K (.one (.int .i64 (-1 : Int))) []) := by kernel_rfl
theorem ex135a (l : List Int) (v n i : Int) (K : Ex → List AV → List Blk → Prop) : evBody E135 (lb Try.f135 0) [0, 1, 7, 8] [4] [.one (.data (.ints .i64 l)), .one (.int .i64 v), .one (.int .i64 n), .one (.int .i64 i)] [] K = ( bif decide (i < n) then bif decide ((0 : Int) ≤ i) && decide (i < (↑l.length : Int)) then bif decide (i.toNat + 0 < l.length) then bif v == l.getD (i.toNat + 0) (0 : Int) then K .ret [.one (.int .i64 i)] [] else K .normal [.one (.data (Row.ints .i64 l)), .one (.int .i64 v), .one (.int .i64 n), .one (.int .i64 (IntKind.i64.wrap (i + (1 : Int))))] [] else False else False else K (.exit 0) [AV.any] []) := by kernel_rfl
theorem ex113 (l : List Int) (v : Int) (K : AV → List Blk → Prop) : evFn E113 Try.f113 [.one (.data (.ints .i64 l)), .one (.int .i64 v)] [] K = ( l.length ≤ 1000000000 ∧ K (.one (.bool (decide (idxOfI v (0 : Int) l ≥ (0 : Int))))) []) := by kernel_rfl
theorem ex115 (i j : Int) (K : AV → List Blk → Prop) : evFn E115 Try.f115 [.one (.int .i64 i), .one (.int .i64 j)] [] K = ( ((0 : Int) ≤ modG (IntKind.i64.wrap (IntKind.i64.wrap ((4 : Int) + i) - j)) ∧ modG (IntKind.i64.wrap (IntKind.i64.wrap ((4 : Int) + i) - j)) < (65537 : Int)) ∧ K (.one (.int .i64 (invG (modG (IntKind.i64.wrap (IntKind.i64.wrap ((4 : Int) + i) - j)))))) []) := by kernel_rfl
theorem ex100 (xss : List (List Int)) (ws : List Int) (j a : Int) (K : AV → List Blk → Prop) : evFn E100 Try.f100 [.one (.data (.mat .i64 8 xss)), .one (.data (.ints .i64 ws)), .one (.int .i64 j), .one (.int .i64 a)] [] K = ( (ws.length ≤ 1000 ∧ xss.length ≤ 1000 ∧ (0 : Int) ≤ j ∧ j ≤ (1000 : Int) ∧ (0 : Int) ≤ a ∧ a ≤ (7 : Int) ∧ (0 : Int) ≤ (0 : Int) ∧ (↑xss.length : Int) = (↑xss.length : Int) ∧ (0 : Int) ≤ (0 : Int) ∧ (0 : Int) < (65537 : Int) ∧ xss.all len8 = true ∧ keptB ws (0 : Int) xss = true) ∧ K (.one (.int .i64 (parR ws j a.toNat (0 : Int) (0 : Int) xss))) []) := by kernel_rfl
theorem ex100a (xss : List (List Int)) (ws : List Int) (j a out n i : Int) (K : Ex → List AV → List Blk → Prop) : evBody E100 (lb Try.f100 0) [1, 2, 3, 9, 12, 13, 14] [9] [.one (.data (.ints .i64 ws)), .one (.int .i64 j), .one (.int .i64 a), .one (.int .i64 out), .one (.data (.mat .i64 8 xss)), .one (.int .i64 n), .one (.int .i64 i)] [] K = ( bif decide (i < n) then bif decide ((0 : Int) ≤ i) && decide (i < (↑xss.length : Int)) then bif decide (7 < 8) && decide (i.toNat < xss.length) then ws.length ≤ 1000000000 ∧ bif !memB i ws then bif decide ((0 : Int) ≤ a) && decide (a < (8 : Int)) then bif decide (0 + a.toNat + 0 < [(match xss[i.toNat]? with | some x => x | none => []).getD 0 (0 : Int), (match xss[i.toNat]? with | some x => x | none => []).getD 1 (0 : Int), (match xss[i.toNat]? with | some x => x | none => []).getD 2 (0 : Int), (match xss[i.toNat]? with | some x => x | none => []).getD 3 (0 : Int), (match xss[i.toNat]? with | some x => x | none => []).getD 4 (0 : Int), (match xss[i.toNat]? with | some x => x | none => []).getD 5 (0 : Int), (match xss[i.toNat]? with | some x => x | none => []).getD 6 (0 : Int), (match xss[i.toNat]? with | some x => x | none => []).getD 7 (0 : Int)].length) then ((0 : Int) ≤ i ∧ i ≤ (1000 : Int) ∧ (0 : Int) ≤ j ∧ j ≤ (1000 : Int)) ∧ ((0 : Int) ≤ facG i j ∧ facG i j < (65537 : Int) ∧ (0 : Int) ≤ modG (IntKind.i64.wrap ([(match xss[i.toNat]? with | some x => x | none => []).getD 0 (0 : Int), (match xss[i.toNat]? with | some x => x | none => []).getD 1 (0 : Int), (match xss[i.toNat]? with | some x => x | none => []).getD 2 (0 : Int), (match xss[i.toNat]? with | some x => x | none => []).getD 3 (0 : Int), (match xss[i.toNat]? with | some x => x | none => []).getD 4 (0 : Int), (match xss[i.toNat]? with | some x => x | none => []).getD 5 (0 : Int), (match xss[i.toNat]? with | some x => x | none => []).getD 6 (0 : Int), (match xss[i.toNat]? with | some x => x | none => []).getD 7 (0 : Int)].getD (0 + a.toNat + 0) (0 : Int) + (32768 : Int))) ∧ modG (IntKind.i64.wrap ([(match xss[i.toNat]? with | some x => x | none => []).getD 0 (0 : Int), (match xss[i.toNat]? with | some x => x | none => []).getD 1 (0 : Int), (match xss[i.toNat]? with | some x => x | none => []).getD 2 (0 : Int), (match xss[i.toNat]? with | some x => x | none => []).getD 3 (0 : Int), (match xss[i.toNat]? with | some x => x | none => []).getD 4 (0 : Int), (match xss[i.toNat]? with | some x => x | none => []).getD 5 (0 : Int), (match xss[i.toNat]? with | some x => x | none => []).getD 6 (0 : Int), (match xss[i.toNat]? with | some x => x | none => []).getD 7 (0 : Int)].getD (0 + a.toNat + 0) (0 : Int) + (32768 : Int))) < (65537 : Int)) ∧ K .normal [.one (.data (Row.ints .i64 ws)), .one (.int .i64 j), .one (.int .i64 a), .one (.int .i64 (modG (IntKind.i64.wrap (out + modG (facG i j * modG (IntKind.i64.wrap ([(match xss[i.toNat]? with | some x => x | none => []).getD 0 (0 : Int), (match xss[i.toNat]? with | some x => x | none => []).getD 1 (0 : Int), (match xss[i.toNat]? with | some x => x | none => []).getD 2 (0 : Int), (match xss[i.toNat]? with | some x => x | none => []).getD 3 (0 : Int), (match xss[i.toNat]? with | some x => x | none => []).getD 4 (0 : Int), (match xss[i.toNat]? with | some x => x | none => []).getD 5 (0 : Int), (match xss[i.toNat]? with | some x => x | none => []).getD 6 (0 : Int), (match xss[i.toNat]? with | some x => x | none => []).getD 7 (0 : Int)].getD (0 + a.toNat + 0) (0 : Int) + (32768 : Int)))))))), .one (.data (Row.mat .i64 8 xss)), .one (.int .i64 n), .one (.int .i64 (IntKind.i64.wrap (i + (1 : Int))))] [] else False else False else K .normal [.one (.data (Row.ints .i64 ws)), .one (.int .i64 j), .one (.int .i64 a), .one (.int .i64 out), .one (.data (Row.mat .i64 8 xss)), .one (.int .i64 n), .one (.int .i64 (IntKind.i64.wrap (i + (1 : Int))))] [] else False else False else K (.exit 0) [.one (.int .i64 out)] []) := by kernel_rfl
theorem ex99 (l : List (List Int)) (K : AV → List Blk → Prop) : evFn E99 Try.f99 [.one (.data (.mat .i64 8 l)), .one (.func 82 [])] [] K = ( (l.length ≤ 1000000000 ∧ (0 : Int) ≤ (0 : Int) ∧ (↑l.length : Int) = (↑l.length : Int) ∧ l.all len8 = true) ∧ bif l.all okRow then K (.one (.int .i64 (0 : Int))) [] else K (.one (.int .i64 (2 : Int))) []) := by kernel_rfl
theorem ex99a (l : List (List Int)) (n i : Int) (K : Ex → List AV → List Blk → Prop) : evBody E99 (lb Try.f99 0) [1, 8, 9, 10] [4] [.one (.func 82 []), .one (.data (.mat .i64 8 l)), .one (.int .i64 n), .one (.int .i64 i)] [] K = ( bif decide (i < n) then bif decide ((0 : Int) ≤ i) && decide (i < (↑l.length : Int)) then bif decide (7 < 8) && decide (i.toNat < l.length) then bif (bif [(match l[i.toNat]? with | some x => x | none => []).getD 0 (0 : Int), (match l[i.toNat]? with | some x => x | none => []).getD 1 (0 : Int), (match l[i.toNat]? with | some x => x | none => []).getD 2 (0 : Int), (match l[i.toNat]? with | some x => x | none => []).getD 3 (0 : Int), (match l[i.toNat]? with | some x => x | none => []).getD 4 (0 : Int), (match l[i.toNat]? with | some x => x | none => []).getD 5 (0 : Int), (match l[i.toNat]? with | some x => x | none => []).getD 6 (0 : Int), (match l[i.toNat]? with | some x => x | none => []).getD 7 (0 : Int)].all sampleG then (0 : Int) else (2 : Int)) != (0 : Int) then K .ret [.one (.int .i64 (bif [(match l[i.toNat]? with | some x => x | none => []).getD 0 (0 : Int), (match l[i.toNat]? with | some x => x | none => []).getD 1 (0 : Int), (match l[i.toNat]? with | some x => x | none => []).getD 2 (0 : Int), (match l[i.toNat]? with | some x => x | none => []).getD 3 (0 : Int), (match l[i.toNat]? with | some x => x | none => []).getD 4 (0 : Int), (match l[i.toNat]? with | some x => x | none => []).getD 5 (0 : Int), (match l[i.toNat]? with | some x => x | none => []).getD 6 (0 : Int), (match l[i.toNat]? with | some x => x | none => []).getD 7 (0 : Int)].all sampleG then (0 : Int) else (2 : Int)))] [] else K .normal [.one (.func (82 : FuncId) []), .one (.data (Row.mat .i64 8 l)), .one (.int .i64 n), .one (.int .i64 (IntKind.i64.wrap (i + (1 : Int))))] [] else False else False else K (.exit 0) [AV.any] []) := by kernel_rfl
theorem ex40 (xss : List (List Int)) (c : Int) (K : AV → List Blk → Prop) : evFn E40 Try.f40 [.one (.data (.mat .i64 8 xss)), .one (.int .i64 c)] [] K = ( (xss.length ≤ 1000000000 ∧ xss.all len8 = true) ∧ [bif decide ((↑xss.length : Int) > (0 : Int)) then (0 : Int) else (10 : Int), bif decide ((↑xss.length : Int) ≤ (12 : Int)) then (0 : Int) else (8 : Int), bif xss.all okRow then (0 : Int) else (2 : Int), bif decide ((1 : Int) ≤ c) && decide (c ≤ (4 : Int)) then (0 : Int) else (2 : Int)].length ≤ 1000 ∧ bif firstE [bif decide ((↑xss.length : Int) > (0 : Int)) then (0 : Int) else (10 : Int), bif decide ((↑xss.length : Int) ≤ (12 : Int)) then (0 : Int) else (8 : Int), bif xss.all okRow then (0 : Int) else (2 : Int), bif decide ((1 : Int) ≤ c) && decide (c ≤ (4 : Int)) then (0 : Int) else (2 : Int)] != (0 : Int) then K (AV.tup [.one .nil, .one (.int .i64 (firstE [bif decide ((↑xss.length : Int) > (0 : Int)) then (0 : Int) else (10 : Int), bif decide ((↑xss.length : Int) ≤ (12 : Int)) then (0 : Int) else (8 : Int), bif xss.all okRow then (0 : Int) else (2 : Int), bif decide ((1 : Int) ≤ c) && decide (c ≤ (4 : Int)) then (0 : Int) else (2 : Int)]))]) [] else bif decide ((0 : Int) ≤ c) && (decide (c ≤ c) && decide (c * (64 : Int) ≤ (140737488355328 : Int) ∧ c ≤ (140737488355328 : Int))) then ((xss.length ≤ 1000 ∧ xss.all len8 = true ∧ keptB [] (0 : Int) xss = true) ∧ (↑(List.replicate c.toNat [(0 : Int), (0 : Int), (0 : Int), (0 : Int), (0 : Int), (0 : Int), (0 : Int), (0 : Int)]).length : Int) = (↑(List.replicate c.toNat [(0 : Int), (0 : Int), (0 : Int), (0 : Int), (0 : Int), (0 : Int), (0 : Int), (0 : Int)]).length : Int) ∧ (List.replicate c.toNat [(0 : Int), (0 : Int), (0 : Int), (0 : Int), (0 : Int), (0 : Int), (0 : Int), (0 : Int)]).length ≤ 100 ∧ (0 : Int) ≤ (0 : Int) ∧ (0 : Int) ≤ (↑(List.replicate c.toNat [(0 : Int), (0 : Int), (0 : Int), (0 : Int), (0 : Int), (0 : Int), (0 : Int), (0 : Int)]).length : Int) ∧ (List.replicate c.toNat [(0 : Int), (0 : Int), (0 : Int), (0 : Int), (0 : Int), (0 : Int), (0 : Int), (0 : Int)]).all len8 = true) ∧ K (AV.tup [.one (.own 0 8), .one (.int .i64 (0 : Int))]) [Blk.row 35 (Row.mat .i64 8 (rowsF xss (0 : Int) ((↑(List.replicate c.toNat [(0 : Int), (0 : Int), (0 : Int), (0 : Int), (0 : Int), (0 : Int), (0 : Int), (0 : Int)]).length : Int) - (0 : Int)).toNat))] else False) := by kernel_rfl
theorem ex40a (xss out : List (List Int)) (n j : Int) (K : Ex → List AV → List Blk → Prop) : evBody E40 (lb Try.f40 0) [0, 7, 31, 32] [7] [.one (.data (.mat .i64 8 xss)), .one (.own 0 8), .one (.int .i64 n), .one (.int .i64 j)] [.row 35 (.mat .i64 8 out)] K = ( bif decide (j < n) then ((xss.length ≤ 1000 ∧ xss.all len8 = true ∧ keptB [] (0 : Int) xss = true) ∧ out.length ≤ 100 ∧ (0 : Int) ≤ j ∧ j < (↑out.length : Int) ∧ (0 : Int) ≤ (0 : Int) ∧ (0 : Int) ≤ (8 : Int) ∧ out.all len8 = true) ∧ K .normal [.one (.data (Row.mat .i64 8 xss)), .one (.own 0 8), .one (.int .i64 n), .one (.int .i64 (IntKind.i64.wrap (j + (1 : Int))))] [Blk.row 35 (Row.mat .i64 8 (out.set j.toNat (colsF xss j 0 8)))] else K (.exit 0) [.one (.own 0 8)] [Blk.row 35 (Row.mat .i64 8 out)]) := by kernel_rfl
theorem ex40b (xss out : List (List Int)) (n j jj a : Int) (K : Ex → List AV → List Blk → Prop) : evBody E40 (lb Try.f40 1) [0, 7, 8, 31, 32, 35] [0, 7, 31, 32] [.one (.data (.mat .i64 8 xss)), .one (.own 0 8), .one (.int .i64 j), .one (.int .i64 n), .one (.int .i64 jj), .one (.int .i64 a)] [.row 35 (.mat .i64 8 out)] K = ( bif decide (a < (8 : Int)) then bif decide ((0 : Int) ≤ j) && decide (j < (↑out.length : Int)) then (0 ≤ 1000 ∧ xss.length ≤ 1000 ∧ (0 : Int) ≤ j ∧ j ≤ (1000 : Int) ∧ (0 : Int) ≤ a ∧ a ≤ (7 : Int) ∧ xss.all len8 = true ∧ keptB [] (0 : Int) xss = true) ∧ bif decide ((0 : Int) ≤ a) && decide (a < (8 : Int)) then bif decide (0 + a.toNat < 8) && decide (j.toNat < out.length) && decide ((match out[j.toNat]? with | some x => x | none => []).length = 8) then K .normal [.one (.data (Row.mat .i64 8 xss)), .one (.own 0 8), .one (.int .i64 j), .one (.int .i64 n), .one (.int .i64 jj), .one (.int .i64 (IntKind.i64.wrap (a + (1 : Int))))] [Blk.row 35 (Row.mat .i64 8 (out.set j.toNat ((match out[j.toNat]? with | some x => x | none => []).set (0 + a.toNat) (parR [] j a.toNat (0 : Int) (0 : Int) xss))))] else False else False else False else K (.exit 2) [.one (.data (Row.mat .i64 8 xss)), .one (.own 0 8), .one (.int .i64 n), .one (.int .i64 jj)] [Blk.row 35 (Row.mat .i64 8 out)]) := by kernel_rfl
theorem ex41 (l : List (List Int)) (K : AV → List Blk → Prop) : evFn E41 Try.f41 [.one (.data (.mat .i64 8 l))] [] K = ( bif decide (l.length * 64 ≤ 140737488355328 ∧ l.length ≤ 140737488355328) then K (.one (.own 0 8)) [Blk.row 35 (Row.mat .i64 8 l)] else False) := by kernel_rfl
theorem ex44 (xss : List (List Int)) (c : Int) (K : AV → List Blk → Prop) : evFn E44 Try.f44 [.one (.data (.mat .i64 8 xss)), .one (.int .i64 c)] [] K = ( bif (↑xss.length : Int) == (0 : Int) then K (.one (.int .i64 (10 : Int))) [] else bif decide ((↑xss.length : Int) > (12 : Int)) then K (.one (.int .i64 (8 : Int))) [] else (xss.length ≤ 1000000000 ∧ (0 : Int) ≤ (0 : Int) ∧ xss.all len8 = true) ∧ bif xss.all okRow then bif !(decide ((1 : Int) ≤ c) && decide (c ≤ (4 : Int))) then K (.one (.int .i64 (2 : Int))) [] else K (.one (.int .i64 (0 : Int))) [] else K (.one (.int .i64 (2 : Int))) []) := by kernel_rfl
theorem ex44a (l : List (List Int)) (c i : Int) (K : Ex → List AV → List Blk → Prop) : evBody E44 (lb Try.f44 0) [0, 1, 5] [1, 4] [.one (.data (.mat .i64 8 l)), .one (.int .i64 c), .one (.int .i64 i)] [] K = ( bif decide (i < (↑l.length : Int)) then bif decide ((0 : Int) ≤ i) && decide (i < (↑l.length : Int)) then bif decide (7 < 8) && decide (i.toNat < l.length) then bif (bif [(match l[i.toNat]? with | some x => x | none => []).getD 0 (0 : Int), (match l[i.toNat]? with | some x => x | none => []).getD 1 (0 : Int), (match l[i.toNat]? with | some x => x | none => []).getD 2 (0 : Int), (match l[i.toNat]? with | some x => x | none => []).getD 3 (0 : Int), (match l[i.toNat]? with | some x => x | none => []).getD 4 (0 : Int), (match l[i.toNat]? with | some x => x | none => []).getD 5 (0 : Int), (match l[i.toNat]? with | some x => x | none => []).getD 6 (0 : Int), (match l[i.toNat]? with | some x => x | none => []).getD 7 (0 : Int)].all sampleG then (0 : Int) else (2 : Int)) != (0 : Int) then K .ret [.one (.int .i64 c), .one (.int .i64 (bif [(match l[i.toNat]? with | some x => x | none => []).getD 0 (0 : Int), (match l[i.toNat]? with | some x => x | none => []).getD 1 (0 : Int), (match l[i.toNat]? with | some x => x | none => []).getD 2 (0 : Int), (match l[i.toNat]? with | some x => x | none => []).getD 3 (0 : Int), (match l[i.toNat]? with | some x => x | none => []).getD 4 (0 : Int), (match l[i.toNat]? with | some x => x | none => []).getD 5 (0 : Int), (match l[i.toNat]? with | some x => x | none => []).getD 6 (0 : Int), (match l[i.toNat]? with | some x => x | none => []).getD 7 (0 : Int)].all sampleG then (0 : Int) else (2 : Int)))] [] else K .normal [.one (.data (Row.mat .i64 8 l)), .one (.int .i64 c), .one (.int .i64 (IntKind.i64.wrap (i + (1 : Int))))] [] else False else False else K (.exit 0) [.one (.int .i64 c), AV.any] []) := by kernel_rfl
theorem ex45 (a b : List (List Int)) (K : AV → List Blk → Prop) : evFn E45 Try.f45 [.one (.data (.mat .i64 8 a)), .one (.data (.mat .i64 8 b))] [] K = ( bif (↑a.length : Int) != (↑b.length : Int) then K (.one (.bool false)) [] else (a.length ≤ 1000000000 ∧ a.length = b.length ∧ (0 : Int) ≤ (0 : Int) ∧ a.all len8 = true ∧ b.all len8 = true) ∧ bif a == b then K (.one (.bool true)) [] else K (.one (.bool false)) []) := by kernel_rfl
theorem ex45a (a b : List (List Int)) (i : Int) (K : Ex → List AV → List Blk → Prop) : evBody E45 (lb Try.f45 0) [0, 1, 5] [4] [.one (.data (.mat .i64 8 a)), .one (.data (.mat .i64 8 b)), .one (.int .i64 i)] [] K = ( bif decide (i < (↑a.length : Int)) then bif decide ((0 : Int) ≤ i) && decide (i < (↑a.length : Int)) then bif decide (7 < 8) && decide (i.toNat < a.length) then bif decide ((0 : Int) ≤ i) && decide (i < (↑b.length : Int)) then bif decide (7 < 8) && decide (i.toNat < b.length) then bif !((match a[i.toNat]? with | some x => x | none => []).getD 0 (0 : Int) == (match b[i.toNat]? with | some x => x | none => []).getD 0 (0 : Int) && ((match a[i.toNat]? with | some x => x | none => []).getD 1 (0 : Int) == (match b[i.toNat]? with | some x => x | none => []).getD 1 (0 : Int) && ((match a[i.toNat]? with | some x => x | none => []).getD 2 (0 : Int) == (match b[i.toNat]? with | some x => x | none => []).getD 2 (0 : Int) && ((match a[i.toNat]? with | some x => x | none => []).getD 3 (0 : Int) == (match b[i.toNat]? with | some x => x | none => []).getD 3 (0 : Int) && ((match a[i.toNat]? with | some x => x | none => []).getD 4 (0 : Int) == (match b[i.toNat]? with | some x => x | none => []).getD 4 (0 : Int) && ((match a[i.toNat]? with | some x => x | none => []).getD 5 (0 : Int) == (match b[i.toNat]? with | some x => x | none => []).getD 5 (0 : Int) && ((match a[i.toNat]? with | some x => x | none => []).getD 6 (0 : Int) == (match b[i.toNat]? with | some x => x | none => []).getD 6 (0 : Int) && (match a[i.toNat]? with | some x => x | none => []).getD 7 (0 : Int) == (match b[i.toNat]? with | some x => x | none => []).getD 7 (0 : Int)))))))) then K .ret [.one (.bool false)] [] else K .normal [.one (.data (Row.mat .i64 8 a)), .one (.data (Row.mat .i64 8 b)), .one (.int .i64 (IntKind.i64.wrap (i + (1 : Int))))] [] else False else False else False else False else K (.exit 0) [AV.any] []) := by kernel_rfl
end Go.Ev

namespace Go.Ev
open Go Go.Proofs
attribute [local irreducible] evFn evBody
set_option maxRecDepth 20000
theorem lok135 : LoopOK E135 (lb Try.f135 0) [0, 1, 7, 8] [4] indexL := by
  refine loopOK .nil (noInner (by kernel_rfl)) (fun vs _ => match vs with
    | [.one (.data (.ints .i64 l)), _, _, .one (.int .i64 i)] => l.length - i.toNat
    | _ => 0) fun vs σ k h => ?_
  unfold indexL at h
  split at h
  · rename_i l v n i
    rw [ex135a l v n i _]
    obtain ⟨⟨h1, h2, rfl⟩, h⟩ := h
    by_cases hi : i < l.length
    · have hw : IntKind.i64.wrap (i + 1) = i + 1 := wrap_id (by omega) (by omega)
      have hi' : i.toNat < l.length := by omega
      have hmu : l.length - (i + 1).toNat < l.length - i.toNat := by omega
      have e : idxOfI v i (l.drop i.toNat) = bif v == l.getD i.toNat 0 then i else idxOfI v (i + 1) (l.drop (i + 1).toNat) := by
        rw [drop_step 0 (by omega), show (i + 1).toNat = i.toNat + 1 by omega]
        rfl
      have e2 : memB v (l.drop i.toNat) = (v == l.getD i.toNat 0 || memB v (l.drop (i + 1).toNat)) := any_step h2 hi
      rw [e2, e] at h
      simp only [hi, hi', h2, hw, Nat.add_zero, decide_true, Bool.and_self, cond_true]
      cases hs : v == l.getD i.toNat 0 with
      | false => rw [hs] at h; exact ⟨⟨⟨h1, by omega, rfl⟩, h⟩, hmu⟩
      | true => rw [hs] at h; exact h
    · rw [List.drop_eq_nil_of_le (by omega)] at h
      simp only [hi, decide_false, cond_false]
      exact h
  · exact h.elim
theorem idxOf_none {v : Int} : ∀ {l : List Int} {i : Int}, memB v l = false → idxOfI v i l = -1
  | [], _, _ => rfl
  | b :: l, i, h => by
    simp only [memB, List.any_cons, Bool.or_eq_false_iff] at h
    simp only [idxOfI, h.1, cond_false]
    exact idxOf_none h.2
theorem idxOf_some {v : Int} : ∀ {l : List Int} {i : Int}, memB v l = true → i ≤ idxOfI v i l
  | [], _, h => by simp [memB] at h
  | b :: l, i, h => by
    simp only [idxOfI]
    cases hb : v == b with
    | true => exact Int.le_refl _
    | false =>
      simp only [memB, List.any_cons, hb, Bool.false_or] at h
      have := idxOf_some (v := v) (i := i + 1) h
      simp only [cond_false]
      omega
theorem ok135 : SpecOK Try.prog 135 indexS := by
  refine specOK (n := 19) (m := 0) (lps := [(2, .spec [0, 1, 7, 8] [4] indexL)]) .nil Try.func135 (by kernel_rfl) (by kernel_rfl) (theLoops (n := 1) (by kernel_rfl) fun i hi => ?_) fun args σ K h => ?_
  · match i, hi with
    | 0, _ => exact loopHyp_of (key := 2) (by kernel_rfl) rfl lok135
  · unfold indexS at h
    split at h
    · rename_i l v
      rw [ex135 l v K]
      obtain ⟨h1, h⟩ := h
      refine ⟨⟨h1, by omega, rfl⟩, ?_⟩
      cases hs : memB v l with
      | true => exact h
      | false => rw [idxOf_none hs] at h; exact h
    · exact h.elim
theorem ok113 : SpecOK Try.prog 113 containsS := by
  refine specOK (n := 9) (m := 0) (lps := []) (.cons ok135 .nil) Try.func113 (by kernel_rfl) (by kernel_rfl) (noLoops (by kernel_rfl)) fun args σ K h => ?_
  unfold containsS at h
  split at h
  · rename_i l v
    rw [ex113 l v K]
    have e : decide (idxOfI v 0 l ≥ 0) = memB v l := by
      cases hs : memB v l with
      | true => exact decide_eq_true (idxOf_some hs)
      | false => rw [idxOf_none hs]; rfl
    rw [e]
    exact h
  · exact h.elim
theorem facG_range (i j : Int) : 0 ≤ facG i j ∧ facG i j < 65537 := (inv_ref (modG_range (4 + i - j))).2.2
theorem ok115 : SpecOK Try.prog 115 factorS := by
  refine specOK (n := 11) (m := 0) (lps := []) (.cons ok116 (.cons ok98 .nil)) Try.func115 (by kernel_rfl) (by kernel_rfl) (noLoops (by kernel_rfl)) fun args σ K h => ?_
  unfold factorS at h
  split at h
  · rename_i i j
    rw [ex115 i j K]
    obtain ⟨h1, h⟩ := h
    rw [wrap_id (n := 4 + i) (by omega) (by omega), wrap_id (by omega) (by omega)]
    exact ⟨modG_range _, h⟩
  · exact h.elim
theorem row_some {l : List (List Int)} {n : Nat} (h : n < l.length) (h8 : l.all len8 = true) : ∃ xs, l[n]? = some xs ∧ xs.length = 8 ∧ l.drop n = xs :: l.drop (n + 1) ∧ l.getD n [] = xs := by
  refine ⟨l[n], List.getElem?_eq_getElem h, ?_, List.drop_eq_getElem_cons h, by simp [List.getD, h]⟩
  have := List.all_eq_true.1 h8 _ (List.getElem_mem h)
  unfold len8 at this
  simpa using this
theorem lok99 : LoopOK E99 (lb Try.f99 0) [1, 8, 9, 10] [4] each8L := by
  refine loopOK (.cons ok82 .nil) (noInner (by kernel_rfl)) (fun vs _ => match vs with
    | [_, .one (.data (.mat .i64 8 l)), _, .one (.int .i64 i)] => l.length - i.toNat
    | _ => 0) fun vs σ k h => ?_
  unfold each8L at h
  split at h
  · rename_i l n i
    rw [ex99a l n i _]
    obtain ⟨⟨h1, h2, rfl, h8⟩, h⟩ := h
    by_cases hi : i < l.length
    · have hw : IntKind.i64.wrap (i + 1) = i + 1 := wrap_id (by omega) (by omega)
      have hi' : i.toNat < l.length := by omega
      have hmu : l.length - (i + 1).toNat < l.length - i.toNat := by omega
      obtain ⟨xs, hxs, hx8, hd, _⟩ := row_some hi' h8
      rw [hd, List.all_cons, show i.toNat + 1 = (i + 1).toNat by omega] at h
      simp only [hxs, list8 hx8]
      simp only [hi, hi', h2, hw, decide_true, Bool.and_self, cond_true, show decide (7 < 8) = true by decide]
      unfold okRow at h
      cases hs : xs.all sampleG with
      | true => rw [hs] at h; exact ⟨⟨⟨h1, by omega, rfl, h8⟩, h⟩, hmu⟩
      | false => rw [hs] at h; exact h
    · rw [List.drop_eq_nil_of_le (by omega)] at h
      simp only [hi, decide_false, cond_false]
      exact h
  · exact h.elim
theorem ok99 : SpecOK Try.prog 99 each8S := by
  refine specOK (n := 21) (m := 0) (lps := [(2, .spec [1, 8, 9, 10] [4] each8L)]) (.cons ok82 .nil) Try.func99 (by kernel_rfl) (by kernel_rfl) (theLoops (n := 1) (by kernel_rfl) fun i hi => ?_) fun args σ K h => ?_
  · match i, hi with
    | 0, _ => exact loopHyp_of (key := 2) (by kernel_rfl) rfl lok99
  · unfold each8S at h
    split at h
    · rename_i l
      rw [ex99 l K]
      obtain ⟨⟨h1, h8⟩, h⟩ := h
      refine ⟨⟨h1, by omega, rfl, h8⟩, ?_⟩
      cases hs : l.all okRow with
      | true => rw [hs] at h; exact h
      | false => rw [hs] at h; exact h
    · exact h.elim
theorem kept_cons {ws : List Int} {i : Int} {xs : List Int} {l : List (List Int)} (h : keptB ws i (xs :: l) = true) : (memB i ws = true ∨ okRow xs = true) ∧ keptB ws (i + 1) l = true := by
  simp only [keptB, Bool.and_eq_true, Bool.or_eq_true] at h
  exact h
theorem okRow_get {xs : List Int} (h : okRow xs = true) (a : Nat) : -32767 ≤ xs.getD a 0 ∧ xs.getD a 0 ≤ 32767 := by
  by_cases ha : a < xs.length
  · rw [getD_of_lt ha]; exact sample_range (List.all_eq_true.1 h _ (List.getElem_mem ha))
  · rw [List.getD, List.getElem?_eq_none (by omega)]; exact ⟨by decide, by decide⟩
theorem parR_cons (ws : List Int) (j : Int) (a : Nat) (out i : Int) (xs : List Int) (l : List (List Int)) : parR ws j a out i (xs :: l) = parR ws j a (bif memB i ws then out else modG (out + modG (facG i j * modG (xs.getD a 0 + 32768)))) (i + 1) l := rfl
theorem lok100 : LoopOK E100 (lb Try.f100 0) [1, 2, 3, 9, 12, 13, 14] [9] parityL := by
  refine loopOK (.cons ok113 (.cons ok115 (.cons ok116 (.cons ok130 .nil)))) (noInner (by kernel_rfl)) (fun vs _ => match vs with
    | [_, _, _, _, .one (.data (.mat .i64 8 l)), _, .one (.int .i64 i)] => l.length - i.toNat
    | _ => 0) fun vs σ k h => ?_
  unfold parityL at h
  split at h
  · rename_i ws j a out xss n i
    rw [ex100a xss ws j a out n i _]
    obtain ⟨⟨h1, h2, h3, h4, h5, h6, h7, rfl, h9, h10, h8, hk⟩, h⟩ := h
    by_cases hi : i < xss.length
    · have hw : IntKind.i64.wrap (i + 1) = i + 1 := wrap_id (by omega) (by omega)
      have hi' : i.toNat < xss.length := by omega
      have hmu : xss.length - (i + 1).toNat < xss.length - i.toNat := by omega
      obtain ⟨xs, hxs, hx8, hd, _⟩ := row_some hi' h8
      rw [hd] at hk
      obtain ⟨hk1, hk2⟩ := kept_cons hk
      rw [hd, parR_cons, show i.toNat + 1 = (i + 1).toNat by omega] at h
      rw [show i.toNat + 1 = (i + 1).toNat by omega] at hk2
      simp only [hxs, list8 hx8]
      have ha7 : a < 8 := by omega
      have ha8 : a.toNat < xs.length := by omega
      have h1' : ws.length ≤ 1000000000 := by omega
      simp only [hi, hi', h5, ha7, ha8, h7, hw, Nat.zero_add, Nat.add_zero, decide_true, Bool.and_self, cond_true, show decide (7 < 8) = true by decide]
      refine ⟨h1', ?_⟩
      cases hm : memB i ws with
      | true =>
        rw [hm] at h
        exact ⟨⟨⟨h1, h2, h3, h4, h5, h6, by omega, rfl, h9, h10, h8, hk2⟩, h⟩, hmu⟩
      | false =>
        rw [hm] at h hk1
        have hok := hk1.resolve_left (by simp)
        have hg := okRow_get hok a.toNat
        have hf := facG_range i j
        have hv := modG_range (xs.getD a.toNat 0 + 32768)
        have hv2 := modG_range (facG i j * modG (xs.getD a.toNat 0 + 32768))
        have hv3 := modG_range (out + modG (facG i j * modG (xs.getD a.toNat 0 + 32768)))
        simp only [Bool.not_false, cond_true]
        rw [wrap_id (n := xs.getD a.toNat 0 + 32768) (by omega) (by omega), wrap_id (n := out + modG (facG i j * modG (xs.getD a.toNat 0 + 32768))) (by omega) (by omega)]
        exact ⟨⟨trivial, by omega, h3, h4⟩, ⟨hf.1, hf.2, hv.1, hv.2⟩, ⟨⟨h1, h2, h3, h4, h5, h6, by omega, rfl, hv3.1, hv3.2, h8, hk2⟩, h⟩, hmu⟩
    · rw [List.drop_eq_nil_of_le (by omega)] at h
      simp only [hi, decide_false, cond_false]
      exact h
  · exact h.elim
theorem ok100 : SpecOK Try.prog 100 parityS := by
  refine specOK (n := 37) (m := 0) (lps := [(3, .spec [1, 2, 3, 9, 12, 13, 14] [9] parityL)]) (.cons ok113 (.cons ok115 (.cons ok116 (.cons ok130 .nil)))) Try.func100 (by kernel_rfl) (by kernel_rfl) (theLoops (n := 1) (by kernel_rfl) fun i hi => ?_) fun args σ K h => ?_
  · match i, hi with
    | 0, _ => exact loopHyp_of (key := 3) (by kernel_rfl) rfl lok100
  · unfold parityS at h
    split at h
    · rename_i xss ws j a
      rw [ex100 xss ws j a K]
      obtain ⟨⟨h1, h2, h3, h4, h5, h6, h7, h8⟩, h⟩ := h
      exact ⟨⟨h1, h2, h3, h4, h5, h6, by decide, rfl, by decide, by decide, h7, h8⟩, h⟩
    · exact h.elim
theorem colsF_length (xss : List (List Int)) (j : Int) : ∀ (c a : Nat), (colsF xss j a c).length = c
  | 0, _ => rfl
  | c + 1, a => by simp [colsF, colsF_length xss j c]
theorem rowsF_length (xss : List (List Int)) : ∀ (c : Nat) (j : Int), (rowsF xss j c).length = c
  | 0, _ => rfl
  | c + 1, j => by simp [rowsF, rowsF_length xss c]
theorem rowsF_len8 (xss : List (List Int)) : ∀ (c : Nat) (j : Int), (rowsF xss j c).all len8 = true
  | 0, _ => rfl
  | c + 1, j => by simp [rowsF, rowsF_len8 xss c, len8, colsF_length]
theorem all_set {l : List (List Int)} {n : Nat} {x : List Int} (h : l.all len8 = true) (hx : len8 x = true) : (l.set n x).all len8 = true := by
  rw [List.all_eq_true] at h ⊢
  intro y hy
  rcases List.mem_or_eq_of_mem_set hy with hy | hy
  · exact h y hy
  · rw [hy]; exact hx
theorem ok40L : AllOK Try.prog [(70, unlessS), (99, each8S), (71, withinS), (69, firstS), (100, parityS)] := .cons ok70 (.cons ok99 (.cons ok71 (.cons ok69 (.cons ok100 .nil))))
theorem set_take {l : List Int} {a : Nat} {v : Int} {r : List Int} (h : a < l.length) : (l.set a v).take (a + 1) ++ r = l.take a ++ (v :: r) := by
  rw [take_set_succ h, List.append_assoc]
  rfl
theorem lok40b : LoopOK E40 (lb Try.f40 1) [0, 7, 8, 31, 32, 35] [0, 7, 31, 32] par9L := by
  refine loopOK ok40L (noInner (by kernel_rfl)) (fun vs _ => match vs with
    | [_, _, _, _, _, .one (.int .i64 a)] => (8 - a).toNat
    | _ => 0) fun vs σ k h => ?_
  unfold par9L at h
  split at h
  · rename_i xss j n jj a out
    rw [ex40b xss out n j jj a _]
    obtain ⟨⟨⟨d1, d2, d3⟩, h2, h3, h4, h5, h6, h8⟩, h⟩ := h
    have hj' : j.toNat < out.length := by omega
    obtain ⟨xs, hxs, hx8, _, hg⟩ := row_some hj' h8
    simp only [hxs]
    rw [hg] at h
    by_cases hi : a < 8
    · have hw : IntKind.i64.wrap (a + 1) = a + 1 := wrap_id (by omega) (by omega)
      have e1 : (8 - a).toNat = (8 - (a + 1)).toNat + 1 := by omega
      have hmu : (8 - (a + 1)).toNat < (8 - a).toNat := by omega
      have ha8 : a.toNat < 8 := by omega
      simp only [hi, h3, h4, h5, hj', ha8, hx8, hw, Nat.zero_add, decide_true, Bool.and_self, cond_true]
      have hl8 : len8 (xs.set a.toNat (parR [] j a.toNat 0 0 xss)) = true := by unfold len8; rw [List.length_set, hx8]; rfl
      have hset := all_set (n := j.toNat) h8 hl8
      refine ⟨⟨Nat.zero_le _, d1, trivial, by omega, trivial, by omega, d2, d3⟩, ⟨⟨⟨d1, d2, d3⟩, by rw [List.length_set]; exact h2, h3, by rw [List.length_set]; exact h4, by omega, by omega, hset⟩, ?_⟩, hmu⟩
      have e2 : ((out.set j.toNat (xs.set a.toNat (parR [] j a.toNat 0 0 xss))).getD j.toNat []) = xs.set a.toNat (parR [] j a.toNat 0 0 xss) := by
        simp [List.getD, hj']
      rw [e1] at h
      rw [e2, List.set_set, show (a + 1).toNat = a.toNat + 1 by omega, set_take (by rw [hx8]; exact ha8)]
      exact h
    · have e : a = 8 := by omega
      subst e
      simp only [Int.toNat_zero, show (8 - 8 : Int).toNat = 0 by decide, colsF, List.append_nil] at h
      rw [List.take_of_length_le (by rw [hx8]; decide)] at h
      have e2 : out.set j.toNat xs = out := by
        have := List.getElem?_eq_some_iff.1 hxs
        obtain ⟨p, q⟩ := this
        rw [← q]; exact List.set_getElem_self p
      rw [e2] at h
      exact h
  · exact h.elim
theorem inner40 : ∀ b' ∈ loopsOf (lb Try.f40 0), LoopHyp E40 b' := by
  have hl : loopsOf (lb Try.f40 0) = [lb Try.f40 1] := by kernel_rfl
  rw [hl]
  intro b' hb
  rw [List.mem_singleton] at hb
  subst hb
  exact loopHyp_of (key := 9) (by kernel_rfl) rfl lok40b
theorem lok40a : LoopOK E40 (lb Try.f40 0) [0, 7, 31, 32] [7] par6L := by
  refine loopOK ok40L inner40 (fun vs _ => match vs with
    | [_, _, .one (.int .i64 n), .one (.int .i64 j)] => (n - j).toNat
    | _ => 0) fun vs σ k h => ?_
  unfold par6L at h
  split at h
  · rename_i xss n j out
    rw [ex40a xss out n j _]
    obtain ⟨⟨⟨d1, d2, d3⟩, rfl, h2, h3, h4, h8⟩, h⟩ := h
    by_cases hi : j < out.length
    · have hw : IntKind.i64.wrap (j + 1) = j + 1 := wrap_id (by omega) (by omega)
      have hj' : j.toNat < out.length := by omega
      have e1 : ((out.length : Int) - j).toNat = ((out.length : Int) - (j + 1)).toNat + 1 := by omega
      have hmu : ((out.length : Int) - (j + 1)).toNat < ((out.length : Int) - j).toNat := by omega
      have hl8 : len8 (colsF xss j 0 8) = true := by unfold len8; rw [colsF_length]; rfl
      simp only [hi, decide_true, cond_true, hw]
      refine ⟨⟨⟨d1, d2, d3⟩, h2, h3, trivial, by decide, by decide, h8⟩, ⟨⟨⟨d1, d2, d3⟩, by rw [List.length_set], by rw [List.length_set]; exact h2, by omega, by omega, all_set h8 hl8⟩, ?_⟩, hmu⟩
      rw [e1] at h
      rw [show (j + 1).toNat = j.toNat + 1 by omega, take_set_succ hj', List.append_assoc]
      exact h
    · have e : j = out.length := by omega
      subst e
      simp only [Int.sub_self, Int.toNat_zero, rowsF, List.append_nil] at h
      rw [List.take_of_length_le (by omega)] at h
      simp only [hi, decide_false, cond_false]
      exact h
  · exact h.elim
theorem kept_all {xss : List (List Int)} (h : xss.all okRow = true) : ∀ i, keptB [] i xss = true := by
  induction xss with
  | nil => intro i; rfl
  | cons xs l ih =>
    intro i
    simp only [List.all_cons, Bool.and_eq_true] at h
    simp only [keptB, h.1, ih h.2, Bool.or_true, Bool.and_self]
theorem dataE_ok {xss : List (List Int)} {c : Int} (h : (dataE xss c == 0) = true) : 0 < xss.length ∧ xss.length ≤ 12 ∧ xss.all okRow = true ∧ 1 ≤ c ∧ c ≤ 4 := by
  unfold dataE at h
  cases h1 : decide ((xss.length : Int) > 0) <;> cases h2 : decide ((xss.length : Int) ≤ 12) <;> cases h3 : xss.all okRow <;> cases h4 : withinG c 1 4 <;> rw [h1, h2, h3, h4] at h
  all_goals first | exact absurd h (by decide) | skip
  have h1 := of_decide_eq_true h1
  have h2 := of_decide_eq_true h2
  unfold withinG at h4
  simp only [Bool.and_eq_true, decide_eq_true_eq] at h4
  exact ⟨by omega, by omega, rfl, h4.1, h4.2⟩
theorem ok40 : SpecOK Try.prog 40 parityOfS := by
  refine specOK (n := 50) (m := 0) (lps := [(6, .spec [0, 7, 31, 32] [7] par6L), (9, .spec [0, 7, 8, 31, 32, 35] [0, 7, 31, 32] par9L)]) ok40L Try.func40 (by kernel_rfl) (by kernel_rfl) (theLoops (n := 2) (by kernel_rfl) fun i hi => ?_) fun args σ K h => ?_
  · match i, hi with
    | 0, _ => exact loopHyp_of (key := 6) (by kernel_rfl) rfl lok40a
    | 1, _ => exact loopHyp_of (key := 9) (by kernel_rfl) rfl lok40b
  · unfold parityOfS at h
    split at h
    · rename_i xss c
      rw [ex40 xss c K]
      obtain ⟨⟨h1, h8⟩, h⟩ := h
      refine ⟨⟨h1, h8⟩, (by decide : (4 : Nat) ≤ 1000), ?_⟩
      have e : firstE [bif decide ((xss.length : Int) > 0) then 0 else 10, bif decide ((xss.length : Int) ≤ 12) then 0 else 8, bif xss.all okRow then 0 else 2, bif decide (1 ≤ c) && decide (c ≤ 4) then 0 else 2] = dataE xss c := rfl
      rw [e]
      cases hd : dataE xss c == 0 with
      | false =>
        rw [hd] at h
        rw [show (dataE xss c != 0) = true by rw [bne, hd]; rfl]
        exact h
      | true =>
        rw [hd] at h
        rw [show (dataE xss c != 0) = false by rw [bne, hd]; rfl]
        obtain ⟨g1, g2, g3, g4, g5⟩ := dataE_ok hd
        have g6 : (0 : Int) ≤ c := by omega
        have g7 : c * 64 ≤ 140737488355328 ∧ c ≤ 140737488355328 := by omega
        simp only [cond_false, g6, g7, Int.le_refl, decide_true, Bool.and_self, cond_true, List.length_replicate, and_self]
        refine ⟨⟨⟨by omega, h8, kept_all g3 0⟩, trivial, by omega, trivial, by omega, ?_⟩, ?_⟩
        · rw [List.all_eq_true]
          intro y hy
          rw [(List.mem_replicate.1 hy).2]
          rfl
        · rw [show ((c.toNat : Int) - 0).toNat = c.toNat by omega]
          exact h
    · exact h.elim
theorem ok41 : SpecOK Try.prog 41 copyDataS := by
  refine specOK (n := 6) (m := 0) (lps := []) .nil Try.func41 (by kernel_rfl) (by kernel_rfl) (noLoops (by kernel_rfl)) fun args σ K h => ?_
  unfold copyDataS at h
  split at h
  · rename_i l
    rw [ex41 l K]
    obtain ⟨h1, h⟩ := h
    rw [decide_eq_true (by omega), cond_true]
    exact h
  · exact h.elim
theorem lok44 : LoopOK E44 (lb Try.f44 0) [0, 1, 5] [1, 4] dataErrL := by
  refine loopOK (.cons ok29 (.cons ok25 .nil)) (noInner (by kernel_rfl)) (fun vs _ => match vs with
    | [.one (.data (.mat .i64 8 l)), _, .one (.int .i64 i)] => l.length - i.toNat
    | _ => 0) fun vs σ k h => ?_
  unfold dataErrL at h
  split at h
  · rename_i l c i
    rw [ex44a l c i _]
    obtain ⟨⟨h1, h2, h8⟩, h⟩ := h
    by_cases hi : i < l.length
    · have hw : IntKind.i64.wrap (i + 1) = i + 1 := wrap_id (by omega) (by omega)
      have hi' : i.toNat < l.length := by omega
      have hmu : l.length - (i + 1).toNat < l.length - i.toNat := by omega
      obtain ⟨xs, hxs, hx8, hd, _⟩ := row_some hi' h8
      rw [hd, List.all_cons, show i.toNat + 1 = (i + 1).toNat by omega] at h
      simp only [hxs, list8 hx8]
      simp only [hi, hi', h2, hw, decide_true, Bool.and_self, cond_true, show decide (7 < 8) = true by decide]
      unfold okRow at h
      cases hs : xs.all sampleG with
      | true => rw [hs] at h; exact ⟨⟨⟨h1, by omega, h8⟩, h⟩, hmu⟩
      | false => rw [hs] at h; exact h
    · rw [List.drop_eq_nil_of_le (by omega)] at h
      simp only [hi, decide_false, cond_false]
      exact h
  · exact h.elim
theorem eq8 {xs ys : List Int} (h1 : xs.length = 8) (h2 : ys.length = 8) : (xs.getD 0 0 == ys.getD 0 0 && (xs.getD 1 0 == ys.getD 1 0 && (xs.getD 2 0 == ys.getD 2 0 && (xs.getD 3 0 == ys.getD 3 0 && (xs.getD 4 0 == ys.getD 4 0 && (xs.getD 5 0 == ys.getD 5 0 && (xs.getD 6 0 == ys.getD 6 0 && xs.getD 7 0 == ys.getD 7 0))))))) = (xs == ys) := by
  match xs, ys, h1, h2 with
  | [a0, a1, a2, a3, a4, a5, a6, a7], [b0, b1, b2, b3, b4, b5, b6, b7], _, _ => simp [List.cons_beq_cons]
theorem lok45 : LoopOK E45 (lb Try.f45 0) [0, 1, 5] [4] sameDataL := by
  refine loopOK .nil (noInner (by kernel_rfl)) (fun vs _ => match vs with
    | [.one (.data (.mat .i64 8 l)), _, .one (.int .i64 i)] => l.length - i.toNat
    | _ => 0) fun vs σ k h => ?_
  unfold sameDataL at h
  split at h
  · rename_i a b i
    rw [ex45a a b i _]
    obtain ⟨⟨h1, h2, h3, h8, h8'⟩, h⟩ := h
    by_cases hi : i < a.length
    · have hw : IntKind.i64.wrap (i + 1) = i + 1 := wrap_id (by omega) (by omega)
      have hi' : i.toNat < a.length := by omega
      have hj : i < b.length := by omega
      have hj' : i.toNat < b.length := by omega
      have hmu : a.length - (i + 1).toNat < a.length - i.toNat := by omega
      obtain ⟨xs, hxs, hx8, hd, _⟩ := row_some hi' h8
      obtain ⟨ys, hys, hy8, hd', _⟩ := row_some hj' h8'
      rw [hd, hd', show i.toNat + 1 = (i + 1).toNat by omega, List.cons_beq_cons] at h
      simp only [hxs, hys, eq8 hx8 hy8]
      simp only [hi, hi', hj, hj', h3, hw, decide_true, Bool.and_self, cond_true, show decide (7 < 8) = true by decide]
      cases hs : xs == ys with
      | true =>
        rw [hs, Bool.true_and] at h
        exact ⟨⟨⟨h1, h2, by omega, h8, h8'⟩, h⟩, hmu⟩
      | false => rw [hs] at h; exact h
    · rw [List.drop_eq_nil_of_le (by omega), List.drop_eq_nil_of_le (by omega)] at h
      simp only [hi, decide_false, cond_false]
      exact h
  · exact h.elim
theorem ok45 : SpecOK Try.prog 45 sameDataS := by
  refine specOK (n := 26) (m := 0) (lps := [(4, .spec [0, 1, 5] [4] sameDataL)]) .nil Try.func45 (by kernel_rfl) (by kernel_rfl) (theLoops (n := 1) (by kernel_rfl) fun i hi => ?_) fun args σ K h => ?_
  · match i, hi with
    | 0, _ => exact loopHyp_of (key := 4) (by kernel_rfl) rfl lok45
  · unfold sameDataS at h
    split at h
    · rename_i a b
      rw [ex45 a b K]
      obtain ⟨⟨h1, h8, h8'⟩, h⟩ := h
      by_cases hl : a.length = b.length
      · have e : ((a.length : Int) != (b.length : Int)) = false := by simp [hl]
        rw [e]
        refine ⟨⟨h1, hl, by decide, h8, h8'⟩, ?_⟩
        cases hs : a == b <;> rw [hs] at h <;> exact h
      · have e : ((a.length : Int) != (b.length : Int)) = true := by simp; omega
        have e2 : (a == b) = false := beq_eq_false_iff_ne.2 fun hh => hl (by rw [hh])
        rw [e2] at h
        rw [e]
        exact h
    · exact h.elim
end Go.Ev
