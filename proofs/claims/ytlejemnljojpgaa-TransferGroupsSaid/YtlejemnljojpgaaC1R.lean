/-
  Chapter 1, contracts: parities.
-/
import Derived.Test.YtlejemnljojpgaaC1J
import Derived.Test.YtlejemnljojpgaaC1CI
import Derived.Test.YtlejemnljojpgaaC1Q
import Derived.KernelRfl
set_option linter.unusedVariables false
set_option linter.unusedSimpArgs false
set_option linter.unusedSectionVars false
namespace Go.Ev
open Go Go.Proofs
set_option maxRecDepth 20000
def memB (v : Int) (l : List Int) : Bool := l.any fun x => v == x
def idxOfI (v : Int) : Int → List Int → Int
  | _, [] => -1
  | i, x :: l => bif v == x then i else idxOfI v (i + 1) l
def indexL : LSpec := fun vs σ k => match vs, σ with
  | [.one (.data (.ints .i64 l)), .one (.int .i64 v), .one (.int .i64 n), .one (.int .i64 i)], [] =>
    (l.length ≤ 1000000000 ∧ 0 ≤ i ∧ n = l.length) ∧ bif memB v (l.drop i.toNat) then k .ret [.one (.int .i64 (idxOfI v i (l.drop i.toNat)))] [] else k (.exit 0) [.any] []
  | _, _ => False
def indexS : Spec := fun args σ K => match args, σ with
  | [.one (.data (.ints .i64 l)), .one (.int .i64 v)], [] => l.length ≤ 1000000000 ∧ K (.one (.int .i64 (idxOfI v 0 l))) []
  | _, _ => False
def containsS : Spec := fun args σ K => match args, σ with
  | [.one (.data (.ints .i64 l)), .one (.int .i64 v)], [] => l.length ≤ 1000000000 ∧ K (.one (.bool (memB v l))) []
  | _, _ => False
def facG (i j : Int) : Int := invG (modG (4 + i - j))
def factorS : Spec := fun args σ K => match args, σ with
  | [.one (.int .i64 i), .one (.int .i64 j)], [] => (0 ≤ i ∧ i ≤ 1000 ∧ 0 ≤ j ∧ j ≤ 1000) ∧ K (.one (.int .i64 (facG i j))) []
  | _, _ => False
def refFactorS : Spec := fun args σ K => match args, σ with
  | [.one (.int .i64 i), .one (.int .i64 j)], [] => (0 ≤ i ∧ i ≤ 1000 ∧ 0 ≤ j ∧ j ≤ 3) ∧ K (.one (.int .i64 (facG i j))) []
  | _, _ => False
def len8 (xs : List Int) : Bool := xs.length == 8
def okRow (xs : List Int) : Bool := xs.all sampleG
def keptB (ws : List Int) : Int → List (List Int) → Bool
  | _, [] => true
  | i, xs :: l => (memB i ws || okRow xs) && keptB ws (i + 1) l
def parR (ws : List Int) (j : Int) (at_ : Nat) : Int → Int → List (List Int) → Int
  | out, _, [] => out
  | out, i, xs :: l => parR ws j at_ (bif memB i ws then out else modG (out + modG (facG i j * modG (xs.getD at_ 0 + 32768)))) (i + 1) l
def parityL : LSpec := fun vs σ k => match vs, σ with
  | [.one (.data (.ints .i64 ws)), .one (.int .i64 j), .one (.int .i64 a), .one (.int .i64 out), .one (.data (.mat .i64 8 xss)), .one (.int .i64 n), .one (.int .i64 i)], [] =>
    (ws.length ≤ 1000 ∧ xss.length ≤ 1000 ∧ 0 ≤ j ∧ j ≤ 1000 ∧ 0 ≤ a ∧ a ≤ 7 ∧ 0 ≤ i ∧ n = xss.length ∧ 0 ≤ out ∧ out < 65537 ∧ xss.all len8 = true ∧ keptB ws i (xss.drop i.toNat) = true) ∧
    k (.exit 0) [.one (.int .i64 (parR ws j a.toNat out i (xss.drop i.toNat)))] []
  | _, _ => False
def parityS : Spec := fun args σ K => match args, σ with
  | [.one (.data (.mat .i64 8 xss)), .one (.data (.ints .i64 ws)), .one (.int .i64 j), .one (.int .i64 a)], [] =>
    (ws.length ≤ 1000 ∧ xss.length ≤ 1000 ∧ 0 ≤ j ∧ j ≤ 1000 ∧ 0 ≤ a ∧ a ≤ 7 ∧ xss.all len8 = true ∧ keptB ws 0 xss = true) ∧ K (.one (.int .i64 (parR ws j a.toNat 0 0 xss))) []
  | _, _ => False
def each8L : LSpec := fun vs σ k => match vs, σ with
  | [.one (.func 82 []), .one (.data (.mat .i64 8 l)), .one (.int .i64 n), .one (.int .i64 i)], [] =>
    (l.length ≤ 1000000000 ∧ 0 ≤ i ∧ n = l.length ∧ l.all len8 = true) ∧ bif (l.drop i.toNat).all okRow then k (.exit 0) [.any] [] else k .ret [.one (.int .i64 2)] []
  | _, _ => False
def each8S : Spec := fun args σ K => match args, σ with
  | [.one (.data (.mat .i64 8 l)), .one (.func 82 [])], [] => (l.length ≤ 1000000000 ∧ l.all len8 = true) ∧ K (.one (.int .i64 (bif l.all okRow then 0 else 2))) []
  | _, _ => False
def colsF (xss : List (List Int)) (j : Int) : Nat → Nat → List Int
  | _, 0 => []
  | a, c + 1 => parR [] j a 0 0 xss :: colsF xss j (a + 1) c
def rowsF (xss : List (List Int)) : Int → Nat → List (List Int)
  | _, 0 => []
  | j, c + 1 => colsF xss j 0 8 :: rowsF xss (j + 1) c
def parM (xss : List (List Int)) (count : Int) : List (List Int) := rowsF xss 0 count.toNat
def okData (xss : List (List Int)) : Prop := xss.length ≤ 1000 ∧ xss.all len8 = true ∧ keptB [] 0 xss = true
def par6L : LSpec := fun vs σ k => match vs, σ with
  | [.one (.data (.mat .i64 8 xss)), .one (.own 0 8), .one (.int .i64 n), .one (.int .i64 j)], [.row 35 (.mat .i64 8 out)] =>
    (okData xss ∧ n = out.length ∧ out.length ≤ 100 ∧ 0 ≤ j ∧ j ≤ n ∧ out.all len8 = true) ∧ k (.exit 0) [.one (.own 0 8)] [.row 35 (.mat .i64 8 (out.take j.toNat ++ rowsF xss j (n - j).toNat))]
  | _, _ => False
def par9L : LSpec := fun vs σ k => match vs, σ with
  | [.one (.data (.mat .i64 8 xss)), .one (.own 0 8), .one (.int .i64 j), .one (.int .i64 n), .one (.int .i64 jj), .one (.int .i64 a)], [.row 35 (.mat .i64 8 out)] =>
    (okData xss ∧ out.length ≤ 100 ∧ 0 ≤ j ∧ j < out.length ∧ 0 ≤ a ∧ a ≤ 8 ∧ out.all len8 = true) ∧
    k (.exit 2) [.one (.data (.mat .i64 8 xss)), .one (.own 0 8), .one (.int .i64 n), .one (.int .i64 jj)] [.row 35 (.mat .i64 8 (out.set j.toNat ((out.getD j.toNat []).take a.toNat ++ colsF xss j a.toNat (8 - a).toNat)))]
  | _, _ => False
def dataE (xss : List (List Int)) (c : Int) : Int := firstE [bif decide ((xss.length : Int) > 0) then 0 else 10, bif decide ((xss.length : Int) ≤ 12) then 0 else 8, bif xss.all okRow then 0 else 2, bif withinG c 1 4 then 0 else 2]
def parityOfS : Spec := fun args σ K => match args, σ with
  | [.one (.data (.mat .i64 8 xss)), .one (.int .i64 c)], [] => (xss.length ≤ 1000000000 ∧ xss.all len8 = true) ∧
    bif dataE xss c == 0 then K (.tup [.one (.own 0 8), .one (.int .i64 0)]) [.row 35 (.mat .i64 8 (parM xss c))] else K (.tup [.one .nil, .one (.int .i64 (dataE xss c))]) []
  | _, _ => False
def copyDataS : Spec := fun args σ K => match args, σ with
  | [.one (.data (.mat .i64 8 l))], [] => l.length ≤ 1000000 ∧ K (.one (.own 0 8)) [.row 35 (.mat .i64 8 l)]
  | _, _ => False
def inverseErrS : Spec := fun args σ K => match args, σ with
  | [.one (.int .i64 n)], [] => K (.one (.int .i64 (bif !withinG n 0 65536 then 2 else bif n == 0 then 11 else 0))) []
  | _, _ => False
def refInvL : LSpec := fun vs σ k => match vs, σ with
  | [.one (.int .i64 n), .one (.int .i64 out), .one (.int .i64 i)], [] => (0 ≤ n ∧ n < 65537 ∧ 0 ≤ out ∧ out < 65537 ∧ 0 ≤ i ∧ i ≤ 16) ∧ k (.exit 0) [.one (.int .i64 (refInvG n (16 - i).toNat out))] []
  | _, _ => False
def refInvS : Spec := fun args σ K => match args, σ with
  | [.one (.int .i64 n)], [] => (0 ≤ n ∧ n < 65537) ∧ K (.one (.int .i64 (invG n))) []
  | _, _ => False
def dataErrL : LSpec := fun vs σ k => match vs, σ with
  | [.one (.data (.mat .i64 8 l)), .one (.int .i64 c), .one (.int .i64 i)], [] =>
    (l.length ≤ 1000000000 ∧ 0 ≤ i ∧ l.all len8 = true) ∧ bif (l.drop i.toNat).all okRow then k (.exit 0) [.one (.int .i64 c), .any] [] else k .ret [.one (.int .i64 c), .one (.int .i64 2)] []
  | _, _ => False
def sameDataL : LSpec := fun vs σ k => match vs, σ with
  | [.one (.data (.mat .i64 8 a)), .one (.data (.mat .i64 8 b)), .one (.int .i64 i)], [] =>
    (a.length ≤ 1000000000 ∧ a.length = b.length ∧ 0 ≤ i ∧ a.all len8 = true ∧ b.all len8 = true) ∧ bif a.drop i.toNat == b.drop i.toNat then k (.exit 0) [.any] [] else k .ret [.one (.bool false)] []
  | _, _ => False
def sameDataS : Spec := fun args σ K => match args, σ with
  | [.one (.data (.mat .i64 8 a)), .one (.data (.mat .i64 8 b))], [] => (a.length ≤ 1000000000 ∧ a.all len8 = true ∧ b.all len8 = true) ∧ K (.one (.bool (a == b))) []
  | _, _ => False
def okRef (xss : List (List Int)) (j : Int) (p : List Int) : Prop := okData xss ∧ 0 ≤ j ∧ j ≤ 3 ∧ p.length = 8 ∧ ∀ x ∈ p, 0 ≤ x ∧ x < 65537
def ref10L : LSpec := fun vs σ k => match vs, σ with
  | [.one (.data (.mat .i64 8 xss)), .one (.int .i64 c), .one .nil, .one (.int .i64 j), .one (.ptr 0 1 0 0), .one (.int .i64 a), .one (.int .i64 i)], [.row 35 (.ints .i64 p)] =>
    (okRef xss j p ∧ 0 ≤ a ∧ a ≤ 7 ∧ 0 ≤ i ∧ i ≤ xss.length) ∧
    k (.exit 4) [.one (.data (.mat .i64 8 xss)), .one (.int .i64 c), .one .nil, .one (.int .i64 j), .one (.ptr 0 1 0 0), .one (.int .i64 a)] [.row 35 (.ints .i64 (p.set a.toNat (parR [] j a.toNat (p.getD a.toNat 0) i (xss.drop i.toNat))))]
  | [.one (.data (.mat .i64 8 xss)), .one (.int .i64 c), .one (.own 0 8), .one (.int .i64 j), .one (.ptr 1 1 0 0), .one (.int .i64 a), .one (.int .i64 i)], [.row 35 (.mat .i64 8 out), .row 35 (.ints .i64 p)] =>
    (okRef xss j p ∧ 0 ≤ a ∧ a ≤ 7 ∧ 0 ≤ i ∧ i ≤ xss.length) ∧
    k (.exit 4) [.one (.data (.mat .i64 8 xss)), .one (.int .i64 c), .one (.own 0 8), .one (.int .i64 j), .one (.ptr 1 1 0 0), .one (.int .i64 a)] [.row 35 (.mat .i64 8 out), .row 35 (.ints .i64 (p.set a.toNat (parR [] j a.toNat (p.getD a.toNat 0) i (xss.drop i.toNat))))]
  | _, _ => False
def ref7L : LSpec := fun vs σ k => match vs, σ with
  | [.one (.data (.mat .i64 8 xss)), .one (.int .i64 c), .one .nil, .one (.int .i64 j), .one (.ptr 0 1 0 0), .one (.int .i64 a)], [.row 35 (.ints .i64 p)] =>
    (okRef xss j p ∧ 0 ≤ a ∧ a ≤ 8 ∧ (∀ i, a.toNat ≤ i → p.getD i 0 = 0)) ∧
    k (.exit 2) [.one (.data (.mat .i64 8 xss)), .one (.int .i64 c), .one .nil, .one (.int .i64 j), .one (.ptr 0 1 0 0)] [.row 35 (.ints .i64 (p.take a.toNat ++ colsF xss j a.toNat (8 - a).toNat))]
  | [.one (.data (.mat .i64 8 xss)), .one (.int .i64 c), .one (.own 0 8), .one (.int .i64 j), .one (.ptr 1 1 0 0), .one (.int .i64 a)], [.row 35 (.mat .i64 8 out), .row 35 (.ints .i64 p)] =>
    (okRef xss j p ∧ 0 ≤ a ∧ a ≤ 8 ∧ (∀ i, a.toNat ≤ i → p.getD i 0 = 0)) ∧
    k (.exit 2) [.one (.data (.mat .i64 8 xss)), .one (.int .i64 c), .one (.own 0 8), .one (.int .i64 j), .one (.ptr 1 1 0 0)] [.row 35 (.mat .i64 8 out), .row 35 (.ints .i64 (p.take a.toNat ++ colsF xss j a.toNat (8 - a).toNat))]
  | _, _ => False
def ref3L : LSpec := fun vs σ k => match vs, σ with
  | [.one (.data (.mat .i64 8 xss)), .one (.int .i64 c), .one .nil, .one (.int .i64 j)], [] =>
    (okData xss ∧ j = 0 ∧ 1 ≤ c ∧ c ≤ 4) ∧ k (.exit 0) [.one (.own 0 8)] [.row 35 (.mat .i64 8 (rowsF xss 0 c.toNat))]
  | [.one (.data (.mat .i64 8 xss)), .one (.int .i64 c), .one (.own 0 8), .one (.int .i64 j)], [.row 35 (.mat .i64 8 out)] =>
    (okData xss ∧ out.length = j ∧ 1 ≤ j ∧ j ≤ c ∧ c ≤ 4) ∧ k (.exit 0) [.one (.own 0 8)] [.row 35 (.mat .i64 8 (out ++ rowsF xss j (c - j).toNat))]
  | _, _ => False
def refParityS : Spec := fun args σ K => match args, σ with
  | [.one (.data (.mat .i64 8 xss)), .one (.int .i64 c)], [] => (okData xss ∧ 1 ≤ c ∧ c ≤ 4) ∧ K (.one (.own 0 8)) [.row 35 (.mat .i64 8 (parM xss c))]
  | _, _ => False
noncomputable abbrev E135 : Env := envOf Try.prog [] [(2, .spec [0, 1, 7, 8] [4] indexL)] 19 0
noncomputable abbrev E113 : Env := envOf Try.prog [(135, indexS)] [] 9 0
noncomputable abbrev E115 : Env := envOf Try.prog [(116, moduloS), (98, inverseS)] [] 11 0
noncomputable abbrev E100 : Env := envOf Try.prog [(113, containsS), (115, factorS), (116, moduloS), (130, timesS)] [(3, .spec [1, 2, 3, 9, 12, 13, 14] [9] parityL)] 37 0
noncomputable abbrev E99 : Env := envOf Try.prog [(82, samplesS)] [(2, .spec [1, 8, 9, 10] [4] each8L)] 21 0
noncomputable abbrev E40 : Env := envOf Try.prog [(70, unlessS), (99, each8S), (71, withinS), (69, firstS), (100, parityS)] [(6, .spec [0, 7, 31, 32] [7] par6L), (9, .spec [0, 7, 8, 31, 32, 35] [0, 7, 31, 32] par9L)] 50 0
noncomputable abbrev E41 : Env := envOf Try.prog [] [] 6 0
noncomputable abbrev E43 : Env := envOf Try.prog [] [(3, .spec [0, 3, 4] [3] refInvL)] 17 0
noncomputable abbrev E101 : Env := envOf Try.prog [(43, refInvS)] [] 10 0
noncomputable abbrev E44 : Env := envOf Try.prog [(29, samplesS), (25, withinS)] [(6, .spec [0, 1, 5] [1, 4] dataErrL)] 30 0
noncomputable abbrev E45 : Env := envOf Try.prog [] [(4, .spec [0, 1, 5] [4] sameDataL)] 26 0
noncomputable abbrev E46 : Env := envOf Try.prog [(101, refFactorS)] [(3, .spec [0, 1, 5, 6] [5] ref3L), (7, .spec [0, 1, 5, 6, 7, 8] [0, 1, 5, 6, 7] ref7L), (10, .spec [0, 1, 5, 6, 7, 8, 9] [0, 1, 5, 6, 7, 8] ref10L)] 48 0
end Go.Ev

namespace Go.Ev
open Go Go.Proofs
set_option maxRecDepth 100000
theorem ex135 (l : List Int) (v : Int) (K : AV → List Blk → Prop) : evFn E135 Try.f135 [.one (.data (.ints .i64 l)), .one (.int .i64 v)] [] K = ( (l.length ≤ 1000000000 ∧ (0 :Int) ≤ (0 :Int) ∧ (↑l.length : Int) = (↑l.length : Int)) ∧ bif memB v l then K (.one (.int .i64 (idxOfI v 0 l))) [] else K (.one (.int .i64 (-1 : Int))) []) := by kernel_rfl
theorem ex135a (l : List Int) (v n i : Int) (K : Ex → List AV → List Blk → Prop) : evBody E135 (lb Try.f135 0) [0, 1, 7, 8] [4] [.one (.data (.ints .i64 l)), .one (.int .i64 v), .one (.int .i64 n), .one (.int .i64 i)] [] K = ( bif decide (i < n) then bif decide (0 ≤ i) && decide (i < (↑l.length : Int)) then bif decide (i.toNat + 0 < l.length) then bif v == l.getD (i.toNat + 0) 0 then K .ret [.one (.int .i64 i)] [] else K .normal [.one (.data (Row.ints .i64 l)), .one (.int .i64 v), .one (.int .i64 n), .one (.int .i64 (IntKind.i64.wrap (i + 1)))] [] else False else False else K (.exit 0) [AV.any] []) := by kernel_rfl
theorem ex113 (l : List Int) (v : Int) (K : AV → List Blk → Prop) : evFn E113 Try.f113 [.one (.data (.ints .i64 l)), .one (.int .i64 v)] [] K = ( l.length ≤ 1000000000 ∧ K (.one (.bool (decide (idxOfI v 0 l ≥ 0)))) []) := by kernel_rfl
theorem ex115 (i j : Int) (K : AV → List Blk → Prop) : evFn E115 Try.f115 [.one (.int .i64 i), .one (.int .i64 j)] [] K = ( (0 ≤ modG (IntKind.i64.wrap (IntKind.i64.wrap (4 + i) - j)) ∧ modG (IntKind.i64.wrap (IntKind.i64.wrap (4 + i) - j)) < 65537) ∧ K (.one (.int .i64 (invG (modG (IntKind.i64.wrap (IntKind.i64.wrap (4 + i) - j)))))) []) := by kernel_rfl
theorem ex100 (xss : List (List Int)) (ws : List Int) (j a : Int) (K : AV → List Blk → Prop) : evFn E100 Try.f100 [.one (.data (.mat .i64 8 xss)), .one (.data (.ints .i64 ws)), .one (.int .i64 j), .one (.int .i64 a)] [] K = ( (ws.length ≤ 1000 ∧ xss.length ≤ 1000 ∧ 0 ≤ j ∧ j ≤ 1000 ∧ 0 ≤ a ∧ a ≤ 7 ∧ (0 :Int) ≤ (0 :Int) ∧ (↑xss.length : Int) = (↑xss.length : Int) ∧ (0 :Int) ≤ (0 :Int) ∧ (0 :Int) < (65537 :Int) ∧ xss.all len8 = true ∧ keptB ws 0 xss = true) ∧ K (.one (.int .i64 (parR ws j a.toNat (0 :Int) 0 xss))) []) := by kernel_rfl
theorem ex100a (xss : List (List Int)) (ws : List Int) (j a out n i : Int) (K : Ex → List AV → List Blk → Prop) : evBody E100 (lb Try.f100 0) [1, 2, 3, 9, 12, 13, 14] [9] [.one (.data (.ints .i64 ws)), .one (.int .i64 j), .one (.int .i64 a), .one (.int .i64 out), .one (.data (.mat .i64 8 xss)), .one (.int .i64 n), .one (.int .i64 i)] [] K = ( bif decide (i < n) then bif decide (0 ≤ i) && decide (i < (↑xss.length : Int)) then bif decide (7 < 8) && decide (i.toNat < xss.length) then ws.length ≤ 1000000000 ∧ bif !memB i ws then bif decide (0 ≤ a) && decide (a < 8) then bif decide (0 + a.toNat + 0 < [(match xss[i.toNat]? with | some x => x | none => []).getD 0 0, (match xss[i.toNat]? with | some x => x | none => []).getD 1 0, (match xss[i.toNat]? with | some x => x | none => []).getD 2 0, (match xss[i.toNat]? with | some x => x | none => []).getD 3 0, (match xss[i.toNat]? with | some x => x | none => []).getD 4 0, (match xss[i.toNat]? with | some x => x | none => []).getD 5 0, (match xss[i.toNat]? with | some x => x | none => []).getD 6 0, (match xss[i.toNat]? with | some x => x | none => []).getD 7 0].length) then (0 ≤ i ∧ i ≤ 1000 ∧ 0 ≤ j ∧ j ≤ 1000) ∧ (0 ≤ facG i j ∧ facG i j < 65537 ∧ 0 ≤ modG (IntKind.i64.wrap ([(match xss[i.toNat]? with | some x => x | none => []).getD 0 0, (match xss[i.toNat]? with | some x => x | none => []).getD 1 0, (match xss[i.toNat]? with | some x => x | none => []).getD 2 0, (match xss[i.toNat]? with | some x => x | none => []).getD 3 0, (match xss[i.toNat]? with | some x => x | none => []).getD 4 0, (match xss[i.toNat]? with | some x => x | none => []).getD 5 0, (match xss[i.toNat]? with | some x => x | none => []).getD 6 0, (match xss[i.toNat]? with | some x => x | none => []).getD 7 0].getD (0 + a.toNat + 0) (0 :Int) + (32768 :Int))) ∧ modG (IntKind.i64.wrap ([(match xss[i.toNat]? with | some x => x | none => []).getD 0 0, (match xss[i.toNat]? with | some x => x | none => []).getD 1 0, (match xss[i.toNat]? with | some x => x | none => []).getD 2 0, (match xss[i.toNat]? with | some x => x | none => []).getD 3 0, (match xss[i.toNat]? with | some x => x | none => []).getD 4 0, (match xss[i.toNat]? with | some x => x | none => []).getD 5 0, (match xss[i.toNat]? with | some x => x | none => []).getD 6 0, (match xss[i.toNat]? with | some x => x | none => []).getD 7 0].getD (0 + a.toNat + 0) (0 :Int) + (32768 :Int))) < 65537) ∧ K .normal [.one (.data (Row.ints .i64 ws)), .one (.int .i64 j), .one (.int .i64 a), .one (.int .i64 (modG (IntKind.i64.wrap (out + modG (facG i j * modG (IntKind.i64.wrap ([(match xss[i.toNat]? with | some x => x | none => []).getD 0 0, (match xss[i.toNat]? with | some x => x | none => []).getD 1 0, (match xss[i.toNat]? with | some x => x | none => []).getD 2 0, (match xss[i.toNat]? with | some x => x | none => []).getD 3 0, (match xss[i.toNat]? with | some x => x | none => []).getD 4 0, (match xss[i.toNat]? with | some x => x | none => []).getD 5 0, (match xss[i.toNat]? with | some x => x | none => []).getD 6 0, (match xss[i.toNat]? with | some x => x | none => []).getD 7 0].getD (0 + a.toNat + 0) (0 :Int) + (32768 :Int)))))))), .one (.data (Row.mat .i64 8 xss)), .one (.int .i64 n), .one (.int .i64 (IntKind.i64.wrap (i + 1)))] [] else False else False else K .normal [.one (.data (Row.ints .i64 ws)), .one (.int .i64 j), .one (.int .i64 a), .one (.int .i64 out), .one (.data (Row.mat .i64 8 xss)), .one (.int .i64 n), .one (.int .i64 (IntKind.i64.wrap (i + 1)))] [] else False else False else K (.exit 0) [.one (.int .i64 out)] []) := by kernel_rfl
theorem ex99 (l : List (List Int)) (K : AV → List Blk → Prop) : evFn E99 Try.f99 [.one (.data (.mat .i64 8 l)), .one (.func 82 [])] [] K = ( (l.length ≤ 1000000000 ∧ (0 :Int) ≤ (0 :Int) ∧ (↑l.length : Int) = (↑l.length : Int) ∧ l.all len8 = true) ∧ bif l.all okRow then K (.one (.int .i64 0)) [] else K (.one (.int .i64 2)) []) := by kernel_rfl
theorem ex99a (l : List (List Int)) (n i : Int) (K : Ex → List AV → List Blk → Prop) : evBody E99 (lb Try.f99 0) [1, 8, 9, 10] [4] [.one (.func 82 []), .one (.data (.mat .i64 8 l)), .one (.int .i64 n), .one (.int .i64 i)] [] K = ( bif decide (i < n) then bif decide (0 ≤ i) && decide (i < (↑l.length : Int)) then bif decide (7 < 8) && decide (i.toNat < l.length) then bif (bif [(match l[i.toNat]? with | some x => x | none => []).getD 0 0, (match l[i.toNat]? with | some x => x | none => []).getD 1 0, (match l[i.toNat]? with | some x => x | none => []).getD 2 0, (match l[i.toNat]? with | some x => x | none => []).getD 3 0, (match l[i.toNat]? with | some x => x | none => []).getD 4 0, (match l[i.toNat]? with | some x => x | none => []).getD 5 0, (match l[i.toNat]? with | some x => x | none => []).getD 6 0, (match l[i.toNat]? with | some x => x | none => []).getD 7 0].all sampleG then (0 :Int) else (2 :Int)) != 0 then K .ret [.one (.int .i64 (bif [(match l[i.toNat]? with | some x => x | none => []).getD 0 0, (match l[i.toNat]? with | some x => x | none => []).getD 1 0, (match l[i.toNat]? with | some x => x | none => []).getD 2 0, (match l[i.toNat]? with | some x => x | none => []).getD 3 0, (match l[i.toNat]? with | some x => x | none => []).getD 4 0, (match l[i.toNat]? with | some x => x | none => []).getD 5 0, (match l[i.toNat]? with | some x => x | none => []).getD 6 0, (match l[i.toNat]? with | some x => x | none => []).getD 7 0].all sampleG then (0 :Int) else (2 :Int)))] [] else K .normal [.one (.func (82 : FuncId) []), .one (.data (Row.mat .i64 8 l)), .one (.int .i64 n), .one (.int .i64 (IntKind.i64.wrap (i + 1)))] [] else False else False else K (.exit 0) [AV.any] []) := by kernel_rfl
theorem ex40b (xss out : List (List Int)) (n j jj a : Int) (K : Ex → List AV → List Blk → Prop) : evBody E40 (lb Try.f40 1) [0, 7, 8, 31, 32, 35] [0, 7, 31, 32] [.one (.data (.mat .i64 8 xss)), .one (.own 0 8), .one (.int .i64 j), .one (.int .i64 n), .one (.int .i64 jj), .one (.int .i64 a)] [.row 35 (.mat .i64 8 out)] K = ( bif decide (a < 8) then bif decide (0 ≤ j) && decide (j < (↑out.length : Int)) then (0 ≤ 1000 ∧ xss.length ≤ 1000 ∧ 0 ≤ j ∧ j ≤ 1000 ∧ 0 ≤ a ∧ a ≤ 7 ∧ xss.all len8 = true ∧ keptB [] 0 xss = true) ∧ bif decide (0 ≤ a) && decide (a < 8) then bif decide (0 + a.toNat < 8) && decide (j.toNat < out.length) && decide ((match out[j.toNat]? with | some x => x | none => []).length = 8) then K .normal [.one (.data (Row.mat .i64 8 xss)), .one (.own 0 8), .one (.int .i64 j), .one (.int .i64 n), .one (.int .i64 jj), .one (.int .i64 (IntKind.i64.wrap (a + 1)))] [Blk.row 35 (Row.mat .i64 8 (out.set j.toNat ((match out[j.toNat]? with | some x => x | none => []).set (0 + a.toNat) (parR [] j a.toNat (0 :Int) 0 xss))))] else False else False else False else K (.exit 2) [.one (.data (Row.mat .i64 8 xss)), .one (.own 0 8), .one (.int .i64 n), .one (.int .i64 jj)] [Blk.row 35 (Row.mat .i64 8 out)]) := by kernel_rfl
theorem ex41 (l : List (List Int)) (K : AV → List Blk → Prop) : evFn E41 Try.f41 [.one (.data (.mat .i64 8 l))] [] K = ( bif decide (l.length * 64 ≤ 140737488355328 ∧ l.length ≤ 140737488355328) then K (.one (.own 0 8)) [Blk.row 35 (Row.mat .i64 8 l)] else False) := by kernel_rfl
theorem ex43 (n : Int) (K : AV → List Blk → Prop) : evFn E43 Try.f43 [.one (.int .i64 n)] [] K = ( (0 ≤ n ∧ n < 65537 ∧ (0 :Int) ≤ (1 :Int) ∧ (1 :Int) < (65537 :Int) ∧ (0 :Int) ≤ (0 :Int) ∧ (0 :Int) ≤ (16 :Int)) ∧ K (.one (.int .i64 (refInvG n 16 1))) []) := by kernel_rfl
theorem ex43a (n out i : Int) (K : Ex → List AV → List Blk → Prop) : evBody E43 (lb Try.f43 0) [0, 3, 4] [3] [.one (.int .i64 n), .one (.int .i64 out), .one (.int .i64 i)] [] K = ( bif decide (i < 16) then K .normal [.one (.int .i64 n), .one (.int .i64 ((IntKind.i64.wrap ((IntKind.i64.wrap (out * out)).tmod 65537 * n)).tmod 65537)), .one (.int .i64 (IntKind.i64.wrap (i + 1)))] [] else K (.exit 0) [.one (.int .i64 out)] []) := by kernel_rfl
theorem ex101 (i j : Int) (K : AV → List Blk → Prop) : evFn E101 Try.f101 [.one (.int .i64 i), .one (.int .i64 j)] [] K = ( (0 ≤ IntKind.i64.wrap (IntKind.i64.wrap (4 + i) - j) ∧ IntKind.i64.wrap (IntKind.i64.wrap (4 + i) - j) < 65537) ∧ K (.one (.int .i64 (invG (IntKind.i64.wrap (IntKind.i64.wrap (4 + i) - j))))) []) := by kernel_rfl
theorem ex44a (l : List (List Int)) (c i : Int) (K : Ex → List AV → List Blk → Prop) : evBody E44 (lb Try.f44 0) [0, 1, 5] [1, 4] [.one (.data (.mat .i64 8 l)), .one (.int .i64 c), .one (.int .i64 i)] [] K = ( bif decide (i < (↑l.length : Int)) then bif decide (0 ≤ i) && decide (i < (↑l.length : Int)) then bif decide (7 < 8) && decide (i.toNat < l.length) then bif (bif [(match l[i.toNat]? with | some x => x | none => []).getD 0 0, (match l[i.toNat]? with | some x => x | none => []).getD 1 0, (match l[i.toNat]? with | some x => x | none => []).getD 2 0, (match l[i.toNat]? with | some x => x | none => []).getD 3 0, (match l[i.toNat]? with | some x => x | none => []).getD 4 0, (match l[i.toNat]? with | some x => x | none => []).getD 5 0, (match l[i.toNat]? with | some x => x | none => []).getD 6 0, (match l[i.toNat]? with | some x => x | none => []).getD 7 0].all sampleG then (0 :Int) else (2 :Int)) != 0 then K .ret [.one (.int .i64 c), .one (.int .i64 (bif [(match l[i.toNat]? with | some x => x | none => []).getD 0 0, (match l[i.toNat]? with | some x => x | none => []).getD 1 0, (match l[i.toNat]? with | some x => x | none => []).getD 2 0, (match l[i.toNat]? with | some x => x | none => []).getD 3 0, (match l[i.toNat]? with | some x => x | none => []).getD 4 0, (match l[i.toNat]? with | some x => x | none => []).getD 5 0, (match l[i.toNat]? with | some x => x | none => []).getD 6 0, (match l[i.toNat]? with | some x => x | none => []).getD 7 0].all sampleG then (0 :Int) else (2 :Int)))] [] else K .normal [.one (.data (Row.mat .i64 8 l)), .one (.int .i64 c), .one (.int .i64 (IntKind.i64.wrap (i + 1)))] [] else False else False else K (.exit 0) [.one (.int .i64 c), AV.any] []) := by kernel_rfl
theorem ex45 (a b : List (List Int)) (K : AV → List Blk → Prop) : evFn E45 Try.f45 [.one (.data (.mat .i64 8 a)), .one (.data (.mat .i64 8 b))] [] K = ( bif (↑a.length : Int) != (↑b.length : Int) then K (.one (.bool false)) [] else (a.length ≤ 1000000000 ∧ a.length = b.length ∧ (0 :Int) ≤ (0 :Int) ∧ a.all len8 = true ∧ b.all len8 = true) ∧ bif a == b then K (.one (.bool true)) [] else K (.one (.bool false)) []) := by kernel_rfl
theorem ex45a (a b : List (List Int)) (i : Int) (K : Ex → List AV → List Blk → Prop) : evBody E45 (lb Try.f45 0) [0, 1, 5] [4] [.one (.data (.mat .i64 8 a)), .one (.data (.mat .i64 8 b)), .one (.int .i64 i)] [] K = ( bif decide (i < (↑a.length : Int)) then bif decide (0 ≤ i) && decide (i < (↑a.length : Int)) then bif decide (7 < 8) && decide (i.toNat < a.length) then bif decide (0 ≤ i) && decide (i < (↑b.length : Int)) then bif decide (7 < 8) && decide (i.toNat < b.length) then bif !((match a[i.toNat]? with | some x => x | none => []).getD 0 0 == (match b[i.toNat]? with | some x => x | none => []).getD 0 0 && ((match a[i.toNat]? with | some x => x | none => []).getD 1 0 == (match b[i.toNat]? with | some x => x | none => []).getD 1 0 && ((match a[i.toNat]? with | some x => x | none => []).getD 2 0 == (match b[i.toNat]? with | some x => x | none => []).getD 2 0 && ((match a[i.toNat]? with | some x => x | none => []).getD 3 0 == (match b[i.toNat]? with | some x => x | none => []).getD 3 0 && ((match a[i.toNat]? with | some x => x | none => []).getD 4 0 == (match b[i.toNat]? with | some x => x | none => []).getD 4 0 && ((match a[i.toNat]? with | some x => x | none => []).getD 5 0 == (match b[i.toNat]? with | some x => x | none => []).getD 5 0 && ((match a[i.toNat]? with | some x => x | none => []).getD 6 0 == (match b[i.toNat]? with | some x => x | none => []).getD 6 0 && (match a[i.toNat]? with | some x => x | none => []).getD 7 0 == (match b[i.toNat]? with | some x => x | none => []).getD 7 0))))))) then K .ret [.one (.bool false)] [] else K .normal [.one (.data (Row.mat .i64 8 a)), .one (.data (Row.mat .i64 8 b)), .one (.int .i64 (IntKind.i64.wrap (i + 1)))] [] else False else False else False else False else K (.exit 0) [AV.any] []) := by kernel_rfl
theorem ex46 (xss : List (List Int)) (c : Int) (K : AV → List Blk → Prop) : evFn E46 Try.f46 [.one (.data (.mat .i64 8 xss)), .one (.int .i64 c)] [] K = ( ((xss.length ≤ 1000 ∧ xss.all len8 = true ∧ keptB [] 0 xss = true) ∧ (0 :Int) = (0 :Int) ∧ 1 ≤ c ∧ c ≤ 4) ∧ K (.one (.own 0 8)) [Blk.row 35 (Row.mat .i64 8 (rowsF xss 0 c.toNat))]) := by kernel_rfl
theorem ex46a (xss : List (List Int)) (c j : Int) (K : Ex → List AV → List Blk → Prop) : evBody E46 (lb Try.f46 0) [0, 1, 5, 6] [5] [.one (.data (.mat .i64 8 xss)), .one (.int .i64 c), .one .nil, .one (.int .i64 j)] [] K = ( bif decide (j < c) then (((xss.length ≤ 1000 ∧ xss.all len8 = true ∧ keptB [] 0 xss = true) ∧ 0 ≤ j ∧ j ≤ 3 ∧ 8 = 8 ∧ ∀ (x : Int), x ∈ (fun x => 0 :: x) ((fun x => 0 :: x) ((fun x => 0 :: x) ((fun x => 0 :: x) ((fun x => 0 :: x) ((fun x => 0 :: x) ((fun x => 0 :: x) ((fun x => 0 :: x) []))))))) → 0 ≤ x ∧ x < 65537) ∧ (0 :Int) ≤ (0 :Int) ∧ (0 :Int) ≤ (8 :Int) ∧ ∀ (i : Nat), 0 ≤ i → [0, 0, 0, 0, 0, 0, 0, 0].getD i (0 :Int) = (0 :Int)) ∧ K .normal [.one (.data (Row.mat .i64 8 xss)), .one (.int .i64 c), .one (.own 0 8), .one (.int .i64 (IntKind.i64.wrap (j + 1)))] [Blk.row 35 (Row.mat .i64 8 [[(colsF xss j 0 8).getD 0 0, (colsF xss j 0 8).getD 1 0, (colsF xss j 0 8).getD 2 0, (colsF xss j 0 8).getD 3 0, (colsF xss j 0 8).getD 4 0, (colsF xss j 0 8).getD 5 0, (colsF xss j 0 8).getD 6 0, (colsF xss j 0 8).getD 7 0]])] else K (.exit 0) [.one .nil] []) := by kernel_rfl
theorem ex46b (xss out : List (List Int)) (c j : Int) (K : Ex → List AV → List Blk → Prop) : evBody E46 (lb Try.f46 0) [0, 1, 5, 6] [5] [.one (.data (.mat .i64 8 xss)), .one (.int .i64 c), .one (.own 0 8), .one (.int .i64 j)] [.row 35 (.mat .i64 8 out)] K = ( bif decide (j < c) then (((xss.length ≤ 1000 ∧ xss.all len8 = true ∧ keptB [] 0 xss = true) ∧ 0 ≤ j ∧ j ≤ 3 ∧ 8 = 8 ∧ ∀ (x : Int), x ∈ (fun x => 0 :: x) ((fun x => 0 :: x) ((fun x => 0 :: x) ((fun x => 0 :: x) ((fun x => 0 :: x) ((fun x => 0 :: x) ((fun x => 0 :: x) ((fun x => 0 :: x) []))))))) → 0 ≤ x ∧ x < 65537) ∧ (0 :Int) ≤ (0 :Int) ∧ (0 :Int) ≤ (8 :Int) ∧ ∀ (i : Nat), 0 ≤ i → [0, 0, 0, 0, 0, 0, 0, 0].getD i (0 :Int) = (0 :Int)) ∧ bif decide ((out ++ [[(colsF xss j 0 8).getD 0 0, (colsF xss j 0 8).getD 1 0, (colsF xss j 0 8).getD 2 0, (colsF xss j 0 8).getD 3 0, (colsF xss j 0 8).getD 4 0, (colsF xss j 0 8).getD 5 0, (colsF xss j 0 8).getD 6 0, (colsF xss j 0 8).getD 7 0]]).length * 64 ≤ 140737488355328 ∧ (out ++ [[(colsF xss j 0 8).getD 0 0, (colsF xss j 0 8).getD 1 0, (colsF xss j 0 8).getD 2 0, (colsF xss j 0 8).getD 3 0, (colsF xss j 0 8).getD 4 0, (colsF xss j 0 8).getD 5 0, (colsF xss j 0 8).getD 6 0, (colsF xss j 0 8).getD 7 0]]).length ≤ 140737488355328) then K .normal [.one (.data (Row.mat .i64 8 xss)), .one (.int .i64 c), .one (.own 0 8), .one (.int .i64 (IntKind.i64.wrap (j + 1)))] [Blk.row 35 (Row.mat .i64 8 (out ++ [[(colsF xss j 0 8).getD 0 0, (colsF xss j 0 8).getD 1 0, (colsF xss j 0 8).getD 2 0, (colsF xss j 0 8).getD 3 0, (colsF xss j 0 8).getD 4 0, (colsF xss j 0 8).getD 5 0, (colsF xss j 0 8).getD 6 0, (colsF xss j 0 8).getD 7 0]]))] else False else K (.exit 0) [.one (.own 0 8)] [Blk.row 35 (Row.mat .i64 8 out)]) := by kernel_rfl
theorem ex46c (xss : List (List Int)) (c j a : Int) (p : List Int) (K : Ex → List AV → List Blk → Prop) : evBody E46 (lb Try.f46 1) [0, 1, 5, 6, 7, 8] [0, 1, 5, 6, 7] [.one (.data (.mat .i64 8 xss)), .one (.int .i64 c), .one .nil, .one (.int .i64 j), .one (.ptr 0 1 0 0), .one (.int .i64 a)] [.row 35 (.ints .i64 p)] K = ( bif decide (a < 8) then (((xss.length ≤ 1000 ∧ xss.all len8 = true ∧ keptB [] 0 xss = true) ∧ 0 ≤ j ∧ j ≤ 3 ∧ p.length = 8 ∧ ∀ (x : Int), x ∈ p → 0 ≤ x ∧ x < 65537) ∧ 0 ≤ a ∧ a ≤ 7 ∧ (0 :Int) ≤ (0 :Int) ∧ 0 ≤ (↑xss.length : Int)) ∧ K .normal [.one (.data (Row.mat .i64 8 xss)), .one (.int .i64 c), .one .nil, .one (.int .i64 j), .one (.ptr 0 1 0 0), .one (.int .i64 (IntKind.i64.wrap (a + 1)))] [Blk.row 35 (Row.ints .i64 (p.set a.toNat (parR [] j a.toNat (p.getD a.toNat (0 :Int)) 0 xss)))] else K (.exit 2) [.one (.data (Row.mat .i64 8 xss)), .one (.int .i64 c), .one .nil, .one (.int .i64 j), .one (.ptr 0 1 0 0)] [Blk.row 35 (Row.ints .i64 p)]) := by kernel_rfl
theorem ex46d (xss out : List (List Int)) (c j a : Int) (p : List Int) (K : Ex → List AV → List Blk → Prop) : evBody E46 (lb Try.f46 1) [0, 1, 5, 6, 7, 8] [0, 1, 5, 6, 7] [.one (.data (.mat .i64 8 xss)), .one (.int .i64 c), .one (.own 0 8), .one (.int .i64 j), .one (.ptr 1 1 0 0), .one (.int .i64 a)] [.row 35 (.mat .i64 8 out), .row 35 (.ints .i64 p)] K = ( bif decide (a < 8) then (((xss.length ≤ 1000 ∧ xss.all len8 = true ∧ keptB [] 0 xss = true) ∧ 0 ≤ j ∧ j ≤ 3 ∧ p.length = 8 ∧ ∀ (x : Int), x ∈ p → 0 ≤ x ∧ x < 65537) ∧ 0 ≤ a ∧ a ≤ 7 ∧ (0 :Int) ≤ (0 :Int) ∧ 0 ≤ (↑xss.length : Int)) ∧ K .normal [.one (.data (Row.mat .i64 8 xss)), .one (.int .i64 c), .one (.own 0 8), .one (.int .i64 j), .one (.ptr 1 1 0 0), .one (.int .i64 (IntKind.i64.wrap (a + 1)))] [Blk.row 35 (Row.mat .i64 8 out), Blk.row 35 (Row.ints .i64 (p.set a.toNat (parR [] j a.toNat (p.getD a.toNat (0 :Int)) 0 xss)))] else K (.exit 2) [.one (.data (Row.mat .i64 8 xss)), .one (.int .i64 c), .one (.own 0 8), .one (.int .i64 j), .one (.ptr 1 1 0 0)] [Blk.row 35 (Row.mat .i64 8 out), Blk.row 35 (Row.ints .i64 p)]) := by kernel_rfl
theorem ex46e (xss : List (List Int)) (c j a i : Int) (p : List Int) (K : Ex → List AV → List Blk → Prop) : evBody E46 (lb Try.f46 2) [0, 1, 5, 6, 7, 8, 9] [0, 1, 5, 6, 7, 8] [.one (.data (.mat .i64 8 xss)), .one (.int .i64 c), .one .nil, .one (.int .i64 j), .one (.ptr 0 1 0 0), .one (.int .i64 a), .one (.int .i64 i)] [.row 35 (.ints .i64 p)] K = ( bif decide (i < (↑xss.length : Int)) then bif decide (0 ≤ a) && decide (a < 8) then bif decide (0 + a.toNat + 0 < p.length) then bif decide (0 ≤ i) && decide (i < (↑xss.length : Int)) then bif decide (0 ≤ a) && decide (a < 8) then bif decide (0 + a.toNat + 0 < 8) && decide (i.toNat < xss.length) then (0 ≤ i ∧ i ≤ 1000 ∧ 0 ≤ j ∧ j ≤ 3) ∧ bif decide (0 ≤ a) && decide (a < 8) then bif decide (0 + a.toNat + 0 < p.length) then K .normal [.one (.data (Row.mat .i64 8 xss)), .one (.int .i64 c), .one .nil, .one (.int .i64 j), .one (.ptr 0 1 0 0), .one (.int .i64 a), .one (.int .i64 (IntKind.i64.wrap (i + 1)))] [Blk.row 35 (Row.ints .i64 (p.set (0 + a.toNat + 0) ((IntKind.i64.wrap (p.getD (0 + a.toNat + 0) 0 + IntKind.i64.wrap (facG i j * IntKind.i64.wrap ((match xss[i.toNat]? with | some x => x | none => []).getD (0 + a.toNat + 0) (0 :Int) + (32768 :Int))))).tmod 65537)))] else False else False else False else False else False else False else False else K (.exit 4) [.one (.data (Row.mat .i64 8 xss)), .one (.int .i64 c), .one .nil, .one (.int .i64 j), .one (.ptr 0 1 0 0), .one (.int .i64 a)] [Blk.row 35 (Row.ints .i64 p)]) := by kernel_rfl
theorem ex46f (xss out : List (List Int)) (c j a i : Int) (p : List Int) (K : Ex → List AV → List Blk → Prop) : evBody E46 (lb Try.f46 2) [0, 1, 5, 6, 7, 8, 9] [0, 1, 5, 6, 7, 8] [.one (.data (.mat .i64 8 xss)), .one (.int .i64 c), .one (.own 0 8), .one (.int .i64 j), .one (.ptr 1 1 0 0), .one (.int .i64 a), .one (.int .i64 i)] [.row 35 (.mat .i64 8 out), .row 35 (.ints .i64 p)] K = ( bif decide (i < (↑xss.length : Int)) then bif decide (0 ≤ a) && decide (a < 8) then bif decide (0 + a.toNat + 0 < p.length) then bif decide (0 ≤ i) && decide (i < (↑xss.length : Int)) then bif decide (0 ≤ a) && decide (a < 8) then bif decide (0 + a.toNat + 0 < 8) && decide (i.toNat < xss.length) then (0 ≤ i ∧ i ≤ 1000 ∧ 0 ≤ j ∧ j ≤ 3) ∧ bif decide (0 ≤ a) && decide (a < 8) then bif decide (0 + a.toNat + 0 < p.length) then K .normal [.one (.data (Row.mat .i64 8 xss)), .one (.int .i64 c), .one (.own 0 8), .one (.int .i64 j), .one (.ptr 1 1 0 0), .one (.int .i64 a), .one (.int .i64 (IntKind.i64.wrap (i + 1)))] [Blk.row 35 (Row.mat .i64 8 out), Blk.row 35 (Row.ints .i64 (p.set (0 + a.toNat + 0) ((IntKind.i64.wrap (p.getD (0 + a.toNat + 0) 0 + IntKind.i64.wrap (facG i j * IntKind.i64.wrap ((match xss[i.toNat]? with | some x => x | none => []).getD (0 + a.toNat + 0) (0 :Int) + (32768 :Int))))).tmod 65537)))] else False else False else False else False else False else False else False else K (.exit 4) [.one (.data (Row.mat .i64 8 xss)), .one (.int .i64 c), .one (.own 0 8), .one (.int .i64 j), .one (.ptr 1 1 0 0), .one (.int .i64 a)] [Blk.row 35 (Row.mat .i64 8 out), Blk.row 35 (Row.ints .i64 p)]) := by kernel_rfl
end Go.Ev

namespace Go.Ev
open Go Go.Proofs
attribute [local irreducible] evFn evBody
set_option maxRecDepth 20000
theorem lok135 : LoopOK E135 (lb Try.f135 0) [0, 1, 7, 8] [4] indexL := by
  refine loopOK .nil (noInner (by kernel_rfl)) (fun vs _ => match vs with
    | [.one (.data (.ints .i64 l)), _, _, .one (.int .i64 i)] => l.length - i.toNat
    | _ => 0) fun vs σ k h => ?_
  unfold indexL at h
  split at h
  · rename_i l v n i
    rw [ex135a l v n i _]
    obtain ⟨⟨h1, h2, rfl⟩, h⟩ := h
    by_cases hi : i < l.length
    · have hw : IntKind.i64.wrap (i + 1) = i + 1 := wrap_id (by omega) (by omega)
      have hi' : i.toNat < l.length := by omega
      have hmu : l.length - (i + 1).toNat < l.length - i.toNat := by omega
      have e : idxOfI v i (l.drop i.toNat) = bif v == l.getD i.toNat 0 then i else idxOfI v (i + 1) (l.drop (i + 1).toNat) := by
        rw [drop_step 0 (by omega), show (i + 1).toNat = i.toNat + 1 by omega]
        rfl
      have e2 : memB v (l.drop i.toNat) = (v == l.getD i.toNat 0 || memB v (l.drop (i + 1).toNat)) := any_step h2 hi
      rw [e2, e] at h
      simp only [hi, hi', h2, hw, Nat.add_zero, decide_true, Bool.and_self, cond_true]
      cases hs : v == l.getD i.toNat 0 with
      | false => rw [hs] at h; exact ⟨⟨⟨h1, by omega, rfl⟩, h⟩, hmu⟩
      | true => rw [hs] at h; exact h
    · rw [List.drop_eq_nil_of_le (by omega)] at h
      simp only [hi, decide_false, cond_false]
      exact h
  · exact h.elim
theorem idxOf_none {v : Int} : ∀ {l : List Int} {i : Int}, memB v l = false → idxOfI v i l = -1
  | [], _, _ => rfl
  | b :: l, i, h => by
    simp only [memB, List.any_cons, Bool.or_eq_false_iff] at h
    simp only [idxOfI, h.1, cond_false]
    exact idxOf_none h.2
theorem idxOf_some {v : Int} : ∀ {l : List Int} {i : Int}, memB v l = true → i ≤ idxOfI v i l
  | [], _, h => by simp [memB] at h
  | b :: l, i, h => by
    simp only [idxOfI]
    cases hb : v == b with
    | true => exact Int.le_refl _
    | false =>
      simp only [memB, List.any_cons, hb, Bool.false_or] at h
      have := idxOf_some (v := v) (i := i + 1) h
      simp only [cond_false]
      omega
theorem ok135 : SpecOK Try.prog 135 indexS := by
  refine specOK (n := 19) (m := 0) (lps := [(2, .spec [0, 1, 7, 8] [4] indexL)]) .nil Try.func135 (by kernel_rfl) (by kernel_rfl) (theLoops (n := 1) (by kernel_rfl) fun i hi => ?_) fun args σ K h => ?_
  · match i, hi with
    | 0, _ => exact loopHyp_of (key := 2) (by kernel_rfl) rfl lok135
  · unfold indexS at h
    split at h
    · rename_i l v
      rw [ex135 l v K]
      obtain ⟨h1, h⟩ := h
      refine ⟨⟨h1, by omega, rfl⟩, ?_⟩
      cases hs : memB v l with
      | true => exact h
      | false => rw [idxOf_none hs] at h; exact h
    · exact h.elim
theorem ok113 : SpecOK Try.prog 113 containsS := by
  refine specOK (n := 9) (m := 0) (lps := []) (.cons ok135 .nil) Try.func113 (by kernel_rfl) (by kernel_rfl) (noLoops (by kernel_rfl)) fun args σ K h => ?_
  unfold containsS at h
  split at h
  · rename_i l v
    rw [ex113 l v K]
    have e : decide (idxOfI v 0 l ≥ 0) = memB v l := by
      cases hs : memB v l with
      | true => exact decide_eq_true (idxOf_some hs)
      | false => rw [idxOf_none hs]; rfl
    rw [e]
    exact h
  · exact h.elim
theorem facG_range (i j : Int) : 0 ≤ facG i j ∧ facG i j < 65537 := (inv_ref (modG_range (4 + i - j))).2.2
theorem ok115 : SpecOK Try.prog 115 factorS := by
  refine specOK (n := 11) (m := 0) (lps := []) (.cons ok116 (.cons ok98 .nil)) Try.func115 (by kernel_rfl) (by kernel_rfl) (noLoops (by kernel_rfl)) fun args σ K h => ?_
  unfold factorS at h
  split at h
  · rename_i i j
    rw [ex115 i j K]
    obtain ⟨h1, h⟩ := h
    rw [wrap_id (n := 4 + i) (by omega) (by omega), wrap_id (by omega) (by omega)]
    exact ⟨modG_range _, h⟩
  · exact h.elim
theorem tm_range {n : Int} (h : 0 ≤ n) : 0 ≤ n.tmod 65537 ∧ n.tmod 65537 < 65537 := by
  rw [Int.tmod_eq_emod_of_nonneg h]
  omega
theorem refInv_succ (n : Int) (c : Nat) (out : Int) : refInvG n (c + 1) out = refInvG n c (((out * out).tmod 65537 * n).tmod 65537) := rfl
theorem lok43 : LoopOK E43 (lb Try.f43 0) [0, 3, 4] [3] refInvL := by
  refine loopOK .nil (noInner (by kernel_rfl)) (fun vs _ => match vs with
    | [_, _, .one (.int .i64 i)] => (16 - i).toNat
    | _ => 0) fun vs σ k h => ?_
  unfold refInvL at h
  split at h
  · rename_i n out i
    rw [ex43a n out i _]
    obtain ⟨⟨h1, h2, h3, h4, h5, h6⟩, h⟩ := h
    by_cases hi : i < 16
    · have hm := mul_range (a := out) (b := out) ⟨h3, h4, h3, h4⟩
      have ht := tm_range hm.1
      have hm2 := mul_range (a := (out * out).tmod 65537) (b := n) ⟨ht.1, ht.2, h1, h2⟩
      have ht2 := tm_range hm2.1
      rw [wrap_id (n := out * out) (by omega) (by omega), wrap_id (n := (out * out).tmod 65537 * n) (by omega) (by omega), wrap_id (n := i + 1) (by omega) (by omega)]
      simp only [hi, decide_true, cond_true]
      have e : (16 - i).toNat = (16 - (i + 1)).toNat + 1 := by omega
      rw [e, refInv_succ] at h
      exact ⟨⟨⟨h1, h2, ht2.1, ht2.2, by omega, by omega⟩, h⟩, by first | omega | (dsimp only; omega)⟩
    · have e : i = 16 := by omega
      subst e
      exact h
  · exact h.elim
theorem ok43 : SpecOK Try.prog 43 refInvS := by
  refine specOK (n := 17) (m := 0) (lps := [(3, .spec [0, 3, 4] [3] refInvL)]) .nil Try.func43 (by kernel_rfl) (by kernel_rfl) (theLoops (n := 1) (by kernel_rfl) fun i hi => ?_) fun args σ K h => ?_
  · match i, hi with
    | 0, _ => exact loopHyp_of (key := 3) (by kernel_rfl) rfl lok43
  · unfold refInvS at h
    split at h
    · rename_i n
      rw [ex43 n K]
      obtain ⟨h1, h⟩ := h
      rw [(inv_ref h1).1] at h
      exact ⟨⟨h1.1, h1.2, by decide, by decide, by decide, by decide⟩, h⟩
    · exact h.elim
theorem ok101 : SpecOK Try.prog 101 refFactorS := by
  refine specOK (n := 10) (m := 0) (lps := []) (.cons ok43 .nil) Try.func101 (by kernel_rfl) (by kernel_rfl) (noLoops (by kernel_rfl)) fun args σ K h => ?_
  unfold refFactorS at h
  split at h
  · rename_i i j
    rw [ex101 i j K]
    obtain ⟨h1, h⟩ := h
    unfold facG at h
    rw [modG_small (n := 4 + i - j) (by omega) (by omega)] at h
    rw [wrap_id (n := 4 + i) (by omega) (by omega), wrap_id (by omega) (by omega)]
    exact ⟨⟨by omega, by omega⟩, h⟩
  · exact h.elim
theorem row_some {l : List (List Int)} {n : Nat} (h : n < l.length) (h8 : l.all len8 = true) : ∃ xs, l[n]? = some xs ∧ xs.length = 8 ∧ l.drop n = xs :: l.drop (n + 1) ∧ l.getD n [] = xs := by
  refine ⟨l[n], List.getElem?_eq_getElem h, ?_, List.drop_eq_getElem_cons h, by simp [List.getD, h]⟩
  have := List.all_eq_true.1 h8 _ (List.getElem_mem h)
  unfold len8 at this
  simpa using this
theorem lok99 : LoopOK E99 (lb Try.f99 0) [1, 8, 9, 10] [4] each8L := by
  refine loopOK (.cons ok82 .nil) (noInner (by kernel_rfl)) (fun vs _ => match vs with
    | [_, .one (.data (.mat .i64 8 l)), _, .one (.int .i64 i)] => l.length - i.toNat
    | _ => 0) fun vs σ k h => ?_
  unfold each8L at h
  split at h
  · rename_i l n i
    rw [ex99a l n i _]
    obtain ⟨⟨h1, h2, rfl, h8⟩, h⟩ := h
    by_cases hi : i < l.length
    · have hw : IntKind.i64.wrap (i + 1) = i + 1 := wrap_id (by omega) (by omega)
      have hi' : i.toNat < l.length := by omega
      have hmu : l.length - (i + 1).toNat < l.length - i.toNat := by omega
      obtain ⟨xs, hxs, hx8, hd, _⟩ := row_some hi' h8
      rw [hd, List.all_cons, show i.toNat + 1 = (i + 1).toNat by omega] at h
      simp only [hxs, list8 hx8]
      simp only [hi, hi', h2, hw, decide_true, Bool.and_self, cond_true, show decide (7 < 8) = true by decide]
      unfold okRow at h
      cases hs : xs.all sampleG with
      | true => rw [hs] at h; exact ⟨⟨⟨h1, by omega, rfl, h8⟩, h⟩, hmu⟩
      | false => rw [hs] at h; exact h
    · rw [List.drop_eq_nil_of_le (by omega)] at h
      simp only [hi, decide_false, cond_false]
      exact h
  · exact h.elim
theorem ok99 : SpecOK Try.prog 99 each8S := by
  refine specOK (n := 21) (m := 0) (lps := [(2, .spec [1, 8, 9, 10] [4] each8L)]) (.cons ok82 .nil) Try.func99 (by kernel_rfl) (by kernel_rfl) (theLoops (n := 1) (by kernel_rfl) fun i hi => ?_) fun args σ K h => ?_
  · match i, hi with
    | 0, _ => exact loopHyp_of (key := 2) (by kernel_rfl) rfl lok99
  · unfold each8S at h
    split at h
    · rename_i l
      rw [ex99 l K]
      obtain ⟨⟨h1, h8⟩, h⟩ := h
      refine ⟨⟨h1, by omega, rfl, h8⟩, ?_⟩
      cases hs : l.all okRow with
      | true => rw [hs] at h; exact h
      | false => rw [hs] at h; exact h
    · exact h.elim
theorem kept_cons {ws : List Int} {i : Int} {xs : List Int} {l : List (List Int)} (h : keptB ws i (xs :: l) = true) : (memB i ws = true ∨ okRow xs = true) ∧ keptB ws (i + 1) l = true := by
  simp only [keptB, Bool.and_eq_true, Bool.or_eq_true] at h
  exact h
theorem okRow_get {xs : List Int} (h : okRow xs = true) (a : Nat) : -32767 ≤ xs.getD a 0 ∧ xs.getD a 0 ≤ 32767 := by
  by_cases ha : a < xs.length
  · rw [getD_of_lt ha]; exact sample_range (List.all_eq_true.1 h _ (List.getElem_mem ha))
  · rw [List.getD, List.getElem?_eq_none (by omega)]; exact ⟨by decide, by decide⟩
theorem parR_cons (ws : List Int) (j : Int) (a : Nat) (out i : Int) (xs : List Int) (l : List (List Int)) : parR ws j a out i (xs :: l) = parR ws j a (bif memB i ws then out else modG (out + modG (facG i j * modG (xs.getD a 0 + 32768)))) (i + 1) l := rfl
theorem lok100 : LoopOK E100 (lb Try.f100 0) [1, 2, 3, 9, 12, 13, 14] [9] parityL := by
  refine loopOK (.cons ok113 (.cons ok115 (.cons ok116 (.cons ok130 .nil)))) (noInner (by kernel_rfl)) (fun vs _ => match vs with
    | [_, _, _, _, .one (.data (.mat .i64 8 l)), _, .one (.int .i64 i)] => l.length - i.toNat
    | _ => 0) fun vs σ k h => ?_
  unfold parityL at h
  split at h
  · rename_i ws j a out xss n i
    rw [ex100a xss ws j a out n i _]
    obtain ⟨⟨h1, h2, h3, h4, h5, h6, h7, rfl, h9, h10, h8, hk⟩, h⟩ := h
    by_cases hi : i < xss.length
    · have hw : IntKind.i64.wrap (i + 1) = i + 1 := wrap_id (by omega) (by omega)
      have hi' : i.toNat < xss.length := by omega
      have hmu : xss.length - (i + 1).toNat < xss.length - i.toNat := by omega
      obtain ⟨xs, hxs, hx8, hd, _⟩ := row_some hi' h8
      rw [hd] at hk
      obtain ⟨hk1, hk2⟩ := kept_cons hk
      rw [hd, parR_cons, show i.toNat + 1 = (i + 1).toNat by omega] at h
      rw [show i.toNat + 1 = (i + 1).toNat by omega] at hk2
      simp only [hxs, list8 hx8]
      have ha7 : a < 8 := by omega
      have ha8 : a.toNat < xs.length := by omega
      have h1' : ws.length ≤ 1000000000 := by omega
      simp only [hi, hi', h5, ha7, ha8, h7, hw, Nat.zero_add, Nat.add_zero, decide_true, Bool.and_self, cond_true, show decide (7 < 8) = true by decide]
      refine ⟨h1', ?_⟩
      cases hm : memB i ws with
      | true =>
        rw [hm] at h
        exact ⟨⟨⟨h1, h2, h3, h4, h5, h6, by omega, rfl, h9, h10, h8, hk2⟩, h⟩, hmu⟩
      | false =>
        rw [hm] at h hk1
        have hok := hk1.resolve_left (by simp)
        have hg := okRow_get hok a.toNat
        have hf := facG_range i j
        have hv := modG_range (xs.getD a.toNat 0 + 32768)
        have hv2 := modG_range (facG i j * modG (xs.getD a.toNat 0 + 32768))
        have hv3 := modG_range (out + modG (facG i j * modG (xs.getD a.toNat 0 + 32768)))
        simp only [Bool.not_false, cond_true]
        rw [wrap_id (n := xs.getD a.toNat 0 + 32768) (by omega) (by omega), wrap_id (n := out + modG (facG i j * modG (xs.getD a.toNat 0 + 32768))) (by omega) (by omega)]
        exact ⟨⟨trivial, by omega, h3, h4⟩, ⟨hf.1, hf.2, hv.1, hv.2⟩, ⟨⟨h1, h2, h3, h4, h5, h6, by omega, rfl, hv3.1, hv3.2, h8, hk2⟩, h⟩, hmu⟩
    · rw [List.drop_eq_nil_of_le (by omega)] at h
      simp only [hi, decide_false, cond_false]
      exact h
  · exact h.elim
theorem ok100 : SpecOK Try.prog 100 parityS := by
  refine specOK (n := 37) (m := 0) (lps := [(3, .spec [1, 2, 3, 9, 12, 13, 14] [9] parityL)]) (.cons ok113 (.cons ok115 (.cons ok116 (.cons ok130 .nil)))) Try.func100 (by kernel_rfl) (by kernel_rfl) (theLoops (n := 1) (by kernel_rfl) fun i hi => ?_) fun args σ K h => ?_
  · match i, hi with
    | 0, _ => exact loopHyp_of (key := 3) (by kernel_rfl) rfl lok100
  · unfold parityS at h
    split at h
    · rename_i xss ws j a
      rw [ex100 xss ws j a K]
      obtain ⟨⟨h1, h2, h3, h4, h5, h6, h7, h8⟩, h⟩ := h
      exact ⟨⟨h1, h2, h3, h4, h5, h6, by decide, rfl, by decide, by decide, h7, h8⟩, h⟩
    · exact h.elim
theorem colsF_length (xss : List (List Int)) (j : Int) : ∀ (c a : Nat), (colsF xss j a c).length = c
  | 0, _ => rfl
  | c + 1, a => by simp [colsF, colsF_length xss j c]
theorem rowsF_length (xss : List (List Int)) : ∀ (c : Nat) (j : Int), (rowsF xss j c).length = c
  | 0, _ => rfl
  | c + 1, j => by simp [rowsF, rowsF_length xss c]
theorem rowsF_len8 (xss : List (List Int)) : ∀ (c : Nat) (j : Int), (rowsF xss j c).all len8 = true
  | 0, _ => rfl
  | c + 1, j => by simp [rowsF, rowsF_len8 xss c, len8, colsF_length]
theorem all_set {l : List (List Int)} {n : Nat} {x : List Int} (h : l.all len8 = true) (hx : len8 x = true) : (l.set n x).all len8 = true := by
  rw [List.all_eq_true] at h ⊢
  intro y hy
  rcases List.mem_or_eq_of_mem_set hy with hy | hy
  · exact h y hy
  · rw [hy]; exact hx
theorem ok40L : AllOK Try.prog [(70, unlessS), (99, each8S), (71, withinS), (69, firstS), (100, parityS)] := .cons ok70 (.cons ok99 (.cons ok71 (.cons ok69 (.cons ok100 .nil))))
theorem set_take {l : List Int} {a : Nat} {v : Int} {r : List Int} (h : a < l.length) : (l.set a v).take (a + 1) ++ r = l.take a ++ (v :: r) := by
  rw [take_set_succ h, List.append_assoc]
  rfl
theorem lok40b : LoopOK E40 (lb Try.f40 1) [0, 7, 8, 31, 32, 35] [0, 7, 31, 32] par9L := by
  refine loopOK ok40L (noInner (by kernel_rfl)) (fun vs _ => match vs with
    | [_, _, _, _, _, .one (.int .i64 a)] => (8 - a).toNat
    | _ => 0) fun vs σ k h => ?_
  unfold par9L at h
  split at h
  · rename_i xss j n jj a out
    rw [ex40b xss out n j jj a _]
    obtain ⟨⟨⟨d1, d2, d3⟩, h2, h3, h4, h5, h6, h8⟩, h⟩ := h
    have hj' : j.toNat < out.length := by omega
    obtain ⟨xs, hxs, hx8, _, hg⟩ := row_some hj' h8
    simp only [hxs]
    rw [hg] at h
    by_cases hi : a < 8
    · have hw : IntKind.i64.wrap (a + 1) = a + 1 := wrap_id (by omega) (by omega)
      have e1 : (8 - a).toNat = (8 - (a + 1)).toNat + 1 := by omega
      have hmu : (8 - (a + 1)).toNat < (8 - a).toNat := by omega
      have ha8 : a.toNat < 8 := by omega
      simp only [hi, h3, h4, h5, hj', ha8, hx8, hw, Nat.zero_add, decide_true, Bool.and_self, cond_true]
      have hl8 : len8 (xs.set a.toNat (parR [] j a.toNat 0 0 xss)) = true := by unfold len8; rw [List.length_set, hx8]; rfl
      have hset := all_set (n := j.toNat) h8 hl8
      refine ⟨⟨Nat.zero_le _, d1, trivial, by omega, trivial, by omega, d2, d3⟩, ⟨⟨⟨d1, d2, d3⟩, by rw [List.length_set]; exact h2, h3, by rw [List.length_set]; exact h4, by omega, by omega, hset⟩, ?_⟩, hmu⟩
      have e2 : ((out.set j.toNat (xs.set a.toNat (parR [] j a.toNat 0 0 xss))).getD j.toNat []) = xs.set a.toNat (parR [] j a.toNat 0 0 xss) := by
        simp [List.getD, hj']
      rw [e1] at h
      rw [e2, List.set_set, show (a + 1).toNat = a.toNat + 1 by omega, set_take (by rw [hx8]; exact ha8)]
      exact h
    · have e : a = 8 := by omega
      subst e
      simp only [Int.toNat_zero, show (8 - 8 : Int).toNat = 0 by decide, colsF, List.append_nil] at h
      rw [List.take_of_length_le (by rw [hx8]; decide)] at h
      have e2 : out.set j.toNat xs = out := by
        have := List.getElem?_eq_some_iff.1 hxs
        obtain ⟨p, q⟩ := this
        rw [← q]; exact List.set_getElem_self p
      rw [e2] at h
      exact h
  · exact h.elim
theorem kept_all {xss : List (List Int)} (h : xss.all okRow = true) : ∀ i, keptB [] i xss = true := by
  induction xss with
  | nil => intro i; rfl
  | cons xs l ih =>
    intro i
    simp only [List.all_cons, Bool.and_eq_true] at h
    simp only [keptB, h.1, ih h.2, Bool.or_true, Bool.and_self]
theorem ok41 : SpecOK Try.prog 41 copyDataS := by
  refine specOK (n := 6) (m := 0) (lps := []) .nil Try.func41 (by kernel_rfl) (by kernel_rfl) (noLoops (by kernel_rfl)) fun args σ K h => ?_
  unfold copyDataS at h
  split at h
  · rename_i l
    rw [ex41 l K]
    obtain ⟨h1, h⟩ := h
    rw [decide_eq_true (by omega), cond_true]
    exact h
  · exact h.elim
theorem lok44 : LoopOK E44 (lb Try.f44 0) [0, 1, 5] [1, 4] dataErrL := by
  refine loopOK (.cons ok29 (.cons ok25 .nil)) (noInner (by kernel_rfl)) (fun vs _ => match vs with
    | [.one (.data (.mat .i64 8 l)), _, .one (.int .i64 i)] => l.length - i.toNat
    | _ => 0) fun vs σ k h => ?_
  unfold dataErrL at h
  split at h
  · rename_i l c i
    rw [ex44a l c i _]
    obtain ⟨⟨h1, h2, h8⟩, h⟩ := h
    by_cases hi : i < l.length
    · have hw : IntKind.i64.wrap (i + 1) = i + 1 := wrap_id (by omega) (by omega)
      have hi' : i.toNat < l.length := by omega
      have hmu : l.length - (i + 1).toNat < l.length - i.toNat := by omega
      obtain ⟨xs, hxs, hx8, hd, _⟩ := row_some hi' h8
      rw [hd, List.all_cons, show i.toNat + 1 = (i + 1).toNat by omega] at h
      simp only [hxs, list8 hx8]
      simp only [hi, hi', h2, hw, decide_true, Bool.and_self, cond_true, show decide (7 < 8) = true by decide]
      unfold okRow at h
      cases hs : xs.all sampleG with
      | true => rw [hs] at h; exact ⟨⟨⟨h1, by omega, h8⟩, h⟩, hmu⟩
      | false => rw [hs] at h; exact h
    · rw [List.drop_eq_nil_of_le (by omega)] at h
      simp only [hi, decide_false, cond_false]
      exact h
  · exact h.elim
theorem eq8 {xs ys : List Int} (h1 : xs.length = 8) (h2 : ys.length = 8) : (xs.getD 0 0 == ys.getD 0 0 && (xs.getD 1 0 == ys.getD 1 0 && (xs.getD 2 0 == ys.getD 2 0 && (xs.getD 3 0 == ys.getD 3 0 && (xs.getD 4 0 == ys.getD 4 0 && (xs.getD 5 0 == ys.getD 5 0 && (xs.getD 6 0 == ys.getD 6 0 && xs.getD 7 0 == ys.getD 7 0))))))) = (xs == ys) := by
  match xs, ys, h1, h2 with
  | [a0, a1, a2, a3, a4, a5, a6, a7], [b0, b1, b2, b3, b4, b5, b6, b7], _, _ => simp [List.cons_beq_cons]
theorem lok45 : LoopOK E45 (lb Try.f45 0) [0, 1, 5] [4] sameDataL := by
  refine loopOK .nil (noInner (by kernel_rfl)) (fun vs _ => match vs with
    | [.one (.data (.mat .i64 8 l)), _, .one (.int .i64 i)] => l.length - i.toNat
    | _ => 0) fun vs σ k h => ?_
  unfold sameDataL at h
  split at h
  · rename_i a b i
    rw [ex45a a b i _]
    obtain ⟨⟨h1, h2, h3, h8, h8'⟩, h⟩ := h
    by_cases hi : i < a.length
    · have hw : IntKind.i64.wrap (i + 1) = i + 1 := wrap_id (by omega) (by omega)
      have hi' : i.toNat < a.length := by omega
      have hj : i < b.length := by omega
      have hj' : i.toNat < b.length := by omega
      have hmu : a.length - (i + 1).toNat < a.length - i.toNat := by omega
      obtain ⟨xs, hxs, hx8, hd, _⟩ := row_some hi' h8
      obtain ⟨ys, hys, hy8, hd', _⟩ := row_some hj' h8'
      rw [hd, hd', show i.toNat + 1 = (i + 1).toNat by omega, List.cons_beq_cons] at h
      simp only [hxs, hys, eq8 hx8 hy8]
      simp only [hi, hi', hj, hj', h3, hw, decide_true, Bool.and_self, cond_true, show decide (7 < 8) = true by decide]
      cases hs : xs == ys with
      | true =>
        rw [hs, Bool.true_and] at h
        exact ⟨⟨⟨h1, h2, by omega, h8, h8'⟩, h⟩, hmu⟩
      | false => rw [hs] at h; exact h
    · rw [List.drop_eq_nil_of_le (by omega), List.drop_eq_nil_of_le (by omega)] at h
      simp only [hi, decide_false, cond_false]
      exact h
  · exact h.elim
theorem ok45 : SpecOK Try.prog 45 sameDataS := by
  refine specOK (n := 26) (m := 0) (lps := [(4, .spec [0, 1, 5] [4] sameDataL)]) .nil Try.func45 (by kernel_rfl) (by kernel_rfl) (theLoops (n := 1) (by kernel_rfl) fun i hi => ?_) fun args σ K h => ?_
  · match i, hi with
    | 0, _ => exact loopHyp_of (key := 4) (by kernel_rfl) rfl lok45
  · unfold sameDataS at h
    split at h
    · rename_i a b
      rw [ex45 a b K]
      obtain ⟨⟨h1, h8, h8'⟩, h⟩ := h
      by_cases hl : a.length = b.length
      · have e : ((a.length : Int) != (b.length : Int)) = false := by simp [hl]
        rw [e]
        refine ⟨⟨h1, hl, by decide, h8, h8'⟩, ?_⟩
        cases hs : a == b <;> rw [hs] at h <;> exact h
      · have e : ((a.length : Int) != (b.length : Int)) = true := by simp; omega
        have e2 : (a == b) = false := beq_eq_false_iff_ne.2 fun hh => hl (by rw [hh])
        rw [e2] at h
        rw [e]
        exact h
    · exact h.elim
theorem ref_step {j i : Int} {a : Nat} {out : Int} {xs : List Int} (ho : 0 ≤ out ∧ out < 65537) (hok : okRow xs = true) :
    (IntKind.i64.wrap (out + IntKind.i64.wrap (facG i j * IntKind.i64.wrap (xs.getD a 0 + 32768)))).tmod 65537 = modG (out + modG (facG i j * modG (xs.getD a 0 + 32768))) := by
  have hg := okRow_get hok a
  have hf := facG_range i j
  have hm := mul_range (a := facG i j) (b := xs.getD a 0 + 32768) ⟨hf.1, hf.2, by omega, by omega⟩
  rw [wrap_id (n := xs.getD a 0 + 32768) (by omega) (by omega), wrap_id (n := facG i j * (xs.getD a 0 + 32768)) (by omega) (by omega), wrap_id (by omega) (by omega)]
  rw [modG_small (n := xs.getD a 0 + 32768) (by omega) (by omega), modG_emod, modG_emod, Int.tmod_eq_emod_of_nonneg (by omega)]
  omega
theorem ok46L : AllOK Try.prog [(101, refFactorS)] := .cons ok101 .nil
theorem kept_drop {xss : List (List Int)} (h : keptB [] 0 xss = true) : ∀ {n : Nat} {xs : List Int}, xss[n]? = some xs → okRow xs = true := by
  have : ∀ (l : List (List Int)) (i : Int), keptB [] i l = true → ∀ xs ∈ l, okRow xs = true := by
    intro l
    induction l with
    | nil => intro i _ xs h; simp at h
    | cons y l ih =>
      intro i h xs hx
      obtain ⟨h1, h2⟩ := kept_cons h
      rcases List.mem_cons.1 hx with rfl | hx
      · exact h1.resolve_left (by simp [memB])
      · exact ih _ h2 xs hx
  intro n xs hn
  exact this _ _ h xs (List.mem_of_getElem? hn)
theorem p_range {p : List Int} (h : ∀ x ∈ p, 0 ≤ x ∧ x < 65537) (a : Nat) : 0 ≤ p.getD a 0 ∧ p.getD a 0 < 65537 := by
  by_cases ha : a < p.length
  · rw [getD_of_lt ha]; exact h _ (List.getElem_mem ha)
  · rw [List.getD, List.getElem?_eq_none (by omega)]; exact ⟨by decide, by decide⟩
theorem set_range {p : List Int} {a : Nat} {v : Int} (h : ∀ x ∈ p, 0 ≤ x ∧ x < 65537) (hv : 0 ≤ v ∧ v < 65537) : ∀ x ∈ p.set a v, 0 ≤ x ∧ x < 65537 := by
  intro x hx
  rcases List.mem_or_eq_of_mem_set hx with hx | hx
  · exact h x hx
  · rw [hx]; exact hv
theorem set_getD_self {p : List Int} {a : Nat} : p.set a (p.getD a 0) = p := by
  by_cases ha : a < p.length
  · rw [getD_of_lt ha]; exact List.set_getElem_self ha
  · exact List.set_eq_of_length_le (by omega)
theorem lok46c : LoopOK E46 (lb Try.f46 2) [0, 1, 5, 6, 7, 8, 9] [0, 1, 5, 6, 7, 8] ref10L := by
  refine loopOK ok46L (noInner (by kernel_rfl)) (fun vs _ => match vs with
    | [.one (.data (.mat .i64 8 l)), _, _, _, _, _, .one (.int .i64 i)] => l.length - i.toNat
    | _ => 0) fun vs σ k h => ?_
  unfold ref10L at h
  split at h
  · rename_i xss c j a i p
    rw [ex46e xss c j a i p _]
    obtain ⟨⟨⟨⟨d1, d2, d3⟩, h1, h2, h3, h4⟩, h5, h6, h7, h7'⟩, h⟩ := h
    by_cases hi : i < xss.length
    · have hw : IntKind.i64.wrap (i + 1) = i + 1 := wrap_id (by omega) (by omega)
      have hi' : i.toNat < xss.length := by omega
      have hmu : xss.length - (i + 1).toNat < xss.length - i.toNat := by omega
      obtain ⟨xs, hxs, hx8, hd, _⟩ := row_some hi' d2
      have hok := kept_drop d3 hxs
      have ha8 : a < 8 := by omega
      have ha' : a.toNat < p.length := by omega
      have ha'' : a.toNat < 8 := by omega
      simp only [hxs]
      simp only [hi, hi', h5, ha8, ha', ha'', h7, hw, Nat.zero_add, Nat.add_zero, decide_true, Bool.and_self, cond_true]
      rw [ref_step (p_range h4 a.toNat) hok]
      rw [hd, parR_cons, show i.toNat + 1 = (i + 1).toNat by omega] at h
      have hv := modG_range (p.getD a.toNat 0 + modG (facG i j * modG (xs.getD a.toNat 0 + 32768)))
      refine ⟨⟨trivial, by omega, h1, h2⟩, ⟨⟨⟨⟨d1, d2, d3⟩, h1, h2, by rw [List.length_set]; exact h3, set_range h4 hv⟩, h5, h6, by omega, by omega⟩, ?_⟩, hmu⟩
      rw [List.set_set, getD_set_self ha']
      exact h
    · rw [List.drop_eq_nil_of_le (by omega)] at h
      simp only [hi, decide_false, cond_false]
      simp only [parR, set_getD_self] at h
      exact h
  · rename_i xss c j a i out p
    rw [ex46f xss out c j a i p _]
    obtain ⟨⟨⟨⟨d1, d2, d3⟩, h1, h2, h3, h4⟩, h5, h6, h7, h7'⟩, h⟩ := h
    by_cases hi : i < xss.length
    · have hw : IntKind.i64.wrap (i + 1) = i + 1 := wrap_id (by omega) (by omega)
      have hi' : i.toNat < xss.length := by omega
      have hmu : xss.length - (i + 1).toNat < xss.length - i.toNat := by omega
      obtain ⟨xs, hxs, hx8, hd, _⟩ := row_some hi' d2
      have hok := kept_drop d3 hxs
      have ha8 : a < 8 := by omega
      have ha' : a.toNat < p.length := by omega
      have ha'' : a.toNat < 8 := by omega
      simp only [hxs]
      simp only [hi, hi', h5, ha8, ha', ha'', h7, hw, Nat.zero_add, Nat.add_zero, decide_true, Bool.and_self, cond_true]
      rw [ref_step (p_range h4 a.toNat) hok]
      rw [hd, parR_cons, show i.toNat + 1 = (i + 1).toNat by omega] at h
      have hv := modG_range (p.getD a.toNat 0 + modG (facG i j * modG (xs.getD a.toNat 0 + 32768)))
      refine ⟨⟨trivial, by omega, h1, h2⟩, ⟨⟨⟨⟨d1, d2, d3⟩, h1, h2, by rw [List.length_set]; exact h3, set_range h4 hv⟩, h5, h6, by omega, by omega⟩, ?_⟩, hmu⟩
      rw [List.set_set, getD_set_self ha']
      exact h
    · rw [List.drop_eq_nil_of_le (by omega)] at h
      simp only [hi, decide_false, cond_false]
      simp only [parR, set_getD_self] at h
      exact h
  · exact h.elim
theorem parR_range {j : Int} {a : Nat} : ∀ (l : List (List Int)) (out i : Int), (0 ≤ out ∧ out < 65537) → 0 ≤ parR [] j a out i l ∧ parR [] j a out i l < 65537
  | [], _, _, h => h
  | xs :: l, out, i, h => by
    rw [parR_cons]
    exact parR_range l _ _ (modG_range _)
theorem colsF_s (xss : List (List Int)) (j : Int) (a c : Nat) : colsF xss j a (c + 1) = parR [] j a 0 0 xss :: colsF xss j (a + 1) c := rfl
theorem inner46b : ∀ b' ∈ loopsOf (lb Try.f46 1), LoopHyp E46 b' := by
  have hl : loopsOf (lb Try.f46 1) = [lb Try.f46 2] := by kernel_rfl
  rw [hl]
  intro b' hb
  rw [List.mem_singleton] at hb
  subst hb
  exact loopHyp_of (key := 10) (by kernel_rfl) rfl lok46c
theorem lok46b : LoopOK E46 (lb Try.f46 1) [0, 1, 5, 6, 7, 8] [0, 1, 5, 6, 7] ref7L := by
  refine loopOK ok46L inner46b (fun vs _ => match vs with
    | [_, _, _, _, _, .one (.int .i64 a)] => (8 - a).toNat
    | _ => 0) fun vs σ k h => ?_
  unfold ref7L at h
  split at h
  · rename_i xss c j a p
    rw [ex46c xss c j a p _]
    obtain ⟨⟨⟨⟨d1, d2, d3⟩, h1, h2, h3, h4⟩, h5, h6, h7⟩, h⟩ := h
    by_cases hi : a < 8
    · have hw : IntKind.i64.wrap (a + 1) = a + 1 := wrap_id (by omega) (by omega)
      have e1 : (8 - a).toNat = (8 - (a + 1)).toNat + 1 := by omega
      have hmu : (8 - (a + 1)).toNat < (8 - a).toNat := by omega
      have ha' : a.toNat < p.length := by omega
      have hz : p.getD a.toNat 0 = 0 := h7 _ (Nat.le_refl _)
      simp only [hi, decide_true, cond_true, hw, hz]
      refine ⟨⟨⟨⟨d1, d2, d3⟩, h1, h2, h3, h4⟩, h5, by omega, by decide, by omega⟩, ⟨⟨⟨⟨d1, d2, d3⟩, h1, h2, by rw [List.length_set]; exact h3, set_range h4 (parR_range _ _ _ (by decide))⟩, by omega, by omega, fun i hi' => ?_⟩, ?_⟩, hmu⟩
      · have : ¬ a.toNat = i := by omega
        have hg := h7 i (by omega)
        simpa [List.getD, List.getElem?_set_ne this] using hg
      · rw [e1, colsF_s] at h
        rw [show (a + 1).toNat = a.toNat + 1 by omega, set_take ha']
        exact h
    · have e : a = 8 := by omega
      subst e
      simp only [show (8 - 8 : Int).toNat = 0 by decide, colsF, List.append_nil] at h
      rw [List.take_of_length_le (by rw [h3]; decide)] at h
      exact h
  · rename_i xss c j a out p
    rw [ex46d xss out c j a p _]
    obtain ⟨⟨⟨⟨d1, d2, d3⟩, h1, h2, h3, h4⟩, h5, h6, h7⟩, h⟩ := h
    by_cases hi : a < 8
    · have hw : IntKind.i64.wrap (a + 1) = a + 1 := wrap_id (by omega) (by omega)
      have e1 : (8 - a).toNat = (8 - (a + 1)).toNat + 1 := by omega
      have hmu : (8 - (a + 1)).toNat < (8 - a).toNat := by omega
      have ha' : a.toNat < p.length := by omega
      have hz : p.getD a.toNat 0 = 0 := h7 _ (Nat.le_refl _)
      simp only [hi, decide_true, cond_true, hw, hz]
      refine ⟨⟨⟨⟨d1, d2, d3⟩, h1, h2, h3, h4⟩, h5, by omega, by decide, by omega⟩, ⟨⟨⟨⟨d1, d2, d3⟩, h1, h2, by rw [List.length_set]; exact h3, set_range h4 (parR_range _ _ _ (by decide))⟩, by omega, by omega, fun i hi' => ?_⟩, ?_⟩, hmu⟩
      · have : ¬ a.toNat = i := by omega
        have hg := h7 i (by omega)
        simpa [List.getD, List.getElem?_set_ne this] using hg
      · rw [e1, colsF_s] at h
        rw [show (a + 1).toNat = a.toNat + 1 by omega, set_take ha']
        exact h
    · have e : a = 8 := by omega
      subst e
      simp only [show (8 - 8 : Int).toNat = 0 by decide, colsF, List.append_nil] at h
      rw [List.take_of_length_le (by rw [h3]; decide)] at h
      exact h
  · exact h.elim
theorem inner46a : ∀ b' ∈ loopsOf (lb Try.f46 0), LoopHyp E46 b' := by
  have hl : loopsOf (lb Try.f46 0) = [lb Try.f46 1, lb Try.f46 2] := by kernel_rfl
  rw [hl]
  intro b' hb
  rcases List.mem_cons.1 hb with rfl | hb
  · exact loopHyp_of (key := 7) (by kernel_rfl) rfl lok46b
  · rw [List.mem_singleton] at hb
    subst hb
    exact loopHyp_of (key := 10) (by kernel_rfl) rfl lok46c
theorem rowsF_s (xss : List (List Int)) (j : Int) (c : Nat) : rowsF xss j (c + 1) = colsF xss j 0 8 :: rowsF xss (j + 1) c := rfl
theorem zeros_mem : ∀ x ∈ ([0, 0, 0, 0, 0, 0, 0, 0] : List Int), 0 ≤ x ∧ x < 65537 := by
  intro x hx
  simp only [List.mem_cons, List.not_mem_nil, or_false, or_self] at hx
  subst hx
  exact ⟨by decide, by decide⟩
theorem zeros_getD (i : Nat) : ([0, 0, 0, 0, 0, 0, 0, 0] : List Int).getD i 0 = 0 := by
  have := getD_range (l := [0, 0, 0, 0, 0, 0, 0, 0]) (B := 0) (by decide) (fun u hu => by
    simp only [List.mem_cons, List.not_mem_nil, or_false, or_self] at hu
    omega) i
  omega
theorem lok46a : LoopOK E46 (lb Try.f46 0) [0, 1, 5, 6] [5] ref3L := by
  refine loopOK ok46L inner46a (fun vs _ => match vs with
    | [_, .one (.int .i64 c), _, .one (.int .i64 j)] => (c - j).toNat
    | _ => 0) fun vs σ k h => ?_
  unfold ref3L at h
  split at h
  · rename_i xss c j
    rw [ex46a xss c j _]
    obtain ⟨⟨⟨d1, d2, d3⟩, rfl, h2, h3⟩, h⟩ := h
    have hi : 0 < c := by omega
    have e8 := list8 (colsF_length xss 0 8 0)
    have hmu : (c - 1).toNat < (c - 0).toNat := by omega
    simp only [hi, decide_true, cond_true, e8, show IntKind.i64.wrap (0 + 1) = 1 by decide]
    refine ⟨⟨⟨⟨d1, d2, d3⟩, by decide, by decide, by first | rfl | trivial, zeros_mem⟩, by decide, by decide, fun i _ => zeros_getD i⟩, ⟨⟨⟨d1, d2, d3⟩, rfl, by decide, by omega, h3⟩, ?_⟩, hmu⟩
    rw [show c.toNat = (c - 1).toNat + 1 by omega, rowsF_s] at h
    exact h
  · rename_i xss c j out
    rw [ex46b xss out c j _]
    obtain ⟨⟨⟨d1, d2, d3⟩, h1, h2, h3, h4⟩, h⟩ := h
    by_cases hi : j < c
    · have e8 := list8 (colsF_length xss j 8 0)
      have hw : IntKind.i64.wrap (j + 1) = j + 1 := wrap_id (by omega) (by omega)
      have hmu : (c - (j + 1)).toNat < (c - j).toNat := by omega
      have hlen : (out ++ [colsF xss j 0 8]).length = out.length + 1 := by simp
      simp only [hi, decide_true, cond_true, e8, hw, hlen]
      rw [decide_eq_true (by omega), cond_true]
      refine ⟨⟨⟨⟨d1, d2, d3⟩, by omega, by omega, by first | rfl | trivial, zeros_mem⟩, by decide, by decide, fun i _ => zeros_getD i⟩, ⟨⟨⟨d1, d2, d3⟩, by rw [hlen]; omega, by omega, by omega, h4⟩, ?_⟩, hmu⟩
      rw [show (c - j).toNat = (c - (j + 1)).toNat + 1 by omega, rowsF_s] at h
      rw [List.append_assoc]
      exact h
    · have e : j = c := by omega
      subst e
      simp only [Int.sub_self, Int.toNat_zero, rowsF, List.append_nil] at h
      simp only [hi, decide_false, cond_false]
      exact h
  · exact h.elim
theorem ok46 : SpecOK Try.prog 46 refParityS := by
  refine specOK (n := 48) (m := 0) (lps := [(3, .spec [0, 1, 5, 6] [5] ref3L), (7, .spec [0, 1, 5, 6, 7, 8] [0, 1, 5, 6, 7] ref7L), (10, .spec [0, 1, 5, 6, 7, 8, 9] [0, 1, 5, 6, 7, 8] ref10L)]) ok46L Try.func46 (by kernel_rfl) (by kernel_rfl) (theLoops (n := 3) (by kernel_rfl) fun i hi => ?_) fun args σ K h => ?_
  · match i, hi with
    | 0, _ => exact loopHyp_of (key := 3) (by kernel_rfl) rfl lok46a
    | 1, _ => exact loopHyp_of (key := 7) (by kernel_rfl) rfl lok46b
    | 2, _ => exact loopHyp_of (key := 10) (by kernel_rfl) rfl lok46c
  · unfold refParityS at h
    split at h
    · rename_i xss c
      rw [ex46 xss c K]
      obtain ⟨⟨h1, h2, h3⟩, h⟩ := h
      exact ⟨⟨h1, rfl, h2, h3⟩, h⟩
    · exact h.elim
end Go.Ev
