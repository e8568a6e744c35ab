/-
  Part of the proof of a law.
-/
import Derived.Test.YtmailpnpjcpodaaGreatDoorC1GA
import Derived.KernelRfl
set_option linter.unusedVariables false
set_option linter.unusedSimpArgs false
set_option linter.unusedSectionVars false
/-
  Chapter 1, contracts: strings of blocks, second part.
-/
namespace Go.Ev
open Go Go.Proofs
set_option maxRecDepth 20000
set_option linter.unusedVariables false
def jnR : Bool → List Int → List UInt8
  | _, [] => []
  | f, x :: r => (bif f then [] else [32]) ++ itoG x ++ jnR false r
def i64B (n : Int) : Prop := -9223372036854775808 ≤ n ∧ n ≤ 9223372036854775807
def jnL : LSpec := fun vs σ k => match vs, σ with
  | [.one (.data (.ints .i64 l)), .one (.str s), .one (.int .i64 i)], [] => (l.length ≤ 1000 ∧ 0 ≤ i ∧ s.length ≤ 22 * i.toNat ∧ ∀ x ∈ l, i64B x) ∧ k (.exit 0) [.one (.str (s ++ jnR (i == 0) (l.drop i.toNat)))] []
  | _, _ => False
def jnS : Spec := fun args σ K => match args, σ with
  | [.one (.data (.ints .i64 l))], [] => (l.length ≤ 1000 ∧ ∀ x ∈ l, i64B x) ∧ K (.one (.str (jnR true l))) []
  | _, _ => False
def fldS : Spec := fun args σ K => match args, σ with
  | [.one (.ptr 0 1 0 0)], [.cells [.int .i64 c, .int .i64 ch, .int .i64 x0, .int .i64 x1, .int .i64 x2, .int .i64 x3, .int .i64 x4, .int .i64 x5, .int .i64 x6, .int .i64 x7, .int .i64 sm]] => K (.tup [.one (.own 1 1), .one (.own 2 1)]) [.cells [.int .i64 c, .int .i64 ch, .int .i64 x0, .int .i64 x1, .int .i64 x2, .int .i64 x3, .int .i64 x4, .int .i64 x5, .int .i64 x6, .int .i64 x7, .int .i64 sm], .cells [.ptr 0 1 0 0, .ptr 0 1 0 1, .ptr 0 1 0 2, .ptr 0 1 1 2, .ptr 0 1 2 2, .ptr 0 1 3 2, .ptr 0 1 4 2, .ptr 0 1 5 2, .ptr 0 1 6 2, .ptr 0 1 7 2, .ptr 0 1 0 10], .row 4 (.recs [.bool] [[.bool false], [.bool false], [.bool true], [.bool true], [.bool true], [.bool true], [.bool true], [.bool true], [.bool true], [.bool true], [.bool false]])]
  | _, _ => False
def all64 (l : List Int) : Prop := ∀ x ∈ l, i64B x
def fmbG (l : List Int) : List UInt8 := joinG 32 (l.map fun x => [.str (itoG x)])
def fmbS : Spec := fun args σ K => match args, σ with
  | [.agg [.int .i64 c, .int .i64 ch, .int .i64 x0, .int .i64 x1, .int .i64 x2, .int .i64 x3, .int .i64 x4, .int .i64 x5, .int .i64 x6, .int .i64 x7, .int .i64 sm]], [] => all64 [c, ch, x0, x1, x2, x3, x4, x5, x6, x7, sm] ∧ K (.one (.str (fmbG [c, ch, x0, x1, x2, x3, x4, x5, x6, x7, sm]))) []
  | _, _ => False
def pcI (s : List UInt8) (i : Nat) : List UInt8 := (pcs 32 s).getD i []
def nbB (s : List UInt8) (i : Nat) : Bool := numB (pcI s i) 6 && (decide (2 ≤ i) && decide (i ≤ 9) || decide (numV (pcI s i) 6 ≥ 0))
def nbV (s : List UInt8) (i : Nat) : Int := numV (pcI s i) 6
def nbA (s : List UInt8) : Bool := (pcs 32 s).length == 11 && (nbB s 0 && (nbB s 1 && (nbB s 2 && (nbB s 3 && (nbB s 4 && (nbB s 5 && (nbB s 6 && (nbB s 7 && (nbB s 8 && (nbB s 9 && nbB s 10))))))))))
def pbE (s : List UInt8) : Int := bif nbA s then blockE (nbV s 0) (nbV s 1) [nbV s 2, nbV s 3, nbV s 4, nbV s 5, nbV s 6, nbV s 7, nbV s 8, nbV s 9] (nbV s 10) else 7
def pbV (s : List UInt8) (i : Nat) : Int := bif pbE s == 0 then nbV s i else 0
def pabS : Spec := fun args σ K => match args, σ with
  | [.one (.str s)], [] => s.length ≤ 1000000 ∧ K (.tup [.agg [.int .i64 (pbV s 0), .int .i64 (pbV s 1), .int .i64 (pbV s 2), .int .i64 (pbV s 3), .int .i64 (pbV s 4), .int .i64 (pbV s 5), .int .i64 (pbV s 6), .int .i64 (pbV s 7), .int .i64 (pbV s 8), .int .i64 (pbV s 9), .int .i64 (pbV s 10)], .one (.int .i64 (pbE s))]) []
  | _, _ => False
def nb1 (i : Int) (s : List UInt8) : Bool := numB s 6 && ((decide (2 ≤ i) && decide (i ≤ 9)) || decide (numV s 6 ≥ 0))
def okR : Int → List (List D) → Bool
  | _, [] => true
  | i, x :: r => nb1 i (strG x) && okR (i + 1) r
def shortD (l : List (List D)) : Prop := ∀ x ∈ l, (strG x).length ≤ 1000000
def valR (l : List (List D)) : List Int := l.map fun x => numV (strG x) 6
def rpbL : LSpec := fun vs σ k => match vs, σ with
  | [.one (.ptr 0 1 0 0), .one (.data (.recs [.str] l)), .one (.ptr 1 1 0 0), .one (.int .i64 i)], [.cells [.int .i64 0, .int .i64 0, .int .i64 0, .int .i64 0, .int .i64 0, .int .i64 0, .int .i64 0, .int .i64 0, .int .i64 0, .int .i64 0, .int .i64 0], .row 92 (.ints .i64 q)] =>
    (q.length = 11 ∧ l.length = 11 ∧ 0 ≤ i ∧ i ≤ 11 ∧ shortD l) ∧ bif okR i (l.drop i.toNat) then k (.exit 0) [.one (.ptr 0 1 0 0), .any, .one (.ptr 1 1 0 0)] [.cells [.int .i64 0, .int .i64 0, .int .i64 0, .int .i64 0, .int .i64 0, .int .i64 0, .int .i64 0, .int .i64 0, .int .i64 0, .int .i64 0, .int .i64 0], .row 92 (.ints .i64 (q.take i.toNat ++ valR (l.drop i.toNat)))]
    else ∀ z : List Int, k .ret [.one (.ptr 0 1 0 0), .one (.int .i64 7), .one (.ptr 1 1 0 0)] [.cells [.int .i64 0, .int .i64 0, .int .i64 0, .int .i64 0, .int .i64 0, .int .i64 0, .int .i64 0, .int .i64 0, .int .i64 0, .int .i64 0, .int .i64 0], .row 92 (.ints .i64 z)]
  | _, _ => False
noncomputable abbrev Ejn : Env := envOf Tryz.prog [(53, decS)] [(3, .spec [0, 3, 4] [3] jnL)] 23 0
noncomputable abbrev Efld : Env := envOf Tryz.prog [] [(3, .unroll 9)] 41 1 [] [85]
noncomputable abbrev Efmb : Env := envOf Tryz.prog [(36, fldS), (37, itoaS), (38, joinS)] [(4, .unroll 12)] 28 0 [] [85]
noncomputable abbrev Erfb : Env := envOf Tryz.prog [(43, jnS)] [] 16 0
noncomputable abbrev Epab : Env := envOf Tryz.prog [(36, fldS), (39, splitS), (40, numberS), (24, blockS)] [(7, .unroll 12)] 58 0 [] [85]
noncomputable abbrev Erpb : Env := envOf Tryz.prog [(41, cutDS), (42, numS), (19, withinS), (11, blockS)] [(6, .spec [2, 4, 5, 6] [2, 3, 5] rpbL)] 62 0
end Go.Ev

namespace Go.Ev
open Go Go.Proofs
set_option maxRecDepth 100000
theorem exjn (l : List Int) (K : AV → List Blk → Prop) : evFn Ejn Tryz.f43 [.one (.data (.ints .i64 l))] [] K = ( (l.length ≤ 1000 ∧ (0 :Int) ≤ (0 :Int) ∧ 0 ≤ 0 ∧ ∀ (x : Int), x ∈ l → (-9223372036854775808 : Int) ≤ x ∧ x ≤ 9223372036854775807) ∧ K (.one (.str (jnR true l))) []) := by kernel_rfl
theorem exjnl0a (l : List Int) (s : List UInt8) (i : Int) (K : Ex → List AV → List Blk → Prop) : evBody Ejn (lb Tryz.f43 0) [0, 3, 4] [3] [.one (.data (.ints .i64 l)), .one (.str s), .one (.int .i64 i)] [] K = ( bif decide (i < (↑l.length : Int)) then bif decide (i > 0) then bif decide (s.length + 1 ≤ 140737488355328) then bif decide (0 ≤ i) && decide (i < (↑l.length : Int)) then bif decide (i.toNat + 0 < l.length) then ((-9223372036854775808 : Int) ≤ l.getD (i.toNat + 0) 0 ∧ l.getD (i.toNat + 0) (0 :Int) ≤ (9223372036854775807 :Int)) ∧ bif decide ((s ++ [(32 : UInt8)]).length + (itoG (l.getD (i.toNat + 0) 0)).length ≤ 140737488355328) then K .normal [.one (.data (Row.ints .i64 l)), .one (.str (s ++ [(32 : UInt8)] ++ itoG (l.getD (i.toNat + 0) 0))), .one (.int .i64 (IntKind.i64.wrap (i + 1)))] [] else False else False else False else False else bif decide (0 ≤ i) && decide (i < (↑l.length : Int)) then bif decide (i.toNat + 0 < l.length) then ((-9223372036854775808 : Int) ≤ l.getD (i.toNat + 0) 0 ∧ l.getD (i.toNat + 0) (0 :Int) ≤ (9223372036854775807 :Int)) ∧ bif decide (s.length + (itoG (l.getD (i.toNat + 0) 0)).length ≤ 140737488355328) then K .normal [.one (.data (Row.ints .i64 l)), .one (.str (s ++ itoG (l.getD (i.toNat + 0) 0))), .one (.int .i64 (IntKind.i64.wrap (i + 1)))] [] else False else False else False else K (.exit 0) [.one (.str s)] []) := by kernel_rfl
theorem exfld (c ch x0 x1 x2 x3 x4 x5 x6 x7 sm : Int) (K : AV → List Blk → Prop) : evFn Efld Tryz.f36 [.one (.ptr 0 1 0 0)] [.cells [.int .i64 c, .int .i64 ch, .int .i64 x0, .int .i64 x1, .int .i64 x2, .int .i64 x3, .int .i64 x4, .int .i64 x5, .int .i64 x6, .int .i64 x7, .int .i64 sm]] K = ( (K (AV.tup [.one (.own 1 1), .one (.own 2 1)]) [Blk.cells [SV.int .i64 c, SV.int .i64 ch, SV.int .i64 x0, SV.int .i64 x1, SV.int .i64 x2, SV.int .i64 x3, SV.int .i64 x4, SV.int .i64 x5, SV.int .i64 x6, SV.int .i64 x7, SV.int .i64 sm], Blk.cells [SV.ptr 0 1 0 0, SV.ptr 0 1 0 1, SV.ptr 0 1 0 2, SV.ptr 0 1 1 2, SV.ptr 0 1 2 2, SV.ptr 0 1 3 2, SV.ptr 0 1 4 2, SV.ptr 0 1 5 2, SV.ptr 0 1 6 2, SV.ptr 0 1 7 2, SV.ptr 0 1 0 10], Blk.row 4 (Row.recs [CK.bool] [[D.bool false], [D.bool false], [D.bool true], [D.bool true], [D.bool true], [D.bool true], [D.bool true], [D.bool true], [D.bool true], [D.bool true], [D.bool false]])] ∧ K (AV.tup [.one (.own 1 1), .one (.own 2 1)]) [Blk.cells [SV.int .i64 c, SV.int .i64 ch, SV.int .i64 x0, SV.int .i64 x1, SV.int .i64 x2, SV.int .i64 x3, SV.int .i64 x4, SV.int .i64 x5, SV.int .i64 x6, SV.int .i64 x7, SV.int .i64 sm], Blk.cells [SV.ptr 0 1 0 0, SV.ptr 0 1 0 1, SV.ptr 0 1 0 2, SV.ptr 0 1 1 2, SV.ptr 0 1 2 2, SV.ptr 0 1 3 2, SV.ptr 0 1 4 2, SV.ptr 0 1 5 2, SV.ptr 0 1 6 2, SV.ptr 0 1 7 2, SV.ptr 0 1 0 10], Blk.row 4 (Row.recs [CK.bool] [[D.bool false], [D.bool false], [D.bool true], [D.bool true], [D.bool true], [D.bool true], [D.bool true], [D.bool true], [D.bool true], [D.bool true], [D.bool false]])]) ∧ K (AV.tup [.one (.own 1 1), .one (.own 2 1)]) [Blk.cells [SV.int .i64 c, SV.int .i64 ch, SV.int .i64 x0, SV.int .i64 x1, SV.int .i64 x2, SV.int .i64 x3, SV.int .i64 x4, SV.int .i64 x5, SV.int .i64 x6, SV.int .i64 x7, SV.int .i64 sm], Blk.cells [SV.ptr 0 1 0 0, SV.ptr 0 1 0 1, SV.ptr 0 1 0 2, SV.ptr 0 1 1 2, SV.ptr 0 1 2 2, SV.ptr 0 1 3 2, SV.ptr 0 1 4 2, SV.ptr 0 1 5 2, SV.ptr 0 1 6 2, SV.ptr 0 1 7 2, SV.ptr 0 1 0 10], Blk.row 4 (Row.recs [CK.bool] [[D.bool false], [D.bool false], [D.bool true], [D.bool true], [D.bool true], [D.bool true], [D.bool true], [D.bool true], [D.bool true], [D.bool true], [D.bool false]])]) := by kernel_rfl
theorem exfmb (c ch x0 x1 x2 x3 x4 x5 x6 x7 sm : Int) (K : AV → List Blk → Prop) : evFn Efmb Tryz.f7 [.agg [.int .i64 c, .int .i64 ch, .int .i64 x0, .int .i64 x1, .int .i64 x2, .int .i64 x3, .int .i64 x4, .int .i64 x5, .int .i64 x6, .int .i64 x7, .int .i64 sm]] [] K = ( ((-9223372036854775808 : Int) ≤ c ∧ c ≤ 9223372036854775807) ∧ ((-9223372036854775808 : Int) ≤ ch ∧ ch ≤ 9223372036854775807) ∧ ((-9223372036854775808 : Int) ≤ x0 ∧ x0 ≤ 9223372036854775807) ∧ ((-9223372036854775808 : Int) ≤ x1 ∧ x1 ≤ 9223372036854775807) ∧ ((-9223372036854775808 : Int) ≤ x2 ∧ x2 ≤ 9223372036854775807) ∧ ((-9223372036854775808 : Int) ≤ x3 ∧ x3 ≤ 9223372036854775807) ∧ ((-9223372036854775808 : Int) ≤ x4 ∧ x4 ≤ 9223372036854775807) ∧ ((-9223372036854775808 : Int) ≤ x5 ∧ x5 ≤ 9223372036854775807) ∧ ((-9223372036854775808 : Int) ≤ x6 ∧ x6 ≤ 9223372036854775807) ∧ ((-9223372036854775808 : Int) ≤ x7 ∧ x7 ≤ 9223372036854775807) ∧ ((-9223372036854775808 : Int) ≤ sm ∧ sm ≤ 9223372036854775807) ∧ (1 ≤ [[D.str (itoG c)], [D.str (itoG ch)], [D.str (itoG x0)], [D.str (itoG x1)], [D.str (itoG x2)], [D.str (itoG x3)], [D.str (itoG x4)], [D.str (itoG x5)], [D.str (itoG x6)], [D.str (itoG x7)], [D.str (itoG sm)]].length ∧ [[D.str (itoG c)], [D.str (itoG ch)], [D.str (itoG x0)], [D.str (itoG x1)], [D.str (itoG x2)], [D.str (itoG x3)], [D.str (itoG x4)], [D.str (itoG x5)], [D.str (itoG x6)], [D.str (itoG x7)], [D.str (itoG sm)]].length ≤ 1000 ∧ (joinG (32 : UInt8) [[D.str (itoG c)], [D.str (itoG ch)], [D.str (itoG x0)], [D.str (itoG x1)], [D.str (itoG x2)], [D.str (itoG x3)], [D.str (itoG x4)], [D.str (itoG x5)], [D.str (itoG x6)], [D.str (itoG x7)], [D.str (itoG sm)]]).length ≤ 140737488355328) ∧ K (.one (.str (joinG (32 : UInt8) [[D.str (itoG c)], [D.str (itoG ch)], [D.str (itoG x0)], [D.str (itoG x1)], [D.str (itoG x2)], [D.str (itoG x3)], [D.str (itoG x4)], [D.str (itoG x5)], [D.str (itoG x6)], [D.str (itoG x7)], [D.str (itoG sm)]]))) []) := by kernel_rfl
def exrfb_x0 (c ch x0 x1 x2 x3 x4 x5 x6 x7 sm : Int) (K : AV → List Blk → Prop) : Prop := (
 (([c, ch, x0, x1, x2, x3, x4, x5, x6, x7, sm].length ≤ (1000 : Nat) ∧
 ∀ (x : Int),
 x ∈
 (fun x => c :: x) ((fun x => ch :: x) []) ++
 (fun x => x0 :: x)
 ((fun x => x1 :: x)
 ((fun x => x2 :: x)
 ((fun x => x3 :: x)
 ((fun x => x4 :: x) ((fun x => x5 :: x) ((fun x => x6 :: x) ((fun x => x7 :: x) []))))))) ++
 (fun x => sm :: x) [] →
 (-9223372036854775808 : Int) ≤ x ∧ x ≤ (9223372036854775807 : Int)) ∧
 K (AV.one (SV.str (jnR true [c, ch, x0, x1, x2, x3, x4, x5, x6, x7, sm]))) []) ∧
 ([c, ch, x0, x1, x2, x3, x4, x5, x6, x7, sm].length ≤ (1000 : Nat) ∧
 ∀ (x : Int),
 x ∈
 (fun x => c :: x) ((fun x => ch :: x) []) ++
 (fun x => x0 :: x)
 ((fun x => x1 :: x)
 ((fun x => x2 :: x)
 ((fun x => x3 :: x)
 ((fun x => x4 :: x) ((fun x => x5 :: x) ((fun x => x6 :: x) ((fun x => x7 :: x) []))))))) ++
 (fun x => sm :: x) [] →
 (-9223372036854775808 : Int) ≤ x ∧ x ≤ (9223372036854775807 : Int)) ∧
 K (AV.one (SV.str (jnR true [c, ch, x0, x1, x2, x3, x4, x5, x6, x7, sm]))) [])
theorem exrfb (c ch x0 x1 x2 x3 x4 x5 x6 x7 sm : Int) (K : AV → List Blk → Prop) : evFn Erfb Tryz.f10 [.agg [.int .i64 c, .int .i64 ch, .int .i64 x0, .int .i64 x1, .int .i64 x2, .int .i64 x3, .int .i64 x4, .int .i64 x5, .int .i64 x6, .int .i64 x7, .int .i64 sm]] [] K = ( ((([c, ch, x0, x1, x2, x3, x4, x5, x6, x7, sm].length ≤ 1000 ∧ ∀ (x : Int), x ∈ (fun x => c :: x) ((fun x => ch :: x) []) ++ (fun x => x0 :: x) ((fun x => x1 :: x) ((fun x => x2 :: x) ((fun x => x3 :: x) ((fun x => x4 :: x) ((fun x => x5 :: x) ((fun x => x6 :: x) ((fun x => x7 :: x) []))))))) ++ (fun x => sm :: x) [] → (-9223372036854775808 : Int) ≤ x ∧ x ≤ 9223372036854775807) ∧ K (.one (.str (jnR true [c, ch, x0, x1, x2, x3, x4, x5, x6, x7, sm]))) []) ∧ exrfb_x0 c ch x0 x1 x2 x3 x4 x5 x6 x7 sm K) ∧ exrfb_x0 c ch x0 x1 x2 x3 x4 x5 x6 x7 sm K ∧ ([c, ch, x0, x1, x2, x3, x4, x5, x6, x7, sm].length ≤ 1000 ∧ ∀ (x : Int), x ∈ (fun x => c :: x) ((fun x => ch :: x) []) ++ (fun x => x0 :: x) ((fun x => x1 :: x) ((fun x => x2 :: x) ((fun x => x3 :: x) ((fun x => x4 :: x) ((fun x => x5 :: x) ((fun x => x6 :: x) ((fun x => x7 :: x) []))))))) ++ (fun x => sm :: x) [] → (-9223372036854775808 : Int) ≤ x ∧ x ≤ 9223372036854775807) ∧ K (.one (.str (jnR true [c, ch, x0, x1, x2, x3, x4, x5, x6, x7, sm]))) []) := by kernel_rfl
theorem expab (s : List UInt8) (K : AV → List Blk → Prop) : evFn Epab Tryz.f8 [.one (.str s)] [] K = ( s.length ≤ 1000000 ∧ bif (↑(List.map one1 (pcs (32 : UInt8) s)).length : Int) != (↑[SV.ptr [Blk.cells [SV.int .i64 0, SV.int .i64 0, SV.int .i64 0, SV.int .i64 0, SV.int .i64 0, SV.int .i64 0, SV.int .i64 0, SV.int .i64 0, SV.int .i64 0, SV.int .i64 0, SV.int .i64 0]].length 1 0 0, SV.ptr [Blk.cells [SV.int .i64 0, SV.int .i64 0, SV.int .i64 0, SV.int .i64 0, SV.int .i64 0, SV.int .i64 0, SV.int .i64 0, SV.int .i64 0, SV.int .i64 0, SV.int .i64 0, SV.int .i64 0]].length 1 0 1, SV.ptr [Blk.cells [SV.int .i64 0, SV.int .i64 0, SV.int .i64 0, SV.int .i64 0, SV.int .i64 0, SV.int .i64 0, SV.int .i64 0, SV.int .i64 0, SV.int .i64 0, SV.int .i64 0, SV.int .i64 0]].length 1 0 2, SV.ptr [Blk.cells [SV.int .i64 0, SV.int .i64 0, SV.int .i64 0, SV.int .i64 0, SV.int .i64 0, SV.int .i64 0, SV.int .i64 0, SV.int .i64 0, SV.int .i64 0, SV.int .i64 0, SV.int .i64 0]].length 1 1 2, SV.ptr [Blk.cells [SV.int .i64 0, SV.int .i64 0, SV.int .i64 0, SV.int .i64 0, SV.int .i64 0, SV.int .i64 0, SV.int .i64 0, SV.int .i64 0, SV.int .i64 0, SV.int .i64 0, SV.int .i64 0]].length 1 2 2, SV.ptr [Blk.cells [SV.int .i64 0, SV.int .i64 0, SV.int .i64 0, SV.int .i64 0, SV.int .i64 0, SV.int .i64 0, SV.int .i64 0, SV.int .i64 0, SV.int .i64 0, SV.int .i64 0, SV.int .i64 0]].length 1 3 2, SV.ptr [Blk.cells [SV.int .i64 0, SV.int .i64 0, SV.int .i64 0, SV.int .i64 0, SV.int .i64 0, SV.int .i64 0, SV.int .i64 0, SV.int .i64 0, SV.int .i64 0, SV.int .i64 0, SV.int .i64 0]].length 1 4 2, SV.ptr [Blk.cells [SV.int .i64 0, SV.int .i64 0, SV.int .i64 0, SV.int .i64 0, SV.int .i64 0, SV.int .i64 0, SV.int .i64 0, SV.int .i64 0, SV.int .i64 0, SV.int .i64 0, SV.int .i64 0]].length 1 5 2, SV.ptr [Blk.cells [SV.int .i64 0, SV.int .i64 0, SV.int .i64 0, SV.int .i64 0, SV.int .i64 0, SV.int .i64 0, SV.int .i64 0, SV.int .i64 0, SV.int .i64 0, SV.int .i64 0, SV.int .i64 0]].length 1 6 2, SV.ptr [Blk.cells [SV.int .i64 0, SV.int .i64 0, SV.int .i64 0, SV.int .i64 0, SV.int .i64 0, SV.int .i64 0, SV.int .i64 0, SV.int .i64 0, SV.int .i64 0, SV.int .i64 0, SV.int .i64 0]].length 1 7 2, SV.ptr [Blk.cells [SV.int .i64 0, SV.int .i64 0, SV.int .i64 0, SV.int .i64 0, SV.int .i64 0, SV.int .i64 0, SV.int .i64 0, SV.int .i64 0, SV.int .i64 0, SV.int .i64 0, SV.int .i64 0]].length 1 0 10].length : Int) then K (AV.tup [TV.agg [SV.int .i64 0, SV.int .i64 0, SV.int .i64 0, SV.int .i64 0, SV.int .i64 0, SV.int .i64 0, SV.int .i64 0, SV.int .i64 0, SV.int .i64 0, SV.int .i64 0, SV.int .i64 0], .one (.int .i64 7)]) [] else bif decide ((0 :Int) ≤ (0 :Int)) && decide (0 < (↑(List.map one1 (pcs (32 : UInt8) s)).length : Int)) then bif decide (0 < 1) && decide (0 < (List.map one1 (pcs (32 : UInt8) s)).length) then (((List.map one1 (pcs (32 : UInt8) s)).getD 0 []).getD 0 (D.int 0)).toStr.length ≤ 1000000 ∧ bif !nmB (((List.map one1 (pcs (32 : UInt8) s)).getD 0 []).getD 0 (D.int 0)).toStr false then K (AV.tup [TV.agg [SV.int .i64 0, SV.int .i64 0, SV.int .i64 0, SV.int .i64 0, SV.int .i64 0, SV.int .i64 0, SV.int .i64 0, SV.int .i64 0, SV.int .i64 0, SV.int .i64 0, SV.int .i64 0], .one (.int .i64 7)]) [] else bif decide ((0 :Int) ≤ (1 :Int)) && decide (1 < (↑(List.map one1 (pcs (32 : UInt8) s)).length : Int)) then bif decide (0 < 1) && decide (1 < (List.map one1 (pcs (32 : UInt8) s)).length) then (((List.map one1 (pcs (32 : UInt8) s)).getD 1 []).getD 0 (D.int 0)).toStr.length ≤ 1000000 ∧ bif !nmB (((List.map one1 (pcs (32 : UInt8) s)).getD 1 []).getD 0 (D.int 0)).toStr false then K (AV.tup [TV.agg [SV.int .i64 0, SV.int .i64 0, SV.int .i64 0, SV.int .i64 0, SV.int .i64 0, SV.int .i64 0, SV.int .i64 0, SV.int .i64 0, SV.int .i64 0, SV.int .i64 0, SV.int .i64 0], .one (.int .i64 7)]) [] else bif decide ((0 :Int) ≤ (2 :Int)) && decide (2 < (↑(List.map one1 (pcs (32 : UInt8) s)).length : Int)) then bif decide (0 < 1) && decide (2 < (List.map one1 (pcs (32 : UInt8) s)).length) then (((List.map one1 (pcs (32 : UInt8) s)).getD 2 []).getD 0 (D.int 0)).toStr.length ≤ 1000000 ∧ bif !nmB (((List.map one1 (pcs (32 : UInt8) s)).getD 2 []).getD 0 (D.int 0)).toStr true then K (AV.tup [TV.agg [SV.int .i64 0, SV.int .i64 0, SV.int .i64 0, SV.int .i64 0, SV.int .i64 0, SV.int .i64 0, SV.int .i64 0, SV.int .i64 0, SV.int .i64 0, SV.int .i64 0, SV.int .i64 0], .one (.int .i64 7)]) [] else bif decide ((0 :Int) ≤ (3 :Int)) && decide (3 < (↑(List.map one1 (pcs (32 : UInt8) s)).length : Int)) then bif decide (0 < 1) && decide (3 < (List.map one1 (pcs (32 : UInt8) s)).length) then (((List.map one1 (pcs (32 : UInt8) s)).getD 3 []).getD 0 (D.int 0)).toStr.length ≤ 1000000 ∧ bif !nmB (((List.map one1 (pcs (32 : UInt8) s)).getD 3 []).getD 0 (D.int 0)).toStr true then K (AV.tup [TV.agg [SV.int .i64 0, SV.int .i64 0, SV.int .i64 0, SV.int .i64 0, SV.int .i64 0, SV.int .i64 0, SV.int .i64 0, SV.int .i64 0, SV.int .i64 0, SV.int .i64 0, SV.int .i64 0], .one (.int .i64 7)]) [] else bif decide ((0 :Int) ≤ (4 :Int)) && decide (4 < (↑(List.map one1 (pcs (32 : UInt8) s)).length : Int)) then bif decide (0 < 1) && decide (4 < (List.map one1 (pcs (32 : UInt8) s)).length) then (((List.map one1 (pcs (32 : UInt8) s)).getD 4 []).getD 0 (D.int 0)).toStr.length ≤ 1000000 ∧ bif !nmB (((List.map one1 (pcs (32 : UInt8) s)).getD 4 []).getD 0 (D.int 0)).toStr true then K (AV.tup [TV.agg [SV.int .i64 0, SV.int .i64 0, SV.int .i64 0, SV.int .i64 0, SV.int .i64 0, SV.int .i64 0, SV.int .i64 0, SV.int .i64 0, SV.int .i64 0, SV.int .i64 0, SV.int .i64 0], .one (.int .i64 7)]) [] else bif decide ((0 :Int) ≤ (5 :Int)) && decide (5 < (↑(List.map one1 (pcs (32 : UInt8) s)).length : Int)) then bif decide (0 < 1) && decide (5 < (List.map one1 (pcs (32 : UInt8) s)).length) then (((List.map one1 (pcs (32 : UInt8) s)).getD 5 []).getD 0 (D.int 0)).toStr.length ≤ 1000000 ∧ bif !nmB (((List.map one1 (pcs (32 : UInt8) s)).getD 5 []).getD 0 (D.int 0)).toStr true then K (AV.tup [TV.agg [SV.int .i64 0, SV.int .i64 0, SV.int .i64 0, SV.int .i64 0, SV.int .i64 0, SV.int .i64 0, SV.int .i64 0, SV.int .i64 0, SV.int .i64 0, SV.int .i64 0, SV.int .i64 0], .one (.int .i64 7)]) [] else bif decide ((0 :Int) ≤ (6 :Int)) && decide (6 < (↑(List.map one1 (pcs (32 : UInt8) s)).length : Int)) then bif decide (0 < 1) && decide (6 < (List.map one1 (pcs (32 : UInt8) s)).length) then (((List.map one1 (pcs (32 : UInt8) s)).getD 6 []).getD 0 (D.int 0)).toStr.length ≤ 1000000 ∧ bif !nmB (((List.map one1 (pcs (32 : UInt8) s)).getD 6 []).getD 0 (D.int 0)).toStr true then K (AV.tup [TV.agg [SV.int .i64 0, SV.int .i64 0, SV.int .i64 0, SV.int .i64 0, SV.int .i64 0, SV.int .i64 0, SV.int .i64 0, SV.int .i64 0, SV.int .i64 0, SV.int .i64 0, SV.int .i64 0], .one (.int .i64 7)]) [] else bif decide ((0 :Int) ≤ (7 :Int)) && decide (7 < (↑(List.map one1 (pcs (32 : UInt8) s)).length : Int)) then bif decide (0 < 1) && decide (7 < (List.map one1 (pcs (32 : UInt8) s)).length) then (((List.map one1 (pcs (32 : UInt8) s)).getD 7 []).getD 0 (D.int 0)).toStr.length ≤ 1000000 ∧ bif !nmB (((List.map one1 (pcs (32 : UInt8) s)).getD 7 []).getD 0 (D.int 0)).toStr true then K (AV.tup [TV.agg [SV.int .i64 0, SV.int .i64 0, SV.int .i64 0, SV.int .i64 0, SV.int .i64 0, SV.int .i64 0, SV.int .i64 0, SV.int .i64 0, SV.int .i64 0, SV.int .i64 0, SV.int .i64 0], .one (.int .i64 7)]) [] else bif decide ((0 :Int) ≤ (8 :Int)) && decide (8 < (↑(List.map one1 (pcs (32 : UInt8) s)).length : Int)) then bif decide (0 < 1) && decide (8 < (List.map one1 (pcs (32 : UInt8) s)).length) then (((List.map one1 (pcs (32 : UInt8) s)).getD 8 []).getD 0 (D.int 0)).toStr.length ≤ 1000000 ∧ bif !nmB (((List.map one1 (pcs (32 : UInt8) s)).getD 8 []).getD 0 (D.int 0)).toStr true then K (AV.tup [TV.agg [SV.int .i64 0, SV.int .i64 0, SV.int .i64 0, SV.int .i64 0, SV.int .i64 0, SV.int .i64 0, SV.int .i64 0, SV.int .i64 0, SV.int .i64 0, SV.int .i64 0, SV.int .i64 0], .one (.int .i64 7)]) [] else bif decide ((0 :Int) ≤ (9 :Int)) && decide (9 < (↑(List.map one1 (pcs (32 : UInt8) s)).length : Int)) then bif decide (0 < 1) && decide (9 < (List.map one1 (pcs (32 : UInt8) s)).length) then (((List.map one1 (pcs (32 : UInt8) s)).getD 9 []).getD 0 (D.int 0)).toStr.length ≤ 1000000 ∧ bif !nmB (((List.map one1 (pcs (32 : UInt8) s)).getD 9 []).getD 0 (D.int 0)).toStr true then K (AV.tup [TV.agg [SV.int .i64 0, SV.int .i64 0, SV.int .i64 0, SV.int .i64 0, SV.int .i64 0, SV.int .i64 0, SV.int .i64 0, SV.int .i64 0, SV.int .i64 0, SV.int .i64 0, SV.int .i64 0], .one (.int .i64 7)]) [] else bif decide ((0 :Int) ≤ (10 :Int)) && decide (10 < (↑(List.map one1 (pcs (32 : UInt8) s)).length : Int)) then bif decide (0 < 1) && decide (10 < (List.map one1 (pcs (32 : UInt8) s)).length) then (((List.map one1 (pcs (32 : UInt8) s)).getD 10 []).getD 0 (D.int 0)).toStr.length ≤ 1000000 ∧ bif !nmB (((List.map one1 (pcs (32 : UInt8) s)).getD 10 []).getD 0 (D.int 0)).toStr false then K (AV.tup [TV.agg [SV.int .i64 0, SV.int .i64 0, SV.int .i64 0, SV.int .i64 0, SV.int .i64 0, SV.int .i64 0, SV.int .i64 0, SV.int .i64 0, SV.int .i64 0, SV.int .i64 0, SV.int .i64 0], .one (.int .i64 7)]) [] else bif blockE (atoV (((List.map one1 (pcs (32 : UInt8) s)).getD 0 []).getD 0 (D.int 0)).toStr) (atoV (((List.map one1 (pcs (32 : UInt8) s)).getD 1 []).getD 0 (D.int 0)).toStr) [atoV (((List.map one1 (pcs (32 : UInt8) s)).getD 2 []).getD 0 (D.int 0)).toStr, atoV (((List.map one1 (pcs (32 : UInt8) s)).getD 3 []).getD 0 (D.int 0)).toStr, atoV (((List.map one1 (pcs (32 : UInt8) s)).getD 4 []).getD 0 (D.int 0)).toStr, atoV (((List.map one1 (pcs (32 : UInt8) s)).getD 5 []).getD 0 (D.int 0)).toStr, atoV (((List.map one1 (pcs (32 : UInt8) s)).getD 6 []).getD 0 (D.int 0)).toStr, atoV (((List.map one1 (pcs (32 : UInt8) s)).getD 7 []).getD 0 (D.int 0)).toStr, atoV (((List.map one1 (pcs (32 : UInt8) s)).getD 8 []).getD 0 (D.int 0)).toStr, atoV (((List.map one1 (pcs (32 : UInt8) s)).getD 9 []).getD 0 (D.int 0)).toStr] (atoV (((List.map one1 (pcs (32 : UInt8) s)).getD 10 []).getD 0 (D.int 0)).toStr) != 0 then K (AV.tup [TV.agg [SV.int .i64 0, SV.int .i64 0, SV.int .i64 0, SV.int .i64 0, SV.int .i64 0, SV.int .i64 0, SV.int .i64 0, SV.int .i64 0, SV.int .i64 0, SV.int .i64 0, SV.int .i64 0], .one (.int .i64 (blockE (atoV (((List.map one1 (pcs (32 : UInt8) s)).getD 0 []).getD 0 (D.int 0)).toStr) (atoV (((List.map one1 (pcs (32 : UInt8) s)).getD 1 []).getD 0 (D.int 0)).toStr) [atoV (((List.map one1 (pcs (32 : UInt8) s)).getD 2 []).getD 0 (D.int 0)).toStr, atoV (((List.map one1 (pcs (32 : UInt8) s)).getD 3 []).getD 0 (D.int 0)).toStr, atoV (((List.map one1 (pcs (32 : UInt8) s)).getD 4 []).getD 0 (D.int 0)).toStr, atoV (((List.map one1 (pcs (32 : UInt8) s)).getD 5 []).getD 0 (D.int 0)).toStr, atoV (((List.map one1 (pcs (32 : UInt8) s)).getD 6 []).getD 0 (D.int 0)).toStr, atoV (((List.map one1 (pcs (32 : UInt8) s)).getD 7 []).getD 0 (D.int 0)).toStr, atoV (((List.map one1 (pcs (32 : UInt8) s)).getD 8 []).getD 0 (D.int 0)).toStr, atoV (((List.map one1 (pcs (32 : UInt8) s)).getD 9 []).getD 0 (D.int 0)).toStr] (atoV (((List.map one1 (pcs (32 : UInt8) s)).getD 10 []).getD 0 (D.int 0)).toStr)))]) [] else K (AV.tup [TV.agg [SV.int .i64 (atoV (((List.map one1 (pcs (32 : UInt8) s)).getD 0 []).getD 0 (D.int 0)).toStr), SV.int .i64 (atoV (((List.map one1 (pcs (32 : UInt8) s)).getD 1 []).getD 0 (D.int 0)).toStr), SV.int .i64 (atoV (((List.map one1 (pcs (32 : UInt8) s)).getD 2 []).getD 0 (D.int 0)).toStr), SV.int .i64 (atoV (((List.map one1 (pcs (32 : UInt8) s)).getD 3 []).getD 0 (D.int 0)).toStr), SV.int .i64 (atoV (((List.map one1 (pcs (32 : UInt8) s)).getD 4 []).getD 0 (D.int 0)).toStr), SV.int .i64 (atoV (((List.map one1 (pcs (32 : UInt8) s)).getD 5 []).getD 0 (D.int 0)).toStr), SV.int .i64 (atoV (((List.map one1 (pcs (32 : UInt8) s)).getD 6 []).getD 0 (D.int 0)).toStr), SV.int .i64 (atoV (((List.map one1 (pcs (32 : UInt8) s)).getD 7 []).getD 0 (D.int 0)).toStr), SV.int .i64 (atoV (((List.map one1 (pcs (32 : UInt8) s)).getD 8 []).getD 0 (D.int 0)).toStr), SV.int .i64 (atoV (((List.map one1 (pcs (32 : UInt8) s)).getD 9 []).getD 0 (D.int 0)).toStr), SV.int .i64 (atoV (((List.map one1 (pcs (32 : UInt8) s)).getD 10 []).getD 0 (D.int 0)).toStr)], .one (.int .i64 0)]) [] else False else False else False else False else False else False else False else False else False else False else False else False else False else False else False else False else False else False else False else False else False else False) := by kernel_rfl
def exrpb_x0 (s : List UInt8) (K : AV → List Blk → Prop) : Int := (
 bif
 decide
 ((4 : Nat) <
 (List.take (8 : Nat) (List.drop (2 : Nat) (valR (List.map one1 (pcs (UInt8.ofNat (32 : Nat)) s))))).length) then
 (List.take (8 : Nat) (List.drop (2 : Nat) (valR (List.map one1 (pcs (UInt8.ofNat (32 : Nat)) s))))).getD (4 : Nat)
 (0 : Int)
 else (0 : Int))
def exrpb_x1 (s : List UInt8) (K : AV → List Blk → Prop) : Int := (
 bif
 decide
 ((5 : Nat) <
 (List.take (8 : Nat) (List.drop (2 : Nat) (valR (List.map one1 (pcs (UInt8.ofNat (32 : Nat)) s))))).length) then
 (List.take (8 : Nat) (List.drop (2 : Nat) (valR (List.map one1 (pcs (UInt8.ofNat (32 : Nat)) s))))).getD (5 : Nat)
 (0 : Int)
 else (0 : Int))
def exrpb_x2 (s : List UInt8) (K : AV → List Blk → Prop) : Int := (
 bif
 decide
 ((6 : Nat) <
 (List.take (8 : Nat) (List.drop (2 : Nat) (valR (List.map one1 (pcs (UInt8.ofNat (32 : Nat)) s))))).length) then
 (List.take (8 : Nat) (List.drop (2 : Nat) (valR (List.map one1 (pcs (UInt8.ofNat (32 : Nat)) s))))).getD (6 : Nat)
 (0 : Int)
 else (0 : Int))
def exrpb_x3 (s : List UInt8) (K : AV → List Blk → Prop) : Int := (
 bif
 decide
 ((7 : Nat) <
 (List.take (8 : Nat) (List.drop (2 : Nat) (valR (List.map one1 (pcs (UInt8.ofNat (32 : Nat)) s))))).length) then
 (List.take (8 : Nat) (List.drop (2 : Nat) (valR (List.map one1 (pcs (UInt8.ofNat (32 : Nat)) s))))).getD (7 : Nat)
 (0 : Int)
 else (0 : Int))
theorem exrpb (s : List UInt8) (K : AV → List Blk → Prop) : evFn Erpb Tryz.f9 [.one (.str s)] [] K = ( (s.length ≤ 1000000 ∧ (0 :Int) ≤ (32 :Int) ∧ (32 :Int) < (256 :Int)) ∧ bif (↑(List.map one1 (pcs (UInt8.ofNat 32) s)).length : Int) != 11 then K (AV.tup [TV.agg [SV.int .i64 0, SV.int .i64 0, SV.int .i64 0, SV.int .i64 0, SV.int .i64 0, SV.int .i64 0, SV.int .i64 0, SV.int .i64 0, SV.int .i64 0, SV.int .i64 0, SV.int .i64 0], .one (.int .i64 7)]) [] else (11 = 11 ∧ (List.map one1 (pcs (UInt8.ofNat 32) s)).length = 11 ∧ (0 :Int) ≤ (0 :Int) ∧ (0 :Int) ≤ (11 :Int) ∧ ∀ (x : List D), x ∈ List.map one1 (pcs (UInt8.ofNat (Int.toNat (32 :Int))) s) → (strG x).length ≤ 1000000) ∧ bif okR 0 (List.map one1 (pcs (UInt8.ofNat 32) s)) then bif decide (0 < (valR (List.map one1 (pcs (UInt8.ofNat 32) s))).length) then bif decide (1 < (valR (List.map one1 (pcs (UInt8.ofNat 32) s))).length) then bif decide (10 < (valR (List.map one1 (pcs (UInt8.ofNat 32) s))).length) then bif decide (11 ≤ (valR (List.map one1 (pcs (UInt8.ofNat 32) s))).length) && (decide ((0 :Int) ≤ (2 :Int)) && (decide ((0 :Int) ≤ (10 :Int)) && (decide (10 ≤ 11) && decide (2 ≤ 10)))) then bif decide (10 ≤ (valR (List.map one1 (pcs (UInt8.ofNat 32) s))).length) && true then bif blockE ((valR (List.map one1 (pcs (UInt8.ofNat 32) s))).getD 0 0) ((valR (List.map one1 (pcs (UInt8.ofNat 32) s))).getD 1 0) [bif decide (0 < (List.take 8 (List.drop 2 (valR (List.map one1 (pcs (UInt8.ofNat 32) s))))).length) then (List.take 8 (List.drop 2 (valR (List.map one1 (pcs (UInt8.ofNat 32) s))))).getD 0 0 else (0 :Int), bif decide (1 < (List.take 8 (List.drop 2 (valR (List.map one1 (pcs (UInt8.ofNat 32) s))))).length) then (List.take 8 (List.drop 2 (valR (List.map one1 (pcs (UInt8.ofNat 32) s))))).getD 1 0 else (0 :Int), bif decide (2 < (List.take 8 (List.drop 2 (valR (List.map one1 (pcs (UInt8.ofNat 32) s))))).length) then (List.take 8 (List.drop 2 (valR (List.map one1 (pcs (UInt8.ofNat 32) s))))).getD 2 0 else (0 :Int), bif decide (3 < (List.take 8 (List.drop 2 (valR (List.map one1 (pcs (UInt8.ofNat 32) s))))).length) then (List.take 8 (List.drop 2 (valR (List.map one1 (pcs (UInt8.ofNat 32) s))))).getD 3 0 else (0 :Int), exrpb_x0 s K, exrpb_x1 s K, exrpb_x2 s K, exrpb_x3 s K] ((valR (List.map one1 (pcs (UInt8.ofNat 32) s))).getD 10 0) != 0 then K (AV.tup [TV.agg [SV.int .i64 0, SV.int .i64 0, SV.int .i64 0, SV.int .i64 0, SV.int .i64 0, SV.int .i64 0, SV.int .i64 0, SV.int .i64 0, SV.int .i64 0, SV.int .i64 0, SV.int .i64 0], .one (.int .i64 (blockE ((valR (List.map one1 (pcs (UInt8.ofNat 32) s))).getD 0 0) ((valR (List.map one1 (pcs (UInt8.ofNat 32) s))).getD 1 0) [bif decide (0 < (List.take 8 (List.drop 2 (valR (List.map one1 (pcs (UInt8.ofNat 32) s))))).length) then (List.take 8 (List.drop 2 (valR (List.map one1 (pcs (UInt8.ofNat 32) s))))).getD 0 0 else (0 :Int), bif decide (1 < (List.take 8 (List.drop 2 (valR (List.map one1 (pcs (UInt8.ofNat 32) s))))).length) then (List.take 8 (List.drop 2 (valR (List.map one1 (pcs (UInt8.ofNat 32) s))))).getD 1 0 else (0 :Int), bif decide (2 < (List.take 8 (List.drop 2 (valR (List.map one1 (pcs (UInt8.ofNat 32) s))))).length) then (List.take 8 (List.drop 2 (valR (List.map one1 (pcs (UInt8.ofNat 32) s))))).getD 2 0 else (0 :Int), bif decide (3 < (List.take 8 (List.drop 2 (valR (List.map one1 (pcs (UInt8.ofNat 32) s))))).length) then (List.take 8 (List.drop 2 (valR (List.map one1 (pcs (UInt8.ofNat 32) s))))).getD 3 0 else (0 :Int), exrpb_x0 s K, exrpb_x1 s K, exrpb_x2 s K, exrpb_x3 s K] ((valR (List.map one1 (pcs (UInt8.ofNat 32) s))).getD 10 0)))]) [] else K (AV.tup [TV.agg [SV.int .i64 ((valR (List.map one1 (pcs (UInt8.ofNat 32) s))).getD 0 0), SV.int .i64 ((valR (List.map one1 (pcs (UInt8.ofNat 32) s))).getD 1 0), SV.int .i64 (bif decide (0 < (List.take 8 (List.drop 2 (valR (List.map one1 (pcs (UInt8.ofNat 32) s))))).length) then (List.take 8 (List.drop 2 (valR (List.map one1 (pcs (UInt8.ofNat 32) s))))).getD 0 0 else (0 :Int)), SV.int .i64 (bif decide (1 < (List.take 8 (List.drop 2 (valR (List.map one1 (pcs (UInt8.ofNat 32) s))))).length) then (List.take 8 (List.drop 2 (valR (List.map one1 (pcs (UInt8.ofNat 32) s))))).getD 1 0 else (0 :Int)), SV.int .i64 (bif decide (2 < (List.take 8 (List.drop 2 (valR (List.map one1 (pcs (UInt8.ofNat 32) s))))).length) then (List.take 8 (List.drop 2 (valR (List.map one1 (pcs (UInt8.ofNat 32) s))))).getD 2 0 else (0 :Int)), SV.int .i64 (bif decide (3 < (List.take 8 (List.drop 2 (valR (List.map one1 (pcs (UInt8.ofNat 32) s))))).length) then (List.take 8 (List.drop 2 (valR (List.map one1 (pcs (UInt8.ofNat 32) s))))).getD 3 0 else (0 :Int)), SV.int .i64 (exrpb_x0 s K), SV.int .i64 (exrpb_x1 s K), SV.int .i64 (exrpb_x2 s K), SV.int .i64 (exrpb_x3 s K), SV.int .i64 ((valR (List.map one1 (pcs (UInt8.ofNat 32) s))).getD 10 0)], .one (.int .i64 0)]) [] else False else False else False else False else False else ∀ (z : List Int), K (AV.tup [TV.agg [SV.int .i64 0, SV.int .i64 0, SV.int .i64 0, SV.int .i64 0, SV.int .i64 0, SV.int .i64 0, SV.int .i64 0, SV.int .i64 0, SV.int .i64 0, SV.int .i64 0, SV.int .i64 0], .one (.int .i64 7)]) []) := by kernel_rfl
def exrpbl0a_x0 (l : List (List D)) (i : Int) (q : List Int) (K : Ex → List AV → List Blk → Prop) : Prop := (
 bif decide ((0 : Int) ≤ i) && decide (i < (11 : Int)) then
 bif decide ((0 : Nat) + i.toNat + (0 : Nat) < q.length) then
 K Ex.normal
 [AV.one (SV.ptr (0 : Nat) (1 : Nat) (0 : Nat) (0 : Nat)), AV.one (SV.data (Row.recs [CK.str] l)),
 AV.one (SV.ptr (1 : Nat) (1 : Nat) (0 : Nat) (0 : Nat)),
 AV.one (SV.int IntKind.i64 (IntKind.i64.wrap (i + (1 : Int))))]
 [Blk.cells
 [SV.int IntKind.i64 (0 : Int), SV.int IntKind.i64 (0 : Int), SV.int IntKind.i64 (0 : Int),
 SV.int IntKind.i64 (0 : Int), SV.int IntKind.i64 (0 : Int), SV.int IntKind.i64 (0 : Int),
 SV.int IntKind.i64 (0 : Int), SV.int IntKind.i64 (0 : Int), SV.int IntKind.i64 (0 : Int),
 SV.int IntKind.i64 (0 : Int), SV.int IntKind.i64 (0 : Int)],
 Blk.row (92 : TypeId)
 (Row.ints IntKind.i64
 (q.set ((0 : Nat) + i.toNat + (0 : Nat))
 (numV ((l.getD i.toNat []).getD (0 : Nat) (D.int (0 : Int))).toStr (6 : Int))))]
 else False
 else False)
theorem exrpbl0a (l : List (List D)) (i : Int) (q : List Int) (K : Ex → List AV → List Blk → Prop) : evBody Erpb (lb Tryz.f9 0) [2, 4, 5, 6] [2, 3, 5] [.one (.ptr 0 1 0 0), .one (.data (.recs [.str] l)), .one (.ptr 1 1 0 0), .one (.int .i64 i)] [.cells [.int .i64 0, .int .i64 0, .int .i64 0, .int .i64 0, .int .i64 0, .int .i64 0, .int .i64 0, .int .i64 0, .int .i64 0, .int .i64 0, .int .i64 0], .row 92 (.ints .i64 q)] K = ( bif decide (i < 11) then bif decide (0 ≤ i) && decide (i < (↑l.length : Int)) then bif decide (0 < 1) && decide (i.toNat < l.length) then (((l.getD i.toNat []).getD 0 (D.int 0)).toStr.length ≤ 1000000 ∧ (0 :Int) ≤ (6 :Int) ∧ (6 :Int) ≤ (18 :Int)) ∧ bif !numB ((l.getD i.toNat []).getD 0 (D.int 0)).toStr 6 then K .ret [.one (.ptr 0 1 0 0), .one (.int .i64 7), .one (.ptr 1 1 0 0)] [Blk.cells [SV.int .i64 0, SV.int .i64 0, SV.int .i64 0, SV.int .i64 0, SV.int .i64 0, SV.int .i64 0, SV.int .i64 0, SV.int .i64 0, SV.int .i64 0, SV.int .i64 0, SV.int .i64 0], Blk.row 92 (Row.ints .i64 q)] else bif decide (numV ((l.getD i.toNat []).getD 0 (D.int 0)).toStr (6 :Int) < (0 :Int)) then bif !(decide (2 ≤ i) && decide (i ≤ 9)) then K .ret [.one (.ptr 0 1 0 0), .one (.int .i64 7), .one (.ptr 1 1 0 0)] [Blk.cells [SV.int .i64 0, SV.int .i64 0, SV.int .i64 0, SV.int .i64 0, SV.int .i64 0, SV.int .i64 0, SV.int .i64 0, SV.int .i64 0, SV.int .i64 0, SV.int .i64 0, SV.int .i64 0], Blk.row 92 (Row.ints .i64 q)] else exrpbl0a_x0 l i q K else exrpbl0a_x0 l i q K else False else False else K (.exit 0) [.one (.ptr 0 1 0 0), AV.any, .one (.ptr 1 1 0 0)] [Blk.cells [SV.int .i64 0, SV.int .i64 0, SV.int .i64 0, SV.int .i64 0, SV.int .i64 0, SV.int .i64 0, SV.int .i64 0, SV.int .i64 0, SV.int .i64 0, SV.int .i64 0, SV.int .i64 0], Blk.row 92 (Row.ints .i64 q)]) := by kernel_rfl
end Go.Ev

/-
  Chapter 1: strings of blocks: the contracts are kept.
-/
namespace Go.Ev
open Go Go.Proofs
attribute [local irreducible] evFn evBody evRound
set_option maxRecDepth 20000
set_option linter.unusedVariables false
set_option linter.unusedSimpArgs false
theorem lokjn_0 : LoopOK Ejn (lb Tryz.f43 0) [0, 3, 4] [3] jnL := by
  refine loopOK (.cons okdec .nil) (noInner (by kernel_rfl)) (fun vs σ => match vs, σ with
    | [.one (.data (.ints .i64 l)), .one (.str _), .one (.int .i64 i)], [] => l.length - i.toNat
    | _, _ => 0) fun vs σ k h => ?_
  unfold jnL at h
  split at h
  rotate_right
  · exact h.elim
  · rename_i l s i
    rw [exjnl0a l s i _]
    obtain ⟨⟨h1, h2, h3, h4⟩, h⟩ := h
    by_cases hi : i < (l.length : Int)
    · have hi' : i.toNat < l.length := by omega
      have hw : IntKind.i64.wrap (i + 1) = i + 1 := wrap_id (by omega) (by omega)
      have hit : (i + 1).toNat = i.toNat + 1 := by omega
      have hmu : l.length - (i + 1).toNat < l.length - i.toNat := by omega
      have hx := h4 (l.getD i.toNat 0) (by rw [getD_of_lt hi']; exact List.getElem_mem hi')
      have hxl := itoG_len hx
      simp only [Nat.add_zero]
      rw [drop_step 0 hi'] at h
      rw [decide_eq_true hi, decide_eq_true h2, decide_eq_true hi', hw]
      simp only [Bool.and_self, cond_true]
      by_cases hp : i > 0
      · have e : (i == 0) = false := by simpa using (show i ≠ 0 by omega)
        rw [e] at h
        rw [decide_eq_true hp, decide_eq_true (by omega), cond_true, cond_true]
        refine And.intro hx ?_
        rw [decide_eq_true (by simp only [List.length_append, List.length_cons, List.length_nil]; omega), cond_true]
        refine ⟨⟨⟨h1, by omega, by simp only [List.length_append, List.length_cons, List.length_nil]; omega, h4⟩, ?_⟩, hmu⟩
        rw [show (i + 1 == 0) = false by simpa using (show i + 1 ≠ 0 by omega), hit]
        have : s ++ jnR false (l.getD i.toNat 0 :: l.drop (i.toNat + 1)) = s ++ [32] ++ itoG (l.getD i.toNat 0) ++ jnR false (l.drop (i.toNat + 1)) := by
          show s ++ ([32] ++ itoG (l.getD i.toNat 0) ++ jnR false (l.drop (i.toNat + 1))) = _
          simp only [List.append_assoc]
        rw [← this]
        exact h
      · have h0 : i = 0 := by omega
        subst h0
        rw [decide_eq_false hp, cond_false]
        refine And.intro hx ?_
        rw [decide_eq_true (by omega), cond_true]
        refine ⟨⟨⟨h1, by omega, by simp only [List.length_append]; omega, h4⟩, ?_⟩, hmu⟩
        rw [show ((0 : Int) + 1 == 0) = false from rfl, hit]
        have : s ++ jnR true (l.getD (0 : Int).toNat 0 :: l.drop ((0 : Int).toNat + 1)) = s ++ itoG (l.getD (0 : Int).toNat 0) ++ jnR false (l.drop ((0 : Int).toNat + 1)) := by
          show s ++ ([] ++ itoG (l.getD (0 : Int).toNat 0) ++ jnR false (l.drop ((0 : Int).toNat + 1))) = _
          simp only [List.append_assoc, List.nil_append]
        rw [← this]
        exact h
    · rw [decide_eq_false hi, cond_false]
      rw [List.drop_eq_nil_of_le (by omega)] at h
      have : s ++ jnR (i == 0) [] = s := by show s ++ [] = s; rw [List.append_nil]
      rw [this] at h
      exact h
theorem okjn : SpecOK Tryz.prog 43 jnS := by
  refine specOK (n := 23) (m := 0) (lps := [(3, .spec [0, 3, 4] [3] jnL)]) (.cons okdec .nil) Tryz.func43 (by kernel_rfl) (by kernel_rfl) (theLoops (n := 1) (by kernel_rfl) fun i hi => ?_) fun args σ K h => ?_
  · match i, hi with
    | 0, _ => exact loopHyp_of (key := 3) (by kernel_rfl) rfl lokjn_0
  unfold jnS at h
  split at h
  rotate_right
  · exact h.elim
  rename_i l
  rw [exjn l K]
  obtain ⟨⟨h1, h2⟩, h⟩ := h
  exact And.intro ⟨h1, by omega, by omega, h2⟩ h
theorem okfld : SpecOK Tryz.prog 36 fldS := by
  refine specOKc (n := 41) (m := 1) (lps := [(3, .unroll 9)]) [] [85] .nil Tryz.func36 (by kernel_rfl) (by kernel_rfl) (theLoops (n := 1) (by kernel_rfl) fun i hi => ?_) fun args σ K h => ?_
  · match i, hi with
    | 0, _ => exact loopHyp_none (key := 3) (n := 9) (by kernel_rfl) rfl
  unfold fldS at h
  split at h
  rotate_right
  · exact h.elim
  rename_i c ch x0 x1 x2 x3 x4 x5 x6 x7 sm
  rw [exfld c ch x0 x1 x2 x3 x4 x5 x6 x7 sm K]
  exact ⟨⟨h, h⟩, h⟩
theorem jnR_tail : ∀ l : List Int, jnR false l = Lib.joinTail [32] (l.map itoG)
  | [] => rfl
  | x :: r => by
    show [32] ++ itoG x ++ jnR false r = ([32] ++ itoG x) ++ _
    rw [jnR_tail r]; rfl
theorem jnR_join (x : Int) (r : List Int) : jnR true (x :: r) = fmbG (x :: r) := by
  unfold fmbG joinG
  have e : ((x :: r).map fun x => [D.str (itoG x)]).map strG = itoG x :: r.map itoG := by
    rw [List.map_map]; rfl
  rw [e, Lib.join_cons]
  show [] ++ itoG x ++ jnR false r = _
  rw [List.nil_append, jnR_tail]
theorem jnR_len : ∀ (f : Bool) (l : List Int), (∀ x ∈ l, i64B x) → (jnR f l).length ≤ 22 * l.length
  | _, [], _ => by simp [jnR]
  | f, x :: r, h => by
    have h1 := itoG_len (h x (by simp))
    have h2 := jnR_len false r fun y hy => h y (by simp [hy])
    have h3 : (bif f then ([] : List UInt8) else [32]).length ≤ 1 := by cases f <;> decide
    show ((bif f then [] else [32]) ++ itoG x ++ jnR false r).length ≤ _
    rw [List.length_append, List.length_append, List.length_cons]
    omega
theorem okfmb : SpecOK Tryz.prog 7 fmbS := by
  refine specOKc (n := 28) (m := 0) (lps := [(4, .unroll 12)]) [] [85] (.cons okfld (.cons okito (.cons okjoin .nil))) Tryz.func7 (by kernel_rfl) (by kernel_rfl) (theLoops (n := 1) (by kernel_rfl) fun i hi => ?_) fun args σ K h => ?_
  · match i, hi with
    | 0, _ => exact loopHyp_none (key := 4) (n := 12) (by kernel_rfl) rfl
  unfold fmbS at h
  split at h
  rotate_right
  · exact h.elim
  rename_i c ch x0 x1 x2 x3 x4 x5 x6 x7 sm
  rw [exfmb c ch x0 x1 x2 x3 x4 x5 x6 x7 sm K]
  obtain ⟨h1, h⟩ := h
  have hl : (joinG 32 ([c, ch, x0, x1, x2, x3, x4, x5, x6, x7, sm].map fun x => [D.str (itoG x)])).length ≤ 140737488355328 := by
    have e := jnR_join c [ch, x0, x1, x2, x3, x4, x5, x6, x7, sm]
    have h2 := jnR_len true [c, ch, x0, x1, x2, x3, x4, x5, x6, x7, sm] h1
    rw [e] at h2
    have h3 : [c, ch, x0, x1, x2, x3, x4, x5, x6, x7, sm].length = 11 := rfl
    unfold fmbG at h2
    omega
  exact ⟨h1 c (by simp), h1 ch (by simp), h1 x0 (by simp), h1 x1 (by simp), h1 x2 (by simp), h1 x3 (by simp), h1 x4 (by simp), h1 x5 (by simp), h1 x6 (by simp), h1 x7 (by simp), h1 sm (by simp), ⟨by simp, by simp, hl⟩, h⟩
theorem okrfb : SpecOK Tryz.prog 10 fmbS := by
  refine specOK (n := 16) (m := 0) (lps := []) (.cons okjn .nil) Tryz.func10 (by kernel_rfl) (by kernel_rfl) (noLoops (by kernel_rfl)) fun args σ K h => ?_
  unfold fmbS at h
  split at h
  rotate_right
  · exact h.elim
  rename_i c ch x0 x1 x2 x3 x4 x5 x6 x7 sm
  rw [exrfb c ch x0 x1 x2 x3 x4 x5 x6 x7 sm K]
  obtain ⟨h1, h⟩ := h
  rw [← jnR_join] at h
  have hc : ([c, ch, x0, x1, x2, x3, x4, x5, x6, x7, sm].length ≤ 1000 ∧ ∀ x ∈ [c, ch, x0, x1, x2, x3, x4, x5, x6, x7, sm], -9223372036854775808 ≤ x ∧ x ≤ 9223372036854775807) ∧ K (.one (.str (jnR true [c, ch, x0, x1, x2, x3, x4, x5, x6, x7, sm]))) [] := ⟨⟨by simp, h1⟩, h⟩
  have hx : exrfb_x0 c ch x0 x1 x2 x3 x4 x5 x6 x7 sm K := ⟨hc, hc⟩
  exact ⟨⟨hc, hx⟩, hx, hc⟩
theorem chain_step {b : Bool} {l : Prop} {E T : Prop} (hl : l) (hE : b = false → E) (hT : b = true → T) : l ∧ bif !b then E else T := by
  refine And.intro hl ?_
  cases b with
  | false => exact hE rfl
  | true => exact hT rfl
theorem pcs_len (c : UInt8) : ∀ (s : List UInt8) (p : List UInt8), p ∈ pcs c s → p.length ≤ s.length
  | [], p, h => by
    have : p = [] := by simpa [pcs] using h
    subst this; simp
  | x :: s, p, h => by
    rw [pcs] at h
    rw [List.length_cons]
    split at h
    · rcases List.mem_cons.1 h with rfl | h
      · simp
      · have := pcs_len c s p h; omega
    · split at h
      · rename_i q l hq
        rcases List.mem_cons.1 h with rfl | h
        · have := pcs_len c s q (by rw [hq]; simp)
          rw [List.length_cons]; omega
        · have := pcs_len c s p (by rw [hq]; simp [h]); omega
      · have : p = [x] := by simpa using h
        subst this; simp
theorem pcI_len (s : List UInt8) (i : Nat) : (pcI s i).length ≤ s.length := by
  unfold pcI
  by_cases h : i < (pcs 32 s).length
  · rw [getD_of_lt h]; exact pcs_len 32 s _ (List.getElem_mem h)
  · rw [List.getD, List.getElem?_eq_none (by omega)]; simp
theorem pbE_no {s : List UInt8} (h : nbA s = false) : pbE s = 7 := by unfold pbE; rw [h]; rfl
theorem pbV_no {s : List UInt8} (h : nbA s = false) (i : Nat) : pbV s i = 0 := by unfold pbV; rw [pbE_no h]; rfl
theorem nbA_len {s : List UInt8} (h : (pcs 32 s).length ≠ 11) : nbA s = false := by
  unfold nbA
  rw [show ((pcs 32 s).length == 11) = false by simpa using h]; rfl
theorem pb_no {s : List UInt8} {K : AV → List Blk → Prop} (h : K (.tup [.agg [.int .i64 (pbV s 0), .int .i64 (pbV s 1), .int .i64 (pbV s 2), .int .i64 (pbV s 3), .int .i64 (pbV s 4), .int .i64 (pbV s 5), .int .i64 (pbV s 6), .int .i64 (pbV s 7), .int .i64 (pbV s 8), .int .i64 (pbV s 9), .int .i64 (pbV s 10)], .one (.int .i64 (pbE s))]) []) (hn : nbA s = false) : K (.tup [.agg [.int .i64 0, .int .i64 0, .int .i64 0, .int .i64 0, .int .i64 0, .int .i64 0, .int .i64 0, .int .i64 0, .int .i64 0, .int .i64 0, .int .i64 0], .one (.int .i64 7)]) [] := by
  simp only [pbE_no hn, pbV_no hn] at h
  exact h
theorem pb_yes {s : List UInt8} {K : AV → List Blk → Prop} (h : K (.tup [.agg [.int .i64 (pbV s 0), .int .i64 (pbV s 1), .int .i64 (pbV s 2), .int .i64 (pbV s 3), .int .i64 (pbV s 4), .int .i64 (pbV s 5), .int .i64 (pbV s 6), .int .i64 (pbV s 7), .int .i64 (pbV s 8), .int .i64 (pbV s 9), .int .i64 (pbV s 10)], .one (.int .i64 (pbE s))]) []) (hn : nbA s = true) :
    bif blockE (nbV s 0) (nbV s 1) [nbV s 2, nbV s 3, nbV s 4, nbV s 5, nbV s 6, nbV s 7, nbV s 8, nbV s 9] (nbV s 10) != 0 then K (.tup [.agg [.int .i64 0, .int .i64 0, .int .i64 0, .int .i64 0, .int .i64 0, .int .i64 0, .int .i64 0, .int .i64 0, .int .i64 0, .int .i64 0, .int .i64 0], .one (.int .i64 (blockE (nbV s 0) (nbV s 1) [nbV s 2, nbV s 3, nbV s 4, nbV s 5, nbV s 6, nbV s 7, nbV s 8, nbV s 9] (nbV s 10)))]) [] else K (.tup [.agg [.int .i64 (nbV s 0), .int .i64 (nbV s 1), .int .i64 (nbV s 2), .int .i64 (nbV s 3), .int .i64 (nbV s 4), .int .i64 (nbV s 5), .int .i64 (nbV s 6), .int .i64 (nbV s 7), .int .i64 (nbV s 8), .int .i64 (nbV s 9), .int .i64 (nbV s 10)], .one (.int .i64 0)]) [] := by
  have e : pbE s = blockE (nbV s 0) (nbV s 1) [nbV s 2, nbV s 3, nbV s 4, nbV s 5, nbV s 6, nbV s 7, nbV s 8, nbV s 9] (nbV s 10) := by unfold pbE; rw [hn]; rfl
  unfold pbV at h
  rw [e] at h
  generalize blockE (nbV s 0) (nbV s 1) [nbV s 2, nbV s 3, nbV s 4, nbV s 5, nbV s 6, nbV s 7, nbV s 8, nbV s 9] (nbV s 10) = q at *
  cases hq : (q == 0) with
  | true =>
    rw [hq] at h
    have : q = 0 := eq_of_beq hq
    subst this
    exact h
  | false =>
    rw [hq] at h
    rw [show (q != 0) = true by unfold bne; rw [hq]; rfl, cond_true]
    exact h
theorem okpab : SpecOK Tryz.prog 8 pabS := by
  refine specOKc (n := 58) (m := 0) (lps := [(7, .unroll 12)]) [] [85] (.cons okfld (.cons oksplit (.cons oknmb (.cons ok21 .nil)))) Tryz.func8 (by kernel_rfl) (by kernel_rfl) (theLoops (n := 1) (by kernel_rfl) fun i hi => ?_) fun args σ K h => ?_
  · match i, hi with
    | 0, _ => exact loopHyp_none (key := 7) (n := 12) (by kernel_rfl) rfl
  unfold pabS at h
  split at h
  rotate_right
  · exact h.elim
  rename_i s
  rw [expab s K]
  obtain ⟨h1, h⟩ := h
  refine And.intro h1 ?_
  by_cases hL : (pcs 32 s).length = 11
  rotate_left
  · have hne : (((List.map one1 (pcs 32 s)).length : Int) != ((11 : Nat) : Int)) = true := by
      rw [List.length_map]; simp only [bne_iff_ne]; omega
    show bif (((List.map one1 (pcs 32 s)).length : Int) != ((11 : Nat) : Int)) then _ else _
    rw [hne, cond_true]
    exact pb_no h (nbA_len hL)
  have g : ∀ i, i < 11 → (((List.map one1 (pcs 32 s)).getD i []).getD 0 (D.int 0)).toStr = pcI s i := fun i hi => one1_at (by omega)
  have hlm : (List.map one1 (pcs 32 s)).length = 11 := by rw [List.length_map]; exact hL
  rw [hlm]
  rw [g 0 (by decide), g 1 (by decide), g 2 (by decide), g 3 (by decide), g 4 (by decide), g 5 (by decide), g 6 (by decide), g 7 (by decide), g 8 (by decide), g 9 (by decide), g 10 (by decide)]
  show ((pcI s 0).length ≤ 1000000 ∧ bif !nmB (pcI s 0) false then K (.tup [.agg [.int .i64 0, .int .i64 0, .int .i64 0, .int .i64 0, .int .i64 0, .int .i64 0, .int .i64 0, .int .i64 0, .int .i64 0, .int .i64 0, .int .i64 0], .one (.int .i64 7)]) [] else ((pcI s 1).length ≤ 1000000 ∧ bif !nmB (pcI s 1) false then K (.tup [.agg [.int .i64 0, .int .i64 0, .int .i64 0, .int .i64 0, .int .i64 0, .int .i64 0, .int .i64 0, .int .i64 0, .int .i64 0, .int .i64 0, .int .i64 0], .one (.int .i64 7)]) [] else ((pcI s 2).length ≤ 1000000 ∧ bif !nmB (pcI s 2) true then K (.tup [.agg [.int .i64 0, .int .i64 0, .int .i64 0, .int .i64 0, .int .i64 0, .int .i64 0, .int .i64 0, .int .i64 0, .int .i64 0, .int .i64 0, .int .i64 0], .one (.int .i64 7)]) [] else ((pcI s 3).length ≤ 1000000 ∧ bif !nmB (pcI s 3) true then K (.tup [.agg [.int .i64 0, .int .i64 0, .int .i64 0, .int .i64 0, .int .i64 0, .int .i64 0, .int .i64 0, .int .i64 0, .int .i64 0, .int .i64 0, .int .i64 0], .one (.int .i64 7)]) [] else ((pcI s 4).length ≤ 1000000 ∧ bif !nmB (pcI s 4) true then K (.tup [.agg [.int .i64 0, .int .i64 0, .int .i64 0, .int .i64 0, .int .i64 0, .int .i64 0, .int .i64 0, .int .i64 0, .int .i64 0, .int .i64 0, .int .i64 0], .one (.int .i64 7)]) [] else ((pcI s 5).length ≤ 1000000 ∧ bif !nmB (pcI s 5) true then K (.tup [.agg [.int .i64 0, .int .i64 0, .int .i64 0, .int .i64 0, .int .i64 0, .int .i64 0, .int .i64 0, .int .i64 0, .int .i64 0, .int .i64 0, .int .i64 0], .one (.int .i64 7)]) [] else ((pcI s 6).length ≤ 1000000 ∧ bif !nmB (pcI s 6) true then K (.tup [.agg [.int .i64 0, .int .i64 0, .int .i64 0, .int .i64 0, .int .i64 0, .int .i64 0, .int .i64 0, .int .i64 0, .int .i64 0, .int .i64 0, .int .i64 0], .one (.int .i64 7)]) [] else ((pcI s 7).length ≤ 1000000 ∧ bif !nmB (pcI s 7) true then K (.tup [.agg [.int .i64 0, .int .i64 0, .int .i64 0, .int .i64 0, .int .i64 0, .int .i64 0, .int .i64 0, .int .i64 0, .int .i64 0, .int .i64 0, .int .i64 0], .one (.int .i64 7)]) [] else ((pcI s 8).length ≤ 1000000 ∧ bif !nmB (pcI s 8) true then K (.tup [.agg [.int .i64 0, .int .i64 0, .int .i64 0, .int .i64 0, .int .i64 0, .int .i64 0, .int .i64 0, .int .i64 0, .int .i64 0, .int .i64 0, .int .i64 0], .one (.int .i64 7)]) [] else ((pcI s 9).length ≤ 1000000 ∧ bif !nmB (pcI s 9) true then K (.tup [.agg [.int .i64 0, .int .i64 0, .int .i64 0, .int .i64 0, .int .i64 0, .int .i64 0, .int .i64 0, .int .i64 0, .int .i64 0, .int .i64 0, .int .i64 0], .one (.int .i64 7)]) [] else ((pcI s 10).length ≤ 1000000 ∧ bif !nmB (pcI s 10) false then K (.tup [.agg [.int .i64 0, .int .i64 0, .int .i64 0, .int .i64 0, .int .i64 0, .int .i64 0, .int .i64 0, .int .i64 0, .int .i64 0, .int .i64 0, .int .i64 0], .one (.int .i64 7)]) [] else bif blockE (atoV (pcI s 0)) (atoV (pcI s 1)) [atoV (pcI s 2), atoV (pcI s 3), atoV (pcI s 4), atoV (pcI s 5), atoV (pcI s 6), atoV (pcI s 7), atoV (pcI s 8), atoV (pcI s 9)] (atoV (pcI s 10)) != 0 then K (.tup [.agg [.int .i64 0, .int .i64 0, .int .i64 0, .int .i64 0, .int .i64 0, .int .i64 0, .int .i64 0, .int .i64 0, .int .i64 0, .int .i64 0, .int .i64 0], .one (.int .i64 (blockE (atoV (pcI s 0)) (atoV (pcI s 1)) [atoV (pcI s 2), atoV (pcI s 3), atoV (pcI s 4), atoV (pcI s 5), atoV (pcI s 6), atoV (pcI s 7), atoV (pcI s 8), atoV (pcI s 9)] (atoV (pcI s 10))))]) [] else K (.tup [.agg [.int .i64 (atoV (pcI s 0)), .int .i64 (atoV (pcI s 1)), .int .i64 (atoV (pcI s 2)), .int .i64 (atoV (pcI s 3)), .int .i64 (atoV (pcI s 4)), .int .i64 (atoV (pcI s 5)), .int .i64 (atoV (pcI s 6)), .int .i64 (atoV (pcI s 7)), .int .i64 (atoV (pcI s 8)), .int .i64 (atoV (pcI s 9)), .int .i64 (atoV (pcI s 10))], .one (.int .i64 0)]) [])))))))))))
  have hlen : ∀ i, (pcI s i).length ≤ 1000000 := fun i => Nat.le_trans (pcI_len s i) h1
  have hE := pb_no h
  have n0 : nmB (pcI s 0) false = nbB s 0 := nmB_eq _ _
  refine chain_step (hlen 0) (fun q => hE (by unfold nbA; rw [← n0, q]; simp)) fun q0 => ?_
  have n1 : nmB (pcI s 1) false = nbB s 1 := nmB_eq _ _
  refine chain_step (hlen 1) (fun q => hE (by unfold nbA; rw [← n1, q]; simp)) fun q1 => ?_
  have n2 : nmB (pcI s 2) true = nbB s 2 := nmB_eq _ _
  refine chain_step (hlen 2) (fun q => hE (by unfold nbA; rw [← n2, q]; simp)) fun q2 => ?_
  have n3 : nmB (pcI s 3) true = nbB s 3 := nmB_eq _ _
  refine chain_step (hlen 3) (fun q => hE (by unfold nbA; rw [← n3, q]; simp)) fun q3 => ?_
  have n4 : nmB (pcI s 4) true = nbB s 4 := nmB_eq _ _
  refine chain_step (hlen 4) (fun q => hE (by unfold nbA; rw [← n4, q]; simp)) fun q4 => ?_
  have n5 : nmB (pcI s 5) true = nbB s 5 := nmB_eq _ _
  refine chain_step (hlen 5) (fun q => hE (by unfold nbA; rw [← n5, q]; simp)) fun q5 => ?_
  have n6 : nmB (pcI s 6) true = nbB s 6 := nmB_eq _ _
  refine chain_step (hlen 6) (fun q => hE (by unfold nbA; rw [← n6, q]; simp)) fun q6 => ?_
  have n7 : nmB (pcI s 7) true = nbB s 7 := nmB_eq _ _
  refine chain_step (hlen 7) (fun q => hE (by unfold nbA; rw [← n7, q]; simp)) fun q7 => ?_
  have n8 : nmB (pcI s 8) true = nbB s 8 := nmB_eq _ _
  refine chain_step (hlen 8) (fun q => hE (by unfold nbA; rw [← n8, q]; simp)) fun q8 => ?_
  have n9 : nmB (pcI s 9) true = nbB s 9 := nmB_eq _ _
  refine chain_step (hlen 9) (fun q => hE (by unfold nbA; rw [← n9, q]; simp)) fun q9 => ?_
  have n10 : nmB (pcI s 10) false = nbB s 10 := nmB_eq _ _
  refine chain_step (hlen 10) (fun q => hE (by unfold nbA; rw [← n10, q]; simp)) fun q10 => ?_
  have hall : nbA s = true := by
    unfold nbA
    rw [hL, ← n0, q0, ← n1, q1, ← n2, q2, ← n3, q3, ← n4, q4, ← n5, q5, ← n6, q6, ← n7, q7, ← n8, q8, ← n9, q9, ← n10, q10]; rfl
  have v0 : atoV (pcI s 0) = nbV s 0 := (nmB_val q0).2.1
  have v1 : atoV (pcI s 1) = nbV s 1 := (nmB_val q1).2.1
  have v2 : atoV (pcI s 2) = nbV s 2 := (nmB_val q2).2.1
  have v3 : atoV (pcI s 3) = nbV s 3 := (nmB_val q3).2.1
  have v4 : atoV (pcI s 4) = nbV s 4 := (nmB_val q4).2.1
  have v5 : atoV (pcI s 5) = nbV s 5 := (nmB_val q5).2.1
  have v6 : atoV (pcI s 6) = nbV s 6 := (nmB_val q6).2.1
  have v7 : atoV (pcI s 7) = nbV s 7 := (nmB_val q7).2.1
  have v8 : atoV (pcI s 8) = nbV s 8 := (nmB_val q8).2.1
  have v9 : atoV (pcI s 9) = nbV s 9 := (nmB_val q9).2.1
  have v10 : atoV (pcI s 10) = nbV s 10 := (nmB_val q10).2.1
  rw [v0, v1, v2, v3, v4, v5, v6, v7, v8, v9, v10]
  exact pb_yes h hall
theorem lokrpb_0 : LoopOK Erpb (lb Tryz.f9 0) [2, 4, 5, 6] [2, 3, 5] rpbL := by
  refine loopOK (.cons okctbD (.cons oknum (.cons ok25 (.cons ok22 .nil)))) (noInner (by kernel_rfl)) (fun vs σ => match vs, σ with
    | [.one (.ptr 0 1 0 0), .one (.data (.recs [.str] _)), .one (.ptr 1 1 0 0), .one (.int .i64 i)], [.cells [.int .i64 0, .int .i64 0, .int .i64 0, .int .i64 0, .int .i64 0, .int .i64 0, .int .i64 0, .int .i64 0, .int .i64 0, .int .i64 0, .int .i64 0], .row 92 (.ints .i64 _)] => (11 - i).toNat
    | _, _ => 0) fun vs σ k h => ?_
  unfold rpbL at h
  split at h
  rotate_right
  · exact h.elim
  · rename_i l i q
    rw [exrpbl0a l i q _]
    obtain ⟨⟨h1, h2, h3, h4, h5⟩, h⟩ := h
    by_cases hi : i < 11
    · have hi' : i.toNat < l.length := by omega
      have hit : (i + 1).toNat = i.toNat + 1 := by omega
      have hw : IntKind.i64.wrap (i + 1) = i + 1 := wrap_id (by omega) (by omega)
      have hmu : (11 - (i + 1)).toNat < (11 - i).toNat := by omega
      have hd : l.drop i.toNat = l.getD i.toNat [] :: l.drop (i.toNat + 1) := drop_step [] hi'
      have hm : l.getD i.toNat [] ∈ l := by rw [getD_of_lt hi']; exact List.getElem_mem hi'
      have hs := h5 _ hm
      have es : ((l.getD i.toNat []).getD 0 (D.int 0)).toStr = strG (l.getD i.toNat []) := rfl
      rw [hd] at h
      have ev : valR (l.getD i.toNat [] :: l.drop (i.toNat + 1)) = numV (strG (l.getD i.toNat [])) 6 :: valR (l.drop (i.toNat + 1)) := rfl
      have eo : okR i (l.getD i.toNat [] :: l.drop (i.toNat + 1)) = (nb1 i (strG (l.getD i.toNat [])) && okR (i + 1) (l.drop (i.toNat + 1))) := rfl
      rw [ev, eo] at h
      unfold nb1 at h
      rw [es, decide_eq_true hi, decide_eq_true h3, decide_eq_true (show i < (l.length : Int) by omega), decide_eq_true hi']
      simp only [show decide (0 < 1) = true from rfl, Bool.and_self, cond_true]
      refine And.intro ⟨hs, by omega, by omega⟩ ?_
      generalize strG (l.getD i.toNat []) = u at *
      have nx : numB u 6 = true → ((decide (2 ≤ i) && decide (i ≤ 9)) || decide (numV u 6 ≥ 0)) = true → True := fun _ _ => trivial
      cases hb : numB u 6 with
      | false =>
        rw [hb] at h
        exact h q
      | true =>
        rw [hb, Bool.true_and] at h
        rw [Bool.not_true, cond_false]
        have key : ((decide (2 ≤ i) && decide (i ≤ 9)) || decide (numV u 6 ≥ 0)) = true → (bif decide ((0 : Int) ≤ i) && decide (i < 11) then bif decide (0 + i.toNat + 0 < q.length) then
            (rpbL [.one (.ptr 0 1 0 0), .one (.data (.recs [.str] l)), .one (.ptr 1 1 0 0), .one (.int .i64 (IntKind.i64.wrap (i + 1)))] [.cells [.int .i64 0, .int .i64 0, .int .i64 0, .int .i64 0, .int .i64 0, .int .i64 0, .int .i64 0, .int .i64 0, .int .i64 0, .int .i64 0, .int .i64 0], .row 92 (.ints .i64 (q.set (0 + i.toNat + 0) (numV u 6)))] k ∧ (11 - IntKind.i64.wrap (i + 1)).toNat < (11 - i).toNat) else False else False) := by
          intro hc
          rw [hc, Bool.true_and] at h
          rw [decide_eq_true h3, decide_eq_true hi, Bool.and_self, cond_true, Nat.zero_add, Nat.add_zero, decide_eq_true (show i.toNat < q.length by omega), cond_true, hw]
          refine And.intro ⟨⟨by rw [List.length_set]; exact h1, h2, by omega, by omega, h5⟩, ?_⟩ hmu
          rw [hit]
          have et : (q.set i.toNat (numV u 6)).take (i.toNat + 1) ++ valR (l.drop (i.toNat + 1)) = q.take i.toNat ++ numV u 6 :: valR (l.drop (i.toNat + 1)) := by
            rw [take_set_succ (by omega), List.append_assoc]; rfl
          rw [et]
          cases ho : okR (i + 1) (l.drop (i.toNat + 1)) with
          | true => rw [ho] at h; exact h
          | false => rw [ho] at h; exact h
        by_cases hn : numV u 6 < 0
        · rw [decide_eq_true hn, cond_true]
          cases hmid : (decide (2 ≤ i) && decide (i ≤ 9)) with
          | true => rw [Bool.not_true, cond_false]; unfold exrpbl0a_x0; rw [es]; exact key (by rw [hmid]; rfl)
          | false =>
            rw [Bool.not_false, cond_true]
            rw [hmid, decide_eq_false (show ¬ numV u 6 ≥ 0 by omega)] at h
            exact h q
        · rw [decide_eq_false hn, cond_false]
          unfold exrpbl0a_x0
          rw [es]
          exact key (by rw [decide_eq_true (show numV u 6 ≥ 0 by omega), Bool.or_true])
    · have : i = 11 := by omega
      subst this
      rw [List.drop_eq_nil_of_le (show l.length ≤ (11 : Int).toNat by rw [h2]; exact Nat.le_refl _)] at h
      have e1 : okR 11 [] = true := rfl
      have e2 : valR [] = [] := rfl
      rw [e1, e2, List.append_nil, List.take_of_length_le (by rw [h1]; exact Nat.le_refl _)] at h
      exact h
theorem list11 {α : Type} {l : List α} (h : l.length = 11) : ∃ p0 p1 p2 p3 p4 p5 p6 p7 p8 p9 p10, l = [p0, p1, p2, p3, p4, p5, p6, p7, p8, p9, p10] := by
  match l, h with
  | [p0, p1, p2, p3, p4, p5, p6, p7, p8, p9, p10], _ => exact ⟨p0, p1, p2, p3, p4, p5, p6, p7, p8, p9, p10, rfl⟩
theorem okrpb : SpecOK Tryz.prog 9 pabS := by
  refine specOK (n := 62) (m := 0) (lps := [(6, .spec [2, 4, 5, 6] [2, 3, 5] rpbL)]) (.cons okctbD (.cons oknum (.cons ok25 (.cons ok22 .nil)))) Tryz.func9 (by kernel_rfl) (by kernel_rfl) (theLoops (n := 1) (by kernel_rfl) fun i hi => ?_) fun args σ K h => ?_
  · match i, hi with
    | 0, _ => exact loopHyp_of (key := 6) (by kernel_rfl) rfl lokrpb_0
  unfold pabS at h
  split at h
  rotate_right
  · exact h.elim
  rename_i s
  rw [exrpb s K]
  obtain ⟨h1, h⟩ := h
  refine And.intro ⟨h1, by decide, by decide⟩ ?_
  rw [show UInt8.ofNat 32 = 32 from rfl, show UInt8.ofNat (Int.toNat 32) = 32 from rfl]
  by_cases hL : (pcs 32 s).length = 11
  rotate_left
  · have hne : (((List.map one1 (pcs 32 s)).length : Int) != 11) = true := by
      rw [List.length_map]; simp only [bne_iff_ne]; omega
    rw [hne, cond_true]
    exact pb_no h (nbA_len hL)
  obtain ⟨p0, p1, p2, p3, p4, p5, p6, p7, p8, p9, p10, hp⟩ := list11 hL
  have i0 : pcI s 0 = p0 := by unfold pcI; rw [hp]; rfl
  have i1 : pcI s 1 = p1 := by unfold pcI; rw [hp]; rfl
  have i2 : pcI s 2 = p2 := by unfold pcI; rw [hp]; rfl
  have i3 : pcI s 3 = p3 := by unfold pcI; rw [hp]; rfl
  have i4 : pcI s 4 = p4 := by unfold pcI; rw [hp]; rfl
  have i5 : pcI s 5 = p5 := by unfold pcI; rw [hp]; rfl
  have i6 : pcI s 6 = p6 := by unfold pcI; rw [hp]; rfl
  have i7 : pcI s 7 = p7 := by unfold pcI; rw [hp]; rfl
  have i8 : pcI s 8 = p8 := by unfold pcI; rw [hp]; rfl
  have i9 : pcI s 9 = p9 := by unfold pcI; rw [hp]; rfl
  have i10 : pcI s 10 = p10 := by unfold pcI; rw [hp]; rfl
  have ho : okR 0 (List.map one1 (pcs 32 s)) = nbA s := by
    unfold nbA nbB
    rw [i0, i1, i2, i3, i4, i5, i6, i7, i8, i9, i10, hp]
    show ((numB p0 6 && (false || decide (numV p0 6 ≥ 0))) && ((numB p1 6 && (false || decide (numV p1 6 ≥ 0))) && ((numB p2 6 && (true || decide (numV p2 6 ≥ 0))) && ((numB p3 6 && (true || decide (numV p3 6 ≥ 0))) && ((numB p4 6 && (true || decide (numV p4 6 ≥ 0))) && ((numB p5 6 && (true || decide (numV p5 6 ≥ 0))) && ((numB p6 6 && (true || decide (numV p6 6 ≥ 0))) && ((numB p7 6 && (true || decide (numV p7 6 ≥ 0))) && ((numB p8 6 && (true || decide (numV p8 6 ≥ 0))) && ((numB p9 6 && (true || decide (numV p9 6 ≥ 0))) && ((numB p10 6 && (false || decide (numV p10 6 ≥ 0))) && true))))))))))) = (true && ((numB p0 6 && (false || decide (numV p0 6 ≥ 0))) && ((numB p1 6 && (false || decide (numV p1 6 ≥ 0))) && ((numB p2 6 && (true || decide (numV p2 6 ≥ 0))) && ((numB p3 6 && (true || decide (numV p3 6 ≥ 0))) && ((numB p4 6 && (true || decide (numV p4 6 ≥ 0))) && ((numB p5 6 && (true || decide (numV p5 6 ≥ 0))) && ((numB p6 6 && (true || decide (numV p6 6 ≥ 0))) && ((numB p7 6 && (true || decide (numV p7 6 ≥ 0))) && ((numB p8 6 && (true || decide (numV p8 6 ≥ 0))) && ((numB p9 6 && (true || decide (numV p9 6 ≥ 0))) && (numB p10 6 && (false || decide (numV p10 6 ≥ 0))))))))))))))
    simp only [Bool.and_true, Bool.true_and]
  have hsh : ∀ x ∈ List.map one1 (pcs 32 s), (strG x).length ≤ 1000000 := by
    intro x hx
    obtain ⟨q, hq, rfl⟩ := List.mem_map.1 hx
    exact Nat.le_trans (pcs_len 32 s q hq) h1
  have hlm : (List.map one1 (pcs 32 s)).length = 11 := by rw [List.length_map]; exact hL
  have hne : (((List.map one1 (pcs 32 s)).length : Int) != 11) = false := by rw [hlm]; rfl
  rw [hne, cond_false]
  refine And.intro ⟨rfl, hlm, by decide, by decide, hsh⟩ ?_
  rw [ho]
  cases hn : nbA s with
  | false => exact fun _ => pb_no h hn
  | true =>
    have hy := pb_yes h hn
    unfold nbV at hy
    rw [i0, i1, i2, i3, i4, i5, i6, i7, i8, i9, i10] at hy
    unfold exrpb_x0 exrpb_x1 exrpb_x2 exrpb_x3
    rw [show UInt8.ofNat 32 = 32 from rfl, hp]
    have hv : valR (List.map one1 [p0, p1, p2, p3, p4, p5, p6, p7, p8, p9, p10]) = [numV p0 6, numV p1 6, numV p2 6, numV p3 6, numV p4 6, numV p5 6, numV p6 6, numV p7 6, numV p8 6, numV p9 6, numV p10 6] := rfl
    rw [hv]
    simp only [cond_true, List.length_cons, List.length_nil, Nat.reduceAdd, Nat.reduceLT, Nat.reduceLeDiff, decide_true, Bool.and_true, List.drop_succ_cons, List.drop_zero, List.take_succ_cons, List.take_zero, List.getD_cons_zero, List.getD_cons_succ, Bool.and_self]
    exact hy
end Go.Ev
