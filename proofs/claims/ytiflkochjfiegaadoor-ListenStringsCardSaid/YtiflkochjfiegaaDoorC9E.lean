/-
  Part of the proof of a law.
-/
import Derived.Test.YtiflkochjfiegaaDoorC9C
import Derived.KernelRfl
set_option linter.unusedVariables false
set_option linter.unusedSimpArgs false
set_option linter.unusedSectionVars false
/-
  Chapter 9, contracts: peaks.
-/
namespace Go.Ev
open Go Go.Proofs
set_option maxRecDepth 20000
def atF (x : List Int) (i : Int) : Nat := bif decide (i < 0) || decide (i ≥ x.length) then 0 else fOf .f32 (x.getD i.toNat 0)
def atS : Spec := fun args σ K => match args, σ with
  | [.one (.int .i64 i), .one (.ptr 0 1 0 0)], [.cells [.data (.ints .i64 x)]] => K (.one (.flt .f32 (atF x i))) [.cells [.data (.ints .i64 x)]]
  | _, _ => False
def absF (b : Nat) : Nat := fMaxV .f32 b (fNeg .f32 b)
def absOk (b : Nat) : Bool := fMaxOk .f32 b (fNeg .f32 b)
def mulF (a b : Nat) : Nat := fVal .mul .f32 a b
def addF (a b : Nat) : Nat := fVal .add .f32 a b
def mulOk (a b : Nat) : Bool := fOk .mul .f32 a b
def addOk (a b : Nat) : Bool := fOk .add .f32 a b
def sumF (x : List Int) (i : Int) (a b c d : Nat) : Nat := addF (addF (addF (addF 0 (mulF a (atF x (i - 1)))) (mulF b (atF x i))) (mulF c (atF x (i + 1)))) (mulF d (atF x (i + 2)))
def sumOk (x : List Int) (i : Int) (a b c d : Nat) : Bool :=
  mulOk a (atF x (i - 1)) && (addOk 0 (mulF a (atF x (i - 1))) && (mulOk b (atF x i) && (addOk (addF 0 (mulF a (atF x (i - 1)))) (mulF b (atF x i)) &&
  (mulOk c (atF x (i + 1)) && (addOk (addF (addF 0 (mulF a (atF x (i - 1)))) (mulF b (atF x i))) (mulF c (atF x (i + 1))) &&
  (mulOk d (atF x (i + 2)) && (addOk (addF (addF (addF 0 (mulF a (atF x (i - 1)))) (mulF b (atF x i))) (mulF c (atF x (i + 1)))) (mulF d (atF x (i + 2))) && absOk (sumF x i a b c d))))))))
def k1F (x : List Int) (i : Int) : Nat := sumF x i 3235905536 1121058816 1108082688 3231711232
def k2F (x : List Int) (i : Int) : Nat := sumF x i 3238002688 1116733440 1116733440 3238002688
def k3F (x : List Int) (i : Int) : Nat := sumF x i 3231711232 1108082688 1121058816 3235905536
def oneF (x : List Int) (i : Int) : Nat := mulF 1124073472 (atF x i)
def fineB (x : List Int) : Nat → Int → List Nat
  | 0, _ => []
  | n + 1, i => absF (oneF x i) :: (bif i + 1 == (x.length : Int) then [] else absF (k1F x i) :: absF (k2F x i) :: absF (k3F x i) :: fineB x n (i + 1))
def fineOk (x : List Int) : Nat → Int → Bool
  | 0, _ => true
  | n + 1, i => (mulOk 1124073472 (atF x i) && absOk (oneF x i)) && (bif i + 1 == (x.length : Int) then true else
      sumOk x i 3235905536 1121058816 1108082688 3231711232 && (sumOk x i 3238002688 1116733440 1116733440 3238002688 && (sumOk x i 3231711232 1108082688 1121058816 3235905536 && fineOk x n (i + 1))))
def fltV (b : Nat) : List AV := [.one (.flt .f32 b)]
def fineSq : SeqSpec := fun caps lent => match caps, lent with
  | [.one (.ptr 1 1 0 0), .one (.ptr 2 1 0 0)], [.cells [.data (.ints .i64 x)], .cells [.func 170 [1]]] => some (decide (x.length ≤ 200) && fineOk x x.length 0, (fineB x x.length 0).map fltV)
  | _, _ => none
def fineL : LSpec := fun vs σ k => match vs, σ with
  | [.one (.yld 0), .one (.ptr 1 1 0 0), .one (.ptr 2 1 0 0), .one (.int .i64 n), .one (.int .i64 i)], [.ghost P J D (some L), .cells [.data (.ints .i64 x)], .cells [.func 170 [1]]] =>
    (P = Tryd.prog ∧ x.length ≤ 200 ∧ n = x.length ∧ 0 ≤ i ∧ i ≤ n ∧ fineOk x (n - i).toNat i = true ∧ L = (fineB x (n - i).toNat i).map fltV) ∧
    ∀ D', k (.exit 0) [] [.ghost P J D' (some []), .cells [.data (.ints .i64 x)], .cells [.func 170 [1]]] ∧ k .ret [] [.ghost P J D' (some []), .cells [.data (.ints .i64 x)], .cells [.func 170 [1]]] ∧
      k .ret [] [.ghost P J D' none, .cells [.data (.ints .i64 x)], .cells [.func 170 [1]]]
  | _, _ => False
def fineS : Spec := fun args σ K => match args, σ with
  | [.one (.data (.ints .i64 x))], [] => K (.one (.func 171 [0, 1])) [.cells [.data (.ints .i64 x)], .cells [.func 170 [0]]]
  | _, _ => False
def maxF : Nat → List Nat → Nat
  | b, [] => b
  | b, f :: l => maxF (fMaxV .f32 b f) l
def maxOk : Nat → List Nat → Bool
  | _, [] => true
  | b, f :: l => fMaxOk .f32 b f && maxOk (fMaxV .f32 b f) l
def peakL (xs : List (List AV)) : LSpec := fun vs σ k => match vs, σ with
  | [.one (.ptr 0 1 0 0)], [.cells [.flt .f32 b]] => ∃ fs : List Nat, xs = fs.map fltV ∧ maxOk b fs = true ∧ k .normal [.one (.ptr 0 1 0 0)] [.cells [.flt .f32 (maxF b fs)]]
  | _, _ => False
def peakF (x : List Int) : Nat := maxF 0 (fineB x x.length 0)
def peakG (x : List Int) : Int := fToV .f32 (peakF x)
def peakOk (x : List Int) : Bool := fineOk x x.length 0 && (maxOk 0 (fineB x x.length 0) && fToOk .f32 (peakF x) .i64)
def peakS : Spec := fun args σ K => match args, σ with
  | [.one (.data (.ints .i64 x))], [] => (x.length ≤ 200 ∧ peakOk x = true) ∧ K (.one (.int .i64 (peakG x))) []
  | _, _ => False
def trueS : Spec := fun args σ K => match args, σ with
  | [.one (.data (.ints .i64 x))], [] => (x.length ≤ 1000000000 ∧ (sigE x = 0 → peakOk x = true)) ∧
    bif sigE x == 0 then K (.tup [.agg [.int .i64 (wi ((peakG x).tdiv (gcdG (peakG x) 128))), .int .i64 (wi ((128 : Int).tdiv (gcdG (peakG x) 128)))], .one (.int .i64 0)]) []
    else K (.tup [.agg [.int .i64 0, .int .i64 0], .one (.int .i64 (sigE x))]) []
  | _, _ => False
noncomputable abbrev Eat : Env := envOf Tryd.prog [] [] 17 1
noncomputable abbrev Efin : Env := envOf Tryd.prog [] [] 6 0
noncomputable abbrev Eite : Env := envOf Tryd.prog [(170, atS)] [(1, .spec [0, 1, 2, 12, 13] [] fineL), (7, .unroll 4), (11, .unroll 5)] 61 3
noncomputable abbrev Epk : Env := envOf Tryd.prog [(147, fineS)] [(1000003, .range 171 fineSq [3] peakL)] 13 0
noncomputable abbrev Etp : Env := envOf Tryd.prog [(99, sigS), (109, peakS), (102, lowS)] [] 14 0
end Go.Ev

namespace Go.Ev
open Go Go.Proofs
set_option maxRecDepth 100000
theorem exat (i : Int) (x : List Int) (K : AV → List Blk → Prop) : evFn Eat Tryd.f170 [.one (.int .i64 i), .one (.ptr 0 1 0 0)] [.cells [.data (.ints .i64 x)]] K = ( bif decide (i < 0) then K (.one (.flt FloatKind.f32 0)) [Blk.cells [SV.data (Row.ints .i64 x)]] else bif decide (i ≥ (↑x.length : Int)) then K (.one (.flt FloatKind.f32 0)) [Blk.cells [SV.data (Row.ints .i64 x)]] else bif decide (0 ≤ i) && decide (i < (↑x.length : Int)) then bif decide (i.toNat + 0 < x.length) then K (.one (.flt FloatKind.f32 (fOf FloatKind.f32 (x.getD (i.toNat + 0) 0)))) [Blk.cells [SV.data (Row.ints .i64 x)]] else False else False) := by kernel_rfl
theorem exfin (x : List Int) (K : AV → List Blk → Prop) : evFn Efin Tryd.f147 [.one (.data (.ints .i64 x))] [] K = ( K (.one (.func 171 [0, 1])) [Blk.cells [SV.data (Row.ints .i64 x)], Blk.cells [SV.func 170 [0]]]) := by kernel_rfl
theorem exite (x : List Int) (P : Program) (J : GJ) (D : Nat → Prop) (L : List (List AV)) (K : AV → List Blk → Prop) : evFn Eite Tryd.f171 [.one (.yld 0), .one (.ptr 1 1 0 0), .one (.ptr 2 1 0 0)] [.ghost P J D (some L), .cells [.data (.ints .i64 x)], .cells [.func 170 [1]]] K = ( (P = Tryd.prog ∧ x.length ≤ 200 ∧ (↑x.length : Int) = (↑x.length : Int) ∧ (0 :Int) ≤ (0 :Int) ∧ 0 ≤ (↑x.length : Int) ∧ fineOk x ((↑x.length : Int) - 0).toNat (0 :Int) = true ∧ L = List.map fltV (fineB x ((↑x.length : Int) - 0).toNat (0 :Int))) ∧ ∀ (D' : Nat → Prop), K (AV.tup []) [Blk.ghost P J D' (some []), Blk.cells [SV.data (Row.ints .i64 x)], Blk.cells [SV.func (170 : FuncId) [1]]] ∧ K (AV.tup []) [Blk.ghost P J D' (some []), Blk.cells [SV.data (Row.ints .i64 x)], Blk.cells [SV.func (170 : FuncId) [1]]] ∧ K (AV.tup []) [Blk.ghost P J D' none, Blk.cells [SV.data (Row.ints .i64 x)], Blk.cells [SV.func (170 : FuncId) [1]]]) := by kernel_rfl
theorem exitea (x : List Int) (n i : Int) (P : Program) (J : GJ) (D : Nat → Prop) (L : List (List AV)) (K : Ex → List AV → List Blk → Prop) : evBody Eite (lb Tryd.f171 0) [0, 1, 2, 12, 13] [] [.one (.yld 0), .one (.ptr 1 1 0 0), .one (.ptr 2 1 0 0), .one (.int .i64 n), .one (.int .i64 i)] [.ghost P J D (some L), .cells [.data (.ints .i64 x)], .cells [.func 170 [1]]] K = ( bif decide (i < n) then bif fOk BinOp.mul FloatKind.f32 1124073472 (atF x i) then bif fMaxOk FloatKind.f32 (fVal BinOp.mul FloatKind.f32 1124073472 (atF x i)) (fNeg FloatKind.f32 (fVal BinOp.mul FloatKind.f32 1124073472 (atF x i))) && true then P = Eite.P ∧ (L = [.one (.flt FloatKind.f32 (fMaxV FloatKind.f32 (fVal BinOp.mul FloatKind.f32 1124073472 (atF x i)) (fNeg FloatKind.f32 (fVal BinOp.mul FloatKind.f32 1124073472 (atF x i)))))] :: match L with | [] => [] | head :: tl0 => tl0) ∧ ∀ (D' : Nat → Prop), (bif IntKind.i64.wrap (i + 1) == (↑x.length : Int) then K .ret [] [Blk.ghost P J D' (some (match L with | [] => [] | head :: tl0 => tl0)), Blk.cells [SV.data (Row.ints .i64 x)], Blk.cells [SV.func (170 : FuncId) [1]]] else bif fOk BinOp.mul FloatKind.f32 3235905536 (atF x (IntKind.i64.wrap (IntKind.i64.wrap (i + 0) - 1))) then bif fOk BinOp.add FloatKind.f32 0 (fVal BinOp.mul FloatKind.f32 3235905536 (atF x (IntKind.i64.wrap (IntKind.i64.wrap (i + 0) - 1)))) then bif fOk BinOp.mul FloatKind.f32 1121058816 (atF x (IntKind.i64.wrap (IntKind.i64.wrap (i + 1) - 1))) then bif fOk BinOp.add FloatKind.f32 (fVal BinOp.add FloatKind.f32 0 (fVal BinOp.mul FloatKind.f32 3235905536 (atF x (IntKind.i64.wrap (IntKind.i64.wrap (i + 0) - 1))))) (fVal BinOp.mul FloatKind.f32 1121058816 (atF x (IntKind.i64.wrap (IntKind.i64.wrap (i + 1) - 1)))) then bif fOk BinOp.mul FloatKind.f32 1108082688 (atF x (IntKind.i64.wrap (IntKind.i64.wrap (i + 2) - 1))) then bif fOk BinOp.add FloatKind.f32 (fVal BinOp.add FloatKind.f32 (fVal BinOp.add FloatKind.f32 0 (fVal BinOp.mul FloatKind.f32 3235905536 (atF x (IntKind.i64.wrap (IntKind.i64.wrap (i + 0) - 1))))) (fVal BinOp.mul FloatKind.f32 1121058816 (atF x (IntKind.i64.wrap (IntKind.i64.wrap (i + 1) - 1))))) (fVal BinOp.mul FloatKind.f32 1108082688 (atF x (IntKind.i64.wrap (IntKind.i64.wrap (i + 2) - 1)))) then bif fOk BinOp.mul FloatKind.f32 3231711232 (atF x (IntKind.i64.wrap (IntKind.i64.wrap (i + 3) - 1))) then bif fOk BinOp.add FloatKind.f32 (fVal BinOp.add FloatKind.f32 (fVal BinOp.add FloatKind.f32 (fVal BinOp.add FloatKind.f32 0 (fVal BinOp.mul FloatKind.f32 3235905536 (atF x (IntKind.i64.wrap (IntKind.i64.wrap (i + 0) - 1))))) (fVal BinOp.mul FloatKind.f32 1121058816 (atF x (IntKind.i64.wrap (IntKind.i64.wrap (i + 1) - 1))))) (fVal BinOp.mul FloatKind.f32 1108082688 (atF x (IntKind.i64.wrap (IntKind.i64.wrap (i + 2) - 1))))) (fVal BinOp.mul FloatKind.f32 3231711232 (atF x (IntKind.i64.wrap (IntKind.i64.wrap (i + 3) - 1)))) then bif fMaxOk FloatKind.f32 (fVal BinOp.add FloatKind.f32 (fVal BinOp.add FloatKind.f32 (fVal BinOp.add FloatKind.f32 (fVal BinOp.add FloatKind.f32 0 (fVal BinOp.mul FloatKind.f32 3235905536 (atF x (IntKind.i64.wrap (IntKind.i64.wrap (i + 0) - 1))))) (fVal BinOp.mul FloatKind.f32 1121058816 (atF x (IntKind.i64.wrap (IntKind.i64.wrap (i + 1) - 1))))) (fVal BinOp.mul FloatKind.f32 1108082688 (atF x (IntKind.i64.wrap (IntKind.i64.wrap (i + 2) - 1))))) (fVal BinOp.mul FloatKind.f32 3231711232 (atF x (IntKind.i64.wrap (IntKind.i64.wrap (i + 3) - 1))))) (fNeg FloatKind.f32 (fVal BinOp.add FloatKind.f32 (fVal BinOp.add FloatKind.f32 (fVal BinOp.add FloatKind.f32 (fVal BinOp.add FloatKind.f32 0 (fVal BinOp.mul FloatKind.f32 3235905536 (atF x (IntKind.i64.wrap (IntKind.i64.wrap (i + 0) - 1))))) (fVal BinOp.mul FloatKind.f32 1121058816 (atF x (IntKind.i64.wrap (IntKind.i64.wrap (i + 1) - 1))))) (fVal BinOp.mul FloatKind.f32 1108082688 (atF x (IntKind.i64.wrap (IntKind.i64.wrap (i + 2) - 1))))) (fVal BinOp.mul FloatKind.f32 3231711232 (atF x (IntKind.i64.wrap (IntKind.i64.wrap (i + 3) - 1)))))) && true then P = Eite.P ∧ ((match L with | [] => [] | head :: tl0 => tl0) = [.one (.flt FloatKind.f32 (fMaxV FloatKind.f32 (fVal BinOp.add FloatKind.f32 (fVal BinOp.add FloatKind.f32 (fVal BinOp.add FloatKind.f32 (fVal BinOp.add FloatKind.f32 0 (fVal BinOp.mul FloatKind.f32 3235905536 (atF x (IntKind.i64.wrap (IntKind.i64.wrap (i + 0) - 1))))) (fVal BinOp.mul FloatKind.f32 1121058816 (atF x (IntKind.i64.wrap (IntKind.i64.wrap (i + 1) - 1))))) (fVal BinOp.mul FloatKind.f32 1108082688 (atF x (IntKind.i64.wrap (IntKind.i64.wrap (i + 2) - 1))))) (fVal BinOp.mul FloatKind.f32 3231711232 (atF x (IntKind.i64.wrap (IntKind.i64.wrap (i + 3) - 1))))) (fNeg FloatKind.f32 (fVal BinOp.add FloatKind.f32 (fVal BinOp.add FloatKind.f32 (fVal BinOp.add FloatKind.f32 (fVal BinOp.add FloatKind.f32 0 (fVal BinOp.mul FloatKind.f32 3235905536 (atF x (IntKind.i64.wrap (IntKind.i64.wrap (i + 0) - 1))))) (fVal BinOp.mul FloatKind.f32 1121058816 (atF x (IntKind.i64.wrap (IntKind.i64.wrap (i + 1) - 1))))) (fVal BinOp.mul FloatKind.f32 1108082688 (atF x (IntKind.i64.wrap (IntKind.i64.wrap (i + 2) - 1))))) (fVal BinOp.mul FloatKind.f32 3231711232 (atF x (IntKind.i64.wrap (IntKind.i64.wrap (i + 3) - 1))))))))] :: match match L with | [] => [] | head :: tl0 => tl0 with | [] => [] | head :: tl0 => tl0) ∧ ∀ (D' : Nat → Prop), (bif fOk BinOp.mul FloatKind.f32 3238002688 (atF x (IntKind.i64.wrap (IntKind.i64.wrap (i + 0) - 1))) then bif fOk BinOp.add FloatKind.f32 0 (fVal BinOp.mul FloatKind.f32 3238002688 (atF x (IntKind.i64.wrap (IntKind.i64.wrap (i + 0) - 1)))) then bif fOk BinOp.mul FloatKind.f32 1116733440 (atF x (IntKind.i64.wrap (IntKind.i64.wrap (i + 1) - 1))) then bif fOk BinOp.add FloatKind.f32 (fVal BinOp.add FloatKind.f32 0 (fVal BinOp.mul FloatKind.f32 3238002688 (atF x (IntKind.i64.wrap (IntKind.i64.wrap (i + 0) - 1))))) (fVal BinOp.mul FloatKind.f32 1116733440 (atF x (IntKind.i64.wrap (IntKind.i64.wrap (i + 1) - 1)))) then bif fOk BinOp.mul FloatKind.f32 1116733440 (atF x (IntKind.i64.wrap (IntKind.i64.wrap (i + 2) - 1))) then bif fOk BinOp.add FloatKind.f32 (fVal BinOp.add FloatKind.f32 (fVal BinOp.add FloatKind.f32 0 (fVal BinOp.mul FloatKind.f32 3238002688 (atF x (IntKind.i64.wrap (IntKind.i64.wrap (i + 0) - 1))))) (fVal BinOp.mul FloatKind.f32 1116733440 (atF x (IntKind.i64.wrap (IntKind.i64.wrap (i + 1) - 1))))) (fVal BinOp.mul FloatKind.f32 1116733440 (atF x (IntKind.i64.wrap (IntKind.i64.wrap (i + 2) - 1)))) then bif fOk BinOp.mul FloatKind.f32 3238002688 (atF x (IntKind.i64.wrap (IntKind.i64.wrap (i + 3) - 1))) then bif fOk BinOp.add FloatKind.f32 (fVal BinOp.add FloatKind.f32 (fVal BinOp.add FloatKind.f32 (fVal BinOp.add FloatKind.f32 0 (fVal BinOp.mul FloatKind.f32 3238002688 (atF x (IntKind.i64.wrap (IntKind.i64.wrap (i + 0) - 1))))) (fVal BinOp.mul FloatKind.f32 1116733440 (atF x (IntKind.i64.wrap (IntKind.i64.wrap (i + 1) - 1))))) (fVal BinOp.mul FloatKind.f32 1116733440 (atF x (IntKind.i64.wrap (IntKind.i64.wrap (i + 2) - 1))))) (fVal BinOp.mul FloatKind.f32 3238002688 (atF x (IntKind.i64.wrap (IntKind.i64.wrap (i + 3) - 1)))) then bif fMaxOk FloatKind.f32 (fVal BinOp.add FloatKind.f32 (fVal BinOp.add FloatKind.f32 (fVal BinOp.add FloatKind.f32 (fVal BinOp.add FloatKind.f32 0 (fVal BinOp.mul FloatKind.f32 3238002688 (atF x (IntKind.i64.wrap (IntKind.i64.wrap (i + 0) - 1))))) (fVal BinOp.mul FloatKind.f32 1116733440 (atF x (IntKind.i64.wrap (IntKind.i64.wrap (i + 1) - 1))))) (fVal BinOp.mul FloatKind.f32 1116733440 (atF x (IntKind.i64.wrap (IntKind.i64.wrap (i + 2) - 1))))) (fVal BinOp.mul FloatKind.f32 3238002688 (atF x (IntKind.i64.wrap (IntKind.i64.wrap (i + 3) - 1))))) (fNeg FloatKind.f32 (fVal BinOp.add FloatKind.f32 (fVal BinOp.add FloatKind.f32 (fVal BinOp.add FloatKind.f32 (fVal BinOp.add FloatKind.f32 0 (fVal BinOp.mul FloatKind.f32 3238002688 (atF x (IntKind.i64.wrap (IntKind.i64.wrap (i + 0) - 1))))) (fVal BinOp.mul FloatKind.f32 1116733440 (atF x (IntKind.i64.wrap (IntKind.i64.wrap (i + 1) - 1))))) (fVal BinOp.mul FloatKind.f32 1116733440 (atF x (IntKind.i64.wrap (IntKind.i64.wrap (i + 2) - 1))))) (fVal BinOp.mul FloatKind.f32 3238002688 (atF x (IntKind.i64.wrap (IntKind.i64.wrap (i + 3) - 1)))))) && true then P = Eite.P ∧ ((match match L with | [] => [] | head :: tl0 => tl0 with | [] => [] | head :: tl0 => tl0) = [.one (.flt FloatKind.f32 (fMaxV FloatKind.f32 (fVal BinOp.add FloatKind.f32 (fVal BinOp.add FloatKind.f32 (fVal BinOp.add FloatKind.f32 (fVal BinOp.add FloatKind.f32 0 (fVal BinOp.mul FloatKind.f32 3238002688 (atF x (IntKind.i64.wrap (IntKind.i64.wrap (i + 0) - 1))))) (fVal BinOp.mul FloatKind.f32 1116733440 (atF x (IntKind.i64.wrap (IntKind.i64.wrap (i + 1) - 1))))) (fVal BinOp.mul FloatKind.f32 1116733440 (atF x (IntKind.i64.wrap (IntKind.i64.wrap (i + 2) - 1))))) (fVal BinOp.mul FloatKind.f32 3238002688 (atF x (IntKind.i64.wrap (IntKind.i64.wrap (i + 3) - 1))))) (fNeg FloatKind.f32 (fVal BinOp.add FloatKind.f32 (fVal BinOp.add FloatKind.f32 (fVal BinOp.add FloatKind.f32 (fVal BinOp.add FloatKind.f32 0 (fVal BinOp.mul FloatKind.f32 3238002688 (atF x (IntKind.i64.wrap (IntKind.i64.wrap (i + 0) - 1))))) (fVal BinOp.mul FloatKind.f32 1116733440 (atF x (IntKind.i64.wrap (IntKind.i64.wrap (i + 1) - 1))))) (fVal BinOp.mul FloatKind.f32 1116733440 (atF x (IntKind.i64.wrap (IntKind.i64.wrap (i + 2) - 1))))) (fVal BinOp.mul FloatKind.f32 3238002688 (atF x (IntKind.i64.wrap (IntKind.i64.wrap (i + 3) - 1))))))))] :: match match match L with | [] => [] | head :: tl0 => tl0 with | [] => [] | head :: tl0 => tl0 with | [] => [] | head :: tl0 => tl0) ∧ ∀ (D' : Nat → Prop), (bif fOk BinOp.mul FloatKind.f32 3231711232 (atF x (IntKind.i64.wrap (IntKind.i64.wrap (i + 0) - 1))) then bif fOk BinOp.add FloatKind.f32 0 (fVal BinOp.mul FloatKind.f32 3231711232 (atF x (IntKind.i64.wrap (IntKind.i64.wrap (i + 0) - 1)))) then bif fOk BinOp.mul FloatKind.f32 1108082688 (atF x (IntKind.i64.wrap (IntKind.i64.wrap (i + 1) - 1))) then bif fOk BinOp.add FloatKind.f32 (fVal BinOp.add FloatKind.f32 0 (fVal BinOp.mul FloatKind.f32 3231711232 (atF x (IntKind.i64.wrap (IntKind.i64.wrap (i + 0) - 1))))) (fVal BinOp.mul FloatKind.f32 1108082688 (atF x (IntKind.i64.wrap (IntKind.i64.wrap (i + 1) - 1)))) then bif fOk BinOp.mul FloatKind.f32 1121058816 (atF x (IntKind.i64.wrap (IntKind.i64.wrap (i + 2) - 1))) then bif fOk BinOp.add FloatKind.f32 (fVal BinOp.add FloatKind.f32 (fVal BinOp.add FloatKind.f32 0 (fVal BinOp.mul FloatKind.f32 3231711232 (atF x (IntKind.i64.wrap (IntKind.i64.wrap (i + 0) - 1))))) (fVal BinOp.mul FloatKind.f32 1108082688 (atF x (IntKind.i64.wrap (IntKind.i64.wrap (i + 1) - 1))))) (fVal BinOp.mul FloatKind.f32 1121058816 (atF x (IntKind.i64.wrap (IntKind.i64.wrap (i + 2) - 1)))) then bif fOk BinOp.mul FloatKind.f32 3235905536 (atF x (IntKind.i64.wrap (IntKind.i64.wrap (i + 3) - 1))) then bif fOk BinOp.add FloatKind.f32 (fVal BinOp.add FloatKind.f32 (fVal BinOp.add FloatKind.f32 (fVal BinOp.add FloatKind.f32 0 (fVal BinOp.mul FloatKind.f32 3231711232 (atF x (IntKind.i64.wrap (IntKind.i64.wrap (i + 0) - 1))))) (fVal BinOp.mul FloatKind.f32 1108082688 (atF x (IntKind.i64.wrap (IntKind.i64.wrap (i + 1) - 1))))) (fVal BinOp.mul FloatKind.f32 1121058816 (atF x (IntKind.i64.wrap (IntKind.i64.wrap (i + 2) - 1))))) (fVal BinOp.mul FloatKind.f32 3235905536 (atF x (IntKind.i64.wrap (IntKind.i64.wrap (i + 3) - 1)))) then bif fMaxOk FloatKind.f32 (fVal BinOp.add FloatKind.f32 (fVal BinOp.add FloatKind.f32 (fVal BinOp.add FloatKind.f32 (fVal BinOp.add FloatKind.f32 0 (fVal BinOp.mul FloatKind.f32 3231711232 (atF x (IntKind.i64.wrap (IntKind.i64.wrap (i + 0) - 1))))) (fVal BinOp.mul FloatKind.f32 1108082688 (atF x (IntKind.i64.wrap (IntKind.i64.wrap (i + 1) - 1))))) (fVal BinOp.mul FloatKind.f32 1121058816 (atF x (IntKind.i64.wrap (IntKind.i64.wrap (i + 2) - 1))))) (fVal BinOp.mul FloatKind.f32 3235905536 (atF x (IntKind.i64.wrap (IntKind.i64.wrap (i + 3) - 1))))) (fNeg FloatKind.f32 (fVal BinOp.add FloatKind.f32 (fVal BinOp.add FloatKind.f32 (fVal BinOp.add FloatKind.f32 (fVal BinOp.add FloatKind.f32 0 (fVal BinOp.mul FloatKind.f32 3231711232 (atF x (IntKind.i64.wrap (IntKind.i64.wrap (i + 0) - 1))))) (fVal BinOp.mul FloatKind.f32 1108082688 (atF x (IntKind.i64.wrap (IntKind.i64.wrap (i + 1) - 1))))) (fVal BinOp.mul FloatKind.f32 1121058816 (atF x (IntKind.i64.wrap (IntKind.i64.wrap (i + 2) - 1))))) (fVal BinOp.mul FloatKind.f32 3235905536 (atF x (IntKind.i64.wrap (IntKind.i64.wrap (i + 3) - 1)))))) && true then P = Eite.P ∧ ((match match match L with | [] => [] | head :: tl0 => tl0 with | [] => [] | head :: tl0 => tl0 with | [] => [] | head :: tl0 => tl0) = [.one (.flt FloatKind.f32 (fMaxV FloatKind.f32 (fVal BinOp.add FloatKind.f32 (fVal BinOp.add FloatKind.f32 (fVal BinOp.add FloatKind.f32 (fVal BinOp.add FloatKind.f32 0 (fVal BinOp.mul FloatKind.f32 3231711232 (atF x (IntKind.i64.wrap (IntKind.i64.wrap (i + 0) - 1))))) (fVal BinOp.mul FloatKind.f32 1108082688 (atF x (IntKind.i64.wrap (IntKind.i64.wrap (i + 1) - 1))))) (fVal BinOp.mul FloatKind.f32 1121058816 (atF x (IntKind.i64.wrap (IntKind.i64.wrap (i + 2) - 1))))) (fVal BinOp.mul FloatKind.f32 3235905536 (atF x (IntKind.i64.wrap (IntKind.i64.wrap (i + 3) - 1))))) (fNeg FloatKind.f32 (fVal BinOp.add FloatKind.f32 (fVal BinOp.add FloatKind.f32 (fVal BinOp.add FloatKind.f32 (fVal BinOp.add FloatKind.f32 0 (fVal BinOp.mul FloatKind.f32 3231711232 (atF x (IntKind.i64.wrap (IntKind.i64.wrap (i + 0) - 1))))) (fVal BinOp.mul FloatKind.f32 1108082688 (atF x (IntKind.i64.wrap (IntKind.i64.wrap (i + 1) - 1))))) (fVal BinOp.mul FloatKind.f32 1121058816 (atF x (IntKind.i64.wrap (IntKind.i64.wrap (i + 2) - 1))))) (fVal BinOp.mul FloatKind.f32 3235905536 (atF x (IntKind.i64.wrap (IntKind.i64.wrap (i + 3) - 1))))))))] :: match match match match L with | [] => [] | head :: tl0 => tl0 with | [] => [] | head :: tl0 => tl0 with | [] => [] | head :: tl0 => tl0 with | [] => [] | head :: tl0 => tl0) ∧ ∀ (D' : Nat → Prop), K .normal [.one (.yld 0), .one (.ptr 1 1 0 0), .one (.ptr 2 1 0 0), .one (.int .i64 n), .one (.int .i64 (IntKind.i64.wrap (i + 1)))] [Blk.ghost P J D' (some (match match match match L with | [] => [] | head :: tl0 => tl0 with | [] => [] | head :: tl0 => tl0 with | [] => [] | head :: tl0 => tl0 with | [] => [] | head :: tl0 => tl0)), Blk.cells [SV.data (Row.ints .i64 x)], Blk.cells [SV.func (170 : FuncId) [1]]] ∧ K .ret [] [Blk.ghost P J D' none, Blk.cells [SV.data (Row.ints .i64 x)], Blk.cells [SV.func (170 : FuncId) [1]]] else False else False else False else False else False else False else False else False else False) ∧ K .ret [] [Blk.ghost P J D' none, Blk.cells [SV.data (Row.ints .i64 x)], Blk.cells [SV.func (170 : FuncId) [1]]] else False else False else False else False else False else False else False else False else False) ∧ K .ret [] [Blk.ghost P J D' none, Blk.cells [SV.data (Row.ints .i64 x)], Blk.cells [SV.func (170 : FuncId) [1]]] else False else False else False else False else False else False else False else False else False) ∧ K .ret [] [Blk.ghost P J D' none, Blk.cells [SV.data (Row.ints .i64 x)], Blk.cells [SV.func (170 : FuncId) [1]]] else False else False else K (.exit 0) [] [Blk.ghost P J D (some L), Blk.cells [SV.data (Row.ints .i64 x)], Blk.cells [SV.func (170 : FuncId) [1]]]) := by kernel_rfl
theorem expk (x : List Int) (K : AV → List Blk → Prop) : evFn Epk Tryd.f109 [.one (.data (.ints .i64 x))] [] K = ( bif decide (x.length ≤ 200) && fineOk x x.length 0 then ∃ fs, List.map fltV (fineB x x.length 0) = List.map fltV fs ∧ maxOk 0 fs = true ∧ bif fToOk FloatKind.f32 (maxF 0 fs) .i64 then K (.one (.int .i64 (fToV FloatKind.f32 (maxF 0 fs)))) [] else False else False) := by kernel_rfl
theorem expka (b f : Nat) (K : Ex → List AV → List Blk → Prop) : evRound Epk (rangePs (lb Tryd.f109 0)) (rangeAssign (lb Tryd.f109 0)) (rangeBody (lb Tryd.f109 0)) [3] [.one (.ptr 0 1 0 0)] [.cells [.flt .f32 b]] [.one (.flt .f32 f)] K = ( bif fMaxOk FloatKind.f32 b f && true then K .normal [.one (.ptr 0 1 0 0)] [Blk.cells [SV.flt FloatKind.f32 (fMaxV FloatKind.f32 b f)]] else False) := by kernel_rfl
theorem extp (x : List Int) (K : AV → List Blk → Prop) : evFn Etp Tryd.f34 [.one (.data (.ints .i64 x))] [] K = ( x.length ≤ 1000000000 ∧ bif sigE x != 0 then K (AV.tup [TV.agg [SV.int .i64 0, SV.int .i64 0], .one (.int .i64 (sigE x))]) [] else (x.length ≤ 200 ∧ peakOk x = true) ∧ gcdG (peakG x) (128 :Int) ≠ (0 :Int) ∧ K (AV.tup [TV.agg [SV.int .i64 (wi ((peakG x).tdiv (gcdG (peakG x) 128))), SV.int .i64 (wi (Int.tdiv 128 (gcdG (peakG x) 128)))], .one (.int .i64 0)]) []) := by kernel_rfl
end Go.Ev

/-
  Chapter 9: the contracts of peaks are kept.
-/
namespace Go.Ev
open Go Go.Proofs
attribute [local irreducible] evFn evBody evRound
set_option maxRecDepth 20000
theorem cond_in {c : Bool} {p : Prop} (h : c = true) (hp : p) : cond c p False := by rw [h]; exact hp
theorem cond_then {c : Bool} {p q : Prop} (h : c = true) (hp : p) : cond c p q := by rw [h]; exact hp
theorem cond_else {c : Bool} {p q : Prop} (h : c = false) (hq : q) : cond c p q := by rw [h]; exact hq
theorem and_tt {c : Bool} (h : c = true) : (c && true) = true := by rw [h]; rfl
theorem okat : SpecOK Tryd.prog 170 atS := by
  refine specOK (n := 17) (m := 1) (lps := []) .nil Tryd.func170 (by kernel_rfl) (by kernel_rfl) (noLoops (by kernel_rfl)) fun args σ K h => ?_
  unfold atS at h
  split at h
  · rename_i i x
    rw [exat i x K]
    by_cases h1 : i < 0
    · have e : atF x i = 0 := by unfold atF; rw [decide_eq_true h1]; rfl
      rw [e] at h
      exact cond_then (decide_eq_true h1) h
    · refine cond_else (decide_eq_false h1) ?_
      by_cases h2 : i ≥ (x.length : Int)
      · have e : atF x i = 0 := by unfold atF; rw [decide_eq_false h1, decide_eq_true h2]; rfl
        rw [e] at h
        exact cond_then (decide_eq_true h2) h
      · have e : atF x i = fOf .f32 (x.getD i.toNat 0) := by unfold atF; rw [decide_eq_false h1, decide_eq_false h2]; rfl
        rw [e] at h
        refine cond_else (decide_eq_false h2) (cond_in ?_ (cond_in (decide_eq_true (by omega)) h))
        rw [decide_eq_true (by omega), decide_eq_true (by omega)]; rfl
  · exact h.elim
theorem okfin : SpecOK Tryd.prog 147 fineS := by
  refine specOK (n := 6) (m := 0) (lps := []) .nil Tryd.func147 (by kernel_rfl) (by kernel_rfl) (noLoops (by kernel_rfl)) fun args σ K h => ?_
  unfold fineS at h
  split at h
  · rename_i x
    rw [exfin x K]
    exact h
  · exact h.elim
theorem lokite : LoopOK Eite (lb Tryd.f171 0) [0, 1, 2, 12, 13] [] fineL := by
  refine loopOK (.cons okat .nil) (fun b' hb => ?_) (fun vs σ => match vs, σ with
    | [_, _, _, .one (.int .i64 n), .one (.int .i64 i)], _ => (n - i).toNat
    | _, _ => 0) fun vs σ k h => ?_
  · have hl : loopsOf (lb Tryd.f171 0) = [lb Tryd.f171 1, lb Tryd.f171 2] := by kernel_rfl
    rw [hl] at hb
    simp only [List.mem_cons, List.not_mem_nil, or_false] at hb
    rcases hb with rfl | rfl
    · exact loopHyp_none (key := 7) (n := 4) (by kernel_rfl) rfl
    · exact loopHyp_none (key := 11) (n := 5) (by kernel_rfl) rfl
  unfold fineL at h
  split at h
  · rename_i n i P J D L x
    rw [exitea x n i P J D L _]
    obtain ⟨⟨h1, h2, rfl, h4, h5, h6, h7⟩, h⟩ := h
    by_cases hi : i < x.length
    · have wa : IntKind.i64.wrap (IntKind.i64.wrap (i + 0) - 1) = i - 1 := by rw [wrap_id (n := i + 0) (by omega) (by omega), wrap_id (by omega) (by omega)]; omega
      have wb : IntKind.i64.wrap (IntKind.i64.wrap (i + 1) - 1) = i := by rw [wrap_id (n := i + 1) (by omega) (by omega), wrap_id (by omega) (by omega)]; omega
      have wc : IntKind.i64.wrap (IntKind.i64.wrap (i + 2) - 1) = i + 1 := by rw [wrap_id (n := i + 2) (by omega) (by omega), wrap_id (by omega) (by omega)]; omega
      have wd : IntKind.i64.wrap (IntKind.i64.wrap (i + 3) - 1) = i + 2 := by rw [wrap_id (n := i + 3) (by omega) (by omega), wrap_id (by omega) (by omega)]; omega
      have we : IntKind.i64.wrap (i + 1) = i + 1 := wrap_id (by omega) (by omega)
      have hmu : ((x.length : Int) - (i + 1)).toNat < ((x.length : Int) - i).toNat := by omega
      have e : ((x.length : Int) - i).toNat = ((x.length : Int) - (i + 1)).toNat + 1 := by omega
      rw [e] at h6 h7
      simp only [fineOk, Bool.and_eq_true] at h6
      obtain ⟨⟨a1, a2⟩, a3⟩ := h6
      rw [fineB] at h7
      rw [wa, wb, wc, wd, we]
      refine cond_then (decide_eq_true hi) ?_
      cases hc : (i + 1 == (x.length : Int)) with
      | true =>
        rw [hc] at h7
        subst h7
        exact cond_in a1 (cond_in (and_tt a2) ⟨h1, rfl, fun D' => ⟨cond_then rfl (h D').2.1, (h D').2.2⟩⟩)
      | false =>
        rw [hc] at h7 a3
        simp only [cond_false, Bool.and_eq_true] at a3
        obtain ⟨b1, b2, b3, b4⟩ := a3
        unfold sumOk at b1 b2 b3
        simp only [Bool.and_eq_true] at b1 b2 b3
        obtain ⟨b10, b11, b12, b13, b14, b15, b16, b17, b18⟩ := b1
        obtain ⟨b20, b21, b22, b23, b24, b25, b26, b27, b28⟩ := b2
        obtain ⟨b30, b31, b32, b33, b34, b35, b36, b37, b38⟩ := b3
        rw [cond_false] at h7
        subst h7
        refine cond_in a1 (cond_in (and_tt a2) ⟨h1, rfl, fun D' => ⟨cond_else rfl ?_, (h D').2.2⟩⟩)
        refine cond_in b10 (cond_in b11 (cond_in b12 (cond_in b13 (cond_in b14 (cond_in b15 (cond_in b16 (cond_in b17 (cond_in (and_tt b18) ⟨h1, rfl, fun D1 => ⟨?_, (h D1).2.2⟩⟩))))))))
        refine cond_in b20 (cond_in b21 (cond_in b22 (cond_in b23 (cond_in b24 (cond_in b25 (cond_in b26 (cond_in b27 (cond_in (and_tt b28) ⟨h1, rfl, fun D2 => ⟨?_, (h D2).2.2⟩⟩))))))))
        refine cond_in b30 (cond_in b31 (cond_in b32 (cond_in b33 (cond_in b34 (cond_in b35 (cond_in b36 (cond_in b37 (cond_in (and_tt b38) ⟨h1, rfl, fun D3 => ⟨?_, (h D3).2.2⟩⟩))))))))
        exact ⟨⟨⟨h1, h2, rfl, by omega, by omega, b4, rfl⟩, h⟩, hmu⟩
    · have e : ((x.length : Int) - i).toNat = 0 := by omega
      rw [e] at h7
      subst h7
      exact cond_else (decide_eq_false hi) (h D).1
  · exact h.elim
theorem okite : SpecOK Tryd.prog 171 (seqSpec Tryd.prog fineSq) := by
  refine specOK (n := 61) (m := 3) (lps := [(1, .spec [0, 1, 2, 12, 13] [] fineL), (7, .unroll 4), (11, .unroll 5)]) (.cons okat .nil) Tryd.func171 (by kernel_rfl) (by kernel_rfl) (theLoops (n := 3) (by kernel_rfl) fun i hi => ?_) fun args σ K h => ?_
  · match i, hi with
    | 0, _ => exact loopHyp_of (key := 1) (by kernel_rfl) rfl lokite
    | 1, _ => exact loopHyp_none (key := 7) (n := 4) (by kernel_rfl) rfl
    | 2, _ => exact loopHyp_none (key := 11) (n := 5) (by kernel_rfl) rfl
  · unfold seqSpec at h
    split at h
    · rename_i caps P J D L lent
      split at h
      · rename_i c xs hsq
        unfold fineSq at hsq
        split at hsq
        · rename_i x
          simp only [Option.some.injEq, Prod.mk.injEq] at hsq
          obtain ⟨rfl, rfl⟩ := hsq
          obtain ⟨hc, h2, h3, h4⟩ := cond_pos h
          simp only [Bool.and_eq_true, decide_eq_true_eq] at hc
          obtain ⟨hl, hok⟩ := hc
          subst h2; subst h3
          rw [exite x _ J D _ K]
          simp only [Int.sub_zero, Int.toNat_natCast]
          exact ⟨⟨by first | rfl | trivial, hl, by first | rfl | trivial, by decide, by omega, hok, by first | rfl | trivial⟩, fun D' => ⟨(h4 D' _).1, (h4 D' _).1, (h4 D' _).2⟩⟩
        · cases hsq
      · exact h.elim
    · exact h.elim
theorem rokpk : RangeOK Epk 171 fineSq (rangePs (lb Tryd.f109 0)) (rangeAssign (lb Tryd.f109 0)) (rangeBody (lb Tryd.f109 0)) [3] peakL := by
  refine ⟨okite, fun x rest vs σ k h => ?_, fun vs σ k h => ?_⟩
  · unfold peakL at h
    split at h
    · rename_i b
      obtain ⟨fs, hfs, hm, h⟩ := h
      cases fs with
      | nil => simp at hfs
      | cons f fs =>
        simp only [List.map_cons, List.cons.injEq] at hfs
        obtain ⟨rfl, rfl⟩ := hfs
        simp only [maxOk, Bool.and_eq_true] at hm
        unfold fltV
        rw [expka b f _]
        exact cond_in (and_tt hm.1) ⟨fs, rfl, hm.2, h⟩
    · exact h.elim
  · unfold peakL at h
    split at h
    · rename_i b
      obtain ⟨fs, hfs, hm, h⟩ := h
      cases fs with
      | nil => exact h
      | cons f fs => simp at hfs
    · exact h.elim
theorem okpk : SpecOK Tryd.prog 109 peakS := by
  refine specOK (n := 13) (m := 0) (lps := [(1000003, .range 171 fineSq [3] peakL)]) (.cons okfin .nil) Tryd.func109 (by kernel_rfl) (by kernel_rfl) (theLoops (n := 1) (by kernel_rfl) fun i hi => ?_) fun args σ K h => ?_
  · match i, hi with
    | 0, _ => exact loopHyp_range (key := 1000003) (by kernel_rfl) (by kernel_rfl) rfl rokpk
  · unfold peakS at h
    split at h
    · rename_i x
      rw [expk x K]
      obtain ⟨⟨hl, hok⟩, h⟩ := h
      unfold peakOk at hok
      simp only [Bool.and_eq_true] at hok
      obtain ⟨o1, o2, o3⟩ := hok
      refine cond_in (by rw [decide_eq_true hl, o1]; rfl) ⟨_, rfl, o2, cond_in o3 h⟩
    · exact h.elim
theorem gcd128 (a : Int) : gcdG a 128 ≠ 0 := by
  intro e
  obtain ⟨_, g2, _⟩ := gcdG_pos (a := a) (b := 128) (by omega) (by omega)
  rw [e] at g2
  have : sizeG 0 = 0 := by decide
  omega
theorem oktp : SpecOK Tryd.prog 34 trueS := by
  refine specOK (n := 14) (m := 0) (lps := []) (.cons oksig (.cons okpk (.cons oklow .nil))) Tryd.func34 (by kernel_rfl) (by kernel_rfl) (noLoops (by kernel_rfl)) fun args σ K h => ?_
  unfold trueS at h
  split at h
  · rename_i x
    rw [extp x K]
    obtain ⟨⟨hl, hok⟩, h⟩ := h
    refine ⟨hl, ?_⟩
    by_cases he : sigE x = 0
    · rw [he] at h ⊢
      exact ⟨⟨(sigE_zero he).1, hok he⟩, gcd128 _, h⟩
    · have e1 : (sigE x == 0) = false := beq_eq_false_iff_ne.2 he
      rw [e1, cond_false] at h
      exact cond_then (bne_iff_ne.2 he) h
  · exact h.elim
end Go.Ev
