/-
  Chapter 9, contracts: notes and edits.
-/
import Derived.Test.YtiflkochjfiegaaDoorC9C
import Derived.KernelRfl
set_option linter.unusedVariables false
set_option linter.unusedSimpArgs false
set_option linter.unusedSectionVars false
namespace Go.Ev
open Go Go.Proofs
set_option maxRecDepth 20000

def toI (d : List D) (j : Nat) : Int := (d.getD j (.int 0)).toInt
def toS (d : List D) (j : Nat) : List UInt8 := (d.getD j (.int 0)).toStr
def ispS : Spec := fun args σ K => match args, σ with
  | [.one (.int .i64 n)], [] => K (.one (.bool (withinG n 0 1000000))) []
  | _, _ => False
/-! ### Errors -/
def nteE (d : List D) : Int := firstE [bif withinG (toI d 0) 0 1000000 && withinG (toI d 1) 0 1000000 then 0 else 2, bif decide (((toS d 2).length : Int) ≤ 40) then 0 else 8]
def ntsE : List (List D) → Int
  | [] => 0
  | d :: l => bif nteE d == 0 then ntsE l else nteE d
def notE (p : List (List D)) : Int := bif decide ((p.length : Int) > 20) then 8 else ntsE p
def ntL : LSpec := fun vs σ k => match vs, σ with
  | [.one (.data (.recs [.int .i64, .int .i64, .str] p)), .one (.int .i64 n), .one (.int .i64 i)], [] => (p.length ≤ 20 ∧ n = p.length ∧ 0 ≤ i ∧ i ≤ n) ∧ bif ntsE (p.drop i.toNat) == 0 then k (.exit 0) [.any] [] else k .ret [.one (.int .i64 (ntsE (p.drop i.toNat)))] []
  | _, _ => False
def ntS : Spec := fun args σ K => match args, σ with
  | [.one (.data (.recs [.int .i64, .int .i64, .str] p))], [] => K (.one (.int .i64 (notE p))) []
  | _, _ => False
def oddG (a l : Int) : Bool := !(withinG a 0 1000000) || !(withinG l 1 1000000)
def oddD (e : List D) : Bool := oddG (toI e 1) (toI e 2)
def oddS : Spec := fun args σ K => match args, σ with
  | [.agg [.bool b, .int .i64 a, .int .i64 l]], [] => K (.one (.bool (oddG a l))) []
  | _, _ => False
def idxE : Int → List (List D) → Int
  | _, [] => -1
  | i, e :: l => bif oddD e then i else idxE (i + 1) l
def oxL : LSpec := fun vs σ k => match vs, σ with
  | [.one (.data (.recs [.bool, .int .i64, .int .i64] q)), .one (.func 161 []), .one (.int .i64 n), .one (.int .i64 i)], [] =>
    (q.length ≤ 1000000000 ∧ 0 ≤ i ∧ n = q.length) ∧ bif (q.drop i.toNat).any oddD then k .ret [.one (.int .i64 (idxE i (q.drop i.toNat)))] [] else k (.exit 0) [.any] []
  | _, _ => False
def oxS : Spec := fun args σ K => match args, σ with
  | [.one (.data (.recs [.bool, .int .i64, .int .i64] q)), .one (.func 161 [])], [] => q.length ≤ 1000000000 ∧ K (.one (.int .i64 (idxE 0 q))) []
  | _, _ => False
def hxS : Spec := fun args σ K => match args, σ with
  | [.one (.data (.recs [.bool, .int .i64, .int .i64] q)), .one (.func 161 [])], [] => q.length ≤ 1000000000 ∧ K (.one (.bool (q.any oddD))) []
  | _, _ => False
def edE (q : List (List D)) : Int := firstE [bif decide ((q.length : Int) ≤ 20) then 0 else 8, bif !(q.any oddD) then 0 else 2]
def edS : Spec := fun args σ K => match args, σ with
  | [.one (.data (.recs [.bool, .int .i64, .int .i64] q))], [] => q.length ≤ 1000000000 ∧ K (.one (.int .i64 (edE q))) []
  | _, _ => False

/-! ### One edit of one note -/
def okNE (a l xa xl : Int) : Prop := 0 ≤ a ∧ a ≤ 1000000000 ∧ 0 ≤ l ∧ l ≤ 1000000000 ∧ 0 ≤ xa ∧ xa ≤ 1000000 ∧ 1 ≤ xl ∧ xl ≤ 1000000
def aftG (n xa xl : Int) : Int := if (if n - xl > xa then n - xl else xa) < n then (if n - xl > xa then n - xl else xa) else n
def aftS : Spec := fun args σ K => match args, σ with
  | [.one (.int .i64 n), .one (.ptr 0 1 0 0)], [.cells [.bool b, .int .i64 xa, .int .i64 xl]] => (0 ≤ n ∧ n ≤ 2000000000 ∧ 0 ≤ xa ∧ xa ≤ 1000000 ∧ 1 ≤ xl ∧ xl ≤ 1000000) ∧ K (.one (.int .i64 (aftG n xa xl))) [.cells [.bool b, .int .i64 xa, .int .i64 xl]]
  | _, _ => False
def raftS : Spec := fun args σ K => match args, σ with
  | [.one (.int .i64 n), .agg [.bool b, .int .i64 xa, .int .i64 xl]], [] => (0 ≤ n ∧ n ≤ 2000000000 ∧ 0 ≤ xa ∧ xa ≤ 1000000 ∧ 1 ≤ xl ∧ xl ≤ 1000000) ∧ K (.one (.int .i64 (aftG n xa xl))) []
  | _, _ => False
def cutK (a l xa xl : Int) : Bool := !(decide (xa ≤ a) && (decide (a < xa + xl) && decide (aftG (a + l) xa xl - aftG a xa xl = 0)))
def mvK (b : Bool) (a l xa xl : Int) : Bool := bif b then true else cutK a l xa xl
def mvA (b : Bool) (a l xa xl : Int) : Int := bif b then (bif decide (xa ≤ a) then a + xl else a) else (bif cutK a l xa xl then aftG a xa xl else a)
def mvL (b : Bool) (a l xa xl : Int) : Int := bif b then (bif decide (xa ≤ a) then l else (bif decide (xa < a + l) then l + xl else l)) else (bif cutK a l xa xl then aftG (a + l) xa xl - aftG a xa xl else l)
def insS : Spec := fun args σ K => match args, σ with
  | [.agg [.int .i64 a, .int .i64 l, .str t], .agg [.bool b, .int .i64 xa, .int .i64 xl]], [] => okNE a l xa xl ∧ K (.agg [.int .i64 (mvA true a l xa xl), .int .i64 (mvL true a l xa xl), .str t]) []
  | _, _ => False
def cutS : Spec := fun args σ K => match args, σ with
  | [.agg [.int .i64 a, .int .i64 l, .str t], .agg [.bool b, .int .i64 xa, .int .i64 xl]], [] => okNE a l xa xl ∧ K (.tup [.agg [.int .i64 (mvA false a l xa xl), .int .i64 (mvL false a l xa xl), .str t], .one (.bool (cutK a l xa xl))]) []
  | _, _ => False
def rmvS : Spec := fun args σ K => match args, σ with
  | [.agg [.int .i64 a, .int .i64 l, .str t], .agg [.bool b, .int .i64 xa, .int .i64 xl]], [] => okNE a l xa xl ∧ K (.tup [.agg [.int .i64 (mvA b a l xa xl), .int .i64 (mvL b a l xa xl), .str t], .one (.bool (mvK b a l xa xl))]) []
  | _, _ => False

/-! ### Lists of notes -/
def eqN (d e : List D) : Bool := toI d 0 == toI e 0 && (toI d 1 == toI e 1 && toS d 2 == toS e 2)
def sameG : List (List D) → List (List D) → Bool
  | d :: a, e :: b => eqN d e && sameG a b
  | [], [] => true
  | _, _ => false
def snL : LSpec := fun vs σ k => match vs, σ with
  | [.one (.data (.recs [.int .i64, .int .i64, .str] p)), .one (.data (.recs [.int .i64, .int .i64, .str] q)), .one (.int .i64 i)], [] => (p.length ≤ 1000000000 ∧ p.length = q.length ∧ 0 ≤ i) ∧ bif sameG (p.drop i.toNat) (q.drop i.toNat) then k (.exit 0) [.any] [] else k .ret [.one (.bool false)] []
  | _, _ => False
def snS : Spec := fun args σ K => match args, σ with
  | [.one (.data (.recs [.int .i64, .int .i64, .str] p)), .one (.data (.recs [.int .i64, .int .i64, .str] q))], [] => p.length ≤ 1000000000 ∧ K (.one (.bool (sameG p q))) []
  | _, _ => False
def cpnS : Spec := fun args σ K => match args, σ with
  | [.one (.data (.recs [.int .i64, .int .i64, .str] p))], [] => p.length ≤ 1000000000 ∧ K (.one (.own 0 3)) [.row 114 (.recs [.int .i64, .int .i64, .str] p)]
  | _, _ => False
def cpeS : Spec := fun args σ K => match args, σ with
  | [.one (.data (.recs [.bool, .int .i64, .int .i64] q))], [] => q.length ≤ 1000000000 ∧ K (.one (.own 0 3)) [.row 124 (.recs [.bool, .int .i64, .int .i64] q)]
  | _, _ => False
def nclS : Spec := fun args σ K => match args, σ with
  | [.one (.data (.recs [.int .i64, .int .i64, .str] p))], [] => p.length ≤ 1000000 ∧ (K (.one (.own 0 3)) [.row 114 (.recs [.int .i64, .int .i64, .str] p)] ∧ (p.length = 0 → K (.one .nil) []))
  | _, _ => False
def nrA : LSpec := fun vs σ k => match vs, σ with
  | [.one (.data (.recs [.int .i64, .int .i64, .str] p)), .one (.data (.recs [.bool, .int .i64, .int .i64] q)), .one (.int .i64 i)], [] => (p.length ≤ 20 ∧ 0 ≤ i) ∧ bif ntsE (p.drop i.toNat) == 0 then k (.exit 0) [.one (.data (.recs [.bool, .int .i64, .int .i64] q)), .any] [] else k .ret [.one (.data (.recs [.bool, .int .i64, .int .i64] q)), .one (.int .i64 (ntsE (p.drop i.toNat)))] []
  | _, _ => False
def edsE : List (List D) → Int
  | [] => 0
  | e :: l => bif oddD e then 2 else edsE l
def nrB : LSpec := fun vs σ k => match vs, σ with
  | [.one (.data (.recs [.bool, .int .i64, .int .i64] q)), .one (.int .i64 i)], [] => (q.length ≤ 20 ∧ 0 ≤ i) ∧ bif edsE (q.drop i.toNat) == 0 then k (.exit 2) [.any] [] else k .ret [.one (.int .i64 (edsE (q.drop i.toNat)))] []
  | _, _ => False
def nrE (p q : List (List D)) : Int := bif notE p == 0 then (bif decide ((q.length : Int) > 20) then 8 else edsE q) else notE p
def nrS : Spec := fun args σ K => match args, σ with
  | [.one (.data (.recs [.int .i64, .int .i64, .str] p)), .one (.data (.recs [.bool, .int .i64, .int .i64] q))], [] => K (.one (.int .i64 (nrE p q))) []
  | _, _ => False
noncomputable abbrev Epos : Env := envOf Tryd.prog [(103, withinS)] [] 5 0
noncomputable abbrev Ente : Env := envOf Tryd.prog [(159, ispS), (104, unlessS), (98, firstS)] [(4, .spec [9, 10, 11] [2] ntL)] 35 0
noncomputable abbrev Eodd : Env := envOf Tryd.prog [(159, ispS), (103, withinS)] [] 13 0
noncomputable abbrev Eodx : Env := envOf Tryd.prog [(161, oddS)] [(2, .spec [0, 1, 7, 8] [4] oxL)] 19 0
noncomputable abbrev Ehxe : Env := envOf Tryd.prog [(173, oxS)] [] 9 0
noncomputable abbrev Eede : Env := envOf Tryd.prog [(160, hxS), (161, oddS), (104, unlessS), (98, firstS)] [] 15 0
noncomputable abbrev Eaft : Env := envOf Tryd.prog [] [] 13 1
noncomputable abbrev Eraf : Env := envOf Tryd.prog [] [] 17 0
noncomputable abbrev Eins : Env := envOf Tryd.prog [] [] 33 0
noncomputable abbrev Ecut : Env := envOf Tryd.prog [(162, aftS)] [] 53 0
noncomputable abbrev Ermv : Env := envOf Tryd.prog [(30, withinS), (163, raftS)] [] 90 0
noncomputable abbrev Esnt : Env := envOf Tryd.prog [] [(4, .spec [0, 1, 5] [4] snL)] 26 0
noncomputable abbrev Ecpn : Env := envOf Tryd.prog [] [] 6 0
noncomputable abbrev Ecpe : Env := envOf Tryd.prog [] [] 6 0
noncomputable abbrev Encl : Env := envOf Tryd.prog [] [] 8 0
noncomputable abbrev Enre : Env := envOf Tryd.prog [(30, withinS)] [(4, .spec [0, 1, 5] [1, 4] nrA), (13, .spec [1, 6] [4] nrB)] 64 0
end Go.Ev

namespace Go.Ev
open Go Go.Proofs
set_option maxRecDepth 100000
theorem expos (n : Int) (K : AV → List Blk → Prop) : evFn Epos Tryd.f159 [.one (.int .i64 n)] [] K = (
 K (AV.one (SV.bool (decide ((0 : Int) ≤ n) && decide (n ≤ (1000000 : Int))))) []) := by kernel_rfl
theorem exnte (p : List (List D)) (K : AV → List Blk → Prop) : evFn Ente Tryd.f130 [.one (.data (.recs [.int .i64, .int .i64, .str] p))] [] K = (
 bif decide ((↑p.length : Int) > (20 : Int)) then K (AV.one (SV.int IntKind.i64 (8 : Int))) []
 else
 (p.length ≤ (20 : Nat) ∧
 (↑p.length : Int) = (↑p.length : Int) ∧ (0 : Int) ≤ (0 : Int) ∧ (0 : Int) ≤ (↑p.length : Int)) ∧
 bif ntsE p == (0 : Int) then K (AV.one (SV.int IntKind.i64 (0 : Int))) []
 else K (AV.one (SV.int IntKind.i64 (ntsE p))) []) := by kernel_rfl
theorem exntel0a (p : List (List D)) (n i : Int) (K : Ex → List AV → List Blk → Prop) : evBody Ente (lb Tryd.f130 0) [9, 10, 11] [2] [.one (.data (.recs [.int .i64, .int .i64, .str] p)), .one (.int .i64 n), .one (.int .i64 i)] [] K = (
 bif decide (i < n) then
 bif decide ((0 : Int) ≤ i) && decide (i < (↑p.length : Int)) then
 bif decide ((2 : Nat) < (3 : Nat)) && decide (i.toNat < p.length) then
 bif withinG ((p.getD i.toNat []).getD (0 : Nat) (D.int (0 : Int))).toInt (0 : Int) (1000000 : Int) then
 [bif withinG ((p.getD i.toNat []).getD (1 : Nat) (D.int (0 : Int))).toInt (0 : Int) (1000000 : Int) then
 (0 : Int)
 else (2 : Int),
 bif
 decide
 ((↑((p.getD i.toNat []).getD (2 : Nat) (D.int (0 : Int))).toStr.length : Int) ≤ (40 : Int)) then
 (0 : Int)
 else (8 : Int)].length ≤
 (1000 : Nat) ∧
 bif
 firstE
 [bif
 withinG ((p.getD i.toNat []).getD (1 : Nat) (D.int (0 : Int))).toInt (0 : Int)
 (1000000 : Int) then
 (0 : Int)
 else (2 : Int),
 bif
 decide
 ((↑((p.getD i.toNat []).getD (2 : Nat) (D.int (0 : Int))).toStr.length : Int) ≤
 (40 : Int)) then
 (0 : Int)
 else (8 : Int)] !=
 (0 : Int) then
 K Ex.ret
 [AV.one
 (SV.int IntKind.i64
 (firstE
 [bif
 withinG ((p.getD i.toNat []).getD (1 : Nat) (D.int (0 : Int))).toInt (0 : Int)
 (1000000 : Int) then
 (0 : Int)
 else (2 : Int),
 bif
 decide
 ((↑((p.getD i.toNat []).getD (2 : Nat) (D.int (0 : Int))).toStr.length : Int) ≤
 (40 : Int)) then
 (0 : Int)
 else (8 : Int)]))]
 []
 else
 K Ex.normal
 [AV.one (SV.data (Row.recs [CK.int IntKind.i64, CK.int IntKind.i64, CK.str] p)),
 AV.one (SV.int IntKind.i64 n), AV.one (SV.int IntKind.i64 (IntKind.i64.wrap (i + (1 : Int))))]
 []
 else
 [(2 : Int),
 bif
 decide
 ((↑((p.getD i.toNat []).getD (2 : Nat) (D.int (0 : Int))).toStr.length : Int) ≤ (40 : Int)) then
 (0 : Int)
 else (8 : Int)].length ≤
 (1000 : Nat) ∧
 K Ex.ret
 [AV.one
 (SV.int IntKind.i64
 (firstE
 [(2 : Int),
 bif
 decide
 ((↑((p.getD i.toNat []).getD (2 : Nat) (D.int (0 : Int))).toStr.length : Int) ≤
 (40 : Int)) then
 (0 : Int)
 else (8 : Int)]))]
 []
 else False
 else False
 else K (Ex.exit (0 : Nat)) [AV.any] []) := by kernel_rfl
theorem exodd (b : Bool) (a l : Int) (K : AV → List Blk → Prop) : evFn Eodd Tryd.f161 [.agg [.bool b, .int .i64 a, .int .i64 l]] [] K = (
 bif !withinG a (0 : Int) (1000000 : Int) then K (AV.one (SV.bool true)) []
 else K (AV.one (SV.bool !(decide ((1 : Int) ≤ l) && decide (l ≤ (1000000 : Int))))) []) := by kernel_rfl
theorem exodx (q : List (List D)) (K : AV → List Blk → Prop) : evFn Eodx Tryd.f173 [.one (.data (.recs [.bool, .int .i64, .int .i64] q)), .one (.func 161 [])] [] K = (
 (q.length ≤ (1000000000 : Nat) ∧ (0 : Int) ≤ (0 : Int) ∧ (↑q.length : Int) = (↑q.length : Int)) ∧
 bif q.any oddD then K (AV.one (SV.int IntKind.i64 (idxE (0 : Int) q))) []
 else K (AV.one (SV.int IntKind.i64 (-1 : Int))) []) := by kernel_rfl
theorem exodxl0a (q : List (List D)) (n i : Int) (K : Ex → List AV → List Blk → Prop) : evBody Eodx (lb Tryd.f173 0) [0, 1, 7, 8] [4] [.one (.data (.recs [.bool, .int .i64, .int .i64] q)), .one (.func 161 []), .one (.int .i64 n), .one (.int .i64 i)] [] K = (
 bif decide (i < n) then
 bif decide ((0 : Int) ≤ i) && decide (i < (↑q.length : Int)) then
 bif decide ((2 : Nat) < (3 : Nat)) && decide (i.toNat < q.length) then
 bif
 oddG ((q.getD i.toNat []).getD (1 : Nat) (D.int (0 : Int))).toInt
 ((q.getD i.toNat []).getD (2 : Nat) (D.int (0 : Int))).toInt then
 K Ex.ret [AV.one (SV.int IntKind.i64 i)] []
 else
 K Ex.normal
 [AV.one (SV.data (Row.recs [CK.bool, CK.int IntKind.i64, CK.int IntKind.i64] q)),
 AV.one (SV.func (161 : FuncId) []), AV.one (SV.int IntKind.i64 n),
 AV.one (SV.int IntKind.i64 (IntKind.i64.wrap (i + (1 : Int))))]
 []
 else False
 else False
 else K (Ex.exit (0 : Nat)) [AV.any] []) := by kernel_rfl
theorem exhxe (q : List (List D)) (K : AV → List Blk → Prop) : evFn Ehxe Tryd.f160 [.one (.data (.recs [.bool, .int .i64, .int .i64] q)), .one (.func 161 [])] [] K = (
 q.length ≤ (1000000000 : Nat) ∧ K (AV.one (SV.bool (decide (idxE (0 : Int) q ≥ (0 : Int))))) []) := by kernel_rfl
theorem exede (q : List (List D)) (K : AV → List Blk → Prop) : evFn Eede Tryd.f131 [.one (.data (.recs [.bool, .int .i64, .int .i64] q))] [] K = (
 q.length ≤ (1000000000 : Nat) ∧
 [bif decide ((↑q.length : Int) ≤ (20 : Int)) then (0 : Int) else (8 : Int),
 bif !q.any oddD then (0 : Int) else (2 : Int)].length ≤
 (1000 : Nat) ∧
 K
 (AV.one
 (SV.int IntKind.i64
 (firstE
 [bif decide ((↑q.length : Int) ≤ (20 : Int)) then (0 : Int) else (8 : Int),
 bif !q.any oddD then (0 : Int) else (2 : Int)])))
 []) := by kernel_rfl
theorem exaft (n : Int) (b : Bool) (xa xl : Int) (K : AV → List Blk → Prop) : evFn Eaft Tryd.f162 [.one (.int .i64 n), .one (.ptr 0 1 0 0)] [.cells [.bool b, .int .i64 xa, .int .i64 xl]] K = (
 K
 (AV.one
 (SV.int IntKind.i64
 (if (if IntKind.i64.wrap (n - xl) > xa then IntKind.i64.wrap (n - xl) else xa) < n then
 if IntKind.i64.wrap (n - xl) > xa then IntKind.i64.wrap (n - xl) else xa
 else n)))
 [Blk.cells [SV.bool b, SV.int IntKind.i64 xa, SV.int IntKind.i64 xl]]) := by kernel_rfl
theorem exraf (n : Int) (b : Bool) (xa xl : Int) (K : AV → List Blk → Prop) : evFn Eraf Tryd.f163 [.one (.int .i64 n), .agg [.bool b, .int .i64 xa, .int .i64 xl]] [] K = (
 bif decide (n < xa) then K (AV.one (SV.int IntKind.i64 n)) []
 else K (AV.one (SV.int IntKind.i64 (if IntKind.i64.wrap (n - xl) > xa then IntKind.i64.wrap (n - xl) else xa))) []) := by kernel_rfl
theorem exins (a l : Int) (t : List UInt8) (b : Bool) (xa xl : Int) (K : AV → List Blk → Prop) : evFn Eins Tryd.f133 [.agg [.int .i64 a, .int .i64 l, .str t], .agg [.bool b, .int .i64 xa, .int .i64 xl]] [] K = (
 bif decide (xa ≤ a) then K (AV.agg [SV.int IntKind.i64 (IntKind.i64.wrap (a + xl)), SV.int IntKind.i64 l, SV.str t]) []
 else
 bif decide (xa < IntKind.i64.wrap (a + l)) then
 K (AV.agg [SV.int IntKind.i64 a, SV.int IntKind.i64 (IntKind.i64.wrap (l + xl)), SV.str t]) []
 else K (AV.agg [SV.int IntKind.i64 a, SV.int IntKind.i64 l, SV.str t]) []) := by kernel_rfl
theorem excut (a l : Int) (t : List UInt8) (b : Bool) (xa xl : Int) (K : AV → List Blk → Prop) : evFn Ecut Tryd.f134 [.agg [.int .i64 a, .int .i64 l, .str t], .agg [.bool b, .int .i64 xa, .int .i64 xl]] [] K = (
 bif decide (a ≥ xa) then
 (((0 : Int) ≤ IntKind.i64.wrap (a + l) ∧
 IntKind.i64.wrap (a + l) ≤ (2000000000 : Int) ∧
 (0 : Int) ≤ xa ∧ xa ≤ (1000000 : Int) ∧ (1 : Int) ≤ xl ∧ xl ≤ (1000000 : Int)) ∧
 ((0 : Int) ≤ a ∧
 a ≤ (2000000000 : Int) ∧ (0 : Int) ≤ xa ∧ xa ≤ (1000000 : Int) ∧ (1 : Int) ≤ xl ∧ xl ≤ (1000000 : Int)) ∧
 bif decide (a < IntKind.i64.wrap (xa + xl)) then
 bif IntKind.i64.wrap (aftG (IntKind.i64.wrap (a + l)) xa xl - aftG a xa xl) == (0 : Int) then
 K (AV.tup [TV.agg [SV.int IntKind.i64 a, SV.int IntKind.i64 l, SV.str t], TV.one (SV.bool false)]) []
 else
 ((0 : Int) ≤ a ∧
 a ≤ (2000000000 : Int) ∧
 (0 : Int) ≤ xa ∧ xa ≤ (1000000 : Int) ∧ (1 : Int) ≤ xl ∧ xl ≤ (1000000 : Int)) ∧
 K
 (AV.tup
 [TV.agg
 [SV.int IntKind.i64 (aftG a xa xl),
 SV.int IntKind.i64 (IntKind.i64.wrap (aftG (IntKind.i64.wrap (a + l)) xa xl - aftG a xa xl)),
 SV.str t],
 TV.one (SV.bool true)])
 []
 else
 ((0 : Int) ≤ a ∧
 a ≤ (2000000000 : Int) ∧ (0 : Int) ≤ xa ∧ xa ≤ (1000000 : Int) ∧ (1 : Int) ≤ xl ∧ xl ≤ (1000000 : Int)) ∧
 K
 (AV.tup
 [TV.agg
 [SV.int IntKind.i64 (aftG a xa xl),
 SV.int IntKind.i64 (IntKind.i64.wrap (aftG (IntKind.i64.wrap (a + l)) xa xl - aftG a xa xl)),
 SV.str t],
 TV.one (SV.bool true)])
 []) ∧
 ((0 : Int) ≤ IntKind.i64.wrap (a + l) ∧
 IntKind.i64.wrap (a + l) ≤ (2000000000 : Int) ∧
 (0 : Int) ≤ xa ∧ xa ≤ (1000000 : Int) ∧ (1 : Int) ≤ xl ∧ xl ≤ (1000000 : Int)) ∧
 ((0 : Int) ≤ a ∧
 a ≤ (2000000000 : Int) ∧ (0 : Int) ≤ xa ∧ xa ≤ (1000000 : Int) ∧ (1 : Int) ≤ xl ∧ xl ≤ (1000000 : Int)) ∧
 bif decide (a < IntKind.i64.wrap (xa + xl)) then
 bif IntKind.i64.wrap (aftG (IntKind.i64.wrap (a + l)) xa xl - aftG a xa xl) == (0 : Int) then
 K (AV.tup [TV.agg [SV.int IntKind.i64 a, SV.int IntKind.i64 l, SV.str t], TV.one (SV.bool false)]) []
 else
 ((0 : Int) ≤ a ∧
 a ≤ (2000000000 : Int) ∧
 (0 : Int) ≤ xa ∧ xa ≤ (1000000 : Int) ∧ (1 : Int) ≤ xl ∧ xl ≤ (1000000 : Int)) ∧
 K
 (AV.tup
 [TV.agg
 [SV.int IntKind.i64 (aftG a xa xl),
 SV.int IntKind.i64 (IntKind.i64.wrap (aftG (IntKind.i64.wrap (a + l)) xa xl - aftG a xa xl)),
 SV.str t],
 TV.one (SV.bool true)])
 []
 else
 ((0 : Int) ≤ a ∧
 a ≤ (2000000000 : Int) ∧ (0 : Int) ≤ xa ∧ xa ≤ (1000000 : Int) ∧ (1 : Int) ≤ xl ∧ xl ≤ (1000000 : Int)) ∧
 K
 (AV.tup
 [TV.agg
 [SV.int IntKind.i64 (aftG a xa xl),
 SV.int IntKind.i64 (IntKind.i64.wrap (aftG (IntKind.i64.wrap (a + l)) xa xl - aftG a xa xl)),
 SV.str t],
 TV.one (SV.bool true)])
 []
 else
 (((0 : Int) ≤ IntKind.i64.wrap (a + l) ∧
 IntKind.i64.wrap (a + l) ≤ (2000000000 : Int) ∧
 (0 : Int) ≤ xa ∧ xa ≤ (1000000 : Int) ∧ (1 : Int) ≤ xl ∧ xl ≤ (1000000 : Int)) ∧
 ((0 : Int) ≤ a ∧
 a ≤ (2000000000 : Int) ∧ (0 : Int) ≤ xa ∧ xa ≤ (1000000 : Int) ∧ (1 : Int) ≤ xl ∧ xl ≤ (1000000 : Int)) ∧
 ((0 : Int) ≤ a ∧
 a ≤ (2000000000 : Int) ∧ (0 : Int) ≤ xa ∧ xa ≤ (1000000 : Int) ∧ (1 : Int) ≤ xl ∧ xl ≤ (1000000 : Int)) ∧
 K
 (AV.tup
 [TV.agg
 [SV.int IntKind.i64 (aftG a xa xl),
 SV.int IntKind.i64 (IntKind.i64.wrap (aftG (IntKind.i64.wrap (a + l)) xa xl - aftG a xa xl)),
 SV.str t],
 TV.one (SV.bool true)])
 []) ∧
 ((0 : Int) ≤ IntKind.i64.wrap (a + l) ∧
 IntKind.i64.wrap (a + l) ≤ (2000000000 : Int) ∧
 (0 : Int) ≤ xa ∧ xa ≤ (1000000 : Int) ∧ (1 : Int) ≤ xl ∧ xl ≤ (1000000 : Int)) ∧
 ((0 : Int) ≤ a ∧
 a ≤ (2000000000 : Int) ∧ (0 : Int) ≤ xa ∧ xa ≤ (1000000 : Int) ∧ (1 : Int) ≤ xl ∧ xl ≤ (1000000 : Int)) ∧
 ((0 : Int) ≤ a ∧
 a ≤ (2000000000 : Int) ∧ (0 : Int) ≤ xa ∧ xa ≤ (1000000 : Int) ∧ (1 : Int) ≤ xl ∧ xl ≤ (1000000 : Int)) ∧
 K
 (AV.tup
 [TV.agg
 [SV.int IntKind.i64 (aftG a xa xl),
 SV.int IntKind.i64 (IntKind.i64.wrap (aftG (IntKind.i64.wrap (a + l)) xa xl - aftG a xa xl)),
 SV.str t],
 TV.one (SV.bool true)])
 []) := by kernel_rfl
theorem exrmv (a l : Int) (t : List UInt8) (b : Bool) (xa xl : Int) (K : AV → List Blk → Prop) : evFn Ermv Tryd.f135 [.agg [.int .i64 a, .int .i64 l, .str t], .agg [.bool b, .int .i64 xa, .int .i64 xl]] [] K = (
 bif b then
 bif decide (xa ≤ a) then
 K
 (AV.tup
 [TV.agg [SV.int IntKind.i64 (IntKind.i64.wrap (a + xl)), SV.int IntKind.i64 l, SV.str t],
 TV.one (SV.bool true)])
 []
 else
 bif decide (xa < IntKind.i64.wrap (a + l)) then
 K
 (AV.tup
 [TV.agg [SV.int IntKind.i64 a, SV.int IntKind.i64 (IntKind.i64.wrap (l + xl)), SV.str t],
 TV.one (SV.bool true)])
 []
 else K (AV.tup [TV.agg [SV.int IntKind.i64 a, SV.int IntKind.i64 l, SV.str t], TV.one (SV.bool true)]) []
 else
 bif l == (0 : Int) then
 bif decide (xa ≤ a) && decide (a ≤ IntKind.i64.wrap (IntKind.i64.wrap (xa + xl) - (1 : Int))) then
 K (AV.tup [TV.agg [SV.int IntKind.i64 a, SV.int IntKind.i64 l, SV.str t], TV.one (SV.bool false)]) []
 else
 ((0 : Int) ≤ a ∧
 a ≤ (2000000000 : Int) ∧ (0 : Int) ≤ xa ∧ xa ≤ (1000000 : Int) ∧ (1 : Int) ≤ xl ∧ xl ≤ (1000000 : Int)) ∧
 K (AV.tup [TV.agg [SV.int IntKind.i64 (aftG a xa xl), SV.int IntKind.i64 l, SV.str t], TV.one (SV.bool true)])
 []
 else
 bif
 (if
 IntKind.i64.wrap
 ((if IntKind.i64.wrap (xa + xl) < IntKind.i64.wrap (a + l) then IntKind.i64.wrap (xa + xl)
 else IntKind.i64.wrap (a + l)) -
 if xa > a then xa else a) >
 (0 : Int) then
 IntKind.i64.wrap
 ((if IntKind.i64.wrap (xa + xl) < IntKind.i64.wrap (a + l) then IntKind.i64.wrap (xa + xl)
 else IntKind.i64.wrap (a + l)) -
 if xa > a then xa else a)
 else (0 : Int)) ==
 l then
 K (AV.tup [TV.agg [SV.int IntKind.i64 a, SV.int IntKind.i64 l, SV.str t], TV.one (SV.bool false)]) []
 else
 ((0 : Int) ≤ a ∧
 a ≤ (2000000000 : Int) ∧ (0 : Int) ≤ xa ∧ xa ≤ (1000000 : Int) ∧ (1 : Int) ≤ xl ∧ xl ≤ (1000000 : Int)) ∧
 K
 (AV.tup
 [TV.agg
 [SV.int IntKind.i64 (aftG a xa xl),
 SV.int IntKind.i64
 (IntKind.i64.wrap
 (l -
 if
 IntKind.i64.wrap
 ((if IntKind.i64.wrap (xa + xl) < IntKind.i64.wrap (a + l) then
 IntKind.i64.wrap (xa + xl)
 else IntKind.i64.wrap (a + l)) -
 if xa > a then xa else a) >
 (0 : Int) then
 IntKind.i64.wrap
 ((if IntKind.i64.wrap (xa + xl) < IntKind.i64.wrap (a + l) then IntKind.i64.wrap (xa + xl)
 else IntKind.i64.wrap (a + l)) -
 if xa > a then xa else a)
 else (0 : Int))),
 SV.str t],
 TV.one (SV.bool true)])
 []) := by kernel_rfl
theorem exsnt (p q : List (List D)) (K : AV → List Blk → Prop) : evFn Esnt Tryd.f84 [.one (.data (.recs [.int .i64, .int .i64, .str] p)), .one (.data (.recs [.int .i64, .int .i64, .str] q))] [] K = (
 bif (↑p.length : Int) != (↑q.length : Int) then K (AV.one (SV.bool false)) []
 else
 (p.length ≤ (1000000000 : Nat) ∧ p.length = q.length ∧ (0 : Int) ≤ (0 : Int)) ∧
 bif sameG p q then K (AV.one (SV.bool true)) [] else K (AV.one (SV.bool false)) []) := by kernel_rfl
theorem exsntl0a (p q : List (List D)) (i : Int) (K : Ex → List AV → List Blk → Prop) : evBody Esnt (lb Tryd.f84 0) [0, 1, 5] [4] [.one (.data (.recs [.int .i64, .int .i64, .str] p)), .one (.data (.recs [.int .i64, .int .i64, .str] q)), .one (.int .i64 i)] [] K = (
 bif decide (i < (↑p.length : Int)) then
 bif decide ((0 : Int) ≤ i) && decide (i < (↑p.length : Int)) then
 bif decide ((2 : Nat) < (3 : Nat)) && decide (i.toNat < p.length) then
 bif decide ((0 : Int) ≤ i) && decide (i < (↑q.length : Int)) then
 bif decide ((2 : Nat) < (3 : Nat)) && decide (i.toNat < q.length) then
 bif
 !(((p.getD i.toNat []).getD (0 : Nat) (D.int (0 : Int))).toInt ==
 ((q.getD i.toNat []).getD (0 : Nat) (D.int (0 : Int))).toInt &&
 (((p.getD i.toNat []).getD (1 : Nat) (D.int (0 : Int))).toInt ==
 ((q.getD i.toNat []).getD (1 : Nat) (D.int (0 : Int))).toInt &&
 ((p.getD i.toNat []).getD (2 : Nat) (D.int (0 : Int))).toStr ==
 ((q.getD i.toNat []).getD (2 : Nat) (D.int (0 : Int))).toStr)) then
 K Ex.ret [AV.one (SV.bool false)] []
 else
 K Ex.normal
 [AV.one (SV.data (Row.recs [CK.int IntKind.i64, CK.int IntKind.i64, CK.str] p)),
 AV.one (SV.data (Row.recs [CK.int IntKind.i64, CK.int IntKind.i64, CK.str] q)),
 AV.one (SV.int IntKind.i64 (IntKind.i64.wrap (i + (1 : Int))))]
 []
 else False
 else False
 else False
 else False
 else K (Ex.exit (0 : Nat)) [AV.any] []) := by kernel_rfl
theorem excpn (p : List (List D)) (K : AV → List Blk → Prop) : evFn Ecpn Tryd.f81 [.one (.data (.recs [.int .i64, .int .i64, .str] p))] [] K = (
 bif decide (p.length * (32 : Nat) ≤ (140737488355328 : Nat) ∧ p.length ≤ (140737488355328 : Nat)) then
 K (AV.one (SV.own (0 : Nat) (3 : Nat)))
 [Blk.row (114 : Nat) (Row.recs [CK.int IntKind.i64, CK.int IntKind.i64, CK.str] p)]
 else False) := by kernel_rfl
theorem excpe (q : List (List D)) (K : AV → List Blk → Prop) : evFn Ecpe Tryd.f82 [.one (.data (.recs [.bool, .int .i64, .int .i64] q))] [] K = (
 bif decide (q.length * (24 : Nat) ≤ (140737488355328 : Nat) ∧ q.length ≤ (140737488355328 : Nat)) then
 K (AV.one (SV.own (0 : Nat) (3 : Nat)))
 [Blk.row (124 : Nat) (Row.recs [CK.bool, CK.int IntKind.i64, CK.int IntKind.i64] q)]
 else False) := by kernel_rfl
theorem exncl (p : List (List D)) (K : AV → List Blk → Prop) : evFn Encl Tryd.f132 [.one (.data (.recs [.int .i64, .int .i64, .str] p))] [] K = (
 bif decide (p.length = (0 : Nat)) then
 K (AV.one SV.nil) [] ∧
 bif decide (p.length * (32 : Nat) ≤ (140737488355328 : Nat) ∧ p.length ≤ (140737488355328 : Nat)) then
 K (AV.one (SV.own (0 : Nat) (3 : Nat)))
 [Blk.row (114 : Nat) (Row.recs [CK.int IntKind.i64, CK.int IntKind.i64, CK.str] p)]
 else False
 else
 bif decide (p.length * (32 : Nat) ≤ (140737488355328 : Nat) ∧ p.length ≤ (140737488355328 : Nat)) then
 K (AV.one (SV.own (0 : Nat) (3 : Nat)))
 [Blk.row (114 : Nat) (Row.recs [CK.int IntKind.i64, CK.int IntKind.i64, CK.str] p)]
 else False) := by kernel_rfl
theorem exnre (p q : List (List D)) (K : AV → List Blk → Prop) : evFn Enre Tryd.f83 [.one (.data (.recs [.int .i64, .int .i64, .str] p)), .one (.data (.recs [.bool, .int .i64, .int .i64] q))] [] K = (
 bif decide ((↑p.length : Int) > (20 : Int)) then K (AV.one (SV.int IntKind.i64 (8 : Int))) []
 else
 (p.length ≤ (20 : Nat) ∧ (0 : Int) ≤ (0 : Int)) ∧
 bif ntsE p == (0 : Int) then
 bif decide ((↑q.length : Int) > (20 : Int)) then K (AV.one (SV.int IntKind.i64 (8 : Int))) []
 else
 (q.length ≤ (20 : Nat) ∧ (0 : Int) ≤ (0 : Int)) ∧
 bif edsE q == (0 : Int) then K (AV.one (SV.int IntKind.i64 (0 : Int))) []
 else K (AV.one (SV.int IntKind.i64 (edsE q))) []
 else K (AV.one (SV.int IntKind.i64 (ntsE p))) []) := by kernel_rfl
theorem exnrel0a (p q : List (List D)) (i : Int) (K : Ex → List AV → List Blk → Prop) : evBody Enre (lb Tryd.f83 0) [0, 1, 5] [1, 4] [.one (.data (.recs [.int .i64, .int .i64, .str] p)), .one (.data (.recs [.bool, .int .i64, .int .i64] q)), .one (.int .i64 i)] [] K = (
 bif decide (i < (↑p.length : Int)) then
 bif decide ((0 : Int) ≤ i) && decide (i < (↑p.length : Int)) then
 bif decide ((0 : Nat) < (3 : Nat)) && decide (i.toNat < p.length) then
 bif
 !(decide ((0 : Int) ≤ ((p.getD i.toNat []).getD (0 : Nat) (D.int (0 : Int))).toInt) &&
 decide (((p.getD i.toNat []).getD (0 : Nat) (D.int (0 : Int))).toInt ≤ (1000000 : Int))) then
 K Ex.ret
 [AV.one (SV.data (Row.recs [CK.bool, CK.int IntKind.i64, CK.int IntKind.i64] q)),
 AV.one (SV.int IntKind.i64 (2 : Int))]
 []
 else
 bif decide ((0 : Int) ≤ i) && decide (i < (↑p.length : Int)) then
 bif decide ((1 : Nat) < (3 : Nat)) && decide (i.toNat < p.length) then
 bif
 !(decide ((0 : Int) ≤ ((p.getD i.toNat []).getD (1 : Nat) (D.int (0 : Int))).toInt) &&
 decide (((p.getD i.toNat []).getD (1 : Nat) (D.int (0 : Int))).toInt ≤ (1000000 : Int))) then
 K Ex.ret
 [AV.one (SV.data (Row.recs [CK.bool, CK.int IntKind.i64, CK.int IntKind.i64] q)),
 AV.one (SV.int IntKind.i64 (2 : Int))]
 []
 else
 bif decide ((0 : Int) ≤ i) && decide (i < (↑p.length : Int)) then
 bif decide ((2 : Nat) < (3 : Nat)) && decide (i.toNat < p.length) then
 bif
 decide
 ((↑((p.getD i.toNat []).getD (2 : Nat) (D.int (0 : Int))).toStr.length : Int) > (40 : Int)) then
 K Ex.ret
 [AV.one (SV.data (Row.recs [CK.bool, CK.int IntKind.i64, CK.int IntKind.i64] q)),
 AV.one (SV.int IntKind.i64 (8 : Int))]
 []
 else
 K Ex.normal
 [AV.one (SV.data (Row.recs [CK.int IntKind.i64, CK.int IntKind.i64, CK.str] p)),
 AV.one (SV.data (Row.recs [CK.bool, CK.int IntKind.i64, CK.int IntKind.i64] q)),
 AV.one (SV.int IntKind.i64 (IntKind.i64.wrap (i + (1 : Int))))]
 []
 else False
 else False
 else False
 else False
 else False
 else False
 else K (Ex.exit (0 : Nat)) [AV.one (SV.data (Row.recs [CK.bool, CK.int IntKind.i64, CK.int IntKind.i64] q)), AV.any] []) := by kernel_rfl
theorem exnrel1a (q : List (List D)) (i : Int) (K : Ex → List AV → List Blk → Prop) : evBody Enre (lb Tryd.f83 1) [1, 6] [4] [.one (.data (.recs [.bool, .int .i64, .int .i64] q)), .one (.int .i64 i)] [] K = (
 bif decide (i < (↑q.length : Int)) then
 bif decide ((0 : Int) ≤ i) && decide (i < (↑q.length : Int)) then
 bif decide ((1 : Nat) < (3 : Nat)) && decide (i.toNat < q.length) then
 bif
 !(decide ((0 : Int) ≤ ((q.getD i.toNat []).getD (1 : Nat) (D.int (0 : Int))).toInt) &&
 decide (((q.getD i.toNat []).getD (1 : Nat) (D.int (0 : Int))).toInt ≤ (1000000 : Int))) then
 K Ex.ret [AV.one (SV.int IntKind.i64 (2 : Int))] []
 else
 bif decide ((0 : Int) ≤ i) && decide (i < (↑q.length : Int)) then
 bif decide ((2 : Nat) < (3 : Nat)) && decide (i.toNat < q.length) then
 bif
 !(decide ((1 : Int) ≤ ((q.getD i.toNat []).getD (2 : Nat) (D.int (0 : Int))).toInt) &&
 decide (((q.getD i.toNat []).getD (2 : Nat) (D.int (0 : Int))).toInt ≤ (1000000 : Int))) then
 K Ex.ret [AV.one (SV.int IntKind.i64 (2 : Int))] []
 else
 K Ex.normal
 [AV.one (SV.data (Row.recs [CK.bool, CK.int IntKind.i64, CK.int IntKind.i64] q)),
 AV.one (SV.int IntKind.i64 (IntKind.i64.wrap (i + (1 : Int))))]
 []
 else False
 else False
 else False
 else False
 else K (Ex.exit (2 : Nat)) [AV.any] []) := by kernel_rfl
end Go.Ev

namespace Go.Ev
open Go Go.Proofs
attribute [local irreducible] evFn evBody evRound
set_option maxRecDepth 20000

theorem condM {c : Bool} {p : Prop} (h : c = true) (hp : p) : cond c p False := by rw [h]; exact hp
theorem okpos : SpecOK Tryd.prog 159 ispS := by
  refine specOK (n := 5) (m := 0) (lps := []) (.cons ok71 .nil) Tryd.func159 (by kernel_rfl) (by kernel_rfl) (noLoops (by kernel_rfl)) fun args σ K h => ?_
  unfold ispS at h
  split at h
  rotate_right
  · exact h.elim
  rename_i n
  rw [expos n K]
  exact h
theorem ntsE_step {p : List (List D)} {i : Nat} (h : i < p.length) : ntsE (p.drop i) = bif nteE (p.getD i []) == 0 then ntsE (p.drop (i + 1)) else nteE (p.getD i []) := by
  rw [drop_step [] h]; rfl
theorem loknte_0 : LoopOK Ente (lb Tryd.f130 0) [9, 10, 11] [2] ntL := by
  refine loopOK (.cons okpos (.cons ok70 (.cons ok69 .nil))) (noInner (by kernel_rfl)) (fun vs σ => match vs, σ with
    | [.one (.data (.recs [.int .i64, .int .i64, .str] _)), .one (.int .i64 n), .one (.int .i64 i)], [] => (n - i).toNat
    | _, _ => 0) fun vs σ k h => ?_
  unfold ntL at h
  split at h
  rotate_right
  · exact h.elim
  · rename_i p n i
    rw [exntel0a p n i _]
    obtain ⟨⟨h1, rfl, h0, h2⟩, h⟩ := h
    by_cases hi : i < (p.length : Int)
    · have hw : IntKind.i64.wrap (i + 1) = i + 1 := wrap_id (by omega) (by omega)
      have hmu : ((p.length : Int) - (i + 1)).toNat < ((p.length : Int) - i).toNat := by omega
      rw [ntsE_step (show i.toNat < p.length by omega), show i.toNat + 1 = (i + 1).toNat by omega] at h
      rw [hw, decide_eq_true hi, decide_eq_true h0, decide_eq_true (show i.toNat < p.length by omega)]
      have g0 : ((p.getD i.toNat []).getD 0 (D.int 0)).toInt = toI (p.getD i.toNat []) 0 := rfl
      have g1 : ((p.getD i.toNat []).getD 1 (D.int 0)).toInt = toI (p.getD i.toNat []) 1 := rfl
      have g2 : ((p.getD i.toNat []).getD 2 (D.int 0)).toStr = toS (p.getD i.toNat []) 2 := rfl
      simp only [g0, g1, g2]
      generalize p.getD i.toNat [] = d at *
      unfold nteE at h
      cases w1 : withinG (toI d 0) 0 1000000 with
      | false =>
        rw [w1, Bool.false_and] at h
        exact ⟨by simp, h⟩
      | true =>
        rw [w1, Bool.true_and] at h
        refine ⟨by simp, ?_⟩
        generalize firstE [bif withinG (toI d 1) 0 1000000 then 0 else 2, bif decide (((toS d 2).length : Int) ≤ 40) then 0 else 8] = e at *
        by_cases he : e = 0
        · rw [he] at h ⊢
          exact ⟨⟨⟨h1, rfl, by omega, by omega⟩, h⟩, hmu⟩
        · have c1 : (e == 0) = false := beq_eq_false_iff_ne.2 he
          have c2 : (e != 0) = true := by rw [bne, c1]; rfl
          simp only [c1, cond_false] at h
          rw [c2]
          exact h
    · rw [decide_eq_false hi]
      rw [List.drop_eq_nil_of_le (by omega)] at h
      exact h
theorem oknte : SpecOK Tryd.prog 130 ntS := by
  refine specOK (n := 35) (m := 0) (lps := [(4, .spec [9, 10, 11] [2] ntL)]) (.cons okpos (.cons ok70 (.cons ok69 .nil))) Tryd.func130 (by kernel_rfl) (by kernel_rfl) (theLoops (n := 1) (by kernel_rfl) fun i hi => ?_) fun args σ K h => ?_
  · match i, hi with
    | 0, _ => exact loopHyp_of (key := 4) (by kernel_rfl) rfl loknte_0
  unfold ntS at h
  split at h
  rotate_right
  · exact h.elim
  rename_i p
  rw [exnte p K]
  unfold notE at h
  by_cases hl : (p.length : Int) > 20
  · rw [decide_eq_true hl] at h ⊢; exact h
  · rw [decide_eq_false hl] at h ⊢
    refine ⟨⟨by omega, rfl, by decide, by omega⟩, ?_⟩
    simp only [cond_false] at h
    by_cases he : ntsE p = 0
    · rw [he] at h ⊢; exact h
    · rw [show (ntsE p == 0) = false from beq_eq_false_iff_ne.2 he]; exact h
theorem okodd : SpecOK Tryd.prog 161 oddS := by
  refine specOK (n := 13) (m := 0) (lps := []) (.cons okpos (.cons ok71 .nil)) Tryd.func161 (by kernel_rfl) (by kernel_rfl) (noLoops (by kernel_rfl)) fun args σ K h => ?_
  unfold oddS at h
  split at h
  rotate_right
  · exact h.elim
  rename_i b a l
  rw [exodd b a l K]
  unfold oddG at h
  cases hw : withinG a 0 1000000 with
  | false => rw [hw] at h; exact h
  | true => rw [hw] at h; exact h
theorem anyOdd_step {q : List (List D)} {i : Nat} (h : i < q.length) : (q.drop i).any oddD = (oddD (q.getD i []) || (q.drop (i + 1)).any oddD) := by
  rw [drop_step [] h, List.any_cons]
theorem idxE_step {q : List (List D)} {i : Int} (h0 : 0 ≤ i) (h : i < q.length) : idxE i (q.drop i.toNat) = bif oddD (q.getD i.toNat []) then i else idxE (i + 1) (q.drop (i + 1).toNat) := by
  rw [drop_step [] (by omega), show (i + 1).toNat = i.toNat + 1 by omega]; rfl
theorem lokodx_0 : LoopOK Eodx (lb Tryd.f173 0) [0, 1, 7, 8] [4] oxL := by
  refine loopOK (.cons okodd .nil) (noInner (by kernel_rfl)) (fun vs σ => match vs, σ with
    | [.one (.data (.recs [.bool, .int .i64, .int .i64] _)), .one (.func 161 []), .one (.int .i64 n), .one (.int .i64 i)], [] => (n - i).toNat
    | _, _ => 0) fun vs σ k h => ?_
  unfold oxL at h
  split at h
  rotate_right
  · exact h.elim
  · rename_i q n i
    rw [exodxl0a q n i _]
    obtain ⟨⟨h1, h0, rfl⟩, h⟩ := h
    by_cases hi : i < (q.length : Int)
    · have hw : IntKind.i64.wrap (i + 1) = i + 1 := wrap_id (by omega) (by omega)
      have hmu : ((q.length : Int) - (i + 1)).toNat < ((q.length : Int) - i).toNat := by omega
      rw [anyOdd_step (show i.toNat < q.length by omega), idxE_step h0 hi, show i.toNat + 1 = (i + 1).toNat by omega] at h
      rw [hw, decide_eq_true hi, decide_eq_true h0, decide_eq_true (show i.toNat < q.length by omega)]
      have g : oddG ((q.getD i.toNat []).getD 1 (D.int 0)).toInt ((q.getD i.toNat []).getD 2 (D.int 0)).toInt = oddD (q.getD i.toNat []) := rfl
      rw [g]
      cases hd : oddD (q.getD i.toNat []) with
      | true => rw [hd] at h; exact h
      | false => rw [hd, Bool.false_or] at h; exact ⟨⟨⟨h1, by omega, rfl⟩, h⟩, hmu⟩
    · rw [decide_eq_false hi]
      rw [List.drop_eq_nil_of_le (by omega)] at h
      exact h
theorem idxE_none : ∀ {q : List (List D)} {i : Int}, q.any oddD = false → idxE i q = -1
  | [], _, _ => rfl
  | e :: q, i, h => by
    rw [List.any_cons, Bool.or_eq_false_iff] at h
    simp only [idxE]
    rw [h.1, cond_false]
    exact idxE_none h.2
theorem idxE_some : ∀ {q : List (List D)} {i : Int}, q.any oddD = true → i ≤ idxE i q
  | [], _, h => by simp at h
  | e :: q, i, h => by
    simp only [idxE]
    cases hb : oddD e with
    | true => exact Int.le_refl _
    | false =>
      rw [List.any_cons, hb, Bool.false_or] at h
      have := idxE_some (i := i + 1) h
      rw [cond_false]
      omega
theorem okodx : SpecOK Tryd.prog 173 oxS := by
  refine specOK (n := 19) (m := 0) (lps := [(2, .spec [0, 1, 7, 8] [4] oxL)]) (.cons okodd .nil) Tryd.func173 (by kernel_rfl) (by kernel_rfl) (theLoops (n := 1) (by kernel_rfl) fun i hi => ?_) fun args σ K h => ?_
  · match i, hi with
    | 0, _ => exact loopHyp_of (key := 2) (by kernel_rfl) rfl lokodx_0
  unfold oxS at h
  split at h
  rotate_right
  · exact h.elim
  rename_i q
  rw [exodx q K]
  obtain ⟨h1, h⟩ := h
  refine ⟨⟨h1, by decide, rfl⟩, ?_⟩
  cases ha : q.any oddD with
  | true => exact h
  | false => rw [idxE_none ha] at h; exact h
theorem okhxe : SpecOK Tryd.prog 160 hxS := by
  refine specOK (n := 9) (m := 0) (lps := []) (.cons okodx .nil) Tryd.func160 (by kernel_rfl) (by kernel_rfl) (noLoops (by kernel_rfl)) fun args σ K h => ?_
  unfold hxS at h
  split at h
  rotate_right
  · exact h.elim
  rename_i q
  rw [exhxe q K]
  obtain ⟨h1, h⟩ := h
  refine ⟨h1, ?_⟩
  cases ha : q.any oddD with
  | true =>
    have := idxE_some (i := 0) ha
    rw [ha] at h
    rw [decide_eq_true (show idxE 0 q ≥ 0 from this)]; exact h
  | false =>
    rw [ha] at h
    rw [idxE_none ha]; exact h
theorem okede : SpecOK Tryd.prog 131 edS := by
  refine specOK (n := 15) (m := 0) (lps := []) (.cons okhxe (.cons okodd (.cons ok70 (.cons ok69 .nil)))) Tryd.func131 (by kernel_rfl) (by kernel_rfl) (noLoops (by kernel_rfl)) fun args σ K h => ?_
  unfold edS at h
  split at h
  rotate_right
  · exact h.elim
  rename_i q
  rw [exede q K]
  obtain ⟨h1, h⟩ := h
  exact ⟨h1, by simp, h⟩

/-! ### One edit of one note -/
theorem okaft : SpecOK Tryd.prog 162 aftS := by
  refine specOK (n := 13) (m := 1) (lps := []) .nil Tryd.func162 (by kernel_rfl) (by kernel_rfl) (noLoops (by kernel_rfl)) fun args σ K h => ?_
  unfold aftS at h
  split at h
  rotate_right
  · exact h.elim
  rename_i n b xa xl
  rw [exaft n b xa xl K]
  obtain ⟨⟨h1, h2, h3, h4, h5, h6⟩, h⟩ := h
  have w : IntKind.i64.wrap (n - xl) = n - xl := wrap_id (by omega) (by omega)
  rw [w]
  exact h
theorem okraf : SpecOK Tryd.prog 163 raftS := by
  refine specOK (n := 17) (m := 0) (lps := []) .nil Tryd.func163 (by kernel_rfl) (by kernel_rfl) (noLoops (by kernel_rfl)) fun args σ K h => ?_
  unfold raftS at h
  split at h
  rotate_right
  · exact h.elim
  rename_i n b xa xl
  rw [exraf n b xa xl K]
  obtain ⟨⟨h1, h2, h3, h4, h5, h6⟩, h⟩ := h
  have w : IntKind.i64.wrap (n - xl) = n - xl := wrap_id (by omega) (by omega)
  rw [w]
  by_cases hn : n < xa
  · have e : aftG n xa xl = n := by unfold aftG; split <;> split <;> omega
    rw [e] at h
    rw [decide_eq_true hn]; exact h
  · have e : aftG n xa xl = (if n - xl > xa then n - xl else xa) := by unfold aftG; split <;> split <;> omega
    rw [e] at h
    rw [decide_eq_false hn]; exact h
theorem okins : SpecOK Tryd.prog 133 insS := by
  refine specOK (n := 33) (m := 0) (lps := []) .nil Tryd.func133 (by kernel_rfl) (by kernel_rfl) (noLoops (by kernel_rfl)) fun args σ K h => ?_
  unfold insS at h
  split at h
  rotate_right
  · exact h.elim
  rename_i a l t b xa xl
  rw [exins a l t b xa xl K]
  obtain ⟨⟨h1, h2, h3, h4, h5, h6, h7, h8⟩, h⟩ := h
  have w1 : IntKind.i64.wrap (a + xl) = a + xl := wrap_id (by omega) (by omega)
  have w2 : IntKind.i64.wrap (a + l) = a + l := wrap_id (by omega) (by omega)
  have w3 : IntKind.i64.wrap (l + xl) = l + xl := wrap_id (by omega) (by omega)
  rw [w1, w2, w3]
  unfold mvA mvL at h
  cases hc : decide (xa ≤ a) with
  | true => rw [hc] at h; exact h
  | false =>
    rw [hc] at h
    cases hd : decide (xa < a + l) with
    | true => rw [hd] at h; exact h
    | false => rw [hd] at h; exact h
theorem aft_range {n xa xl : Int} (h0 : 0 ≤ n) (h1 : 0 ≤ xa) (h2 : 1 ≤ xl) : 0 ≤ aftG n xa xl ∧ aftG n xa xl ≤ n := by unfold aftG; split <;> split <;> omega
theorem cut_lost {a l xa xl : Int} (h : okNE a l xa xl) (hl : 0 < l) : aftG (a + l) xa xl - aftG a xa xl = l - (if (if xa + xl < a + l then xa + xl else a + l) - (if xa > a then xa else a) > 0 then (if xa + xl < a + l then xa + xl else a + l) - (if xa > a then xa else a) else 0) := by
  obtain ⟨h1, h2, h3, h4, h5, h6, h7, h8⟩ := h
  unfold aftG
  repeat' split
  all_goals omega
theorem okrmv : SpecOK Tryd.prog 135 rmvS := by
  refine specOK (n := 90) (m := 0) (lps := []) (.cons ok25 (.cons okraf .nil)) Tryd.func135 (by kernel_rfl) (by kernel_rfl) (noLoops (by kernel_rfl)) fun args σ K h => ?_
  unfold rmvS at h
  split at h
  rotate_right
  · exact h.elim
  rename_i a l t b xa xl
  rw [exrmv a l t b xa xl K]
  obtain ⟨hN, h⟩ := h
  have hN' := hN
  obtain ⟨h1, h2, h3, h4, h5, h6, h7, h8⟩ := hN'
  have w1 : IntKind.i64.wrap (a + xl) = a + xl := wrap_id (by omega) (by omega)
  have w2 : IntKind.i64.wrap (a + l) = a + l := wrap_id (by omega) (by omega)
  have w3 : IntKind.i64.wrap (l + xl) = l + xl := wrap_id (by omega) (by omega)
  have w4 : IntKind.i64.wrap (xa + xl) = xa + xl := wrap_id (by omega) (by omega)
  have w5 : IntKind.i64.wrap (xa + xl - 1) = xa + xl - 1 := wrap_id (by omega) (by omega)
  simp only [w1, w2, w3, w4, w5]
  unfold mvA mvL mvK at h
  cases b with
  | true =>
    simp only [cond_true] at h ⊢
    cases hc : decide (xa ≤ a) with
    | true => rw [hc] at h; exact h
    | false =>
      rw [hc] at h
      cases hd : decide (xa < a + l) with
      | true => rw [hd] at h; exact h
      | false => rw [hd] at h; exact h
  | false =>
    simp only [cond_false] at h ⊢
    have pre : (0 ≤ a ∧ a ≤ 2000000000 ∧ 0 ≤ xa ∧ xa ≤ 1000000 ∧ 1 ≤ xl ∧ xl ≤ 1000000) := by omega
    by_cases hl : l = 0
    · subst hl
      have e0 : aftG (a + 0) xa xl - aftG a xa xl = 0 := by rw [Int.add_zero]; omega
      rw [show ((0 : Int) == 0) = true from rfl, cond_true]
      by_cases hin : xa ≤ a ∧ a ≤ xa + xl - 1
      · have ek : cutK a 0 xa xl = false := by
          unfold cutK
          rw [e0, decide_eq_true hin.1, decide_eq_true (show a < xa + xl by omega)]; rfl
        rw [ek] at h
        rw [decide_eq_true hin.1, decide_eq_true hin.2]
        exact h
      · have ek : cutK a 0 xa xl = true := by
          unfold cutK
          by_cases h' : xa ≤ a
          · rw [decide_eq_false (show ¬ a < xa + xl by omega), Bool.false_and, Bool.and_false]; rfl
          · rw [decide_eq_false h']; rfl
        rw [ek] at h
        simp only [cond_true, e0] at h
        have en : (decide (xa ≤ a) && decide (a ≤ xa + xl - 1)) = false := by
          by_cases h' : xa ≤ a
          · rw [decide_eq_false (show ¬ a ≤ xa + xl - 1 by omega), Bool.and_false]
          · rw [decide_eq_false h']; rfl
        rw [en]
        exact ⟨pre, h⟩
    · rw [show (l == 0) = false from beq_eq_false_iff_ne.2 hl, cond_false]
      have hc := cut_lost hN (by omega)
      have hlr : 0 ≤ (if (if xa + xl < a + l then xa + xl else a + l) - (if xa > a then xa else a) > 0 then (if xa + xl < a + l then xa + xl else a + l) - (if xa > a then xa else a) else 0) ∧
          (if (if xa + xl < a + l then xa + xl else a + l) - (if xa > a then xa else a) > 0 then (if xa + xl < a + l then xa + xl else a + l) - (if xa > a then xa else a) else 0) ≤ l ∧
          ((if (if xa + xl < a + l then xa + xl else a + l) - (if xa > a then xa else a) > 0 then (if xa + xl < a + l then xa + xl else a + l) - (if xa > a then xa else a) else 0) = l → xa ≤ a ∧ a < xa + xl) := by
        refine ⟨?_, ?_, ?_⟩
        · repeat' split
          all_goals omega
        · repeat' split
          all_goals omega
        · repeat' split
          all_goals omega
      have w6 : IntKind.i64.wrap ((if xa + xl < a + l then xa + xl else a + l) - (if xa > a then xa else a)) = (if xa + xl < a + l then xa + xl else a + l) - (if xa > a then xa else a) := by
        refine wrap_id ?_ ?_
        · repeat' split
          all_goals omega
        · repeat' split
          all_goals omega
      simp only [w6]
      generalize (if (if xa + xl < a + l then xa + xl else a + l) - (if xa > a then xa else a) > 0 then (if xa + xl < a + l then xa + xl else a + l) - (if xa > a then xa else a) else 0) = z at *
      have w7 : IntKind.i64.wrap (l - z) = l - z := wrap_id (by omega) (by omega)
      rw [w7]
      rw [hc] at h
      by_cases hz : z = l
      · have hi := hlr.2.2 hz
        have ek : cutK a l xa xl = false := by
          unfold cutK
          rw [hc, decide_eq_true hi.1, decide_eq_true hi.2, decide_eq_true (show l - z = 0 by omega)]; rfl
        rw [ek] at h
        rw [show (z == l) = true from beq_iff_eq.2 hz]
        exact h
      · have ek : cutK a l xa xl = true := by
          unfold cutK
          rw [hc, decide_eq_false (show ¬ l - z = 0 by omega), Bool.and_false, Bool.and_false]; rfl
        rw [ek] at h
        rw [show (z == l) = false from beq_eq_false_iff_ne.2 hz]
        exact ⟨pre, h⟩

theorem okcut : SpecOK Tryd.prog 134 cutS := by
  refine specOK (n := 53) (m := 0) (lps := []) (.cons okaft .nil) Tryd.func134 (by kernel_rfl) (by kernel_rfl) (noLoops (by kernel_rfl)) fun args σ K h => ?_
  unfold cutS at h
  split at h
  rotate_right
  · exact h.elim
  rename_i a l t b xa xl
  rw [excut a l t b xa xl K]
  obtain ⟨hN, h⟩ := h
  obtain ⟨h1, h2, h3, h4, h5, h6, h7, h8⟩ := hN
  have r1 := aft_range (n := a) (xa := xa) (xl := xl) h1 h5 h7
  have r2 := aft_range (n := a + l) (xa := xa) (xl := xl) (by omega) h5 h7
  have w2 : IntKind.i64.wrap (a + l) = a + l := wrap_id (by omega) (by omega)
  have w4 : IntKind.i64.wrap (xa + xl) = xa + xl := wrap_id (by omega) (by omega)
  have w8 : IntKind.i64.wrap (aftG (a + l) xa xl - aftG a xa xl) = aftG (a + l) xa xl - aftG a xa xl := wrap_id (by omega) (by omega)
  have p1 : (0 ≤ a ∧ a ≤ 2000000000 ∧ 0 ≤ xa ∧ xa ≤ 1000000 ∧ 1 ≤ xl ∧ xl ≤ 1000000) := by omega
  have p2 : (0 ≤ a + l ∧ a + l ≤ 2000000000 ∧ 0 ≤ xa ∧ xa ≤ 1000000 ∧ 1 ≤ xl ∧ xl ≤ 1000000) := by omega
  simp only [w2, w4, w8]
  unfold mvA mvL at h
  simp only [cond_false] at h
  by_cases c1 : a ≥ xa
  · by_cases c2 : a < xa + xl
    · by_cases c3 : aftG (a + l) xa xl - aftG a xa xl = 0
      · have ek : cutK a l xa xl = false := by
          unfold cutK
          rw [decide_eq_true (show xa ≤ a from c1), decide_eq_true c2, decide_eq_true c3]; rfl
        rw [ek] at h
        rw [decide_eq_true c1, decide_eq_true c2, show (aftG (a + l) xa xl - aftG a xa xl == 0) = true from beq_iff_eq.2 c3]
        repeat' first
          | exact h
          | exact p1
          | exact p2
          | refine And.intro ?_ ?_
      · have ek : cutK a l xa xl = true := by
          unfold cutK
          rw [decide_eq_false c3, Bool.and_false, Bool.and_false]; rfl
        rw [ek] at h
        rw [decide_eq_true c1, decide_eq_true c2, show (aftG (a + l) xa xl - aftG a xa xl == 0) = false from beq_eq_false_iff_ne.2 c3]
        repeat' first
          | exact h
          | exact p1
          | exact p2
          | refine And.intro ?_ ?_
    · have ek : cutK a l xa xl = true := by
        unfold cutK
        rw [decide_eq_false c2, Bool.false_and, Bool.and_false]; rfl
      rw [ek] at h
      rw [decide_eq_true c1, decide_eq_false c2]
      repeat' first
        | exact h
        | exact p1
        | exact p2
        | refine And.intro ?_ ?_
  · have ek : cutK a l xa xl = true := by
      unfold cutK
      rw [decide_eq_false (show ¬ xa ≤ a from c1)]; rfl
    rw [ek] at h
    rw [decide_eq_false c1]
    repeat' first
      | exact h
      | exact p1
      | exact p2
      | refine And.intro ?_ ?_

/-! ### Lists of notes -/
theorem sameG_step {p q : List (List D)} {i : Nat} (h1 : i < p.length) (h2 : i < q.length) : sameG (p.drop i) (q.drop i) = (eqN (p.getD i []) (q.getD i []) && sameG (p.drop (i + 1)) (q.drop (i + 1))) := by
  rw [drop_step [] h1, drop_step (l := q) [] h2]; rfl
theorem sameG_length : ∀ {p q : List (List D)}, sameG p q = true → p.length = q.length
  | [], [], _ => rfl
  | [], _ :: _, h => by simp [sameG] at h
  | _ :: _, [], h => by simp [sameG] at h
  | d :: p, e :: q, h => by
    simp only [sameG, Bool.and_eq_true] at h
    simp only [List.length_cons, sameG_length h.2]
theorem sameG_refl : ∀ p : List (List D), sameG p p = true
  | [] => rfl
  | d :: p => by
    simp only [sameG]
    rw [sameG_refl p]
    unfold eqN
    rw [beq_self_eq_true, beq_self_eq_true, beq_self_eq_true]
    rfl
theorem loksnt_0 : LoopOK Esnt (lb Tryd.f84 0) [0, 1, 5] [4] snL := by
  refine loopOK .nil (noInner (by kernel_rfl)) (fun vs σ => match vs, σ with
    | [.one (.data (.recs [.int .i64, .int .i64, .str] p)), .one (.data (.recs [.int .i64, .int .i64, .str] _)), .one (.int .i64 i)], [] => (p.length - i).toNat
    | _, _ => 0) fun vs σ k h => ?_
  unfold snL at h
  split at h
  rotate_right
  · exact h.elim
  · rename_i p q i
    rw [exsntl0a p q i _]
    obtain ⟨⟨h1, h2, h0⟩, h⟩ := h
    by_cases hi : i < (p.length : Int)
    · have hw : IntKind.i64.wrap (i + 1) = i + 1 := wrap_id (by omega) (by omega)
      have hmu : ((p.length : Int) - (i + 1)).toNat < ((p.length : Int) - i).toNat := by omega
      rw [sameG_step (show i.toNat < p.length by omega) (show i.toNat < q.length by omega), show i.toNat + 1 = (i + 1).toNat by omega] at h
      have g : (((p.getD i.toNat []).getD 0 (D.int 0)).toInt == ((q.getD i.toNat []).getD 0 (D.int 0)).toInt && (((p.getD i.toNat []).getD 1 (D.int 0)).toInt == ((q.getD i.toNat []).getD 1 (D.int 0)).toInt && ((p.getD i.toNat []).getD 2 (D.int 0)).toStr == ((q.getD i.toNat []).getD 2 (D.int 0)).toStr)) = eqN (p.getD i.toNat []) (q.getD i.toNat []) := rfl
      rw [hw, decide_eq_true hi, decide_eq_true h0, decide_eq_true (show i.toNat < p.length by omega), decide_eq_true (show i < (q.length : Int) by omega), decide_eq_true (show i.toNat < q.length by omega), g]
      cases hd : eqN (p.getD i.toNat []) (q.getD i.toNat []) with
      | true => rw [hd, Bool.true_and] at h; exact ⟨⟨⟨h1, h2, by omega⟩, h⟩, hmu⟩
      | false => rw [hd, Bool.false_and] at h; exact h
    · rw [decide_eq_false hi]
      rw [List.drop_eq_nil_of_le (by omega), List.drop_eq_nil_of_le (by omega)] at h
      exact h
theorem oksnt : SpecOK Tryd.prog 84 snS := by
  refine specOK (n := 26) (m := 0) (lps := [(4, .spec [0, 1, 5] [4] snL)]) .nil Tryd.func84 (by kernel_rfl) (by kernel_rfl) (theLoops (n := 1) (by kernel_rfl) fun i hi => ?_) fun args σ K h => ?_
  · match i, hi with
    | 0, _ => exact loopHyp_of (key := 4) (by kernel_rfl) rfl loksnt_0
  unfold snS at h
  split at h
  rotate_right
  · exact h.elim
  rename_i p q
  rw [exsnt p q K]
  obtain ⟨h1, h⟩ := h
  by_cases hl : p.length = q.length
  · rw [show ((p.length : Int) != (q.length : Int)) = false by rw [hl]; exact bne_self_eq_false _]
    refine ⟨⟨h1, hl, by decide⟩, ?_⟩
    cases hs : sameG p q with
    | true => rw [hs] at h; exact h
    | false => rw [hs] at h; exact h
  · have hs : sameG p q = false := by
      cases hs : sameG p q with
      | false => rfl
      | true => exact absurd (sameG_length hs) hl
    rw [hs] at h
    rw [show ((p.length : Int) != (q.length : Int)) = true by rw [bne, show ((p.length : Int) == (q.length : Int)) = false from beq_eq_false_iff_ne.2 (by omega)]; rfl]
    exact h
theorem okcpn : SpecOK Tryd.prog 81 cpnS := by
  refine specOK (n := 6) (m := 0) (lps := []) .nil Tryd.func81 (by kernel_rfl) (by kernel_rfl) (noLoops (by kernel_rfl)) fun args σ K h => ?_
  unfold cpnS at h
  split at h
  rotate_right
  · exact h.elim
  rename_i p
  rw [excpn p K]
  obtain ⟨h1, h⟩ := h
  exact condM (decide_eq_true (by omega)) h
theorem okcpe : SpecOK Tryd.prog 82 cpeS := by
  refine specOK (n := 6) (m := 0) (lps := []) .nil Tryd.func82 (by kernel_rfl) (by kernel_rfl) (noLoops (by kernel_rfl)) fun args σ K h => ?_
  unfold cpeS at h
  split at h
  rotate_right
  · exact h.elim
  rename_i q
  rw [excpe q K]
  obtain ⟨h1, h⟩ := h
  exact condM (decide_eq_true (by omega)) h
theorem okncl : SpecOK Tryd.prog 132 nclS := by
  refine specOK (n := 8) (m := 0) (lps := []) .nil Tryd.func132 (by kernel_rfl) (by kernel_rfl) (noLoops (by kernel_rfl)) fun args σ K h => ?_
  unfold nclS at h
  split at h
  rotate_right
  · exact h.elim
  rename_i p
  rw [exncl p K]
  obtain ⟨h1, h, h2⟩ := h
  have hd : decide (p.length * 32 ≤ 140737488355328 ∧ p.length ≤ 140737488355328) = true := decide_eq_true (by omega)
  rw [hd]
  by_cases hz : p.length = 0
  · rw [decide_eq_true hz]
    exact ⟨h2 hz, h⟩
  · rw [decide_eq_false hz]
    exact h
theorem nteE_first (d : List D) : nteE d = bif withinG (toI d 0) 0 1000000 then (bif withinG (toI d 1) 0 1000000 then (bif decide (((toS d 2).length : Int) ≤ 40) then 0 else 8) else 2) else 2 := by
  unfold nteE
  cases withinG (toI d 0) 0 1000000 <;> cases withinG (toI d 1) 0 1000000 <;> cases decide (((toS d 2).length : Int) ≤ 40) <;> rfl
theorem loknre_0 : LoopOK Enre (lb Tryd.f83 0) [0, 1, 5] [1, 4] nrA := by
  refine loopOK (.cons ok25 .nil) (noInner (by kernel_rfl)) (fun vs σ => match vs, σ with
    | [.one (.data (.recs [.int .i64, .int .i64, .str] p)), .one (.data (.recs [.bool, .int .i64, .int .i64] _)), .one (.int .i64 i)], [] => (p.length - i).toNat
    | _, _ => 0) fun vs σ k h => ?_
  unfold nrA at h
  split at h
  rotate_right
  · exact h.elim
  · rename_i p q i
    rw [exnrel0a p q i _]
    obtain ⟨⟨h1, h0⟩, h⟩ := h
    by_cases hi : i < (p.length : Int)
    · have hw : IntKind.i64.wrap (i + 1) = i + 1 := wrap_id (by omega) (by omega)
      have hmu : ((p.length : Int) - (i + 1)).toNat < ((p.length : Int) - i).toNat := by omega
      rw [ntsE_step (show i.toNat < p.length by omega), show i.toNat + 1 = (i + 1).toNat by omega, nteE_first] at h
      have g0 : ((p.getD i.toNat []).getD 0 (D.int 0)).toInt = toI (p.getD i.toNat []) 0 := rfl
      have g1 : ((p.getD i.toNat []).getD 1 (D.int 0)).toInt = toI (p.getD i.toNat []) 1 := rfl
      have g2 : ((p.getD i.toNat []).getD 2 (D.int 0)).toStr = toS (p.getD i.toNat []) 2 := rfl
      simp only [g0, g1, g2]
      rw [hw, decide_eq_true hi, decide_eq_true h0, decide_eq_true (show i.toNat < p.length by omega)]
      generalize p.getD i.toNat [] = d at *
      unfold withinG at h
      cases w1 : (decide (0 ≤ toI d 0) && decide (toI d 0 ≤ 1000000)) with
      | false => rw [w1] at h; exact h
      | true =>
        rw [w1] at h
        cases w2 : (decide (0 ≤ toI d 1) && decide (toI d 1 ≤ 1000000)) with
        | false => rw [w2] at h; exact h
        | true =>
          rw [w2] at h
          by_cases ht : ((toS d 2).length : Int) > 40
          · rw [decide_eq_false (show ¬ ((toS d 2).length : Int) ≤ 40 by omega)] at h
            rw [decide_eq_true ht]
            exact h
          · rw [decide_eq_true (show ((toS d 2).length : Int) ≤ 40 by omega)] at h
            rw [decide_eq_false ht]
            exact ⟨⟨⟨h1, by omega⟩, h⟩, hmu⟩
    · rw [decide_eq_false hi]
      rw [List.drop_eq_nil_of_le (by omega)] at h
      exact h
theorem loknre_1 : LoopOK Enre (lb Tryd.f83 1) [1, 6] [4] nrB := by
  refine loopOK (.cons ok25 .nil) (noInner (by kernel_rfl)) (fun vs σ => match vs, σ with
    | [.one (.data (.recs [.bool, .int .i64, .int .i64] q)), .one (.int .i64 i)], [] => (q.length - i).toNat
    | _, _ => 0) fun vs σ k h => ?_
  unfold nrB at h
  split at h
  rotate_right
  · exact h.elim
  · rename_i q i
    rw [exnrel1a q i _]
    obtain ⟨⟨h1, h0⟩, h⟩ := h
    by_cases hi : i < (q.length : Int)
    · have hw : IntKind.i64.wrap (i + 1) = i + 1 := wrap_id (by omega) (by omega)
      have hmu : ((q.length : Int) - (i + 1)).toNat < ((q.length : Int) - i).toNat := by omega
      have es : edsE (q.drop i.toNat) = bif oddD (q.getD i.toNat []) then 2 else edsE (q.drop (i + 1).toNat) := by
        rw [drop_step [] (show i.toNat < q.length by omega), show i.toNat + 1 = (i + 1).toNat by omega]; rfl
      rw [es] at h
      have g1 : ((q.getD i.toNat []).getD 1 (D.int 0)).toInt = toI (q.getD i.toNat []) 1 := rfl
      have g2 : ((q.getD i.toNat []).getD 2 (D.int 0)).toInt = toI (q.getD i.toNat []) 2 := rfl
      simp only [g1, g2]
      rw [hw, decide_eq_true hi, decide_eq_true h0, decide_eq_true (show i.toNat < q.length by omega)]
      generalize q.getD i.toNat [] = d at *
      unfold oddD oddG withinG at h
      cases w1 : (decide (0 ≤ toI d 1) && decide (toI d 1 ≤ 1000000)) with
      | false => rw [w1] at h; exact h
      | true =>
        rw [w1] at h
        cases w2 : (decide (1 ≤ toI d 2) && decide (toI d 2 ≤ 1000000)) with
        | false => rw [w2] at h; exact h
        | true => rw [w2] at h; exact ⟨⟨⟨h1, by omega⟩, h⟩, hmu⟩
    · rw [decide_eq_false hi]
      rw [List.drop_eq_nil_of_le (by omega)] at h
      exact h
theorem oknre : SpecOK Tryd.prog 83 nrS := by
  refine specOK (n := 64) (m := 0) (lps := [(4, .spec [0, 1, 5] [1, 4] nrA), (13, .spec [1, 6] [4] nrB)]) (.cons ok25 .nil) Tryd.func83 (by kernel_rfl) (by kernel_rfl) (theLoops (n := 2) (by kernel_rfl) fun i hi => ?_) fun args σ K h => ?_
  · match i, hi with
    | 0, _ => exact loopHyp_of (key := 4) (by kernel_rfl) rfl loknre_0
    | 1, _ => exact loopHyp_of (key := 13) (by kernel_rfl) rfl loknre_1
  unfold nrS at h
  split at h
  rotate_right
  · exact h.elim
  rename_i p q
  rw [exnre p q K]
  unfold nrE notE at h
  by_cases hl : (p.length : Int) > 20
  · rw [decide_eq_true hl] at h ⊢; exact h
  · rw [decide_eq_false hl] at h ⊢
    simp only [cond_false] at h
    refine ⟨⟨by omega, by decide⟩, ?_⟩
    by_cases he : ntsE p = 0
    · rw [he] at h ⊢
      by_cases hm : (q.length : Int) > 20
      · rw [decide_eq_true hm] at h ⊢; exact h
      · rw [decide_eq_false hm] at h ⊢
        refine ⟨⟨by omega, by decide⟩, ?_⟩
        by_cases hs : edsE q = 0
        · rw [hs] at h ⊢; exact h
        · rw [show (edsE q == 0) = false from beq_eq_false_iff_ne.2 hs]; exact h
    · rw [show (ntsE p == 0) = false from beq_eq_false_iff_ne.2 he] at h ⊢
      exact h
end Go.Ev
