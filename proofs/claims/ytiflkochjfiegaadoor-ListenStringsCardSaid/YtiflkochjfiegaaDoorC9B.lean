/-
  Part of the proof of a law.
-/
import Derived.Test.YtiflkochjfiegaaDoorC9A
import Derived.KernelRfl
set_option linter.unusedVariables false
set_option linter.unusedSimpArgs false
set_option linter.unusedSectionVars false
/-
  Chapter 9, contracts: meters, energies, gates.
-/
namespace Go.Ev
open Go Go.Proofs
set_option maxRecDepth 20000
def oddSampleS : Spec := fun args σ K => match args, σ with
  | [.one (.int .i64 n)], [] => K (.one (.bool (!sampleG n))) []
  | _, _ => False
def idxOdd : Int → List Int → Int
  | _, [] => -1
  | i, x :: l => bif !sampleG x then i else idxOdd (i + 1) l
def idxOddL : LSpec := fun vs σ k => match vs, σ with
  | [.one (.data (.ints .i64 l)), .one (.func 144 []), .one (.int .i64 n), .one (.int .i64 i)], [] =>
    (l.length ≤ 1000000000 ∧ 0 ≤ i ∧ n = l.length) ∧ bif (l.drop i.toNat).all sampleG then k (.exit 0) [.any] [] else k .ret [.one (.int .i64 (idxOdd i (l.drop i.toNat)))] []
  | _, _ => False
def idxOddS : Spec := fun args σ K => match args, σ with
  | [.one (.data (.ints .i64 l)), .one (.func 144 [])], [] => l.length ≤ 1000000000 ∧ K (.one (.int .i64 (idxOdd 0 l))) []
  | _, _ => False
def hasOddS : Spec := fun args σ K => match args, σ with
  | [.one (.data (.ints .i64 l)), .one (.func 144 [])], [] => l.length ≤ 1000000000 ∧ K (.one (.bool (!l.all sampleG))) []
  | _, _ => False
def sigE (x : List Int) : Int := bif decide ((x.length : Int) ≤ 200) then (bif x.all sampleG then 0 else 2) else 8
def sigS : Spec := fun args σ K => match args, σ with
  | [.one (.data (.ints .i64 x))], [] => x.length ≤ 1000000000 ∧ K (.one (.int .i64 (sigE x))) []
  | _, _ => False
def meterG (len hop gate pct : Int) : Bool := withinG len 1 50 && (withinG hop 1 len && (withinG gate 0 1073676289 && withinG pct 0 100))
def meterS : Spec := fun args σ K => match args, σ with
  | [.agg [.int .i64 len, .int .i64 hop, .int .i64 gate, .int .i64 pct]], [] => K (.one (.int .i64 (bif meterG len hop gate pct then 0 else 2))) []
  | _, _ => False
def sqs : List Int → Int
  | [] => 0
  | a :: l => a * a + sqs l
def partG (x : List Int) (at_ len : Int) : List Int := (x.drop at_.toNat).take len.toNat
def enG (len hop : Int) (x : List Int) (at_ : Int) : List Int := if at_ + len ≤ x.length ∧ 1 ≤ hop ∧ 1 ≤ len then sqs (partG x at_ len) :: enG len hop x (at_ + hop) else []
termination_by ((x.length : Int) + 1 - at_).toNat
decreasing_by omega
def okX (x : List Int) (len hop : Int) : Prop := x.length ≤ 200 ∧ x.all sampleG = true ∧ 1 ≤ len ∧ len ≤ 50 ∧ 1 ≤ hop ∧ hop ≤ len
def enInL : LSpec := fun vs σ k => match vs, σ with
  | [.one (.data (.ints .i64 x)), .one (.ptr 0 1 0 0), .one .nil, .one (.int .i64 a), .one (.int .i64 s), .one (.data (.ints .i64 p)), .one (.int .i64 n), .one (.int .i64 i)], [.cells [.int .i64 len, .int .i64 hop, .int .i64 gate, .int .i64 pct]] =>
    (p.length ≤ 50 ∧ p.all sampleG = true ∧ n = p.length ∧ 0 ≤ i ∧ i ≤ n ∧ 0 ≤ s ∧ s ≤ 1073676289 * i) ∧
    k (.exit 2) [.one (.data (.ints .i64 x)), .one (.ptr 0 1 0 0), .one .nil, .one (.int .i64 a), .one (.int .i64 (s + sqs (p.drop i.toNat)))] [.cells [.int .i64 len, .int .i64 hop, .int .i64 gate, .int .i64 pct]]
  | [.one (.data (.ints .i64 x)), .one (.ptr 0 1 0 0), .one (.own 1 1), .one (.int .i64 a), .one (.int .i64 s), .one (.data (.ints .i64 p)), .one (.int .i64 n), .one (.int .i64 i)], [.cells [.int .i64 len, .int .i64 hop, .int .i64 gate, .int .i64 pct], .row 3 (.ints .i64 out)] =>
    (p.length ≤ 50 ∧ p.all sampleG = true ∧ n = p.length ∧ 0 ≤ i ∧ i ≤ n ∧ 0 ≤ s ∧ s ≤ 1073676289 * i) ∧
    k (.exit 2) [.one (.data (.ints .i64 x)), .one (.ptr 0 1 0 0), .one (.own 1 1), .one (.int .i64 a), .one (.int .i64 (s + sqs (p.drop i.toNat)))] [.cells [.int .i64 len, .int .i64 hop, .int .i64 gate, .int .i64 pct], .row 3 (.ints .i64 out)]
  | _, _ => False
def enOutL : LSpec := fun vs σ k => match vs, σ with
  | [.one (.data (.ints .i64 x)), .one (.ptr 0 1 0 0), .one .nil, .one (.int .i64 a)], [.cells [.int .i64 len, .int .i64 hop, .int .i64 gate, .int .i64 pct]] =>
    (okX x len hop ∧ 0 ≤ a ∧ a ≤ 250) ∧ bif (enG len hop x a).isEmpty then k (.exit 0) [.one .nil] [] else k (.exit 0) [.one (.own 0 1)] [.row 3 (.ints .i64 (enG len hop x a))]
  | [.one (.data (.ints .i64 x)), .one (.ptr 0 1 0 0), .one (.own 1 1), .one (.int .i64 a)], [.cells [.int .i64 len, .int .i64 hop, .int .i64 gate, .int .i64 pct], .row 3 (.ints .i64 out)] =>
    (okX x len hop ∧ 0 ≤ a ∧ a ≤ 250 ∧ out.length ≤ a) ∧ k (.exit 0) [.one (.own 0 1)] [.row 3 (.ints .i64 (out ++ enG len hop x a))]
  | _, _ => False
def enS : Spec := fun args σ K => match args, σ with
  | [.agg [.int .i64 len, .int .i64 hop, .int .i64 gate, .int .i64 pct], .one (.data (.ints .i64 x))], [] =>
    okX x len hop ∧ bif (enG len hop x 0).isEmpty then K (.one .nil) [] else K (.one (.own 0 1)) [.row 3 (.ints .i64 (enG len hop x 0))]
  | _, _ => False
def passG (len gate e : Int) : Bool := decide (e ≥ gate * len)
def passS : Spec := fun args σ K => match args, σ with
  | [.one (.int .i64 e), .one (.ptr 0 1 0 0)], [.cells [.int .i64 len, .int .i64 hop, .int .i64 gate, .int .i64 pct]] =>
    meterG len hop gate pct = true ∧ K (.one (.bool (passG len gate e))) [.cells [.int .i64 len, .int .i64 hop, .int .i64 gate, .int .i64 pct]]
  | _, _ => False
def cntG (len gate : Int) : List Int → Int
  | [] => 0
  | e :: l => (bif passG len gate e then 1 else 0) + cntG len gate l
def smG (len gate : Int) : List Int → Int
  | [] => 0
  | e :: l => (bif passG len gate e then e else 0) + smG len gate l
def okB (bs : List Int) : Prop := bs.length ≤ 200 ∧ ∀ e ∈ bs, 0 ≤ e ∧ e ≤ 53683814450
def keepG (len gate pct cnt sm e : Int) : Bool := passG len gate e && decide (e * 100 * cnt ≥ pct * sm)
def gatI (len gate pct cnt sm : Int) : Int → List Int → List Int
  | _, [] => []
  | i, e :: l => bif keepG len gate pct cnt sm e then i :: gatI len gate pct cnt sm (i + 1) l else gatI len gate pct cnt sm (i + 1) l
def gatG (len gate pct : Int) (bs : List Int) : List Int := gatI len gate pct (cntG len gate bs) (smG len gate bs) 0 bs
def cntL : LSpec := fun vs σ k => match vs, σ with
  | [.one (.data (.ints .i64 b0)), .one (.ptr 0 1 0 0), .one (.func 145 [0]), .one (.int .i64 c), .one (.int .i64 s), .one (.data (.ints .i64 bs)), .one (.int .i64 n), .one (.int .i64 i)], [.cells [.int .i64 len, .int .i64 hop, .int .i64 gate, .int .i64 pct]] =>
    (okB bs ∧ meterG len hop gate pct = true ∧ n = bs.length ∧ 0 ≤ i ∧ i ≤ n ∧ 0 ≤ c ∧ c ≤ i ∧ 0 ≤ s ∧ s ≤ 53683814450 * i) ∧
    k (.exit 0) [.one (.data (.ints .i64 b0)), .one (.ptr 0 1 0 0), .one (.func 145 [0]), .one (.int .i64 (c + cntG len gate (bs.drop i.toNat))), .one (.int .i64 (s + smG len gate (bs.drop i.toNat)))] [.cells [.int .i64 len, .int .i64 hop, .int .i64 gate, .int .i64 pct]]
  | _, _ => False
def okG (bs : List Int) (len hop gate pct c s : Int) : Prop := okB bs ∧ meterG len hop gate pct = true ∧ 0 ≤ c ∧ c ≤ 200 ∧ 0 ≤ s ∧ s ≤ 10736762890000
def gatL : LSpec := fun vs σ k => match vs, σ with
  | [.one (.ptr 0 1 0 0), .one (.func 145 [0]), .one (.int .i64 c), .one (.int .i64 s), .one .nil, .one (.data (.ints .i64 bs)), .one (.int .i64 n), .one (.int .i64 i)], [.cells [.int .i64 len, .int .i64 hop, .int .i64 gate, .int .i64 pct]] =>
    (okG bs len hop gate pct c s ∧ n = bs.length ∧ 0 ≤ i ∧ i ≤ n) ∧
    bif (gatI len gate pct c s i (bs.drop i.toNat)).isEmpty then k (.exit 2) [.one .nil] [] else k (.exit 2) [.one (.own 0 1)] [.row 3 (.ints .i64 (gatI len gate pct c s i (bs.drop i.toNat)))]
  | [.one (.ptr 0 1 0 0), .one (.func 145 [0]), .one (.int .i64 c), .one (.int .i64 s), .one (.own 1 1), .one (.data (.ints .i64 bs)), .one (.int .i64 n), .one (.int .i64 i)], [.cells [.int .i64 len, .int .i64 hop, .int .i64 gate, .int .i64 pct], .row 3 (.ints .i64 out)] =>
    (okG bs len hop gate pct c s ∧ n = bs.length ∧ 0 ≤ i ∧ i ≤ n ∧ out.length ≤ i) ∧
    k (.exit 2) [.one (.own 0 1)] [.row 3 (.ints .i64 (out ++ gatI len gate pct c s i (bs.drop i.toNat)))]
  | _, _ => False
def gatS : Spec := fun args σ K => match args, σ with
  | [.agg [.int .i64 len, .int .i64 hop, .int .i64 gate, .int .i64 pct], .one (.data (.ints .i64 bs))], [] =>
    (okB bs ∧ meterG len hop gate pct = true) ∧ bif (gatG len gate pct bs).isEmpty then K (.one .nil) [] else K (.one (.own 0 1)) [.row 3 (.ints .i64 (gatG len gate pct bs))]
  | _, _ => False
noncomputable abbrev Esig1 : Env := envOf Tryd.prog [(103, withinS)] [] 6 0
noncomputable abbrev Eidx : Env := envOf Tryd.prog [(144, oddSampleS)] [(2, .spec [0, 1, 7, 8] [4] idxOddL)] 19 0
noncomputable abbrev Ehas : Env := envOf Tryd.prog [(114, idxOddS)] [] 9 0
noncomputable abbrev Esig : Env := envOf Tryd.prog [(126, hasOddS), (104, unlessS), (98, firstS)] [] 15 0
noncomputable abbrev Emet : Env := envOf Tryd.prog [(103, withinS), (104, unlessS)] [] 26 0
noncomputable abbrev Een : Env := envOf Tryd.prog [] [(3, .spec [1, 2, 5, 6] [5] enOutL), (7, .spec [1, 2, 5, 6, 7, 27, 28, 29] [1, 2, 5, 6, 7] enInL)] 44 0
noncomputable abbrev Epass : Env := envOf Tryd.prog [] [] 11 1
noncomputable abbrev Egat : Env := envOf Tryd.prog [(145, passS)] [(4, .spec [1, 2, 5, 6, 7, 14, 15, 16] [1, 2, 5, 6, 7] cntL), (12, .spec [2, 5, 6, 7, 10, 29, 30, 31] [10] gatL)] 56 0
end Go.Ev

namespace Go.Ev
open Go Go.Proofs
set_option maxRecDepth 100000
theorem exsig1 (n : Int) (K : AV → List Blk → Prop) : evFn Esig1 Tryd.f144 [.one (.int .i64 n)] [] K = ( K (.one (.bool !(decide ((-32767 : Int) ≤ n) && decide (n ≤ 32767)))) []) := by kernel_rfl
theorem exidx (l : List Int) (K : AV → List Blk → Prop) : evFn Eidx Tryd.f114 [.one (.data (.ints .i64 l)), .one (.func 144 [])] [] K = ( (l.length ≤ 1000000000 ∧ (0 :Int) ≤ (0 :Int) ∧ (↑l.length : Int) = (↑l.length : Int)) ∧ bif l.all sampleG then K (.one (.int .i64 (-1 : Int))) [] else K (.one (.int .i64 (idxOdd 0 l))) []) := by kernel_rfl
theorem exidxa (l : List Int) (n i : Int) (K : Ex → List AV → List Blk → Prop) : evBody Eidx (lb Tryd.f114 0) [0, 1, 7, 8] [4] [.one (.data (.ints .i64 l)), .one (.func 144 []), .one (.int .i64 n), .one (.int .i64 i)] [] K = ( bif decide (i < n) then bif decide (0 ≤ i) && decide (i < (↑l.length : Int)) then bif decide (i.toNat + 0 < l.length) then bif !sampleG (l.getD (i.toNat + 0) 0) then K .ret [.one (.int .i64 i)] [] else K .normal [.one (.data (Row.ints .i64 l)), .one (.func (144 : FuncId) []), .one (.int .i64 n), .one (.int .i64 (IntKind.i64.wrap (i + 1)))] [] else False else False else K (.exit 0) [AV.any] []) := by kernel_rfl
theorem exhas (l : List Int) (K : AV → List Blk → Prop) : evFn Ehas Tryd.f126 [.one (.data (.ints .i64 l)), .one (.func 144 [])] [] K = ( l.length ≤ 1000000000 ∧ K (.one (.bool (decide (idxOdd 0 l ≥ 0)))) []) := by kernel_rfl
theorem exsig (x : List Int) (K : AV → List Blk → Prop) : evFn Esig Tryd.f99 [.one (.data (.ints .i64 x))] [] K = ( x.length ≤ 1000000000 ∧ [bif decide ((↑x.length : Int) ≤ 200) then (0 :Int) else (8 :Int), bif !!x.all sampleG then (0 :Int) else (2 :Int)].length ≤ 1000 ∧ K (.one (.int .i64 (firstE [bif decide ((↑x.length : Int) ≤ 200) then (0 :Int) else (8 :Int), bif !!x.all sampleG then (0 :Int) else (2 :Int)]))) []) := by kernel_rfl
theorem exmet (len hop gate pct : Int) (K : AV → List Blk → Prop) : evFn Emet Tryd.f25 [.agg [.int .i64 len, .int .i64 hop, .int .i64 gate, .int .i64 pct]] [] K = ( bif decide (1 ≤ len) && decide (len ≤ 50) then bif decide (1 ≤ hop) && decide (hop ≤ len) then bif decide (0 ≤ gate) && decide (gate ≤ 1073676289) then K (.one (.int .i64 (bif decide (0 ≤ pct) && decide (pct ≤ 100) then (0 :Int) else (2 :Int)))) [] else K (.one (.int .i64 2)) [] else K (.one (.int .i64 2)) [] else K (.one (.int .i64 2)) []) := by kernel_rfl
theorem exen (len hop gate pct : Int) (x : List Int) (K : AV → List Blk → Prop) : evFn Een Tryd.f101 [.agg [.int .i64 len, .int .i64 hop, .int .i64 gate, .int .i64 pct], .one (.data (.ints .i64 x))] [] K = ( ((x.length ≤ 200 ∧ x.all sampleG = true ∧ 1 ≤ len ∧ len ≤ 50 ∧ 1 ≤ hop ∧ hop ≤ len) ∧ (0 :Int) ≤ (0 :Int) ∧ (0 :Int) ≤ (250 :Int)) ∧ bif (enG len hop x 0).isEmpty then K (.one .nil) [] else K (.one (.own 0 1)) [Blk.row 3 (Row.ints .i64 (enG len hop x 0))]) := by kernel_rfl
theorem exena (len hop gate pct a : Int) (x : List Int) (K : Ex → List AV → List Blk → Prop) : evBody Een (lb Tryd.f101 0) [1, 2, 5, 6] [5] [.one (.data (.ints .i64 x)), .one (.ptr 0 1 0 0), .one .nil, .one (.int .i64 a)] [.cells [.int .i64 len, .int .i64 hop, .int .i64 gate, .int .i64 pct]] K = ( bif decide (IntKind.i64.wrap (a + len) ≤ (↑x.length : Int)) then bif decide (0 ≤ a) && (decide (0 ≤ IntKind.i64.wrap (a + len)) && (decide ((IntKind.i64.wrap (a + len)).toNat ≤ x.length) && decide (a.toNat ≤ (IntKind.i64.wrap (a + len)).toNat))) then ((List.take ((IntKind.i64.wrap (a + len)).toNat - a.toNat) (List.drop a.toNat x)).length ≤ 50 ∧ (List.take ((IntKind.i64.wrap (a + len)).toNat - a.toNat) (List.drop a.toNat x)).all sampleG = true ∧ (↑(List.take ((IntKind.i64.wrap (a + len)).toNat - a.toNat) (List.drop a.toNat x)).length : Int) = (↑(List.take ((IntKind.i64.wrap (a + len)).toNat - a.toNat) (List.drop a.toNat x)).length : Int) ∧ (0 :Int) ≤ (0 :Int) ∧ 0 ≤ (↑(List.take ((IntKind.i64.wrap (a + len)).toNat - a.toNat) (List.drop a.toNat x)).length : Int) ∧ (0 :Int) ≤ (0 :Int) ∧ (0 :Int) ≤ (0 :Int)) ∧ K .normal [.one (.data (Row.ints .i64 x)), .one (.ptr 0 1 0 0), .one (.own 1 1), .one (.int .i64 (IntKind.i64.wrap (a + hop)))] [Blk.cells [SV.int .i64 len, SV.int .i64 hop, SV.int .i64 gate, SV.int .i64 pct], Blk.row 3 (Row.ints .i64 [0 + sqs (List.take ((IntKind.i64.wrap (a + len)).toNat - a.toNat) (List.drop a.toNat x))])] else False else K (.exit 0) [.one .nil] []) := by kernel_rfl
theorem exenb (len hop gate pct a : Int) (x out : List Int) (K : Ex → List AV → List Blk → Prop) : evBody Een (lb Tryd.f101 0) [1, 2, 5, 6] [5] [.one (.data (.ints .i64 x)), .one (.ptr 0 1 0 0), .one (.own 1 1), .one (.int .i64 a)] [.cells [.int .i64 len, .int .i64 hop, .int .i64 gate, .int .i64 pct], .row 3 (.ints .i64 out)] K = ( bif decide (IntKind.i64.wrap (a + len) ≤ (↑x.length : Int)) then bif decide (0 ≤ a) && (decide (0 ≤ IntKind.i64.wrap (a + len)) && (decide ((IntKind.i64.wrap (a + len)).toNat ≤ x.length) && decide (a.toNat ≤ (IntKind.i64.wrap (a + len)).toNat))) then ((List.take ((IntKind.i64.wrap (a + len)).toNat - a.toNat) (List.drop a.toNat x)).length ≤ 50 ∧ (List.take ((IntKind.i64.wrap (a + len)).toNat - a.toNat) (List.drop a.toNat x)).all sampleG = true ∧ (↑(List.take ((IntKind.i64.wrap (a + len)).toNat - a.toNat) (List.drop a.toNat x)).length : Int) = (↑(List.take ((IntKind.i64.wrap (a + len)).toNat - a.toNat) (List.drop a.toNat x)).length : Int) ∧ (0 :Int) ≤ (0 :Int) ∧ 0 ≤ (↑(List.take ((IntKind.i64.wrap (a + len)).toNat - a.toNat) (List.drop a.toNat x)).length : Int) ∧ (0 :Int) ≤ (0 :Int) ∧ (0 :Int) ≤ (0 :Int)) ∧ bif decide ((out ++ [0 + sqs (List.take ((IntKind.i64.wrap (a + len)).toNat - a.toNat) (List.drop a.toNat x))]).length * 8 ≤ 140737488355328 ∧ (out ++ [0 + sqs (List.take ((IntKind.i64.wrap (a + len)).toNat - a.toNat) (List.drop a.toNat x))]).length ≤ 140737488355328) then K .normal [.one (.data (Row.ints .i64 x)), .one (.ptr 0 1 0 0), .one (.own 1 1), .one (.int .i64 (IntKind.i64.wrap (a + hop)))] [Blk.cells [SV.int .i64 len, SV.int .i64 hop, SV.int .i64 gate, SV.int .i64 pct], Blk.row 3 (Row.ints .i64 (out ++ [0 + sqs (List.take ((IntKind.i64.wrap (a + len)).toNat - a.toNat) (List.drop a.toNat x))]))] else False else False else K (.exit 0) [.one (.own 0 1)] [Blk.row 3 (Row.ints .i64 out)]) := by kernel_rfl
theorem exenc (len hop gate pct a s n i : Int) (x p : List Int) (K : Ex → List AV → List Blk → Prop) : evBody Een (lb Tryd.f101 1) [1, 2, 5, 6, 7, 27, 28, 29] [1, 2, 5, 6, 7] [.one (.data (.ints .i64 x)), .one (.ptr 0 1 0 0), .one .nil, .one (.int .i64 a), .one (.int .i64 s), .one (.data (.ints .i64 p)), .one (.int .i64 n), .one (.int .i64 i)] [.cells [.int .i64 len, .int .i64 hop, .int .i64 gate, .int .i64 pct]] K = ( bif decide (i < n) then bif decide (0 ≤ i) && decide (i < (↑p.length : Int)) then bif decide (i.toNat + 0 < p.length) then K .normal [.one (.data (Row.ints .i64 x)), .one (.ptr 0 1 0 0), .one .nil, .one (.int .i64 a), .one (.int .i64 (IntKind.i64.wrap (s + IntKind.i64.wrap (p.getD (i.toNat + 0) 0 * p.getD (i.toNat + 0) 0)))), .one (.data (Row.ints .i64 p)), .one (.int .i64 n), .one (.int .i64 (IntKind.i64.wrap (i + 1)))] [Blk.cells [SV.int .i64 len, SV.int .i64 hop, SV.int .i64 gate, SV.int .i64 pct]] else False else False else K (.exit 2) [.one (.data (Row.ints .i64 x)), .one (.ptr 0 1 0 0), .one .nil, .one (.int .i64 a), .one (.int .i64 s)] [Blk.cells [SV.int .i64 len, SV.int .i64 hop, SV.int .i64 gate, SV.int .i64 pct]]) := by kernel_rfl
theorem exend (len hop gate pct a s n i : Int) (x p out : List Int) (K : Ex → List AV → List Blk → Prop) : evBody Een (lb Tryd.f101 1) [1, 2, 5, 6, 7, 27, 28, 29] [1, 2, 5, 6, 7] [.one (.data (.ints .i64 x)), .one (.ptr 0 1 0 0), .one (.own 1 1), .one (.int .i64 a), .one (.int .i64 s), .one (.data (.ints .i64 p)), .one (.int .i64 n), .one (.int .i64 i)] [.cells [.int .i64 len, .int .i64 hop, .int .i64 gate, .int .i64 pct], .row 3 (.ints .i64 out)] K = ( bif decide (i < n) then bif decide (0 ≤ i) && decide (i < (↑p.length : Int)) then bif decide (i.toNat + 0 < p.length) then K .normal [.one (.data (Row.ints .i64 x)), .one (.ptr 0 1 0 0), .one (.own 1 1), .one (.int .i64 a), .one (.int .i64 (IntKind.i64.wrap (s + IntKind.i64.wrap (p.getD (i.toNat + 0) 0 * p.getD (i.toNat + 0) 0)))), .one (.data (Row.ints .i64 p)), .one (.int .i64 n), .one (.int .i64 (IntKind.i64.wrap (i + 1)))] [Blk.cells [SV.int .i64 len, SV.int .i64 hop, SV.int .i64 gate, SV.int .i64 pct], Blk.row 3 (Row.ints .i64 out)] else False else False else K (.exit 2) [.one (.data (Row.ints .i64 x)), .one (.ptr 0 1 0 0), .one (.own 1 1), .one (.int .i64 a), .one (.int .i64 s)] [Blk.cells [SV.int .i64 len, SV.int .i64 hop, SV.int .i64 gate, SV.int .i64 pct], Blk.row 3 (Row.ints .i64 out)]) := by kernel_rfl
theorem expass (len hop gate pct e : Int) (K : AV → List Blk → Prop) : evFn Epass Tryd.f145 [.one (.int .i64 e), .one (.ptr 0 1 0 0)] [.cells [.int .i64 len, .int .i64 hop, .int .i64 gate, .int .i64 pct]] K = ( K (.one (.bool (decide (e ≥ IntKind.i64.wrap (gate * len))))) [Blk.cells [SV.int .i64 len, SV.int .i64 hop, SV.int .i64 gate, SV.int .i64 pct]]) := by kernel_rfl
theorem exgat (len hop gate pct : Int) (bs : List Int) (K : AV → List Blk → Prop) : evFn Egat Tryd.f100 [.agg [.int .i64 len, .int .i64 hop, .int .i64 gate, .int .i64 pct], .one (.data (.ints .i64 bs))] [] K = ( ((bs.length ≤ 200 ∧ ∀ (e : Int), e ∈ bs → 0 ≤ e ∧ e ≤ 53683814450) ∧ meterG len hop gate pct = true ∧ (↑bs.length : Int) = (↑bs.length : Int) ∧ (0 :Int) ≤ (0 :Int) ∧ 0 ≤ (↑bs.length : Int) ∧ (0 :Int) ≤ (0 :Int) ∧ (0 :Int) ≤ (0 :Int) ∧ (0 :Int) ≤ (0 :Int) ∧ (0 :Int) ≤ (0 :Int)) ∧ (((bs.length ≤ 200 ∧ ∀ (e : Int), e ∈ bs → 0 ≤ e ∧ e ≤ 53683814450) ∧ meterG len hop gate pct = true ∧ (0 :Int) ≤ (0 :Int) + cntG len gate bs ∧ 0 + cntG len gate bs ≤ 200 ∧ (0 :Int) ≤ (0 :Int) + smG len gate bs ∧ 0 + smG len gate bs ≤ 10736762890000) ∧ (↑bs.length : Int) = (↑bs.length : Int) ∧ (0 :Int) ≤ (0 :Int) ∧ 0 ≤ (↑bs.length : Int)) ∧ bif (gatI len gate pct (0 + cntG len gate bs) (0 + smG len gate bs) 0 bs).isEmpty then K (.one .nil) [] else K (.one (.own 0 1)) [Blk.row 3 (Row.ints .i64 (gatI len gate pct (0 + cntG len gate bs) (0 + smG len gate bs) 0 bs))]) := by kernel_rfl
theorem exgata (len hop gate pct c s n i : Int) (b0 bs : List Int) (K : Ex → List AV → List Blk → Prop) : evBody Egat (lb Tryd.f100 0) [1, 2, 5, 6, 7, 14, 15, 16] [1, 2, 5, 6, 7] [.one (.data (.ints .i64 b0)), .one (.ptr 0 1 0 0), .one (.func 145 [0]), .one (.int .i64 c), .one (.int .i64 s), .one (.data (.ints .i64 bs)), .one (.int .i64 n), .one (.int .i64 i)] [.cells [.int .i64 len, .int .i64 hop, .int .i64 gate, .int .i64 pct]] K = ( bif decide (i < n) then bif decide (0 ≤ i) && decide (i < (↑bs.length : Int)) then bif decide (i.toNat + 0 < bs.length) then meterG len hop gate pct = true ∧ bif passG len gate (bs.getD (i.toNat + 0) 0) then K .normal [.one (.data (Row.ints .i64 b0)), .one (.ptr 0 1 0 0), .one (.func (145 : FuncId) [0]), .one (.int .i64 (IntKind.i64.wrap (c + 1))), .one (.int .i64 (IntKind.i64.wrap (s + bs.getD (i.toNat + 0) 0))), .one (.data (Row.ints .i64 bs)), .one (.int .i64 n), .one (.int .i64 (IntKind.i64.wrap (i + 1)))] [Blk.cells [SV.int .i64 len, SV.int .i64 hop, SV.int .i64 gate, SV.int .i64 pct]] else K .normal [.one (.data (Row.ints .i64 b0)), .one (.ptr 0 1 0 0), .one (.func (145 : FuncId) [0]), .one (.int .i64 c), .one (.int .i64 s), .one (.data (Row.ints .i64 bs)), .one (.int .i64 n), .one (.int .i64 (IntKind.i64.wrap (i + 1)))] [Blk.cells [SV.int .i64 len, SV.int .i64 hop, SV.int .i64 gate, SV.int .i64 pct]] else False else False else K (.exit 0) [.one (.data (Row.ints .i64 b0)), .one (.ptr 0 1 0 0), .one (.func (145 : FuncId) [0]), .one (.int .i64 c), .one (.int .i64 s)] [Blk.cells [SV.int .i64 len, SV.int .i64 hop, SV.int .i64 gate, SV.int .i64 pct]]) := by kernel_rfl
theorem exgatb (len hop gate pct c s n i : Int) (bs : List Int) (K : Ex → List AV → List Blk → Prop) : evBody Egat (lb Tryd.f100 1) [2, 5, 6, 7, 10, 29, 30, 31] [10] [.one (.ptr 0 1 0 0), .one (.func 145 [0]), .one (.int .i64 c), .one (.int .i64 s), .one .nil, .one (.data (.ints .i64 bs)), .one (.int .i64 n), .one (.int .i64 i)] [.cells [.int .i64 len, .int .i64 hop, .int .i64 gate, .int .i64 pct]] K = ( bif decide (i < n) then bif decide (0 ≤ i) && decide (i < (↑bs.length : Int)) then bif decide (i.toNat + 0 < bs.length) then meterG len hop gate pct = true ∧ bif passG len gate (bs.getD (i.toNat + 0) 0) then bif decide (IntKind.i64.wrap (IntKind.i64.wrap (bs.getD (i.toNat + 0) (0 :Int) * (100 :Int)) * c) ≥ IntKind.i64.wrap (pct * s)) then K .normal [.one (.ptr 0 1 0 0), .one (.func (145 : FuncId) [0]), .one (.int .i64 c), .one (.int .i64 s), .one (.own 1 1), .one (.data (Row.ints .i64 bs)), .one (.int .i64 n), .one (.int .i64 (IntKind.i64.wrap (i + 1)))] [Blk.cells [SV.int .i64 len, SV.int .i64 hop, SV.int .i64 gate, SV.int .i64 pct], Blk.row 3 (Row.ints .i64 [i])] else K .normal [.one (.ptr 0 1 0 0), .one (.func (145 : FuncId) [0]), .one (.int .i64 c), .one (.int .i64 s), .one .nil, .one (.data (Row.ints .i64 bs)), .one (.int .i64 n), .one (.int .i64 (IntKind.i64.wrap (i + 1)))] [Blk.cells [SV.int .i64 len, SV.int .i64 hop, SV.int .i64 gate, SV.int .i64 pct]] else K .normal [.one (.ptr 0 1 0 0), .one (.func (145 : FuncId) [0]), .one (.int .i64 c), .one (.int .i64 s), .one .nil, .one (.data (Row.ints .i64 bs)), .one (.int .i64 n), .one (.int .i64 (IntKind.i64.wrap (i + 1)))] [Blk.cells [SV.int .i64 len, SV.int .i64 hop, SV.int .i64 gate, SV.int .i64 pct]] else False else False else K (.exit 2) [.one .nil] []) := by kernel_rfl
theorem exgatc (len hop gate pct c s n i : Int) (bs out : List Int) (K : Ex → List AV → List Blk → Prop) : evBody Egat (lb Tryd.f100 1) [2, 5, 6, 7, 10, 29, 30, 31] [10] [.one (.ptr 0 1 0 0), .one (.func 145 [0]), .one (.int .i64 c), .one (.int .i64 s), .one (.own 1 1), .one (.data (.ints .i64 bs)), .one (.int .i64 n), .one (.int .i64 i)] [.cells [.int .i64 len, .int .i64 hop, .int .i64 gate, .int .i64 pct], .row 3 (.ints .i64 out)] K = ( bif decide (i < n) then bif decide (0 ≤ i) && decide (i < (↑bs.length : Int)) then bif decide (i.toNat + 0 < bs.length) then meterG len hop gate pct = true ∧ bif passG len gate (bs.getD (i.toNat + 0) 0) then bif decide (IntKind.i64.wrap (IntKind.i64.wrap (bs.getD (i.toNat + 0) (0 :Int) * (100 :Int)) * c) ≥ IntKind.i64.wrap (pct * s)) then bif decide ((out ++ [i]).length * 8 ≤ 140737488355328 ∧ (out ++ [i]).length ≤ 140737488355328) then K .normal [.one (.ptr 0 1 0 0), .one (.func (145 : FuncId) [0]), .one (.int .i64 c), .one (.int .i64 s), .one (.own 1 1), .one (.data (Row.ints .i64 bs)), .one (.int .i64 n), .one (.int .i64 (IntKind.i64.wrap (i + 1)))] [Blk.cells [SV.int .i64 len, SV.int .i64 hop, SV.int .i64 gate, SV.int .i64 pct], Blk.row 3 (Row.ints .i64 (out ++ [i]))] else False else K .normal [.one (.ptr 0 1 0 0), .one (.func (145 : FuncId) [0]), .one (.int .i64 c), .one (.int .i64 s), .one (.own 1 1), .one (.data (Row.ints .i64 bs)), .one (.int .i64 n), .one (.int .i64 (IntKind.i64.wrap (i + 1)))] [Blk.cells [SV.int .i64 len, SV.int .i64 hop, SV.int .i64 gate, SV.int .i64 pct], Blk.row 3 (Row.ints .i64 out)] else K .normal [.one (.ptr 0 1 0 0), .one (.func (145 : FuncId) [0]), .one (.int .i64 c), .one (.int .i64 s), .one (.own 1 1), .one (.data (Row.ints .i64 bs)), .one (.int .i64 n), .one (.int .i64 (IntKind.i64.wrap (i + 1)))] [Blk.cells [SV.int .i64 len, SV.int .i64 hop, SV.int .i64 gate, SV.int .i64 pct], Blk.row 3 (Row.ints .i64 out)] else False else False else K (.exit 2) [.one (.own 0 1)] [Blk.row 3 (Row.ints .i64 out)]) := by kernel_rfl
end Go.Ev

/-
  Chapter 9: the contracts of meters, energies and gates are kept.
-/
namespace Go.Ev
open Go Go.Proofs
attribute [local irreducible] evFn evBody evRound
set_option maxRecDepth 20000
theorem oksig1 : SpecOK Tryd.prog 144 oddSampleS := by
  refine specOK (n := 6) (m := 0) (lps := []) (.cons ok71 .nil) Tryd.func144 (by kernel_rfl) (by kernel_rfl) (noLoops (by kernel_rfl)) fun args σ K h => ?_
  unfold oddSampleS at h
  split at h
  · rename_i n
    rw [exsig1 n K]; exact h
  · exact h.elim
theorem lokidx : LoopOK Eidx (lb Tryd.f114 0) [0, 1, 7, 8] [4] idxOddL := by
  refine loopOK (.cons oksig1 .nil) (noInner (by kernel_rfl)) (fun vs _ => match vs with
    | [.one (.data (.ints .i64 l)), _, _, .one (.int .i64 i)] => l.length - i.toNat
    | _ => 0) fun vs σ k h => ?_
  unfold idxOddL at h
  split at h
  · rename_i l n i
    rw [exidxa l n i _]
    obtain ⟨⟨h1, h2, rfl⟩, h⟩ := h
    by_cases hi : i < l.length
    · have hw : IntKind.i64.wrap (i + 1) = i + 1 := wrap_id (by omega) (by omega)
      have hi' : i.toNat < l.length := by omega
      have hmu : l.length - (i + 1).toNat < l.length - i.toNat := by omega
      have e : idxOdd i (l.drop i.toNat) = bif !sampleG (l.getD i.toNat 0) then i else idxOdd (i + 1) (l.drop (i + 1).toNat) := by
        rw [drop_step 0 (by omega), show (i + 1).toNat = i.toNat + 1 by omega]
        rfl
      rw [all_step h2 hi, e] at h
      simp only [hi, hi', h2, hw, Nat.add_zero, decide_true, Bool.and_self, cond_true]
      cases hs : sampleG (l.getD i.toNat 0) with
      | true => rw [hs] at h; exact ⟨⟨⟨h1, by omega, rfl⟩, h⟩, hmu⟩
      | false => rw [hs] at h; exact h
    · rw [List.drop_eq_nil_of_le (by omega)] at h
      simp only [hi, decide_false, cond_false]
      exact h
  · exact h.elim
theorem idxOdd_none : ∀ {l : List Int} {i : Int}, l.all sampleG = true → idxOdd i l = -1
  | [], _, _ => rfl
  | b :: l, i, h => by
    simp only [List.all_cons, Bool.and_eq_true] at h
    simp only [idxOdd, h.1, Bool.not_true, cond_false]
    exact idxOdd_none h.2
theorem idxOdd_some : ∀ {l : List Int} {i : Int}, l.all sampleG = false → i ≤ idxOdd i l
  | [], _, h => by simp at h
  | b :: l, i, h => by
    simp only [idxOdd]
    cases hb : sampleG b with
    | false => exact Int.le_refl _
    | true =>
      simp only [List.all_cons, hb, Bool.true_and] at h
      have := idxOdd_some (i := i + 1) h
      simp only [Bool.not_true, cond_false]
      omega
theorem okidx : SpecOK Tryd.prog 114 idxOddS := by
  refine specOK (n := 19) (m := 0) (lps := [(2, .spec [0, 1, 7, 8] [4] idxOddL)]) (.cons oksig1 .nil) Tryd.func114 (by kernel_rfl) (by kernel_rfl) (theLoops (n := 1) (by kernel_rfl) fun i hi => ?_) fun args σ K h => ?_
  · match i, hi with
    | 0, _ => exact loopHyp_of (key := 2) (by kernel_rfl) rfl lokidx
  · unfold idxOddS at h
    split at h
    · rename_i l
      rw [exidx l K]
      obtain ⟨h1, h⟩ := h
      refine ⟨⟨h1, by omega, rfl⟩, ?_⟩
      cases hs : l.all sampleG with
      | false => exact h
      | true => rw [idxOdd_none hs] at h; exact h
    · exact h.elim
theorem okhas : SpecOK Tryd.prog 126 hasOddS := by
  refine specOK (n := 9) (m := 0) (lps := []) (.cons okidx .nil) Tryd.func126 (by kernel_rfl) (by kernel_rfl) (noLoops (by kernel_rfl)) fun args σ K h => ?_
  unfold hasOddS at h
  split at h
  · rename_i l
    rw [exhas l K]
    have e : decide (idxOdd 0 l ≥ 0) = !l.all sampleG := by
      cases hs : l.all sampleG with
      | false => exact decide_eq_true (idxOdd_some hs)
      | true => rw [idxOdd_none hs]; rfl
    rw [e]
    exact h
  · exact h.elim
theorem oksig : SpecOK Tryd.prog 99 sigS := by
  refine specOK (n := 15) (m := 0) (lps := []) (.cons okhas (.cons ok70 (.cons ok69 .nil))) Tryd.func99 (by kernel_rfl) (by kernel_rfl) (noLoops (by kernel_rfl)) fun args σ K h => ?_
  unfold sigS at h
  split at h
  · rename_i x
    rw [exsig x K]
    obtain ⟨h1, h⟩ := h
    refine ⟨h1, (by decide : (2 : Nat) ≤ 1000), ?_⟩
    unfold sigE at h
    generalize decide ((x.length : Int) ≤ 200) = a at *
    generalize x.all sampleG = b at *
    cases a <;> cases b <;> exact h
  · exact h.elim
theorem okmet : SpecOK Tryd.prog 25 meterS := by
  refine specOK (n := 26) (m := 0) (lps := []) (.cons ok71 (.cons ok70 .nil)) Tryd.func25 (by kernel_rfl) (by kernel_rfl) (noLoops (by kernel_rfl)) fun args σ K h => ?_
  unfold meterS at h
  split at h
  · rename_i len hop gate pct
    rw [exmet len hop gate pct K]
    unfold meterG withinG at h
    generalize (decide (1 ≤ len) && decide (len ≤ 50)) = a at *
    generalize (decide (1 ≤ hop) && decide (hop ≤ len)) = b at *
    generalize (decide (0 ≤ gate) && decide (gate ≤ 1073676289)) = c at *
    generalize (decide (0 ≤ pct) && decide (pct ≤ 100)) = d at *
    cases a <;> cases b <;> cases c <;> cases d <;> exact h
  · exact h.elim
theorem sq_range {v : Int} (h : -32767 ≤ v ∧ v ≤ 32767) : 0 ≤ v * v ∧ v * v ≤ 1073676289 := by
  by_cases h0 : 0 ≤ v
  · exact ⟨Int.mul_nonneg h0 h0, by have := Int.mul_le_mul h.2 h.2 h0 (by decide : (0 : Int) ≤ 32767); omega⟩
  · have e : v * v = (-v) * (-v) := by rw [Int.neg_mul_neg]
    rw [e]
    exact ⟨Int.mul_nonneg (by omega) (by omega), by have := Int.mul_le_mul (show -v ≤ 32767 by omega) (show -v ≤ 32767 by omega) (by omega) (by decide : (0 : Int) ≤ 32767); omega⟩
theorem all_get {l : List Int} (h : l.all sampleG = true) (i : Nat) : -32767 ≤ l.getD i 0 ∧ l.getD i 0 ≤ 32767 := by
  by_cases hi : i < l.length
  · rw [getD_of_lt hi]; exact sample_range (List.all_eq_true.1 h _ (List.getElem_mem hi))
  · rw [List.getD, List.getElem?_eq_none (by omega)]; exact ⟨by decide, by decide⟩
theorem sqs_step {p : List Int} {i : Nat} (h : i < p.length) : sqs (p.drop i) = p.getD i 0 * p.getD i 0 + sqs (p.drop (i + 1)) := by
  rw [drop_step 0 h]; rfl
theorem part_all {x : List Int} (h : x.all sampleG = true) (a len : Int) : (partG x a len).all sampleG = true :=
  List.all_eq_true.2 fun y hy => List.all_eq_true.1 h y (List.mem_of_mem_drop (List.mem_of_mem_take hy))
theorem enG_yes {len hop : Int} {x : List Int} {a : Int} (h : a + len ≤ x.length) (h1 : 1 ≤ hop) (h2 : 1 ≤ len) : enG len hop x a = sqs (partG x a len) :: enG len hop x (a + hop) := by
  rw [enG, if_pos ⟨h, h1, h2⟩]
theorem enG_no {len hop : Int} {x : List Int} {a : Int} (h : ¬ a + len ≤ x.length) : enG len hop x a = [] := by
  rw [enG, if_neg (fun h' => h h'.1)]
theorem lokenc : LoopOK Een (lb Tryd.f101 1) [1, 2, 5, 6, 7, 27, 28, 29] [1, 2, 5, 6, 7] enInL := by
  refine loopOK .nil (noInner (by kernel_rfl)) (fun vs _ => match vs with
    | [_, _, _, _, _, _, .one (.int .i64 n), .one (.int .i64 i)] => (n - i).toNat
    | _ => 0) fun vs σ k h => ?_
  unfold enInL at h
  split at h
  · rename_i x a s p n i len hop gate pct
    rw [exenc len hop gate pct a s n i x p _]
    obtain ⟨⟨h1, h2, rfl, h3, h4, h5, h6⟩, h⟩ := h
    by_cases hi : i < p.length
    · have hi' : i.toNat < p.length := by omega
      have hv := sq_range (all_get h2 i.toNat)
      have hmu : ((p.length : Int) - (i + 1)).toNat < ((p.length : Int) - i).toNat := by omega
      rw [sqs_step hi'] at h
      simp only [Nat.add_zero]
      rw [wrap_id (n := p.getD i.toNat 0 * p.getD i.toNat 0) (by omega) (by omega), wrap_id (n := s + p.getD i.toNat 0 * p.getD i.toNat 0) (by omega) (by omega), wrap_id (n := i + 1) (by omega) (by omega)]
      simp only [hi, hi', h3, decide_true, Bool.and_self, cond_true]
      refine ⟨⟨⟨h1, h2, rfl, by omega, by omega, by omega, by omega⟩, ?_⟩, hmu⟩
      rw [show (i + 1).toNat = i.toNat + 1 by omega, Int.add_assoc]
      exact h
    · rw [List.drop_eq_nil_of_le (by omega)] at h
      simp only [sqs, Int.add_zero] at h
      simp only [hi, decide_false, cond_false]
      exact h
  · rename_i x a s p n i len hop gate pct out
    rw [exend len hop gate pct a s n i x p out _]
    obtain ⟨⟨h1, h2, rfl, h3, h4, h5, h6⟩, h⟩ := h
    by_cases hi : i < p.length
    · have hi' : i.toNat < p.length := by omega
      have hv := sq_range (all_get h2 i.toNat)
      have hmu : ((p.length : Int) - (i + 1)).toNat < ((p.length : Int) - i).toNat := by omega
      rw [sqs_step hi'] at h
      simp only [Nat.add_zero]
      rw [wrap_id (n := p.getD i.toNat 0 * p.getD i.toNat 0) (by omega) (by omega), wrap_id (n := s + p.getD i.toNat 0 * p.getD i.toNat 0) (by omega) (by omega), wrap_id (n := i + 1) (by omega) (by omega)]
      simp only [hi, hi', h3, decide_true, Bool.and_self, cond_true]
      refine ⟨⟨⟨h1, h2, rfl, by omega, by omega, by omega, by omega⟩, ?_⟩, hmu⟩
      rw [show (i + 1).toNat = i.toNat + 1 by omega, Int.add_assoc]
      exact h
    · rw [List.drop_eq_nil_of_le (by omega)] at h
      simp only [sqs, Int.add_zero] at h
      simp only [hi, decide_false, cond_false]
      exact h
  · exact h.elim
theorem inneren : ∀ b' ∈ loopsOf (lb Tryd.f101 0), LoopHyp Een b' := by
  have hl : loopsOf (lb Tryd.f101 0) = [lb Tryd.f101 1] := by kernel_rfl
  rw [hl]
  intro b' hb
  rw [List.mem_singleton] at hb
  subst hb
  exact loopHyp_of (key := 7) (by kernel_rfl) rfl lokenc
theorem part_eq {x : List Int} {a len : Int} (ha : 0 ≤ a) (hl : 0 ≤ len) : List.take ((a + len).toNat - a.toNat) (List.drop a.toNat x) = partG x a len := by
  unfold partG
  rw [show (a + len).toNat - a.toNat = len.toNat by omega]
theorem lokena : LoopOK Een (lb Tryd.f101 0) [1, 2, 5, 6] [5] enOutL := by
  refine loopOK .nil inneren (fun vs _ => match vs with
    | [_, _, _, .one (.int .i64 a)] => (251 - a).toNat
    | _ => 0) fun vs σ k h => ?_
  unfold enOutL at h
  split at h
  · rename_i x a len hop gate pct
    rw [exena len hop gate pct a x _]
    obtain ⟨⟨⟨h1, h2, h3, h4, h5, h6⟩, h7, h8⟩, h⟩ := h
    rw [wrap_id (n := a + len) (by omega) (by omega), wrap_id (n := a + hop) (by omega) (by omega)]
    by_cases hi : a + len ≤ x.length
    · have hmu : (251 - (a + hop)).toNat < (251 - a).toNat := by omega
      rw [enG_yes hi h5 h3] at h
      have c1 : (0 : Int) ≤ a + len := by omega
      have c2 : (a + len).toNat ≤ x.length := by omega
      have c3 : a.toNat ≤ (a + len).toNat := by omega
      have hpl : (partG x a len).length ≤ 50 := by unfold partG; rw [List.length_take]; omega
      rw [part_eq h7 (by omega)]
      simp only [hi, h7, c1, c2, c3, Int.zero_add, decide_true, Bool.and_self, cond_true]
      refine ⟨⟨hpl, part_all h2 _ _, trivial, by decide, by omega, by decide, by decide⟩, ?_⟩
      exact ⟨⟨⟨⟨h1, h2, h3, h4, h5, h6⟩, by omega, by omega, by simp only [List.length_cons, List.length_nil]; omega⟩, h⟩, hmu⟩
    · rw [enG_no hi] at h
      rw [decide_eq_false hi]
      exact h
  · rename_i x a len hop gate pct out
    rw [exenb len hop gate pct a x out _]
    obtain ⟨⟨⟨h1, h2, h3, h4, h5, h6⟩, h7, h8, h9⟩, h⟩ := h
    rw [wrap_id (n := a + len) (by omega) (by omega), wrap_id (n := a + hop) (by omega) (by omega)]
    by_cases hi : a + len ≤ x.length
    · have hmu : (251 - (a + hop)).toNat < (251 - a).toNat := by omega
      rw [enG_yes hi h5 h3] at h
      have c1 : (0 : Int) ≤ a + len := by omega
      have c2 : (a + len).toNat ≤ x.length := by omega
      have c3 : a.toNat ≤ (a + len).toNat := by omega
      have hpl : (partG x a len).length ≤ 50 := by unfold partG; rw [List.length_take]; omega
      rw [part_eq h7 (by omega)]
      simp only [hi, h7, c1, c2, c3, Int.zero_add, decide_true, Bool.and_self, cond_true]
      refine ⟨⟨hpl, part_all h2 _ _, trivial, by decide, by omega, by decide, by decide⟩, ?_⟩
      have hlen : (out ++ [sqs (partG x a len)]).length = out.length + 1 := by simp
      rw [hlen, decide_eq_true (by omega), cond_true]
      refine ⟨⟨⟨⟨h1, h2, h3, h4, h5, h6⟩, by omega, by omega, by rw [hlen]; omega⟩, ?_⟩, hmu⟩
      rw [List.append_assoc]
      exact h
    · rw [enG_no hi] at h
      rw [decide_eq_false hi]
      rw [List.append_nil] at h
      exact h
  · exact h.elim
theorem oken : SpecOK Tryd.prog 101 enS := by
  refine specOK (n := 44) (m := 0) (lps := [(3, .spec [1, 2, 5, 6] [5] enOutL), (7, .spec [1, 2, 5, 6, 7, 27, 28, 29] [1, 2, 5, 6, 7] enInL)]) .nil Tryd.func101 (by kernel_rfl) (by kernel_rfl) (theLoops (n := 2) (by kernel_rfl) fun i hi => ?_) fun args σ K h => ?_
  · match i, hi with
    | 0, _ => exact loopHyp_of (key := 3) (by kernel_rfl) rfl lokena
    | 1, _ => exact loopHyp_of (key := 7) (by kernel_rfl) rfl lokenc
  · unfold enS at h
    split at h
    · rename_i len hop gate pct x
      rw [exen len hop gate pct x K]
      exact ⟨⟨h.1, by decide, by decide⟩, h.2⟩
    · exact h.elim
theorem meter_facts {len hop gate pct : Int} (h : meterG len hop gate pct = true) : 1 ≤ len ∧ len ≤ 50 ∧ 1 ≤ hop ∧ hop ≤ len ∧ 0 ≤ gate ∧ gate ≤ 1073676289 ∧ 0 ≤ pct ∧ pct ≤ 100 ∧ 0 ≤ gate * len ∧ gate * len ≤ 53683814450 := by
  unfold meterG withinG at h
  simp only [Bool.and_eq_true, decide_eq_true_eq] at h
  obtain ⟨⟨h1, h2⟩, ⟨h3, h4⟩, ⟨h5, h6⟩, h7, h8⟩ := h
  have := Int.mul_le_mul h6 h2 (by omega) (by decide : (0 : Int) ≤ 1073676289)
  exact ⟨h1, h2, h3, h4, h5, h6, h7, h8, Int.mul_nonneg h5 (by omega), by omega⟩
theorem okpass : SpecOK Tryd.prog 145 passS := by
  refine specOK (n := 11) (m := 1) (lps := []) .nil Tryd.func145 (by kernel_rfl) (by kernel_rfl) (noLoops (by kernel_rfl)) fun args σ K h => ?_
  unfold passS at h
  split at h
  · rename_i e len hop gate pct
    rw [expass len hop gate pct e K]
    obtain ⟨h1, h⟩ := h
    obtain ⟨_, _, _, _, _, _, _, _, f1, f2⟩ := meter_facts h1
    rw [wrap_id (n := gate * len) (by omega) (by omega)]
    exact h
  · exact h.elim
theorem okB_get {bs : List Int} (h : okB bs) (i : Nat) : 0 ≤ bs.getD i 0 ∧ bs.getD i 0 ≤ 53683814450 := getD_range (by decide) h.2 i
theorem cnt_step {len gate : Int} {bs : List Int} {i : Nat} (h : i < bs.length) : cntG len gate (bs.drop i) = (bif passG len gate (bs.getD i 0) then 1 else 0) + cntG len gate (bs.drop (i + 1)) := by
  rw [drop_step 0 h]; rfl
theorem sm_step {len gate : Int} {bs : List Int} {i : Nat} (h : i < bs.length) : smG len gate (bs.drop i) = (bif passG len gate (bs.getD i 0) then bs.getD i 0 else 0) + smG len gate (bs.drop (i + 1)) := by
  rw [drop_step 0 h]; rfl
theorem lokgata : LoopOK Egat (lb Tryd.f100 0) [1, 2, 5, 6, 7, 14, 15, 16] [1, 2, 5, 6, 7] cntL := by
  refine loopOK (.cons okpass .nil) (noInner (by kernel_rfl)) (fun vs _ => match vs with
    | [_, _, _, _, _, _, .one (.int .i64 n), .one (.int .i64 i)] => (n - i).toNat
    | _ => 0) fun vs σ k h => ?_
  unfold cntL at h
  split at h
  · rename_i b0 c s bs n i len hop gate pct
    rw [exgata len hop gate pct c s n i b0 bs _]
    obtain ⟨⟨h1, h2, rfl, h3, h4, h5, h6, h7, h8⟩, h⟩ := h
    have hbl := h1.1
    by_cases hi : i < bs.length
    · have hi' : i.toNat < bs.length := by omega
      have he := okB_get h1 i.toNat
      have hmu : ((bs.length : Int) - (i + 1)).toNat < ((bs.length : Int) - i).toNat := by omega
      rw [cnt_step hi', sm_step hi'] at h
      simp only [Nat.add_zero]
      rw [wrap_id (n := c + 1) (by omega) (by omega), wrap_id (n := s + bs.getD i.toNat 0) (by omega) (by omega), wrap_id (n := i + 1) (by omega) (by omega)]
      simp only [hi, hi', h3, decide_true, Bool.and_self, cond_true]
      refine ⟨h2, ?_⟩
      cases hp : passG len gate (bs.getD i.toNat 0) with
      | true =>
        rw [hp] at h
        refine ⟨⟨⟨h1, h2, rfl, by omega, by omega, by omega, by omega, by omega, by omega⟩, ?_⟩, hmu⟩
        rw [show (i + 1).toNat = i.toNat + 1 by omega, Int.add_assoc, Int.add_assoc]
        exact h
      | false =>
        rw [hp] at h
        simp only [cond_false, Int.zero_add] at h
        refine ⟨⟨⟨h1, h2, rfl, by omega, by omega, by omega, by omega, by omega, by omega⟩, ?_⟩, hmu⟩
        rw [show (i + 1).toNat = i.toNat + 1 by omega]
        exact h
    · rw [List.drop_eq_nil_of_le (by omega)] at h
      simp only [cntG, smG, Int.add_zero] at h
      simp only [hi, decide_false, cond_false]
      exact h
  · exact h.elim
theorem gat_step {len gate pct c s : Int} {bs : List Int} {i : Int} (h0 : 0 ≤ i) (h : i < bs.length) : gatI len gate pct c s i (bs.drop i.toNat) = bif keepG len gate pct c s (bs.getD i.toNat 0) then i :: gatI len gate pct c s (i + 1) (bs.drop (i + 1).toNat) else gatI len gate pct c s (i + 1) (bs.drop (i + 1).toNat) := by
  rw [drop_step 0 (show i.toNat < bs.length by omega), show (i + 1).toNat = i.toNat + 1 by omega]; rfl
theorem keep_cond {len hop gate pct c s e : Int} (hm : meterG len hop gate pct = true) (he : 0 ≤ e ∧ e ≤ 53683814450) (hc : 0 ≤ c ∧ c ≤ 200) (hs : 0 ≤ s ∧ s ≤ 10736762890000) :
    IntKind.i64.wrap (IntKind.i64.wrap (e * 100) * c) = e * 100 * c ∧ IntKind.i64.wrap (pct * s) = pct * s := by
  obtain ⟨_, _, _, _, _, _, p1, p2, _⟩ := meter_facts hm
  have b1 := Int.mul_le_mul (show e * 100 ≤ 5368381445000 by omega) hc.2 hc.1 (by decide : (0 : Int) ≤ 5368381445000)
  have b2 := Int.mul_nonneg (show 0 ≤ e * 100 by omega) hc.1
  have b3 := Int.mul_le_mul p2 hs.2 hs.1 (by decide : (0 : Int) ≤ 100)
  have b4 := Int.mul_nonneg p1 hs.1
  rw [wrap_id (n := e * 100) (by omega) (by omega), wrap_id (n := e * 100 * c) (by omega) (by omega), wrap_id (n := pct * s) (by omega) (by omega)]
  exact ⟨rfl, rfl⟩
theorem lokgatb : LoopOK Egat (lb Tryd.f100 1) [2, 5, 6, 7, 10, 29, 30, 31] [10] gatL := by
  refine loopOK (.cons okpass .nil) (noInner (by kernel_rfl)) (fun vs _ => match vs with
    | [_, _, _, _, _, _, .one (.int .i64 n), .one (.int .i64 i)] => (n - i).toNat
    | _ => 0) fun vs σ k h => ?_
  unfold gatL at h
  split at h
  · rename_i c s bs n i len hop gate pct
    rw [exgatb len hop gate pct c s n i bs _]
    obtain ⟨⟨⟨h1, h2, h5, h6, h7, h8⟩, rfl, h3, h4⟩, h⟩ := h
    have hbl := h1.1
    by_cases hi : i < bs.length
    · have hi' : i.toNat < bs.length := by omega
      have he := okB_get h1 i.toNat
      have hmu : ((bs.length : Int) - (i + 1)).toNat < ((bs.length : Int) - i).toNat := by omega
      obtain ⟨w1, w2⟩ := keep_cond h2 he ⟨h5, h6⟩ ⟨h7, h8⟩
      rw [gat_step h3 hi] at h
      simp only [Nat.add_zero]
      simp only [w1, w2]
      rw [wrap_id (n := i + 1) (by omega) (by omega)]
      simp only [hi, hi', h3, decide_true, Bool.and_self, cond_true]
      refine ⟨h2, ?_⟩
      unfold keepG at h
      cases hp : passG len gate (bs.getD i.toNat 0) with
      | true =>
        rw [hp, Bool.true_and] at h
        cases hq : decide (bs.getD i.toNat 0 * 100 * c ≥ pct * s) with
        | true =>
          rw [hq] at h
          exact ⟨⟨⟨⟨h1, h2, h5, h6, h7, h8⟩, rfl, by omega, by omega, by simp only [List.length_cons, List.length_nil]; omega⟩, h⟩, hmu⟩
        | false =>
          rw [hq] at h
          exact ⟨⟨⟨⟨h1, h2, h5, h6, h7, h8⟩, rfl, by omega, by omega⟩, h⟩, hmu⟩
      | false =>
        rw [hp, Bool.false_and] at h
        exact ⟨⟨⟨⟨h1, h2, h5, h6, h7, h8⟩, rfl, by omega, by omega⟩, h⟩, hmu⟩
    · rw [List.drop_eq_nil_of_le (by omega)] at h
      simp only [hi, decide_false, cond_false]
      exact h
  · rename_i c s bs n i len hop gate pct out
    rw [exgatc len hop gate pct c s n i bs out _]
    obtain ⟨⟨⟨h1, h2, h5, h6, h7, h8⟩, rfl, h3, h4, h9⟩, h⟩ := h
    have hbl := h1.1
    by_cases hi : i < bs.length
    · have hi' : i.toNat < bs.length := by omega
      have he := okB_get h1 i.toNat
      have hmu : ((bs.length : Int) - (i + 1)).toNat < ((bs.length : Int) - i).toNat := by omega
      obtain ⟨w1, w2⟩ := keep_cond h2 he ⟨h5, h6⟩ ⟨h7, h8⟩
      rw [gat_step h3 hi] at h
      have hlen : (out ++ [i]).length = out.length + 1 := by simp
      simp only [Nat.add_zero]
      simp only [w1, w2]
      rw [wrap_id (n := i + 1) (by omega) (by omega), hlen]
      simp only [hi, hi', h3, decide_true, Bool.and_self, cond_true]
      refine ⟨h2, ?_⟩
      unfold keepG at h
      cases hp : passG len gate (bs.getD i.toNat 0) with
      | true =>
        rw [hp, Bool.true_and] at h
        cases hq : decide (bs.getD i.toNat 0 * 100 * c ≥ pct * s) with
        | true =>
          rw [hq] at h
          simp only [cond_true]
          rw [decide_eq_true (by omega), cond_true]
          refine ⟨⟨⟨⟨h1, h2, h5, h6, h7, h8⟩, rfl, by omega, by omega, by rw [hlen]; omega⟩, ?_⟩, hmu⟩
          rw [List.append_assoc]
          exact h
        | false =>
          rw [hq] at h
          exact ⟨⟨⟨⟨h1, h2, h5, h6, h7, h8⟩, rfl, by omega, by omega, by omega⟩, h⟩, hmu⟩
      | false =>
        rw [hp, Bool.false_and] at h
        exact ⟨⟨⟨⟨h1, h2, h5, h6, h7, h8⟩, rfl, by omega, by omega, by omega⟩, h⟩, hmu⟩
    · rw [List.drop_eq_nil_of_le (by omega)] at h
      simp only [gatI, List.append_nil] at h
      simp only [hi, decide_false, cond_false]
      exact h
  · exact h.elim
theorem cnt_range {len gate : Int} : ∀ {bs : List Int}, (∀ e ∈ bs, 0 ≤ e ∧ e ≤ 53683814450) → 0 ≤ cntG len gate bs ∧ cntG len gate bs ≤ bs.length ∧ 0 ≤ smG len gate bs ∧ smG len gate bs ≤ 53683814450 * bs.length
  | [], _ => by simp [cntG, smG]
  | e :: l, h => by
    obtain ⟨i1, i2, i3, i4⟩ := cnt_range (bs := l) (len := len) (gate := gate) fun x hx => h x (List.mem_cons_of_mem e hx)
    have he := h e (by simp)
    simp only [cntG, smG, List.length_cons]
    cases passG len gate e <;> simp only [cond_true, cond_false] <;> omega
theorem okgat : SpecOK Tryd.prog 100 gatS := by
  refine specOK (n := 56) (m := 0) (lps := [(4, .spec [1, 2, 5, 6, 7, 14, 15, 16] [1, 2, 5, 6, 7] cntL), (12, .spec [2, 5, 6, 7, 10, 29, 30, 31] [10] gatL)]) (.cons okpass .nil) Tryd.func100 (by kernel_rfl) (by kernel_rfl) (theLoops (n := 2) (by kernel_rfl) fun i hi => ?_) fun args σ K h => ?_
  · match i, hi with
    | 0, _ => exact loopHyp_of (key := 4) (by kernel_rfl) rfl lokgata
    | 1, _ => exact loopHyp_of (key := 12) (by kernel_rfl) rfl lokgatb
  · unfold gatS at h
    split at h
    · rename_i len hop gate pct bs
      rw [exgat len hop gate pct bs K]
      obtain ⟨⟨h1, h2⟩, h⟩ := h
      obtain ⟨r1, r2, r3, r4⟩ := cnt_range (len := len) (gate := gate) h1.2
      have hbl := h1.1
      simp only [Int.zero_add]
      exact ⟨⟨h1, h2, trivial, by decide, by omega, by decide, by decide, by decide, by decide⟩, ⟨⟨h1, h2, r1, by omega, r3, by omega⟩, trivial, by decide, by omega⟩, h⟩
    · exact h.elim
end Go.Ev
