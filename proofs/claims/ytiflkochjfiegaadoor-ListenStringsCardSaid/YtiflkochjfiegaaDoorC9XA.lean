/-
  Part of the proof of a law.
-/
import Derived.Test.YtiflkochjfiegaaDoorC9SC
import Derived.Test.YtiflkochjfiegaaDoorCStr2
import Derived.KernelRfl
import Derived.Test.YtiflkochjfiegaaDoorEvTab
import Derived.Test.YtiflkochjfiegaaDoorC9XS
import Derived.Lib.ItoaLen
set_option linter.unusedVariables false
set_option linter.unusedSimpArgs false
set_option linter.unusedSectionVars false
/-
  Chapter 9, contracts: strings of events.
-/
namespace Go.Ev
open Go Go.Proofs
set_option maxRecDepth 20000
set_option linter.unusedVariables false
def strcutS : Spec := fun args σ K => match args, σ with
  | [.one (.str s), .one (.str [c])], [] => s.length ≤ 1000000 ∧ K (.tup [.one (.str (bef c s)), .one (.str (aft c s)), .one (.bool (hasB c s))]) []
  | _, _ => False
def itoaS : Spec := fun args σ K => match args, σ with
  | [.one (.int .i64 n)], [] => (-9223372036854775808 ≤ n ∧ n ≤ 9223372036854775807) ∧ K (.one (.str (itoG n))) []
  | _, _ => False
def decL : LSpec := fun vs σ k => match vs, σ with
  | [.one (.int .i64 n), .one (.str s), .one (.str g)], [] => ((digF n ++ s).length ≤ 1000 ∧ -9223372036854775808 ≤ n ∧ n ≤ 9223372036854775807) ∧ k (.exit 0) [.one (.str (digF n ++ s)), .one (.str g)] []
  | _, _ => False
def numL : LSpec := fun vs σ k => match vs, σ with
  | [.one (.str s), .one (.int .i64 a), .one (.int .i64 n), .one (.int .i64 i)], [] => (s.length ≤ 1000000 ∧ 0 ≤ i ∧ i ≤ s.length ∧ s.length ≤ i + 18 ∧ 0 ≤ n ∧ (n + 1) * 10 ^ (s.length - i.toNat) ≤ 1000000000000000000) ∧
    bif digB (s.drop i.toNat) then k (.exit 0) [.any, .any, .one (.int .i64 a), .one (.int .i64 (digN (s.drop i.toNat) n))] [] else k .ret [.one (.int .i64 0), .one (.bool false), .one (.int .i64 a), .one (.int .i64 (digX (s.drop i.toNat) n))] []
  | _, _ => False
def numS : Spec := fun args σ K => match args, σ with
  | [.one (.str s), .one (.int .i64 d)], [] => (s.length ≤ 1000000 ∧ 0 ≤ d ∧ d ≤ 18) ∧ K (.tup [.one (.int .i64 (numV s d)), .one (.bool (numB s d))]) []
  | _, _ => False
def frmG (c : UInt8) : List UInt8 → Nat → Nat → Nat
  | [], _, f => f
  | x :: r, i, f => if x = c then frmG c r (i + 1) (i + 1) else frmG c r (i + 1) f
def pcsR (c : UInt8) (s : List UInt8) : List UInt8 → Nat → Nat → List (List UInt8)
  | [], _, _ => []
  | x :: r, i, f => if x = c then ((s.drop f).take (i - f)) :: pcsR c s r (i + 1) (i + 1) else pcsR c s r (i + 1) f
def one1 (s : List UInt8) : List D := [.str s]
def cutBL : LSpec := fun vs σ k => match vs, σ with
  | [.one (.str s), .one (.int .u8 c), .one .nil, .one (.int .i64 f), .one (.int .i64 i)], [] => (s.length ≤ 1000000 ∧ 0 ≤ c ∧ c < 256 ∧ 0 ≤ f ∧ f ≤ i ∧ i ≤ s.length) ∧
    bif (pcsR (UInt8.ofNat c.toNat) s (s.drop i.toNat) i.toNat f.toNat).isEmpty then k (.exit 0) [.one (.str s), .one .nil, .one (.int .i64 (frmG (UInt8.ofNat c.toNat) (s.drop i.toNat) i.toNat f.toNat))] [] else
      k (.exit 0) [.one (.str s), .one (.own 0 1), .one (.int .i64 (frmG (UInt8.ofNat c.toNat) (s.drop i.toNat) i.toNat f.toNat))] [.row 9 (.recs [.str] ((pcsR (UInt8.ofNat c.toNat) s (s.drop i.toNat) i.toNat f.toNat).map one1))]
  | [.one (.str s), .one (.int .u8 c), .one (.own 0 1), .one (.int .i64 f), .one (.int .i64 i)], [.row 9 (.recs [.str] l)] => (s.length ≤ 1000000 ∧ 0 ≤ c ∧ c < 256 ∧ 0 ≤ f ∧ f ≤ i ∧ i ≤ s.length ∧ l.length ≤ i) ∧
      k (.exit 0) [.one (.str s), .one (.own 0 1), .one (.int .i64 (frmG (UInt8.ofNat c.toNat) (s.drop i.toNat) i.toNat f.toNat))] [.row 9 (.recs [.str] (l ++ (pcsR (UInt8.ofNat c.toNat) s (s.drop i.toNat) i.toNat f.toNat).map one1))]
  | _, _ => False
def cutBS : Spec := fun args σ K => match args, σ with
  | [.one (.str s), .one (.int .u8 c)], [] => (s.length ≤ 1000000 ∧ 0 ≤ c ∧ c < 256) ∧ K (.one (.own 0 1)) [.row 9 (.recs [.str] ((pcs (UInt8.ofNat c.toNat) s).map one1))]
  | _, _ => False
def cutDS : Spec := fun args σ K => match args, σ with
  | [.one (.str s), .one (.int .u8 c)], [] => (s.length ≤ 1000000 ∧ 0 ≤ c ∧ c < 256) ∧ K (.one (.data (.recs [.str] ((pcs (UInt8.ofNat c.toNat) s).map one1)))) []
  | _, _ => False
def decS : Spec := fun args σ K => match args, σ with
  | [.one (.int .i64 n)], [] => (-9223372036854775808 ≤ n ∧ n ≤ 9223372036854775807) ∧ K (.one (.str (itoG n))) []
  | _, _ => False
def wdsS : Spec := fun args σ K => match args, σ with
  | [], [] => K (.one (.own 0 1)) [.row 9 (.recs [.str] [[.str [112, 108, 97, 121]], [.str [115, 116, 111, 112]], [.str [97, 110, 115, 119, 101, 114]], [.str [114, 101, 112, 101, 97, 116]]])]
  | _, _ => False
def wdsDS : Spec := fun args σ K => match args, σ with
  | [], [] => K (.one (.data (.recs [.str] [[.str [112, 108, 97, 121]], [.str [115, 116, 111, 112]], [.str [97, 110, 115, 119, 101, 114]], [.str [114, 101, 112, 101, 97, 116]]]))) []
  | _, _ => False
def wrdG (k : Int) : List UInt8 := bif k == 0 then [112, 108, 97, 121] else (bif k == 1 then [115, 116, 111, 112] else (bif k == 2 then [97, 110, 115, 119, 101, 114] else [114, 101, 112, 101, 97, 116]))
def fmtG (k n : Int) : List UInt8 := bif withinG k 0 3 then (bif k == 0 || k == 2 then (wrdG k ++ [32]) ++ itoG n else wrdG k) else []
def fmtS : Spec := fun args σ K => match args, σ with
  | [.agg [.int .i64 k, .int .i64 n]], [] => (-9223372036854775808 ≤ n ∧ n ≤ 9223372036854775807) ∧ K (.one (.str (fmtG k n))) []
  | _, _ => False
def kndG (w : List UInt8) : Int := bif [112, 108, 97, 121] == w then 0 else (bif [115, 116, 111, 112] == w then 1 else (bif [97, 110, 115, 119, 101, 114] == w then 2 else (bif [114, 101, 112, 101, 97, 116] == w then 3 else -1)))
def nmsG (k : Int) : Int := bif k == 0 then 3 else (bif k == 2 then 2 else 0)
def dgG (r : List UInt8) : Option Int := match r with | [d] => if 48 ≤ d.toNat ∧ d.toNat ≤ 57 then some ((d.toNat : Int) - 48) else none | _ => none
def parN (k : Int) (r : List UInt8) : Int × Int × Int := match dgG r with
  | some n => if n < nmsG k then (k, n, 0) else (0, 0, 2)
  | none => (0, 0, 7)
def parG (s : List UInt8) : Int × Int × Int := if kndG (bef 32 s) = -1 then (0, 0, 7) else
  match decide (0 < nmsG (kndG (bef 32 s))), hasB 32 s with
  | true, true => parN (kndG (bef 32 s)) (aft 32 s)
  | false, false => (kndG (bef 32 s), 0, 0)
  | _, _ => (0, 0, 7)
def parS : Spec := fun args σ K => match args, σ with
  | [.one (.str s)], [] => s.length ≤ 1000000 ∧ K (.tup [.agg [.int .i64 (parG s).1, .int .i64 (parG s).2.1], .one (.int .i64 ((parG s).2.2))]) []
  | _, _ => False
noncomputable abbrev Edec : Env := envOf Tryd.prog [(38, sizeS)] [(6, .spec [0, 3, 4] [3, 4] decL)] 27 0
noncomputable abbrev Enum : Env := envOf Tryd.prog [] [(8, .spec [0, 6, 7, 8] [4, 5, 6, 7] numL)] 70 0
noncomputable abbrev Ectb : Env := envOf Tryd.prog [] [(4, .spec [0, 1, 5, 6, 7] [0, 5, 6] cutBL)] 34 0
noncomputable abbrev Ewds : Env := envOf Tryd.prog [] [] 2 0
noncomputable abbrev Efmt : Env := envOf Tryd.prog [(137, kdS), (103, withinS), (138, itoaS)] [] 29 0
noncomputable abbrev Erfm : Env := envOf Tryd.prog [(30, withinS), (141, wdsDS), (143, decS)] [] 30 0
noncomputable abbrev Eprs : Env := envOf Tryd.prog [(136, strcutS), (137, kdS)] [(3, .unroll 5)] 64 0
noncomputable abbrev Erpr : Env := envOf Tryd.prog [(140, cutDS), (141, wdsDS), (142, numS), (97, evES)] [(3, .unroll 5)] 75 0
end Go.Ev

namespace Go.Ev
open Go Go.Proofs
set_option maxRecDepth 100000
theorem exdec (n : Int) (K : AV → List Blk → Prop) : evFn Edec Tryd.f143 [.one (.int .i64 n)] [] K = ( bif n == 0 then K (.one (.str [(48 : UInt8)])) [] else bif decide (n < 0) then ((digF n ++ []).length ≤ 1000 ∧ (-9223372036854775808 : Int) ≤ n ∧ n ≤ 9223372036854775807) ∧ bif decide (1 + (digF n ++ []).length ≤ 140737488355328) then K (.one (.str ((45 : UInt8) :: (digF n ++ [])))) [] else False else ((digF n ++ []).length ≤ 1000 ∧ (-9223372036854775808 : Int) ≤ n ∧ n ≤ 9223372036854775807) ∧ bif decide (0 + (digF n ++ []).length ≤ 140737488355328) then K (.one (.str (digF n ++ []))) [] else False) := by kernel_rfl
theorem exdecl0a (n : Int) (s g : List UInt8) (K : Ex → List AV → List Blk → Prop) : evBody Edec (lb Tryd.f143 0) [0, 3, 4] [3, 4] [.one (.int .i64 n), .one (.str s), .one (.str g)] [] K = ( bif n != 0 then bif decide ([UInt8.ofNat (IntKind.u8.wrap (IntKind.i64.wrap (48 + sizeG (n.tmod 10)))).toNat].length + s.length ≤ 140737488355328) then K .normal [.one (.int .i64 (IntKind.i64.wrap (n.tdiv 10))), .one (.str (UInt8.ofNat (IntKind.u8.wrap (IntKind.i64.wrap (48 + sizeG (n.tmod 10)))).toNat :: s)), .one (.str g)] [] else False else K (.exit 0) [.one (.str s), .one (.str g)] []) := by kernel_rfl
def exnum_x0 (s : List UInt8) (d : Int) (K : AV → List Blk → Prop) : Prop := (
 bif (↑s.length : Int) == (0 : Int) then K (AV.tup [TV.one (SV.int IntKind.i64 (0 : Int)), TV.one (SV.bool false)]) []
 else
 bif decide (IntKind.i64.wrap ((↑s.length : Int) - (0 : Int)) > d) then
 K (AV.tup [TV.one (SV.int IntKind.i64 (0 : Int)), TV.one (SV.bool false)]) []
 else
 bif decide ((0 : Int) ≤ (0 : Int)) && decide ((0 : Nat) < s.length) then
 bif (↑(s.getD (0 : Nat) (0 : UInt8)).toNat : Int) == (48 : Int) then
 bif decide ((↑s.length : Int) > (1 : Int)) then
 K (AV.tup [TV.one (SV.int IntKind.i64 (0 : Int)), TV.one (SV.bool false)]) []
 else
 (s.length ≤ (1000000 : Nat) ∧
 (0 : Int) ≤ (0 : Int) ∧
 (0 : Int) ≤ (↑s.length : Int) ∧
 (↑s.length : Int) ≤ (18 : Int) ∧
 (0 : Int) ≤ (0 : Int) ∧
 (1 : Int) * (10 : Int) ^ (s.length - (0 : Nat)) ≤ (1000000000000000000 : Int)) ∧
 bif digB s then K (AV.tup [TV.one (SV.int IntKind.i64 (digN s (0 : Int))), TV.one (SV.bool true)]) []
 else K (AV.tup [TV.one (SV.int IntKind.i64 (0 : Int)), TV.one (SV.bool false)]) []
 else
 (s.length ≤ (1000000 : Nat) ∧
 (0 : Int) ≤ (0 : Int) ∧
 (0 : Int) ≤ (↑s.length : Int) ∧
 (↑s.length : Int) ≤ (18 : Int) ∧
 (0 : Int) ≤ (0 : Int) ∧
 (1 : Int) * (10 : Int) ^ (s.length - (0 : Nat)) ≤ (1000000000000000000 : Int)) ∧
 bif digB s then K (AV.tup [TV.one (SV.int IntKind.i64 (digN s (0 : Int))), TV.one (SV.bool true)]) []
 else K (AV.tup [TV.one (SV.int IntKind.i64 (0 : Int)), TV.one (SV.bool false)]) []
 else False)
theorem exnum (s : List UInt8) (d : Int) (K : AV → List Blk → Prop) : evFn Enum Tryd.f142 [.one (.str s), .one (.int .i64 d)] [] K = ( bif decide ((↑s.length : Int) > 0) then bif decide ((0 :Int) ≤ (0 :Int)) && decide (0 < s.length) then bif (↑(s.getD 0 (0 : UInt8)).toNat : Int) == 45 then bif (↑s.length : Int) == 1 then K (AV.tup [.one (.int .i64 0), .one (.bool false)]) [] else bif decide (IntKind.i64.wrap ((↑s.length : Int) - 1) > d) then K (AV.tup [.one (.int .i64 0), .one (.bool false)]) [] else bif decide ((0 :Int) ≤ (1 :Int)) && decide (1 < s.length) then bif (↑(s.getD 1 (0 : UInt8)).toNat : Int) == 48 then bif decide ((↑s.length : Int) > 1) then K (AV.tup [.one (.int .i64 0), .one (.bool false)]) [] else (s.length ≤ 1000000 ∧ (0 :Int) ≤ (1 :Int) ∧ 1 ≤ (↑s.length : Int) ∧ (↑s.length : Int) ≤ 19 ∧ (0 :Int) ≤ (0 :Int) ∧ (1 :Int) * (10 :Int) ^ (s.length - 1) ≤ 1000000000000000000) ∧ bif digB (List.drop 1 s) then K (AV.tup [.one (.int .i64 (IntKind.i64.wrap (0 - digN (List.drop 1 s) 0))), .one (.bool true)]) [] else K (AV.tup [.one (.int .i64 0), .one (.bool false)]) [] else (s.length ≤ 1000000 ∧ (0 :Int) ≤ (1 :Int) ∧ 1 ≤ (↑s.length : Int) ∧ (↑s.length : Int) ≤ 19 ∧ (0 :Int) ≤ (0 :Int) ∧ (1 :Int) * (10 :Int) ^ (s.length - 1) ≤ 1000000000000000000) ∧ bif digB (List.drop 1 s) then K (AV.tup [.one (.int .i64 (IntKind.i64.wrap (0 - digN (List.drop 1 s) 0))), .one (.bool true)]) [] else K (AV.tup [.one (.int .i64 0), .one (.bool false)]) [] else False else exnum_x0 s d K else False else exnum_x0 s d K) := by kernel_rfl
theorem exnuml0a (s : List UInt8) (a n i : Int) (K : Ex → List AV → List Blk → Prop) : evBody Enum (lb Tryd.f142 0) [0, 6, 7, 8] [4, 5, 6, 7] [.one (.str s), .one (.int .i64 a), .one (.int .i64 n), .one (.int .i64 i)] [] K = ( bif decide (i < (↑s.length : Int)) then bif decide (0 ≤ i) && decide (i.toNat < s.length) then bif decide ((↑(s.getD i.toNat (0 : UInt8)).toNat : Int) < 48) then K .ret [.one (.int .i64 0), .one (.bool false), .one (.int .i64 a), .one (.int .i64 n)] [] else bif decide (0 ≤ i) && decide (i.toNat < s.length) then bif decide ((↑(s.getD i.toNat (0 : UInt8)).toNat : Int) > 57) then K .ret [.one (.int .i64 0), .one (.bool false), .one (.int .i64 a), .one (.int .i64 n)] [] else bif decide (0 ≤ i) && decide (i.toNat < s.length) then K .normal [.one (.str s), .one (.int .i64 a), .one (.int .i64 (IntKind.i64.wrap (IntKind.i64.wrap (10 * n) + IntKind.i64.wrap (IntKind.u8.wrap ((↑(s.getD i.toNat (0 : UInt8)).toNat : Int) - 48))))), .one (.int .i64 (IntKind.i64.wrap (i + 1)))] [] else False else False else False else K (.exit 0) [AV.any, AV.any, .one (.int .i64 a), .one (.int .i64 n)] []) := by kernel_rfl
theorem exctb (s : List UInt8) (c : Int) (K : AV → List Blk → Prop) : evFn Ectb Tryd.f140 [.one (.str s), .one (.int .u8 c)] [] K = ( (s.length ≤ 1000000 ∧ 0 ≤ c ∧ c < 256 ∧ (0 :Int) ≤ (0 :Int) ∧ (0 :Int) ≤ (0 :Int) ∧ 0 ≤ (↑s.length : Int)) ∧ bif (pcsR (UInt8.ofNat c.toNat) s s 0 0).isEmpty then bif decide (0 ≤ (↑(frmG (UInt8.ofNat c.toNat) s 0 0) : Int)) && (decide (s.length ≤ s.length) && decide ((↑(frmG (UInt8.ofNat c.toNat) s 0 0) : Int).toNat ≤ s.length)) then K (.one (.own 0 1)) [Blk.row 9 (Row.recs [CK.str] [[D.str (List.take (s.length - (↑(frmG (UInt8.ofNat c.toNat) s 0 0) : Int).toNat) (List.drop (↑(frmG (UInt8.ofNat c.toNat) s 0 0) : Int).toNat s))]])] else False else bif decide (0 ≤ (↑(frmG (UInt8.ofNat c.toNat) s 0 0) : Int)) && (decide (s.length ≤ s.length) && decide ((↑(frmG (UInt8.ofNat c.toNat) s 0 0) : Int).toNat ≤ s.length)) then bif decide ((List.map one1 (pcsR (UInt8.ofNat c.toNat) s s 0 0) ++ [[D.str (List.take (s.length - (↑(frmG (UInt8.ofNat c.toNat) s 0 0) : Int).toNat) (List.drop (↑(frmG (UInt8.ofNat c.toNat) s 0 0) : Int).toNat s))]]).length * 16 ≤ 140737488355328 ∧ (List.map one1 (pcsR (UInt8.ofNat c.toNat) s s 0 0) ++ [[D.str (List.take (s.length - (↑(frmG (UInt8.ofNat c.toNat) s 0 0) : Int).toNat) (List.drop (↑(frmG (UInt8.ofNat c.toNat) s 0 0) : Int).toNat s))]]).length ≤ 140737488355328) then K (.one (.own 0 1)) [Blk.row 9 (Row.recs [CK.str] (List.map one1 (pcsR (UInt8.ofNat c.toNat) s s 0 0) ++ [[D.str (List.take (s.length - (↑(frmG (UInt8.ofNat c.toNat) s 0 0) : Int).toNat) (List.drop (↑(frmG (UInt8.ofNat c.toNat) s 0 0) : Int).toNat s))]]))] else False else False) := by kernel_rfl
theorem exctbl0a (s : List UInt8) (c f i : Int) (K : Ex → List AV → List Blk → Prop) : evBody Ectb (lb Tryd.f140 0) [0, 1, 5, 6, 7] [0, 5, 6] [.one (.str s), .one (.int .u8 c), .one .nil, .one (.int .i64 f), .one (.int .i64 i)] [] K = ( bif decide (i < (↑s.length : Int)) then bif decide (0 ≤ i) && decide (i.toNat < s.length) then bif (↑(s.getD i.toNat (0 : UInt8)).toNat : Int) == c then bif decide (0 ≤ f) && (decide (0 ≤ i) && (decide (i.toNat ≤ s.length) && decide (f.toNat ≤ i.toNat))) then K .normal [.one (.str s), .one (.int IntKind.u8 c), .one (.own 0 1), .one (.int .i64 (IntKind.i64.wrap (i + 1))), .one (.int .i64 (IntKind.i64.wrap (i + 1)))] [Blk.row 9 (Row.recs [CK.str] [[D.str (List.take (i.toNat - f.toNat) (List.drop f.toNat s))]])] else False else K .normal [.one (.str s), .one (.int IntKind.u8 c), .one .nil, .one (.int .i64 f), .one (.int .i64 (IntKind.i64.wrap (i + 1)))] [] else False else K (.exit 0) [.one (.str s), .one .nil, .one (.int .i64 f)] []) := by kernel_rfl
theorem exctbl0b (s : List UInt8) (c f i : Int) (l : List (List D)) (K : Ex → List AV → List Blk → Prop) : evBody Ectb (lb Tryd.f140 0) [0, 1, 5, 6, 7] [0, 5, 6] [.one (.str s), .one (.int .u8 c), .one (.own 0 1), .one (.int .i64 f), .one (.int .i64 i)] [.row 9 (.recs [.str] l)] K = ( bif decide (i < (↑s.length : Int)) then bif decide (0 ≤ i) && decide (i.toNat < s.length) then bif (↑(s.getD i.toNat (0 : UInt8)).toNat : Int) == c then bif decide (0 ≤ f) && (decide (0 ≤ i) && (decide (i.toNat ≤ s.length) && decide (f.toNat ≤ i.toNat))) then bif decide ((l ++ [[D.str (List.take (i.toNat - f.toNat) (List.drop f.toNat s))]]).length * 16 ≤ 140737488355328 ∧ (l ++ [[D.str (List.take (i.toNat - f.toNat) (List.drop f.toNat s))]]).length ≤ 140737488355328) then K .normal [.one (.str s), .one (.int IntKind.u8 c), .one (.own 0 1), .one (.int .i64 (IntKind.i64.wrap (i + 1))), .one (.int .i64 (IntKind.i64.wrap (i + 1)))] [Blk.row 9 (Row.recs [CK.str] (l ++ [[D.str (List.take (i.toNat - f.toNat) (List.drop f.toNat s))]]))] else False else False else K .normal [.one (.str s), .one (.int IntKind.u8 c), .one (.own 0 1), .one (.int .i64 f), .one (.int .i64 (IntKind.i64.wrap (i + 1)))] [Blk.row 9 (Row.recs [CK.str] l)] else False else K (.exit 0) [.one (.str s), .one (.own 0 1), .one (.int .i64 f)] [Blk.row 9 (Row.recs [CK.str] l)]) := by kernel_rfl
theorem exwds (K : AV → List Blk → Prop) : evFn Ewds Tryd.f141 [] [] K = ( K (.one (.own 0 1)) [Blk.row 9 (Row.recs [CK.str] [[D.str [(112 : UInt8), (108 : UInt8), (97 : UInt8), (121 : UInt8)]], [D.str [(115 : UInt8), (116 : UInt8), (111 : UInt8), (112 : UInt8)]], [D.str [(97 : UInt8), (110 : UInt8), (115 : UInt8), (119 : UInt8), (101 : UInt8), (114 : UInt8)]], [D.str [(114 : UInt8), (101 : UInt8), (112 : UInt8), (101 : UInt8), (97 : UInt8), (116 : UInt8)]]])]) := by kernel_rfl
def exfmt_x0 (k n : Int) (K : AV → List Blk → Prop) : Prop := (
 bif decide ((0 : Int) ≤ k) && decide (k < (4 : Int)) then
 bif k == (0 : Int) then
 ((-9223372036854775808 : Int) ≤ n ∧ n ≤ (9223372036854775807 : Int)) ∧
 bif decide ((5 : Nat) + (itoG n).length ≤ (140737488355328 : Nat)) then
 K (AV.one (SV.str ((112 : UInt8) :: (108 : UInt8) :: (97 : UInt8) :: (121 : UInt8) :: (32 : UInt8) :: itoG n)))
 []
 else False
 else
 bif k == (1 : Int) then
 ((-9223372036854775808 : Int) ≤ n ∧ n ≤ (9223372036854775807 : Int)) ∧
 bif decide ((5 : Nat) + (itoG n).length ≤ (140737488355328 : Nat)) then
 K
 (AV.one
 (SV.str ((115 : UInt8) :: (116 : UInt8) :: (111 : UInt8) :: (112 : UInt8) :: (32 : UInt8) :: itoG n)))
 []
 else False
 else
 bif k == (2 : Int) then
 ((-9223372036854775808 : Int) ≤ n ∧ n ≤ (9223372036854775807 : Int)) ∧
 bif decide ((7 : Nat) + (itoG n).length ≤ (140737488355328 : Nat)) then
 K
 (AV.one
 (SV.str
 ((97 : UInt8) ::
 (110 : UInt8) ::
 (115 : UInt8) :: (119 : UInt8) :: (101 : UInt8) :: (114 : UInt8) :: (32 : UInt8) :: itoG n)))
 []
 else False
 else
 ((-9223372036854775808 : Int) ≤ n ∧ n ≤ (9223372036854775807 : Int)) ∧
 bif decide ((7 : Nat) + (itoG n).length ≤ (140737488355328 : Nat)) then
 K
 (AV.one
 (SV.str
 ((114 : UInt8) ::
 (101 : UInt8) ::
 (112 : UInt8) :: (101 : UInt8) :: (97 : UInt8) :: (116 : UInt8) :: (32 : UInt8) :: itoG n)))
 []
 else False
 else False)
theorem exfmt (k n : Int) (K : AV → List Blk → Prop) : evFn Efmt Tryd.f88 [.agg [.int .i64 k, .int .i64 n]] [] K = ( bif !(decide (0 ≤ k) && decide (k ≤ 3)) then K (.one (.str [])) [] else bif decide (0 ≤ k) && decide (k < 4) then bif k == 0 then exfmt_x0 k n K else bif k == 1 then K (.one (.str [(115 : UInt8), (116 : UInt8), (111 : UInt8), (112 : UInt8)])) [] else bif k == 2 then exfmt_x0 k n K else K (.one (.str [(114 : UInt8), (101 : UInt8), (112 : UInt8), (101 : UInt8), (97 : UInt8), (116 : UInt8)])) [] else False) := by kernel_rfl
def exrfm_x0 (k n : Int) (K : AV → List Blk → Prop) : Prop := (
 bif decide ((0 : Int) ≤ k) && decide (k < (4 : Int)) then
 bif decide ((0 : Nat) < (1 : Nat)) && decide (k.toNat < (4 : Nat)) then
 bif
 decide
 ((([[D.str [(112 : UInt8), (108 : UInt8), (97 : UInt8), (121 : UInt8)]],
 [D.str [(115 : UInt8), (116 : UInt8), (111 : UInt8), (112 : UInt8)]],
 [D.str
 [(97 : UInt8), (110 : UInt8), (115 : UInt8), (119 : UInt8), (101 : UInt8),
 (114 : UInt8)]],
 [D.str
 [(114 : UInt8), (101 : UInt8), (112 : UInt8), (101 : UInt8), (97 : UInt8),
 (116 : UInt8)]]].getD
 k.toNat []).getD
 (0 : Nat) (D.int (0 : Int))).toStr.length +
 (1 : Nat) ≤
 (140737488355328 : Nat)) then
 ((-9223372036854775808 : Int) ≤ n ∧ n ≤ (9223372036854775807 : Int)) ∧
 bif
 decide
 (((([[D.str [(112 : UInt8), (108 : UInt8), (97 : UInt8), (121 : UInt8)]],
 [D.str [(115 : UInt8), (116 : UInt8), (111 : UInt8), (112 : UInt8)]],
 [D.str
 [(97 : UInt8), (110 : UInt8), (115 : UInt8), (119 : UInt8), (101 : UInt8),
 (114 : UInt8)]],
 [D.str
 [(114 : UInt8), (101 : UInt8), (112 : UInt8), (101 : UInt8), (97 : UInt8),
 (116 : UInt8)]]].getD
 k.toNat []).getD
 (0 : Nat) (D.int (0 : Int))).toStr ++
 [(32 : UInt8)]).length +
 (itoG n).length ≤
 (140737488355328 : Nat)) then
 K
 (AV.one
 (SV.str
 ((([[D.str [(112 : UInt8), (108 : UInt8), (97 : UInt8), (121 : UInt8)]],
 [D.str [(115 : UInt8), (116 : UInt8), (111 : UInt8), (112 : UInt8)]],
 [D.str
 [(97 : UInt8), (110 : UInt8), (115 : UInt8), (119 : UInt8), (101 : UInt8),
 (114 : UInt8)]],
 [D.str
 [(114 : UInt8), (101 : UInt8), (112 : UInt8), (101 : UInt8), (97 : UInt8),
 (116 : UInt8)]]].getD
 k.toNat []).getD
 (0 : Nat) (D.int (0 : Int))).toStr ++
 [(32 : UInt8)] ++
 itoG n)))
 []
 else False
 else False
 else False
 else False)
theorem exrfm (k n : Int) (K : AV → List Blk → Prop) : evFn Erfm Tryd.f96 [.agg [.int .i64 k, .int .i64 n]] [] K = ( bif !(decide (0 ≤ k) && decide (k ≤ 3)) then K (.one (.str [])) [] else bif k == 0 then exrfm_x0 k n K else bif k == 2 then exrfm_x0 k n K else bif decide (0 ≤ k) && decide (k < 4) then bif decide (0 < 1) && decide (k.toNat < 4) then K (.one (.str (([[D.str [(112 : UInt8), (108 : UInt8), (97 : UInt8), (121 : UInt8)]], [D.str [(115 : UInt8), (116 : UInt8), (111 : UInt8), (112 : UInt8)]], [D.str [(97 : UInt8), (110 : UInt8), (115 : UInt8), (119 : UInt8), (101 : UInt8), (114 : UInt8)]], [D.str [(114 : UInt8), (101 : UInt8), (112 : UInt8), (101 : UInt8), (97 : UInt8), (116 : UInt8)]]].getD k.toNat []).getD 0 (D.int 0)).toStr)) [] else False else False) := by kernel_rfl
def exprs_x0 (s : List UInt8) (K : AV → List Blk → Prop) : Prop := (
 bif
 ![(114 : UInt8), (101 : UInt8), (112 : UInt8), (101 : UInt8), (97 : UInt8), (116 : UInt8)] ==
 bef (32 : UInt8) s then
 K
 (AV.tup
 [TV.agg [SV.int IntKind.i64 (0 : Int), SV.int IntKind.i64 (0 : Int)], TV.one (SV.int IntKind.i64 (7 : Int))])
 []
 else
 bif !false == hasB (32 : UInt8) s then
 K
 (AV.tup
 [TV.agg [SV.int IntKind.i64 (0 : Int), SV.int IntKind.i64 (0 : Int)], TV.one (SV.int IntKind.i64 (7 : Int))])
 []
 else
 bif !hasB (32 : UInt8) s then
 K
 (AV.tup
 [TV.agg [SV.int IntKind.i64 (3 : Int), SV.int IntKind.i64 (0 : Int)], TV.one (SV.int IntKind.i64 (0 : Int))])
 []
 else
 bif (↑(aft (32 : UInt8) s).length : Int) != (1 : Int) then
 K
 (AV.tup
 [TV.agg [SV.int IntKind.i64 (0 : Int), SV.int IntKind.i64 (0 : Int)],
 TV.one (SV.int IntKind.i64 (7 : Int))])
 []
 else
 bif decide ((0 : Int) ≤ (0 : Int)) && decide ((0 : Nat) < (aft (32 : UInt8) s).length) then
 bif decide ((↑((aft (32 : UInt8) s).getD (0 : Nat) (0 : UInt8)).toNat : Int) < (48 : Int)) then
 K
 (AV.tup
 [TV.agg [SV.int IntKind.i64 (0 : Int), SV.int IntKind.i64 (0 : Int)],
 TV.one (SV.int IntKind.i64 (7 : Int))])
 []
 else
 bif decide ((0 : Int) ≤ (0 : Int)) && decide ((0 : Nat) < (aft (32 : UInt8) s).length) then
 bif decide ((↑((aft (32 : UInt8) s).getD (0 : Nat) (0 : UInt8)).toNat : Int) > (57 : Int)) then
 K
 (AV.tup
 [TV.agg [SV.int IntKind.i64 (0 : Int), SV.int IntKind.i64 (0 : Int)],
 TV.one (SV.int IntKind.i64 (7 : Int))])
 []
 else
 bif decide ((0 : Int) ≤ (0 : Int)) && decide ((0 : Nat) < (aft (32 : UInt8) s).length) then
 bif
 decide
 (IntKind.i64.wrap
 (IntKind.u8.wrap
 ((↑((aft (32 : UInt8) s).getD (0 : Nat) (0 : UInt8)).toNat : Int) - (48 : Int))) ≥
 (0 : Int)) then
 K
 (AV.tup
 [TV.agg [SV.int IntKind.i64 (0 : Int), SV.int IntKind.i64 (0 : Int)],
 TV.one (SV.int IntKind.i64 (2 : Int))])
 []
 else
 K
 (AV.tup
 [TV.agg
 [SV.int IntKind.i64 (3 : Int),
 SV.int IntKind.i64
 (IntKind.i64.wrap
 (IntKind.u8.wrap
 ((↑((aft (32 : UInt8) s).getD (0 : Nat) (0 : UInt8)).toNat : Int) - (48 : Int))))],
 TV.one (SV.int IntKind.i64 (0 : Int))])
 []
 else False
 else False
 else False)
def exprs_x1 (s : List UInt8) (K : AV → List Blk → Prop) : Prop := (
 bif
 ![(97 : UInt8), (110 : UInt8), (115 : UInt8), (119 : UInt8), (101 : UInt8), (114 : UInt8)] ==
 bef (32 : UInt8) s then
 exprs_x0 s K
 else
 bif !true == hasB (32 : UInt8) s then exprs_x0 s K
 else
 bif !hasB (32 : UInt8) s then
 K
 (AV.tup
 [TV.agg [SV.int IntKind.i64 (2 : Int), SV.int IntKind.i64 (0 : Int)], TV.one (SV.int IntKind.i64 (0 : Int))])
 []
 else
 bif (↑(aft (32 : UInt8) s).length : Int) != (1 : Int) then
 K
 (AV.tup
 [TV.agg [SV.int IntKind.i64 (0 : Int), SV.int IntKind.i64 (0 : Int)],
 TV.one (SV.int IntKind.i64 (7 : Int))])
 []
 else
 bif decide ((0 : Int) ≤ (0 : Int)) && decide ((0 : Nat) < (aft (32 : UInt8) s).length) then
 bif decide ((↑((aft (32 : UInt8) s).getD (0 : Nat) (0 : UInt8)).toNat : Int) < (48 : Int)) then
 K
 (AV.tup
 [TV.agg [SV.int IntKind.i64 (0 : Int), SV.int IntKind.i64 (0 : Int)],
 TV.one (SV.int IntKind.i64 (7 : Int))])
 []
 else
 bif decide ((0 : Int) ≤ (0 : Int)) && decide ((0 : Nat) < (aft (32 : UInt8) s).length) then
 bif decide ((↑((aft (32 : UInt8) s).getD (0 : Nat) (0 : UInt8)).toNat : Int) > (57 : Int)) then
 K
 (AV.tup
 [TV.agg [SV.int IntKind.i64 (0 : Int), SV.int IntKind.i64 (0 : Int)],
 TV.one (SV.int IntKind.i64 (7 : Int))])
 []
 else
 bif decide ((0 : Int) ≤ (0 : Int)) && decide ((0 : Nat) < (aft (32 : UInt8) s).length) then
 bif
 decide
 (IntKind.i64.wrap
 (IntKind.u8.wrap
 ((↑((aft (32 : UInt8) s).getD (0 : Nat) (0 : UInt8)).toNat : Int) - (48 : Int))) ≥
 (2 : Int)) then
 K
 (AV.tup
 [TV.agg [SV.int IntKind.i64 (0 : Int), SV.int IntKind.i64 (0 : Int)],
 TV.one (SV.int IntKind.i64 (2 : Int))])
 []
 else
 K
 (AV.tup
 [TV.agg
 [SV.int IntKind.i64 (2 : Int),
 SV.int IntKind.i64
 (IntKind.i64.wrap
 (IntKind.u8.wrap
 ((↑((aft (32 : UInt8) s).getD (0 : Nat) (0 : UInt8)).toNat : Int) - (48 : Int))))],
 TV.one (SV.int IntKind.i64 (0 : Int))])
 []
 else False
 else False
 else False)
def exprs_x2 (s : List UInt8) (K : AV → List Blk → Prop) : Prop := (
 bif ![(115 : UInt8), (116 : UInt8), (111 : UInt8), (112 : UInt8)] == bef (32 : UInt8) s then exprs_x1 s K
 else
 bif !false == hasB (32 : UInt8) s then exprs_x1 s K
 else
 bif !hasB (32 : UInt8) s then
 K
 (AV.tup
 [TV.agg [SV.int IntKind.i64 (1 : Int), SV.int IntKind.i64 (0 : Int)], TV.one (SV.int IntKind.i64 (0 : Int))])
 []
 else
 bif (↑(aft (32 : UInt8) s).length : Int) != (1 : Int) then
 K
 (AV.tup
 [TV.agg [SV.int IntKind.i64 (0 : Int), SV.int IntKind.i64 (0 : Int)],
 TV.one (SV.int IntKind.i64 (7 : Int))])
 []
 else
 bif decide ((0 : Int) ≤ (0 : Int)) && decide ((0 : Nat) < (aft (32 : UInt8) s).length) then
 bif decide ((↑((aft (32 : UInt8) s).getD (0 : Nat) (0 : UInt8)).toNat : Int) < (48 : Int)) then
 K
 (AV.tup
 [TV.agg [SV.int IntKind.i64 (0 : Int), SV.int IntKind.i64 (0 : Int)],
 TV.one (SV.int IntKind.i64 (7 : Int))])
 []
 else
 bif decide ((0 : Int) ≤ (0 : Int)) && decide ((0 : Nat) < (aft (32 : UInt8) s).length) then
 bif decide ((↑((aft (32 : UInt8) s).getD (0 : Nat) (0 : UInt8)).toNat : Int) > (57 : Int)) then
 K
 (AV.tup
 [TV.agg [SV.int IntKind.i64 (0 : Int), SV.int IntKind.i64 (0 : Int)],
 TV.one (SV.int IntKind.i64 (7 : Int))])
 []
 else
 bif decide ((0 : Int) ≤ (0 : Int)) && decide ((0 : Nat) < (aft (32 : UInt8) s).length) then
 bif
 decide
 (IntKind.i64.wrap
 (IntKind.u8.wrap
 ((↑((aft (32 : UInt8) s).getD (0 : Nat) (0 : UInt8)).toNat : Int) - (48 : Int))) ≥
 (0 : Int)) then
 K
 (AV.tup
 [TV.agg [SV.int IntKind.i64 (0 : Int), SV.int IntKind.i64 (0 : Int)],
 TV.one (SV.int IntKind.i64 (2 : Int))])
 []
 else
 K
 (AV.tup
 [TV.agg
 [SV.int IntKind.i64 (1 : Int),
 SV.int IntKind.i64
 (IntKind.i64.wrap
 (IntKind.u8.wrap
 ((↑((aft (32 : UInt8) s).getD (0 : Nat) (0 : UInt8)).toNat : Int) - (48 : Int))))],
 TV.one (SV.int IntKind.i64 (0 : Int))])
 []
 else False
 else False
 else False)
theorem exprs (s : List UInt8) (K : AV → List Blk → Prop) : evFn Eprs Tryd.f87 [.one (.str s)] [] K = ( s.length ≤ 1000000 ∧ bif ![(112 : UInt8), (108 : UInt8), (97 : UInt8), (121 : UInt8)] == bef (32 : UInt8) s then exprs_x2 s K else bif !true == hasB (32 : UInt8) s then exprs_x2 s K else bif !hasB (32 : UInt8) s then K (AV.tup [TV.agg [SV.int .i64 0, SV.int .i64 0], .one (.int .i64 0)]) [] else bif (↑(aft (32 : UInt8) s).length : Int) != 1 then K (AV.tup [TV.agg [SV.int .i64 0, SV.int .i64 0], .one (.int .i64 7)]) [] else bif decide ((0 :Int) ≤ (0 :Int)) && decide (0 < (aft (32 : UInt8) s).length) then bif decide ((↑((aft (32 : UInt8) s).getD 0 (0 : UInt8)).toNat : Int) < 48) then K (AV.tup [TV.agg [SV.int .i64 0, SV.int .i64 0], .one (.int .i64 7)]) [] else bif decide ((0 :Int) ≤ (0 :Int)) && decide (0 < (aft (32 : UInt8) s).length) then bif decide ((↑((aft (32 : UInt8) s).getD 0 (0 : UInt8)).toNat : Int) > 57) then K (AV.tup [TV.agg [SV.int .i64 0, SV.int .i64 0], .one (.int .i64 7)]) [] else bif decide ((0 :Int) ≤ (0 :Int)) && decide (0 < (aft (32 : UInt8) s).length) then bif decide (IntKind.i64.wrap (IntKind.u8.wrap ((↑((aft (32 : UInt8) s).getD 0 (0 : UInt8)).toNat : Int) - 48)) ≥ 3) then K (AV.tup [TV.agg [SV.int .i64 0, SV.int .i64 0], .one (.int .i64 2)]) [] else K (AV.tup [TV.agg [SV.int .i64 0, SV.int .i64 (IntKind.i64.wrap (IntKind.u8.wrap ((↑((aft (32 : UInt8) s).getD 0 (0 : UInt8)).toNat : Int) - 48)))], .one (.int .i64 0)]) [] else False else False else False) := by kernel_rfl
def exrpr_x0 (s : List UInt8) (K : AV → List Blk → Prop) : Prop := (
 bif
 decide ((0 : Int) ≤ (0 : Int)) &&
 decide ((0 : Int) < (↑(List.map one1 (pcs (UInt8.ofNat (32 : Nat)) s)).length : Int)) then
 bif
 decide ((0 : Nat) < (1 : Nat)) &&
 decide ((0 : Nat) < (List.map one1 (pcs (UInt8.ofNat (32 : Nat)) s)).length) then
 bif
 !(((List.map one1 (pcs (UInt8.ofNat (32 : Nat)) s)).getD (0 : Nat) []).getD (0 : Nat)
 (D.int (0 : Int))).toStr ==
 [(114 : UInt8), (101 : UInt8), (112 : UInt8), (101 : UInt8), (97 : UInt8), (116 : UInt8)] then
 K
 (AV.tup
 [TV.agg [SV.int IntKind.i64 (0 : Int), SV.int IntKind.i64 (0 : Int)], TV.one (SV.int IntKind.i64 (7 : Int))])
 []
 else
 bif (↑(List.map one1 (pcs (UInt8.ofNat (32 : Nat)) s)).length : Int) != (1 : Int) then
 K
 (AV.tup
 [TV.agg [SV.int IntKind.i64 (0 : Int), SV.int IntKind.i64 (0 : Int)],
 TV.one (SV.int IntKind.i64 (7 : Int))])
 []
 else
 K
 (AV.tup
 [TV.agg [SV.int IntKind.i64 (3 : Int), SV.int IntKind.i64 (0 : Int)],
 TV.one (SV.int IntKind.i64 (0 : Int))])
 []
 else False
 else False)
def exrpr_x1 (s : List UInt8) (K : AV → List Blk → Prop) : Prop := (
 bif
 decide ((0 : Int) ≤ (0 : Int)) &&
 decide ((0 : Int) < (↑(List.map one1 (pcs (UInt8.ofNat (32 : Nat)) s)).length : Int)) then
 bif
 decide ((0 : Nat) < (1 : Nat)) &&
 decide ((0 : Nat) < (List.map one1 (pcs (UInt8.ofNat (32 : Nat)) s)).length) then
 bif
 !(((List.map one1 (pcs (UInt8.ofNat (32 : Nat)) s)).getD (0 : Nat) []).getD (0 : Nat)
 (D.int (0 : Int))).toStr ==
 [(97 : UInt8), (110 : UInt8), (115 : UInt8), (119 : UInt8), (101 : UInt8), (114 : UInt8)] then
 exrpr_x0 s K
 else
 bif (↑(List.map one1 (pcs (UInt8.ofNat (32 : Nat)) s)).length : Int) != (2 : Int) then exrpr_x0 s K
 else
 bif
 decide ((0 : Int) ≤ (1 : Int)) &&
 decide ((1 : Int) < (↑(List.map one1 (pcs (UInt8.ofNat (32 : Nat)) s)).length : Int)) then
 bif
 decide ((0 : Nat) < (1 : Nat)) &&
 decide ((1 : Nat) < (List.map one1 (pcs (UInt8.ofNat (32 : Nat)) s)).length) then
 ((((List.map one1 (pcs (UInt8.ofNat (32 : Nat)) s)).getD (1 : Nat) []).getD (0 : Nat)
 (D.int (0 : Int))).toStr.length ≤
 (1000000 : Nat) ∧
 (0 : Int) ≤ (1 : Int) ∧ (1 : Int) ≤ (18 : Int)) ∧
 bif
 !numB
 (((List.map one1 (pcs (UInt8.ofNat (32 : Nat)) s)).getD (1 : Nat) []).getD (0 : Nat)
 (D.int (0 : Int))).toStr
 (1 : Int) then
 K
 (AV.tup
 [TV.agg [SV.int IntKind.i64 (0 : Int), SV.int IntKind.i64 (0 : Int)],
 TV.one (SV.int IntKind.i64 (7 : Int))])
 []
 else
 bif
 decide
 (numV
 (((List.map one1 (pcs (UInt8.ofNat (32 : Nat)) s)).getD (1 : Nat) []).getD (0 : Nat)
 (D.int (0 : Int))).toStr
 (1 : Int) <
 (0 : Int)) then
 K
 (AV.tup
 [TV.agg [SV.int IntKind.i64 (0 : Int), SV.int IntKind.i64 (0 : Int)],
 TV.one (SV.int IntKind.i64 (7 : Int))])
 []
 else
 bif
 evE (2 : Int)
 (numV
 (((List.map one1 (pcs (UInt8.ofNat (32 : Nat)) s)).getD (1 : Nat) []).getD (0 : Nat)
 (D.int (0 : Int))).toStr
 (1 : Int)) !=
 (0 : Int) then
 K
 (AV.tup
 [TV.agg [SV.int IntKind.i64 (0 : Int), SV.int IntKind.i64 (0 : Int)],
 TV.one
 (SV.int IntKind.i64
 (evE (2 : Int)
 (numV
 (((List.map one1 (pcs (UInt8.ofNat (32 : Nat)) s)).getD (1 : Nat) []).getD (0 : Nat)
 (D.int (0 : Int))).toStr
 (1 : Int))))])
 []
 else
 K
 (AV.tup
 [TV.agg
 [SV.int IntKind.i64 (2 : Int),
 SV.int IntKind.i64
 (numV
 (((List.map one1 (pcs (UInt8.ofNat (32 : Nat)) s)).getD (1 : Nat) []).getD (0 : Nat)
 (D.int (0 : Int))).toStr
 (1 : Int))],
 TV.one (SV.int IntKind.i64 (0 : Int))])
 []
 else False
 else False
 else False
 else False)
def exrpr_x2 (s : List UInt8) (K : AV → List Blk → Prop) : Prop := (
 bif
 decide ((0 : Int) ≤ (0 : Int)) &&
 decide ((0 : Int) < (↑(List.map one1 (pcs (UInt8.ofNat (32 : Nat)) s)).length : Int)) then
 bif
 decide ((0 : Nat) < (1 : Nat)) &&
 decide ((0 : Nat) < (List.map one1 (pcs (UInt8.ofNat (32 : Nat)) s)).length) then
 bif
 !(((List.map one1 (pcs (UInt8.ofNat (32 : Nat)) s)).getD (0 : Nat) []).getD (0 : Nat)
 (D.int (0 : Int))).toStr ==
 [(115 : UInt8), (116 : UInt8), (111 : UInt8), (112 : UInt8)] then
 exrpr_x1 s K
 else
 bif (↑(List.map one1 (pcs (UInt8.ofNat (32 : Nat)) s)).length : Int) != (1 : Int) then exrpr_x1 s K
 else
 K
 (AV.tup
 [TV.agg [SV.int IntKind.i64 (1 : Int), SV.int IntKind.i64 (0 : Int)],
 TV.one (SV.int IntKind.i64 (0 : Int))])
 []
 else False
 else False)
theorem exrpr (s : List UInt8) (K : AV → List Blk → Prop) : evFn Erpr Tryd.f95 [.one (.str s)] [] K = ( (s.length ≤ 1000000 ∧ (0 :Int) ≤ (32 :Int) ∧ (32 :Int) < (256 :Int)) ∧ bif decide ((0 :Int) ≤ (0 :Int)) && decide (0 < (↑(List.map one1 (pcs (UInt8.ofNat 32) s)).length : Int)) then bif decide (0 < 1) && decide (0 < (List.map one1 (pcs (UInt8.ofNat 32) s)).length) then bif !(((List.map one1 (pcs (UInt8.ofNat 32) s)).getD 0 []).getD 0 (D.int 0)).toStr == [(112 : UInt8), (108 : UInt8), (97 : UInt8), (121 : UInt8)] then exrpr_x2 s K else bif (↑(List.map one1 (pcs (UInt8.ofNat 32) s)).length : Int) != 2 then exrpr_x2 s K else bif decide ((0 :Int) ≤ (1 :Int)) && decide (1 < (↑(List.map one1 (pcs (UInt8.ofNat 32) s)).length : Int)) then bif decide (0 < 1) && decide (1 < (List.map one1 (pcs (UInt8.ofNat 32) s)).length) then ((((List.map one1 (pcs (UInt8.ofNat 32) s)).getD 1 []).getD 0 (D.int 0)).toStr.length ≤ 1000000 ∧ (0 :Int) ≤ (1 :Int) ∧ (1 :Int) ≤ (18 :Int)) ∧ bif !numB (((List.map one1 (pcs (UInt8.ofNat 32) s)).getD 1 []).getD 0 (D.int 0)).toStr 1 then K (AV.tup [TV.agg [SV.int .i64 0, SV.int .i64 0], .one (.int .i64 7)]) [] else bif decide (numV (((List.map one1 (pcs (UInt8.ofNat 32) s)).getD 1 []).getD 0 (D.int 0)).toStr (1 :Int) < (0 :Int)) then K (AV.tup [TV.agg [SV.int .i64 0, SV.int .i64 0], .one (.int .i64 7)]) [] else bif evE 0 (numV (((List.map one1 (pcs (UInt8.ofNat 32) s)).getD 1 []).getD 0 (D.int 0)).toStr 1) != 0 then K (AV.tup [TV.agg [SV.int .i64 0, SV.int .i64 0], .one (.int .i64 (evE 0 (numV (((List.map one1 (pcs (UInt8.ofNat 32) s)).getD 1 []).getD 0 (D.int 0)).toStr 1)))]) [] else K (AV.tup [TV.agg [SV.int .i64 0, SV.int .i64 (numV (((List.map one1 (pcs (UInt8.ofNat 32) s)).getD 1 []).getD 0 (D.int 0)).toStr 1)], .one (.int .i64 0)]) [] else False else False else False else False) := by kernel_rfl
end Go.Ev

/-
  Chapter 9: strings of events: the contracts are kept.
-/
namespace Go.Ev
open Go Go.Proofs
attribute [local irreducible] evFn evBody evRound
set_option maxRecDepth 20000
set_option linter.unusedVariables false
set_option linter.unusedSimpArgs false
theorem okito : SpecOK Tryd.prog 138 itoaS := by
  refine SpecOK.lib ⟨_, _, Tryd.func138, rfl, by kernel_rfl⟩ fun args σ K h => ?_
  unfold itoaS at h
  split at h
  rotate_right
  · exact h.elim
  rename_i n
  refine ⟨rfl, fun m vals w hg ha => ?_⟩
  match vals, ha with
  | [v], ha =>
    obtain rfl : v = .int .i64 n := ha.1
    refine (Tryd.strconv_Itoa n h.1.1 h.1.2 w (hg.tabIs (g := 2) (by kernel_rfl) (by decide) (by kernel_rfl))).mono ?_
    rintro e w' ⟨rfl, k, os, rfl⟩
    exact ⟨_, _, rfl, h.2, (Grows.drewN w k).trans (Grows.grow _ os), rfl⟩
theorem okcut : SpecOK Tryd.prog 136 strcutS := by
  refine SpecOK.lib ⟨_, _, Tryd.func136, rfl, by kernel_rfl⟩ fun args σ K h => ?_
  unfold strcutS at h
  split at h
  rotate_right
  · exact h.elim
  rename_i s c
  refine ⟨rfl, fun m vals w hg ha => ?_⟩
  match vals, ha with
  | [v, u], ha =>
    obtain rfl : v = .string ⟨s.toArray⟩ := ha.1
    obtain rfl : u = .string ⟨[c].toArray⟩ := ha.2.1
    obtain ⟨x, hx⟩ := hg.someInt (g := 1) (by kernel_rfl)
    refine (Tryd.strings_Cut ⟨s.toArray⟩ ⟨[c].toArray⟩ x w (by have := h.1; show s.toArray.size < _; rw [List.size_toArray]; omega) hx).mono ?_
    rintro e w' ⟨rfl, n, rfl⟩
    refine ⟨_, _, rfl, h.2, Grows.drewN w n, _, rfl, ?_⟩
    have e1 : Lib.cut (ByteArray.mk s.toArray).data.toList (ByteArray.mk [c].toArray).data.toList = (bef c s, aft c s, hasB c s) := cut_one c s
    rw [e1]
    exact ⟨rfl, rfl, rfl, trivial⟩
theorem itoG_len {n : Int} (h : -9223372036854775808 ≤ n ∧ n ≤ 9223372036854775807) : (itoG n).length ≤ 21 := Lib.itoa_length_le n h.1 h.2
theorem digF_len {n : Int} (h : -9223372036854775808 ≤ n ∧ n ≤ 9223372036854775807) : (digF n).length ≤ 21 := by
  have h1 := Lib.itoa_length_le n h.1 h.2
  rw [itoa_digF] at h1
  by_cases h0 : n = 0
  · subst h0; decide
  · rw [if_neg h0, List.length_append] at h1; omega
theorem lokdec_0 : LoopOK Edec (lb Tryd.f143 0) [0, 3, 4] [3, 4] decL := by
  refine loopOK (.cons ok137 .nil) (noInner (by kernel_rfl)) (fun vs σ => match vs, σ with
    | [.one (.int .i64 n), .one (.str _), .one (.str _)], [] => n.natAbs
    | _, _ => 0) fun vs σ k h => ?_
  unfold decL at h
  split at h
  rotate_right
  · exact h.elim
  · rename_i n s g
    rw [exdecl0a n s g _]
    obtain ⟨⟨h1, h2, h3⟩, h⟩ := h
    by_cases h0 : n = 0
    · subst h0
      rw [show digF 0 = [] from rfl] at h
      exact h
    · have hb : (n != 0) = true := by simpa using h0
      have e : UInt8.ofNat (IntKind.u8.wrap (IntKind.i64.wrap ((48 : Int) + sizeG (n.tmod (10 : Int))))).toNat = UInt8.ofNat (48 + n.natAbs % 10) := by
        have hm : (n.tmod 10).natAbs = n.natAbs % 10 := by rw [Int.natAbs_tmod]; rfl
        have hs : sizeG (n.tmod 10) = ((n.natAbs % 10 : Nat) : Int) := by
          unfold sizeG wi
          rw [wrap_id (by omega) (by omega)]
          split <;> omega
        rw [hs, wrap_id (by omega) (by omega)]
        congr 1
        have e1 : (2 : Int) ^ IntKind.u8.bits = 256 := by decide
        have e3 : IntKind.u8.signed = false := rfl
        unfold IntKind.wrap
        simp only [e1, e3, Bool.false_and, Bool.false_eq_true, if_false]
        omega
      have hq : IntKind.i64.wrap (n.tdiv 10) = n.tdiv 10 := by
        have : (n.tdiv 10).natAbs = n.natAbs / 10 := by rw [Int.natAbs_tdiv]; rfl
        exact wrap_id (by omega) (by omega)
      have hd := digF_step h0 s
      rw [hd] at h h1
      rw [hb, cond_true, e, hq]
      have hlen : s.length ≤ 1000 := by
        rw [List.length_append, List.length_cons] at h1; omega
      rw [decide_eq_true (by simp only [List.length_cons, List.length_nil]; omega), cond_true]
      have ha : (n.tdiv 10).natAbs = n.natAbs / 10 := by rw [Int.natAbs_tdiv]; rfl
      have hmu : (n.tdiv 10).natAbs < n.natAbs := by rw [ha]; omega
      exact ⟨⟨⟨h1, by omega, by omega⟩, h⟩, hmu⟩
theorem okdec : SpecOK Tryd.prog 143 decS := by
  refine specOK (n := 27) (m := 0) (lps := [(6, .spec [0, 3, 4] [3, 4] decL)]) (.cons ok137 .nil) Tryd.func143 (by kernel_rfl) (by kernel_rfl) (theLoops (n := 1) (by kernel_rfl) fun i hi => ?_) fun args σ K h => ?_
  · match i, hi with
    | 0, _ => exact loopHyp_of (key := 6) (by kernel_rfl) rfl lokdec_0
  unfold decS at h
  split at h
  rotate_right
  · exact h.elim
  rename_i n
  rw [exdec n K]
  obtain ⟨h1, h⟩ := h
  have hl := digF_len h1
  have e : itoG n = if n = 0 then [48] else (if n < 0 then [45] else []) ++ digF n := itoa_digF n
  rw [e] at h
  rw [List.append_nil]
  by_cases h0 : n = 0
  · subst h0; exact h
  · rw [if_neg h0] at h
    have hb : (n == 0) = false := by simpa using h0
    rw [hb, cond_false]
    by_cases hn : n < 0
    · rw [if_pos hn] at h
      rw [decide_eq_true hn, cond_true]
      refine And.intro ⟨by omega, h1⟩ ?_
      rw [decide_eq_true (by omega), cond_true]
      exact h
    · rw [if_neg hn] at h
      rw [decide_eq_false hn, cond_false]
      refine And.intro ⟨by omega, h1⟩ ?_
      rw [decide_eq_true (by omega), cond_true]
      exact h
theorem drop_byte {s : List UInt8} {i : Nat} (h : i < s.length) : s.drop i = s.getD i 0 :: s.drop (i + 1) := drop_step 0 h
theorem loknum_0 : LoopOK Enum (lb Tryd.f142 0) [0, 6, 7, 8] [4, 5, 6, 7] numL := by
  refine loopOK .nil (noInner (by kernel_rfl)) (fun vs σ => match vs, σ with
    | [.one (.str s), .one (.int .i64 _), .one (.int .i64 _), .one (.int .i64 i)], [] => s.length - i.toNat
    | _, _ => 0) fun vs σ k h => ?_
  unfold numL at h
  split at h
  rotate_right
  · exact h.elim
  · rename_i s a n i
    rw [exnuml0a s a n i _]
    obtain ⟨⟨h0, h1, h2, h3, h4, h5⟩, h⟩ := h
    by_cases hi : i < (s.length : Int)
    · have hi' : i.toNat < s.length := by omega
      have hd := drop_byte hi'
      rw [hd] at h
      unfold digB digN digX dgB at h
      have hp : s.length - i.toNat = (s.length - (i.toNat + 1)) + 1 := by omega
      generalize hpe : s.length - (i.toNat + 1) = p at hp
      have hpow : (1 : Int) ≤ 10 ^ p := by
        have : (0 : Int) < 10 ^ p := Int.pow_pos (by decide)
        omega
      rw [hp, Int.pow_succ] at h5
      have hn10 : n * 10 + 10 ≤ 1000000000000000000 := by
        have h6 : (n + 1) * 10 * 1 ≤ (n + 1) * 10 * 10 ^ p := Int.mul_le_mul_of_nonneg_left hpow (by omega)
        have h7 : (n + 1) * (10 ^ p * 10) = (n + 1) * 10 * 10 ^ p := by rw [Int.mul_comm (10 ^ p) 10, Int.mul_assoc]
        rw [h7] at h5
        omega
      generalize hb : (s.getD i.toNat 0).toNat = b at *
      rw [decide_eq_true hi, decide_eq_true h1, decide_eq_true hi']
      simp only [Bool.and_self, cond_true]
      by_cases hlo : 48 ≤ b
      · rw [decide_eq_true hlo, Bool.true_and] at h
        rw [decide_eq_false (show ¬ ((b : Int) < 48) by omega), cond_false]
        by_cases hhi : b ≤ 57
        · rw [decide_eq_true hhi, cond_true, Bool.true_and] at h
          rw [decide_eq_false (show ¬ ((b : Int) > 57) by omega), cond_false]
          have hu : IntKind.u8.wrap ((b : Int) - 48) = (b : Int) - 48 := by
            have e1 : (2 : Int) ^ IntKind.u8.bits = 256 := by decide
            have e3 : IntKind.u8.signed = false := rfl
            unfold IntKind.wrap
            simp only [e1, e3, Bool.false_and, Bool.false_eq_true, if_false]
            omega
          have hw1 : IntKind.i64.wrap ((10 : Int) * n) = 10 * n := wrap_id (by omega) (by omega)
          have hw2 : IntKind.i64.wrap ((b : Int) - 48) = (b : Int) - 48 := wrap_id (by omega) (by omega)
          have hw3 : IntKind.i64.wrap (10 * n + ((b : Int) - 48)) = 10 * n + ((b : Int) - 48) := wrap_id (by omega) (by omega)
          have hw4 : IntKind.i64.wrap (i + 1) = i + 1 := wrap_id (by omega) (by omega)
          rw [hu, hw1, hw2, hw3, hw4]
          have hit : (i + 1).toNat = i.toNat + 1 := by omega
          refine ⟨⟨⟨h0, by omega, by omega, by omega, by omega, ?_⟩, ?_⟩, ?_⟩
          · rw [hit, hpe]
            have h7 : (n + 1) * (10 ^ p * 10) = (10 * (n + 1)) * 10 ^ p := by rw [Int.mul_comm (10 ^ p) 10, ← Int.mul_assoc, Int.mul_comm (n + 1) 10]
            rw [h7] at h5
            refine Int.le_trans (Int.mul_le_mul_of_nonneg_right ?_ (by omega)) h5
            omega
          · rw [hit]; exact h
          · show s.length - (i + 1).toNat < s.length - i.toNat
            omega
        · rw [decide_eq_false hhi, cond_false, Bool.false_and] at h
          rw [decide_eq_true (show ((b : Int) > 57) by omega), cond_true]
          exact h
      · rw [decide_eq_false hlo, Bool.false_and, cond_false, Bool.false_and] at h
        rw [decide_eq_true (show ((b : Int) < 48) by omega), cond_true]
        exact h
    · rw [decide_eq_false hi]
      rw [List.drop_eq_nil_of_le (by omega)] at h
      exact h
theorem pow10_le {p : Nat} (h : p ≤ 18) : (1 : Int) * (10 : Int) ^ p ≤ 1000000000000000000 := by
  have h3 := Nat.pow_le_pow_right (n := 10) (by decide) h
  have e : (10 : Nat) ^ 18 = 1000000000000000000 := by decide
  have e2 : ((10 ^ p : Nat) : Int) = (10 : Int) ^ p := by simp
  rw [Int.one_mul, ← e2]
  omega
theorem digN_lt : ∀ {l : List UInt8} {n : Int}, digB l = true → 0 ≤ n → 0 ≤ digN l n ∧ digN l n < (n + 1) * 10 ^ l.length
  | [], n, _, h0 => by
    unfold digN
    simp only [List.length_nil, Int.pow_zero, Int.mul_one]
    omega
  | b :: l, n, hb, h0 => by
    unfold digB dgB at hb
    simp only [Bool.and_eq_true, decide_eq_true_eq] at hb
    unfold digN
    obtain ⟨h1, h2⟩ := digN_lt (l := l) (n := 10 * n + ((b.toNat : Int) - 48)) hb.2 (by omega)
    refine ⟨h1, Int.lt_of_lt_of_le h2 ?_⟩
    rw [List.length_cons, Int.pow_succ]
    have hpow : (0 : Int) ≤ 10 ^ l.length := Int.pow_nonneg (by decide)
    have h7 : (n + 1) * (10 ^ l.length * 10) = (10 * (n + 1)) * 10 ^ l.length := by rw [Int.mul_comm (10 ^ l.length) 10, ← Int.mul_assoc, Int.mul_comm (n + 1) 10]
    rw [h7]
    exact Int.mul_le_mul_of_nonneg_right (by omega) hpow
theorem byte_eq {b c : UInt8} : ((b.toNat : Int) == (c.toNat : Int)) = (b == c) := by
  rw [Bool.eq_iff_iff, beq_iff_eq, beq_iff_eq]
  constructor
  · intro h; exact UInt8.toNat_inj.1 (by omega)
  · rintro rfl; rfl
theorem oknum : SpecOK Tryd.prog 142 numS := by
  refine specOK (n := 70) (m := 0) (lps := [(8, .spec [0, 6, 7, 8] [4, 5, 6, 7] numL)]) .nil Tryd.func142 (by kernel_rfl) (by kernel_rfl) (theLoops (n := 1) (by kernel_rfl) fun i hi => ?_) fun args σ K h => ?_
  · match i, hi with
    | 0, _ => exact loopHyp_of (key := 8) (by kernel_rfl) rfl loknum_0
  unfold numS at h
  split at h
  rotate_right
  · exact h.elim
  rename_i s d
  rw [exnum s d K]
  obtain ⟨⟨h1, h2, h3⟩, h⟩ := h
  have hp18 : ∀ p : Nat, p ≤ 18 → (1 : Int) * (10 : Int) ^ p ≤ 1000000000000000000 := fun p hp => pow10_le hp
  have hlen0 : decide ((s.length : Int) > 0) = decide (0 < s.length) := by rw [decide_eq_decide]; omega
  have c45 : ∀ b : UInt8, ((b.toNat : Int) == (45 : Int)) = (b == 45) := fun b => byte_eq (c := 45)
  have c48 : ∀ b : UInt8, ((b.toNat : Int) == (48 : Int)) = (b == 48) := fun b => byte_eq (c := 48)
  match s, h1, h with
  | [], h1, h => exact h
  | b :: r, h1, h =>
    have hat : numAt (b :: r) = if b = 45 then 1 else 0 := by
      unfold numAt
      simp only [List.head?_cons, Option.some.injEq]
    have hl : ((b :: r).length : Int) = (r.length : Int) + 1 := by simp
    rw [decide_eq_true (show ((b :: r).length : Int) > 0 by omega), cond_true]
    rw [decide_eq_true (show (0 : Int) ≤ 0 by omega), decide_eq_true (show 0 < (b :: r).length by simp)]
    rw [Bool.and_self, cond_true, c45]
    rw [show (b :: r).getD 0 0 = b from rfl]
    by_cases hb : b = 45
    · have hbb : (b == 45) = true := by rw [hb]; rfl
      rw [hbb, cond_true]
      rw [if_pos hb] at hat
      unfold numV numW numB at h
      rw [hat] at h
      rw [show (1 == 1) = true from rfl, show List.drop 1 (b :: r) = r from rfl, cond_true] at h
      rw [show List.drop 1 (b :: r) = r from rfl]
      cases r with
      | nil => exact h
      | cons x l =>
        have e1 : ((b :: x :: l).length : Int) = (l.length : Int) + 2 := by simp; omega
        have hll : (b :: x :: l).length = l.length + 2 := by simp
        rw [show ((((b :: x :: l).length : Nat) : Int) == 1) = false by rw [beq_eq_false_iff_ne]; omega, cond_false]
        have hw : IntKind.i64.wrap (((b :: x :: l).length : Int) - 1) = (l.length : Int) + 1 := by rw [wrap_id (by omega) (by omega)]; omega
        rw [hw]
        rw [show decide ((b :: x :: l).length = 1) = false by rw [decide_eq_false_iff_not]; omega, Bool.false_or] at h
        rw [show ((b :: x :: l).length : Int) - ((1 : Nat) : Int) = (l.length : Int) + 1 by omega] at h
        by_cases hd : d < (l.length : Int) + 1
        · rw [decide_eq_true hd, Bool.true_or, Bool.not_true, Bool.false_and] at h
          rw [decide_eq_true (show (l.length : Int) + 1 > d by omega), cond_true]
          exact h
        · rw [decide_eq_false hd, Bool.false_or] at h
          rw [decide_eq_false (show ¬ (l.length : Int) + 1 > d by omega), cond_false]
          rw [decide_eq_true (show (0 : Int) ≤ 1 by omega), decide_eq_true (show 1 < (b :: x :: l).length by omega), Bool.and_self, cond_true, c48]
          rw [show (b :: x :: l).getD 1 0 = x from rfl] at h ⊢
          rw [decide_eq_true (show 1 < (b :: x :: l).length by omega), Bool.and_true] at h
          rw [decide_eq_true (show ((b :: x :: l).length : Int) > 1 by omega)]
          cases hx : (x == 48) with
          | true => rw [hx] at h; exact h
          | false =>
            rw [hx, Bool.not_false, Bool.true_and] at h
            rw [cond_false]
            refine And.intro ⟨h1, by omega, by omega, by omega, by omega, hp18 _ (by omega)⟩ ?_
            cases hg : digB (x :: l) with
            | false => rw [hg] at h; exact h
            | true =>
              rw [hg] at h
              have hlt := (digN_lt hg (Int.le_refl 0))
              have hp : (0 + 1) * (10 : Int) ^ (x :: l).length ≤ 1000000000000000000 := by
                have := hp18 (x :: l).length (by simp only [List.length_cons]; omega)
                rwa [Int.zero_add]
              rw [show IntKind.i64.wrap ((0 : Int) - digN (x :: l) 0) = -digN (x :: l) 0 by rw [wrap_id (by omega) (by omega)]; omega]
              exact h
    · have hbb : (b == 45) = false := by simpa using hb
      rw [hbb, cond_false]
      rw [if_neg hb] at hat
      unfold numV numW numB at h
      rw [hat] at h
      rw [show ((0 : Nat) == 1) = false from rfl, show List.drop 0 (b :: r) = b :: r from rfl, cond_false] at h
      unfold exnum_x0
      have hll : (b :: r).length = r.length + 1 := by simp
      rw [show ((((b :: r).length : Nat) : Int) == 0) = false by rw [beq_eq_false_iff_ne]; omega, cond_false]
      have hw : IntKind.i64.wrap (((b :: r).length : Int) - 0) = (r.length : Int) + 1 := by rw [wrap_id (by omega) (by omega)]; omega
      rw [hw]
      rw [show decide ((b :: r).length = 0) = false by rw [decide_eq_false_iff_not]; omega, Bool.false_or] at h
      rw [show ((b :: r).length : Int) - ((0 : Nat) : Int) = (r.length : Int) + 1 by omega] at h
      by_cases hd : d < (r.length : Int) + 1
      · rw [decide_eq_true hd, Bool.true_or, Bool.not_true, Bool.false_and] at h
        rw [decide_eq_true (show (r.length : Int) + 1 > d by omega), cond_true]
        exact h
      · rw [decide_eq_false hd, Bool.false_or] at h
        rw [decide_eq_false (show ¬ (r.length : Int) + 1 > d by omega), cond_false]
        rw [decide_eq_true (show (0 : Int) ≤ 0 by omega), decide_eq_true (show 0 < (b :: r).length by omega), Bool.and_self, cond_true, c48]
        rw [show (b :: r).getD 0 0 = b from rfl] at h ⊢
        have hfin : ((b == 48 && decide (1 < (b :: r).length)) = false) → (((b :: r).length ≤ 1000000 ∧ (0 : Int) ≤ 0 ∧ (0 : Int) ≤ ((b :: r).length : Int) ∧ ((b :: r).length : Int) ≤ 18 ∧ (0 : Int) ≤ 0 ∧ (1 : Int) * (10 : Int) ^ ((b :: r).length - 0) ≤ 1000000000000000000) ∧
            bif digB (b :: r) then K (AV.tup [TV.one (SV.int IntKind.i64 (digN (b :: r) 0)), TV.one (SV.bool true)]) [] else K (AV.tup [TV.one (SV.int IntKind.i64 0), TV.one (SV.bool false)]) []) := by
          intro hz
          rw [hz, Bool.not_false, Bool.true_and] at h
          refine And.intro ⟨h1, by omega, by omega, by omega, by omega, hp18 _ (by omega)⟩ ?_
          cases hg : digB (b :: r) with
          | false => rw [hg] at h; exact h
          | true => rw [hg] at h; exact h
        cases hx : (b == 48) with
        | true =>
          rw [hx, Bool.true_and] at h hfin
          by_cases hr : 1 < (b :: r).length
          · rw [decide_eq_true hr] at h
            rw [cond_true, decide_eq_true (show ((b :: r).length : Int) > 1 by omega)]
            exact h
          · rw [cond_true, decide_eq_false (show ¬ ((b :: r).length : Int) > 1 by omega), cond_false]
            exact hfin (decide_eq_false hr)
        | false =>
          rw [hx, Bool.false_and] at hfin
          exact hfin rfl
theorem byte_is {x : UInt8} {c : Int} (h0 : 0 ≤ c) (h1 : c < 256) : ((x.toNat : Int) == c) = decide (x = UInt8.ofNat c.toNat) := by
  rw [Bool.eq_iff_iff, beq_iff_eq, decide_eq_true_eq]
  have e : (UInt8.ofNat c.toNat).toNat = c.toNat := by rw [UInt8.toNat_ofNat']; exact Nat.mod_eq_of_lt (by omega)
  constructor
  · intro h; exact UInt8.toNat_inj.1 (by omega)
  · intro h; rw [h]; omega
theorem frmG_le (c : UInt8) : ∀ (r : List UInt8) (i f : Nat), f ≤ i → frmG c r i f ≤ i + r.length
  | [], i, f, h => by unfold frmG; simpa using h
  | x :: r, i, f, h => by
    unfold frmG
    rw [List.length_cons]
    split
    · have := frmG_le c r (i + 1) (i + 1) (Nat.le_refl _); omega
    · have := frmG_le c r (i + 1) f (by omega); omega
theorem pcsR_len (c : UInt8) (s : List UInt8) : ∀ (r : List UInt8) (i f : Nat), (pcsR c s r i f).length ≤ r.length
  | [], i, f => by simp [pcsR]
  | x :: r, i, f => by
    unfold pcsR
    rw [List.length_cons]
    split
    · have := pcsR_len c s r (i + 1) (i + 1); rw [List.length_cons]; omega
    · have := pcsR_len c s r (i + 1) f; omega
theorem pcsR_all (c : UInt8) (s : List UInt8) : ∀ (r : List UInt8) (i f : Nat), r = s.drop i → f ≤ i → i ≤ s.length → pcsR c s r i f ++ [s.drop (frmG c r i f)] = glue ((s.drop f).take (i - f)) (pcs c r)
  | [], i, f, hr, hf, hi => by
    have hi2 : i = s.length := by
      have := congrArg List.length hr
      simp at this; omega
    unfold pcsR frmG
    rw [glue_end, List.nil_append]
    congr 1
    rw [List.take_of_length_le (by rw [List.length_drop]; omega)]
  | x :: r, i, f, hr, hf, hi => by
    have hil : i < s.length := by
      have := congrArg List.length hr
      simp at this; omega
    have hd := drop_byte hil
    rw [hd] at hr
    obtain ⟨hx, hr2⟩ := List.cons.inj hr
    unfold pcsR frmG
    by_cases h : x = c
    · subst h
      rw [if_pos rfl, if_pos rfl, List.cons_append, pcsR_all x s r (i + 1) (i + 1) hr2 (Nat.le_refl _) (by omega), glue_at]
      rw [Nat.sub_self, List.take_zero, glue_nil (pcs_ne _ _)]
    · rw [if_neg h, if_neg h, pcsR_all c s r (i + 1) f hr2 (by omega) (by omega), glue_on h]
      congr 1
      rw [show i + 1 - f = (i - f) + 1 by omega, List.take_add_one, List.getElem?_drop, show f + (i - f) = i by omega, List.getElem?_eq_getElem hil]
      rw [hx, getD_of_lt hil]
      rfl
theorem pcs_eq (c : UInt8) (s : List UInt8) : pcsR c s s 0 0 ++ [s.drop (frmG c s 0 0)] = pcs c s := by
  rw [pcsR_all c s s 0 0 rfl (Nat.le_refl _) (Nat.zero_le _)]
  exact glue_nil (pcs_ne _ _)
theorem lokctb_0 : LoopOK Ectb (lb Tryd.f140 0) [0, 1, 5, 6, 7] [0, 5, 6] cutBL := by
  refine loopOK .nil (noInner (by kernel_rfl)) (fun vs σ => match vs, σ with
    | [.one (.str s), .one (.int .u8 _), .one .nil, .one (.int .i64 _), .one (.int .i64 i)], [] => s.length - i.toNat
    | [.one (.str s), .one (.int .u8 _), .one (.own 0 1), .one (.int .i64 _), .one (.int .i64 i)], [.row 9 (.recs [.str] _)] => s.length - i.toNat
    | _, _ => 0) fun vs σ k h => ?_
  unfold cutBL at h
  split at h
  rotate_right
  · exact h.elim
  · rename_i s c f i
    rw [exctbl0a s c f i _]
    obtain ⟨⟨h1, c0, c1, f0, hfi, hil⟩, h⟩ := h
    by_cases hi : i < (s.length : Int)
    · have hi' : i.toNat < s.length := by omega
      have hw : IntKind.i64.wrap (i + 1) = i + 1 := wrap_id (by omega) (by omega)
      have hit : (i + 1).toNat = i.toNat + 1 := by omega
      have hmu : s.length - (i + 1).toNat < s.length - i.toNat := by omega
      rw [drop_byte hi'] at h
      unfold pcsR frmG at h
      rw [decide_eq_true hi, decide_eq_true (show 0 ≤ i by omega), decide_eq_true hi', Bool.and_self, cond_true, cond_true, byte_is c0 c1, hw]
      by_cases hb : s.getD i.toNat 0 = UInt8.ofNat c.toNat
      · rw [if_pos hb, if_pos hb] at h
        rw [decide_eq_true hb, decide_eq_true f0, decide_eq_true (show i.toNat ≤ s.length by omega), decide_eq_true (show f.toNat ≤ i.toNat by omega)]
        simp only [Bool.and_self, cond_true]
        refine ⟨⟨⟨h1, c0, c1, by omega, by omega, by omega, by simp; omega⟩, ?_⟩, hmu⟩
        rw [hit]
        exact h
      · rw [if_neg hb, if_neg hb] at h
        rw [decide_eq_false hb, cond_false]
        refine ⟨⟨⟨h1, c0, c1, f0, by omega, by omega⟩, ?_⟩, hmu⟩
        rw [hit]
        exact h
    · rw [decide_eq_false hi]
      rw [List.drop_eq_nil_of_le (by omega)] at h
      unfold pcsR frmG at h
      rw [show ((f.toNat : Nat) : Int) = f by omega] at h
      exact h
  · rename_i s c f i l
    rw [exctbl0b s c f i l _]
    obtain ⟨⟨h1, c0, c1, f0, hfi, hil, hl⟩, h⟩ := h
    by_cases hi : i < (s.length : Int)
    · have hi' : i.toNat < s.length := by omega
      have hw : IntKind.i64.wrap (i + 1) = i + 1 := wrap_id (by omega) (by omega)
      have hit : (i + 1).toNat = i.toNat + 1 := by omega
      have hmu : s.length - (i + 1).toNat < s.length - i.toNat := by omega
      rw [drop_byte hi'] at h
      unfold pcsR frmG at h
      rw [decide_eq_true hi, decide_eq_true (show 0 ≤ i by omega), decide_eq_true hi', Bool.and_self, cond_true, cond_true, byte_is c0 c1, hw]
      by_cases hb : s.getD i.toNat 0 = UInt8.ofNat c.toNat
      · rw [if_pos hb, if_pos hb] at h
        rw [decide_eq_true hb, decide_eq_true f0, decide_eq_true (show i.toNat ≤ s.length by omega), decide_eq_true (show f.toNat ≤ i.toNat by omega)]
        simp only [Bool.and_self, cond_true]
        have hl2 : (l ++ [[D.str (List.take (i.toNat - f.toNat) (List.drop f.toNat s))]]).length = l.length + 1 := by simp
        rw [hl2, decide_eq_true (show (l.length + 1) * 16 ≤ 140737488355328 ∧ l.length + 1 ≤ 140737488355328 by omega), cond_true]
        refine ⟨⟨⟨h1, c0, c1, by omega, by omega, by omega, by rw [hl2]; omega⟩, ?_⟩, hmu⟩
        rw [hit]
        rw [List.map_cons, List.append_cons] at h
        exact h
      · rw [if_neg hb, if_neg hb] at h
        rw [decide_eq_false hb, cond_false]
        refine ⟨⟨⟨h1, c0, c1, f0, by omega, by omega, by omega⟩, ?_⟩, hmu⟩
        rw [hit]
        exact h
    · rw [decide_eq_false hi]
      rw [List.drop_eq_nil_of_le (by omega)] at h
      unfold pcsR frmG at h
      rw [show ((f.toNat : Nat) : Int) = f by omega, List.map_nil, List.append_nil] at h
      exact h
theorem okctb : SpecOK Tryd.prog 140 cutBS := by
  refine specOK (n := 34) (m := 0) (lps := [(4, .spec [0, 1, 5, 6, 7] [0, 5, 6] cutBL)]) .nil Tryd.func140 (by kernel_rfl) (by kernel_rfl) (theLoops (n := 1) (by kernel_rfl) fun i hi => ?_) fun args σ K h => ?_
  · match i, hi with
    | 0, _ => exact loopHyp_of (key := 4) (by kernel_rfl) rfl lokctb_0
  unfold cutBS at h
  split at h
  rotate_right
  · exact h.elim
  rename_i s c
  rw [exctb s c K]
  obtain ⟨⟨h1, c0, c1⟩, h⟩ := h
  refine And.intro ⟨h1, c0, c1, by omega, by omega, by omega⟩ ?_
  have hf := frmG_le (UInt8.ofNat c.toNat) s 0 0 (Nat.le_refl _)
  have hp := pcsR_len (UInt8.ofNat c.toNat) s s 0 0
  have he := pcs_eq (UInt8.ofNat c.toNat) s
  rw [← he] at h
  generalize frmG (UInt8.ofNat c.toNat) s 0 0 = F at *
  generalize pcsR (UInt8.ofNat c.toNat) s s 0 0 = L at *
  rw [Nat.zero_add] at hf
  have hdr : List.take (s.length - F) (List.drop F s) = List.drop F s := List.take_of_length_le (by rw [List.length_drop]; omega)
  rw [decide_eq_true (show (0 : Int) ≤ (F : Int) by omega), decide_eq_true (Nat.le_refl s.length)]
  rw [show ((F : Int).toNat) = F from rfl, decide_eq_true hf, hdr]
  simp only [Bool.and_self, cond_true]
  cases L with
  | nil => exact h
  | cons p l =>
    rw [show (p :: l).isEmpty = false from rfl, cond_false]
    have hl2 : (List.map one1 (p :: l) ++ [[D.str (List.drop F s)]]).length = l.length + 2 := by simp
    rw [hl2, decide_eq_true (by simp only [List.length_cons] at hp; omega), cond_true]
    rw [List.map_append] at h
    exact h
theorem okctbD : SpecOK Tryd.prog 140 cutDS := by
  refine okctb.froze fun args σ K h => ?_
  unfold cutDS at h
  split at h
  rotate_right
  · exact h.elim
  rename_i s c
  refine ⟨rfl, h.1, _, ?_, h.2⟩
  exact ⟨_, _, rfl, rfl, rfl⟩
theorem okwds : SpecOK Tryd.prog 141 wdsS := by
  refine specOK (n := 2) (m := 0) (lps := []) .nil Tryd.func141 (by kernel_rfl) (by kernel_rfl) (noLoops (by kernel_rfl)) fun args σ K h => ?_
  unfold wdsS at h
  split at h
  rotate_right
  · exact h.elim
  rw [exwds K]
  exact h
theorem okwdsD : SpecOK Tryd.prog 141 wdsDS := by
  refine okwds.froze fun args σ K h => ?_
  unfold wdsDS at h
  split at h
  rotate_right
  · exact h.elim
  refine ⟨rfl, _, ?_, h⟩
  exact ⟨_, _, rfl, rfl, rfl⟩
theorem within4 {k : Int} (h : withinG k 0 3 = true) : k = 0 ∨ k = 1 ∨ k = 2 ∨ k = 3 := by
  unfold withinG at h
  simp only [Bool.and_eq_true, decide_eq_true_eq] at h
  omega
theorem okfmt : SpecOK Tryd.prog 88 fmtS := by
  refine specOK (n := 29) (m := 0) (lps := []) (.cons okkds (.cons ok71 (.cons okito .nil))) Tryd.func88 (by kernel_rfl) (by kernel_rfl) (noLoops (by kernel_rfl)) fun args σ K h => ?_
  unfold fmtS at h
  split at h
  rotate_right
  · exact h.elim
  rename_i k n
  rw [exfmt k n K]
  obtain ⟨h1, h⟩ := h
  have hl := itoG_len h1
  have hd5 : decide (5 + (itoG n).length ≤ 140737488355328) = true := decide_eq_true (by omega)
  have hd7 : decide (7 + (itoG n).length ≤ 140737488355328) = true := decide_eq_true (by omega)
  unfold fmtG at h
  cases hw : withinG k 0 3 with
  | false =>
    rw [hw] at h
    have : (decide (0 ≤ k) && decide (k ≤ 3)) = false := hw
    rw [this]
    exact h
  | true =>
    rw [hw] at h
    have : (decide (0 ≤ k) && decide (k ≤ 3)) = true := hw
    rw [this]
    unfold exfmt_x0
    rw [hd5, hd7]
    rcases within4 hw with rfl | rfl | rfl | rfl
    · exact And.intro h1 h
    · exact h
    · exact And.intro h1 h
    · exact h
theorem okrfm : SpecOK Tryd.prog 96 fmtS := by
  refine specOK (n := 30) (m := 0) (lps := []) (.cons ok25 (.cons okwdsD (.cons okdec .nil))) Tryd.func96 (by kernel_rfl) (by kernel_rfl) (noLoops (by kernel_rfl)) fun args σ K h => ?_
  unfold fmtS at h
  split at h
  rotate_right
  · exact h.elim
  rename_i k n
  rw [exrfm k n K]
  obtain ⟨h1, h⟩ := h
  have hl := itoG_len h1
  unfold fmtG at h
  cases hw : withinG k 0 3 with
  | false =>
    rw [hw] at h
    have : (decide (0 ≤ k) && decide (k ≤ 3)) = false := hw
    rw [this]
    exact h
  | true =>
    rw [hw] at h
    have : (decide (0 ≤ k) && decide (k ≤ 3)) = true := hw
    rw [this]
    unfold exrfm_x0
    rcases within4 hw with rfl | rfl | rfl | rfl
    · have e : decide ((([112, 108, 97, 121] : List UInt8) ++ [32]).length + (itoG n).length ≤ 140737488355328) = true := decide_eq_true (by simp only [List.length_append, List.length_cons, List.length_nil]; omega)
      refine And.intro h1 ?_
      show bif decide ((([112, 108, 97, 121] : List UInt8) ++ [32]).length + (itoG n).length ≤ 140737488355328) then _ else _
      rw [e]; exact h
    · exact h
    · have e : decide ((([97, 110, 115, 119, 101, 114] : List UInt8) ++ [32]).length + (itoG n).length ≤ 140737488355328) = true := decide_eq_true (by simp only [List.length_append, List.length_cons, List.length_nil]; omega)
      refine And.intro h1 ?_
      show bif decide ((([97, 110, 115, 119, 101, 114] : List UInt8) ++ [32]).length + (itoG n).length ≤ 140737488355328) then _ else _
      rw [e]; exact h
    · exact h
theorem word5 (w : List UInt8) :
    (w = [112, 108, 97, 121] ∧ ([112, 108, 97, 121] == w) = true ∧ ([115, 116, 111, 112] == w) = false ∧ ([97, 110, 115, 119, 101, 114] == w) = false ∧ ([114, 101, 112, 101, 97, 116] == w) = false ∧ kndG w = 0) ∨
    (w = [115, 116, 111, 112] ∧ ([112, 108, 97, 121] == w) = false ∧ ([115, 116, 111, 112] == w) = true ∧ ([97, 110, 115, 119, 101, 114] == w) = false ∧ ([114, 101, 112, 101, 97, 116] == w) = false ∧ kndG w = 1) ∨
    (w = [97, 110, 115, 119, 101, 114] ∧ ([112, 108, 97, 121] == w) = false ∧ ([115, 116, 111, 112] == w) = false ∧ ([97, 110, 115, 119, 101, 114] == w) = true ∧ ([114, 101, 112, 101, 97, 116] == w) = false ∧ kndG w = 2) ∨
    (w = [114, 101, 112, 101, 97, 116] ∧ ([112, 108, 97, 121] == w) = false ∧ ([115, 116, 111, 112] == w) = false ∧ ([97, 110, 115, 119, 101, 114] == w) = false ∧ ([114, 101, 112, 101, 97, 116] == w) = true ∧ kndG w = 3) ∨
    (([112, 108, 97, 121] == w) = false ∧ ([115, 116, 111, 112] == w) = false ∧ ([97, 110, 115, 119, 101, 114] == w) = false ∧ ([114, 101, 112, 101, 97, 116] == w) = false ∧ kndG w = -1) := by
  cases b0 : ([112, 108, 97, 121] == w) with
  | true =>
    have e := eq_of_beq b0
    subst e
    exact .inl (by decide)
  | false =>
    cases b1 : ([115, 116, 111, 112] == w) with
    | true =>
      have e := eq_of_beq b1
      subst e
      exact .inr (.inl (by decide))
    | false =>
      cases b2 : ([97, 110, 115, 119, 101, 114] == w) with
      | true =>
        have e := eq_of_beq b2
        subst e
        exact .inr (.inr (.inl (by decide)))
      | false =>
        cases b3 : ([114, 101, 112, 101, 97, 116] == w) with
        | true =>
          have e := eq_of_beq b3
          subst e
          exact .inr (.inr (.inr (.inl (by decide))))
        | false =>
          refine .inr (.inr (.inr (.inr ⟨rfl, rfl, rfl, rfl, ?_⟩)))
          unfold kndG
          rw [b0, b1, b2, b3]; rfl
theorem u8_sub {b : Nat} (h : 48 ≤ b) (h2 : b ≤ 57) : IntKind.i64.wrap (IntKind.u8.wrap ((b : Int) - 48)) = (b : Int) - 48 := by
  have hu : IntKind.u8.wrap ((b : Int) - 48) = (b : Int) - 48 := by
    have e1 : (2 : Int) ^ IntKind.u8.bits = 256 := by decide
    have e3 : IntKind.u8.signed = false := rfl
    unfold IntKind.wrap
    simp only [e1, e3, Bool.false_and, Bool.false_eq_true, if_false]
    omega
  rw [hu]
  exact wrap_id (by omega) (by omega)
theorem par_tail (r : List UInt8) (k nums : Int) (hn : nmsG k = nums) (K : AV → List Blk → Prop) (h : K (.tup [.agg [.int .i64 (parN k r).1, .int .i64 (parN k r).2.1], .one (.int .i64 (parN k r).2.2)]) []) :
    bif (r.length : Int) != 1 then K (.tup [.agg [.int .i64 0, .int .i64 0], .one (.int .i64 7)]) [] else
      bif decide ((0 : Int) ≤ 0) && decide (0 < r.length) then
        bif decide (((r.getD 0 0).toNat : Int) < 48) then K (.tup [.agg [.int .i64 0, .int .i64 0], .one (.int .i64 7)]) [] else
          bif decide ((0 : Int) ≤ 0) && decide (0 < r.length) then
            bif decide (((r.getD 0 0).toNat : Int) > 57) then K (.tup [.agg [.int .i64 0, .int .i64 0], .one (.int .i64 7)]) [] else
              bif decide ((0 : Int) ≤ 0) && decide (0 < r.length) then
                bif decide (IntKind.i64.wrap (IntKind.u8.wrap (((r.getD 0 0).toNat : Int) - 48)) ≥ nums) then K (.tup [.agg [.int .i64 0, .int .i64 0], .one (.int .i64 2)]) [] else
                  K (.tup [.agg [.int .i64 k, .int .i64 (IntKind.i64.wrap (IntKind.u8.wrap (((r.getD 0 0).toNat : Int) - 48)))], .one (.int .i64 0)]) []
              else False
          else False
      else False := by
  match r, h with
  | [], h => exact h
  | x :: y :: l, h =>
    have e : (((x :: y :: l).length : Int) != 1) = true := by
      simp only [bne_iff_ne, List.length_cons]; omega
    rw [e, cond_true]
    exact h
  | [d], h =>
    unfold parN dgG at h
    dsimp only at h
    have e : (([d].length : Int) != 1) = false := rfl
    have e2 : (decide ((0 : Int) ≤ 0) && decide (0 < [d].length)) = true := rfl
    rw [e, e2, cond_false, cond_true, cond_true, cond_true]
    rw [show [d].getD 0 0 = d from rfl]
    by_cases h1 : 48 ≤ d.toNat
    · rw [decide_eq_false (by omega), cond_false]
      by_cases h2 : d.toNat ≤ 57
      · rw [decide_eq_false (by omega), cond_false, u8_sub h1 h2]
        rw [if_pos ⟨h1, h2⟩] at h
        dsimp only at h
        rw [hn] at h
        by_cases h3 : (d.toNat : Int) - 48 < nums
        · rw [if_pos h3] at h
          rw [decide_eq_false (by omega), cond_false]
          exact h
        · rw [if_neg h3] at h
          rw [decide_eq_true (by omega), cond_true]
          exact h
      · rw [if_neg (by omega)] at h
        rw [decide_eq_true (by omega), cond_true]
        exact h
    · rw [if_neg (by omega)] at h
      rw [decide_eq_true (by omega), cond_true]
      exact h
theorem okprs : SpecOK Tryd.prog 87 parS := by
  refine specOK (n := 64) (m := 0) (lps := [(3, .unroll 5)]) (.cons okcut (.cons okkds .nil)) Tryd.func87 (by kernel_rfl) (by kernel_rfl) (theLoops (n := 1) (by kernel_rfl) fun i hi => ?_) fun args σ K h => ?_
  · match i, hi with
    | 0, _ => exact loopHyp_none (key := 3) (n := 5) (by kernel_rfl) rfl
  unfold parS at h
  split at h
  rotate_right
  · exact h.elim
  rename_i s
  rw [exprs s K]
  obtain ⟨h1, h⟩ := h
  refine And.intro h1 ?_
  unfold parG at h
  unfold exprs_x2 exprs_x1 exprs_x0
  have t1 : (!(true == true)) = false := rfl
  have t2 : (!(true == false)) = true := rfl
  have t3 : (!(false == true)) = true := rfl
  have t4 : (!(false == false)) = false := rfl
  rcases word5 (bef 32 s) with ⟨_, b0, b1, b2, b3, hk⟩ | ⟨_, b0, b1, b2, b3, hk⟩ | ⟨_, b0, b1, b2, b3, hk⟩ | ⟨_, b0, b1, b2, b3, hk⟩ | ⟨b0, b1, b2, b3, hk⟩ <;>
    (rw [hk] at h; cases m : hasB 32 s <;> rw [m] at h <;> simp only [b0, b1, b2, b3, t1, t2, t3, t4, Bool.not_true, Bool.not_false, cond_true, cond_false])
  · exact h
  · exact par_tail _ 0 3 rfl K h
  · exact h
  · exact h
  · exact h
  · exact par_tail _ 2 2 rfl K h
  · exact h
  · exact h
  · exact h
  · exact h
theorem one1_at {L : List (List UInt8)} {j : Nat} (h : j < L.length) : (((List.map one1 L).getD j []).getD 0 (D.int 0)).toStr = L.getD j [] := by
  have e : (List.map one1 L).getD j [] = one1 (L.getD j []) := by simp [List.getD, List.getElem?_eq_getElem h]
  rw [e]
  rfl
theorem pcs_head (c : UInt8) (s : List UInt8) : (pcs c s).getD 0 [] = bef c s := by
  cases h : hasB c s with
  | true => rw [pcs_has h]; rfl
  | false => rw [pcs_no h, bef_no h]; rfl
theorem pcs_pos (c : UInt8) (s : List UInt8) : 0 < (pcs c s).length := List.length_pos_iff.2 (pcs_ne c s)
theorem pcs_one (c : UInt8) (s : List UInt8) : (((pcs c s).length : Int) != 1) = hasB c s := by
  cases h : hasB c s with
  | true =>
    rw [pcs_has h]
    have := pcs_pos c (aft c s)
    simp only [List.length_cons, bne_iff_ne]; omega
  | false => rw [pcs_no h]; rfl
theorem pcs_two (c : UInt8) (s : List UInt8) : (((pcs c s).length : Int) != 2) = !(hasB c s && !hasB c (aft c s)) := by
  cases h : hasB c s with
  | true =>
    rw [pcs_has h, Bool.true_and, Bool.not_not]
    have h1 := pcs_one c (aft c s)
    rw [← h1, Bool.eq_iff_iff]
    simp only [List.length_cons, bne_iff_ne]; omega
  | false => rw [pcs_no h]; rfl
theorem pcs_snd {c : UInt8} {s : List UInt8} (h : hasB c s = true) (h2 : hasB c (aft c s) = false) : (pcs c s).getD 1 [] = aft c s := by
  rw [pcs_has h, pcs_no h2]; rfl
theorem aft_le (c : UInt8) (s : List UInt8) : (aft c s).length ≤ s.length := by
  cases h : hasB c s with
  | true => have := aft_len h; omega
  | false => rw [aft_no h]; simp
theorem num1 (r : List UInt8) : (numB r 1 = true ∧ 0 ≤ numV r 1 ∧ dgG r = some (numV r 1)) ∨ ((numB r 1 = false ∨ numV r 1 < 0) ∧ ((dgG r).isSome = true → False)) := by
  match r with
  | [] => exact .inr ⟨.inl rfl, fun h => by cases h⟩
  | [d] =>
    unfold dgG
    by_cases h : 48 ≤ d.toNat ∧ d.toNat ≤ 57
    · have h45 : d ≠ 45 := by rintro rfl; exact absurd h.1 (by decide)
      have ha : numAt [d] = 0 := by
        unfold numAt
        rw [if_neg]
        simpa using h45
      have hg : dgB d = true := by unfold dgB; rw [decide_eq_true h.1, decide_eq_true h.2]; rfl
      have hb : numB [d] 1 = true := by
        unfold numB
        rw [ha]
        show ((!(false || (false || ((d == 48) && false)))) && (dgB d && true)) = true
        rw [hg, Bool.and_false]; rfl
      have hv : numV [d] 1 = (d.toNat : Int) - 48 := by
        unfold numV numW
        rw [hb, ha]
        show 10 * 0 + ((d.toNat : Int) - 48) = _
        omega
      refine .inl ⟨hb, by rw [hv]; omega, ?_⟩
      dsimp only
      rw [if_pos h, hv]
    · refine .inr ⟨?_, ?_⟩
      · left
        have hg : dgB d = false := by
          unfold dgB
          rw [Bool.eq_false_iff]
          intro h2
          rw [Bool.and_eq_true, decide_eq_true_eq, decide_eq_true_eq] at h2
          exact h h2
        by_cases h45 : d = 45
        · subst h45; decide
        · have ha : numAt [d] = 0 := by
            unfold numAt
            rw [if_neg]
            simpa using h45
          unfold numB
          rw [ha]
          show (_ && (dgB d && true)) = false
          rw [hg, Bool.false_and, Bool.and_false]
      · dsimp only
        rw [if_neg h]
        intro h2; cases h2
  | x :: y :: l =>
    refine .inr ⟨?_, fun h => by cases h⟩
    by_cases hx : x = 45
    · have ha : numAt (x :: y :: l) = 1 := by unfold numAt; rw [if_pos (by simp [hx])]
      cases hb : numB (x :: y :: l) 1 with
      | false => exact .inl rfl
      | true =>
        right
        unfold numV
        rw [hb, cond_true]
        unfold numW
        rw [ha]
        show -digN (y :: l) 0 < 0
        unfold numB at hb
        rw [ha, Bool.and_eq_true] at hb
        have h2 := hb.2
        have h1 := hb.1
        rw [show List.drop 1 (x :: y :: l) = y :: l from rfl] at h2
        simp only [Bool.not_eq_true', Bool.or_eq_false_iff, decide_eq_false_iff_not, Bool.and_eq_false_iff] at h1
        obtain ⟨_, h3, h4⟩ := h1
        have hl0 : l = [] := by
          cases l with
          | nil => rfl
          | cons z l => exfalso; apply h3; simp only [List.length_cons]; omega
        subst hl0
        rw [show [x, y].getD 1 0 = y from rfl] at h4
        have hy : y ≠ 48 := by
          rintro rfl
          rcases h4 with h4 | h4
          · exact absurd h4 (by decide)
          · exact h4 (by simp)
        unfold digB dgB at h2
        simp only [Bool.and_eq_true, decide_eq_true_eq] at h2
        have : y.toNat ≠ 48 := fun e => hy (UInt8.toNat_inj.1 e)
        show -(10 * 0 + ((y.toNat : Int) - 48)) < 0
        omega
    · left
      have ha : numAt (x :: y :: l) = 0 := by
        unfold numAt
        rw [if_neg]
        simpa using hx
      unfold numB
      rw [ha]
      rw [show decide ((x :: y :: l).length = 0) = false from rfl, Bool.false_or]
      rw [decide_eq_true (show (1 : Int) < ((x :: y :: l).length : Int) - ((0 : Nat) : Int) by simp only [List.length_cons]; omega), Bool.true_or, Bool.not_true, Bool.false_and]
theorem rpar_tail (r : List UInt8) (k : Int) (hk : k = 0 ∨ k = 2) (K : AV → List Blk → Prop) (h : K (.tup [.agg [.int .i64 (parN k r).1, .int .i64 (parN k r).2.1], .one (.int .i64 (parN k r).2.2)]) []) :
    bif !numB r 1 then K (.tup [.agg [.int .i64 0, .int .i64 0], .one (.int .i64 7)]) [] else
      bif decide (numV r 1 < 0) then K (.tup [.agg [.int .i64 0, .int .i64 0], .one (.int .i64 7)]) [] else
        bif evE k (numV r 1) != 0 then K (.tup [.agg [.int .i64 0, .int .i64 0], .one (.int .i64 (evE k (numV r 1)))]) [] else
          K (.tup [.agg [.int .i64 k, .int .i64 (numV r 1)], .one (.int .i64 0)]) [] := by
  unfold parN at h
  rcases num1 r with ⟨h1, h2, h3⟩ | ⟨h1, h2⟩
  · rw [h3] at h
    dsimp only at h
    rw [h1, Bool.not_true, cond_false, decide_eq_false (by omega), cond_false]
    by_cases h4 : numV r 1 < nmsG k
    · rw [if_pos h4] at h
      have he : evE k (numV r 1) = 0 := by
        unfold evE
        rcases hk with rfl | rfl
        · have h4 : numV r 1 < 3 := h4
          have hw : withinG (numV r 1) 0 2 = true := by unfold withinG; rw [decide_eq_true h2, decide_eq_true (by omega)]; rfl
          rw [hw]; rfl
        · have h4 : numV r 1 < 2 := h4
          have hw : withinG (numV r 1) 0 1 = true := by unfold withinG; rw [decide_eq_true h2, decide_eq_true (by omega)]; rfl
          rw [hw]; rfl
      rw [he]
      exact h
    · rw [if_neg h4] at h
      have he : evE k (numV r 1) = 2 := by
        unfold evE
        rcases hk with rfl | rfl
        · have h4 : ¬ numV r 1 < 3 := h4
          have hw : withinG (numV r 1) 0 2 = false := by unfold withinG; rw [decide_eq_false (show ¬ numV r 1 ≤ 2 by omega), Bool.and_false]
          rw [hw]; rfl
        · have h4 : ¬ numV r 1 < 2 := h4
          have hw : withinG (numV r 1) 0 1 = false := by unfold withinG; rw [decide_eq_false (show ¬ numV r 1 ≤ 1 by omega), Bool.and_false]
          rw [hw]; rfl
      rw [he]
      exact h
  · cases h3 : dgG r with
    | some n => exact (h2 (by rw [h3]; rfl)).elim
    | none =>
      rw [h3] at h
      dsimp only at h
      cases hb : numB r 1 with
      | false => exact h
      | true =>
        rw [hb] at h1
        rw [Bool.not_true, cond_false, decide_eq_true (h1.resolve_left (by simp)), cond_true]
        exact h
theorem okrpr : SpecOK Tryd.prog 95 parS := by
  refine specOK (n := 75) (m := 0) (lps := [(3, .unroll 5)]) (.cons okctbD (.cons okwdsD (.cons oknum (.cons okevt .nil)))) Tryd.func95 (by kernel_rfl) (by kernel_rfl) (theLoops (n := 1) (by kernel_rfl) fun i hi => ?_) fun args σ K h => ?_
  · match i, hi with
    | 0, _ => exact loopHyp_none (key := 3) (n := 5) (by kernel_rfl) rfl
  unfold parS at h
  split at h
  rotate_right
  · exact h.elim
  rename_i s
  rw [exrpr s K]
  obtain ⟨h1, h⟩ := h
  refine And.intro ⟨h1, by omega, by omega⟩ ?_
  unfold parG at h
  unfold exrpr_x2 exrpr_x1 exrpr_x0
  rw [show UInt8.ofNat 32 = 32 from rfl]
  have hp := pcs_pos 32 s
  have e0 : (decide ((0 : Int) ≤ 0) && decide ((0 : Int) < ((List.map one1 (pcs 32 s)).length : Int))) = true := by
    rw [List.length_map, decide_eq_true (show (0 : Int) < ((pcs 32 s).length : Int) by omega)]; rfl
  have e1 : (decide (0 < 1) && decide (0 < (List.map one1 (pcs 32 s)).length)) = true := by
    rw [List.length_map, decide_eq_true hp]; rfl
  have n1 : (((List.map one1 (pcs 32 s)).length : Int) != 1) = hasB 32 s := by rw [List.length_map]; exact pcs_one 32 s
  have n2 : (((List.map one1 (pcs 32 s)).length : Int) != 2) = !(hasB 32 s && !hasB 32 (aft 32 s)) := by rw [List.length_map]; exact pcs_two 32 s
  rw [e0, e1, n1, n2, one1_at hp, pcs_head]
  have cm : ∀ l : List UInt8, (bef 32 s == l) = (l == bef 32 s) := fun l => BEq.comm
  rw [cm, cm, cm, cm]
  simp only [cond_true]
  have fin : ∀ k : Int, (k = 0 ∨ k = 2) → hasB 32 s = true → hasB 32 (aft 32 s) = false → K (.tup [.agg [.int .i64 (parN k (aft 32 s)).1, .int .i64 (parN k (aft 32 s)).2.1], .one (.int .i64 (parN k (aft 32 s)).2.2)]) [] →
      bif decide ((0 : Int) ≤ 1) && decide ((1 : Int) < ((List.map one1 (pcs 32 s)).length : Int)) then
        bif decide (0 < 1) && decide (1 < (List.map one1 (pcs 32 s)).length) then
          ((((List.map one1 (pcs 32 s)).getD 1 []).getD 0 (D.int 0)).toStr.length ≤ 1000000 ∧ (0 : Int) ≤ 1 ∧ (1 : Int) ≤ 18) ∧
            bif !numB (((List.map one1 (pcs 32 s)).getD 1 []).getD 0 (D.int 0)).toStr 1 then K (.tup [.agg [.int .i64 0, .int .i64 0], .one (.int .i64 7)]) [] else
              bif decide (numV (((List.map one1 (pcs 32 s)).getD 1 []).getD 0 (D.int 0)).toStr 1 < 0) then K (.tup [.agg [.int .i64 0, .int .i64 0], .one (.int .i64 7)]) [] else
                bif evE k (numV (((List.map one1 (pcs 32 s)).getD 1 []).getD 0 (D.int 0)).toStr 1) != 0 then K (.tup [.agg [.int .i64 0, .int .i64 0], .one (.int .i64 (evE k (numV (((List.map one1 (pcs 32 s)).getD 1 []).getD 0 (D.int 0)).toStr 1)))]) [] else
                  K (.tup [.agg [.int .i64 k, .int .i64 (numV (((List.map one1 (pcs 32 s)).getD 1 []).getD 0 (D.int 0)).toStr 1)], .one (.int .i64 0)]) []
        else False
      else False := by
    intro k hk g1 g2 hK
    have hl : 1 < (pcs 32 s).length := by
      have := pcs_two 32 s
      rw [g1, g2] at this
      simp only [Bool.not_false, Bool.and_self, Bool.not_true, bne_eq_false_iff_eq] at this
      omega
    have hlm : 1 < (List.map one1 (pcs 32 s)).length := by rw [List.length_map]; exact hl
    rw [decide_eq_true (show (0 : Int) ≤ 1 by omega), decide_eq_true (show (1 : Int) < ((List.map one1 (pcs 32 s)).length : Int) by omega), decide_eq_true (show 0 < 1 by omega), decide_eq_true hlm]
    rw [Bool.and_self, cond_true, cond_true, one1_at hl, pcs_snd g1 g2]
    have := aft_le 32 s
    exact ⟨⟨by omega, by omega, by omega⟩, rpar_tail _ k hk K hK⟩
  have nope : hasB 32 s = true → hasB 32 (aft 32 s) = true → ∀ k, parN k (aft 32 s) = (0, 0, 7) := by
    intro g1 g2 k
    unfold parN
    have : dgG (aft 32 s) = none := by
      unfold dgG
      split
      · rename_i d hd
        rw [hd] at g2
        unfold hasB at g2
        split at g2
        · rename_i h32
          subst h32
          rfl
        · cases g2
      · rfl
    rw [this]
  rcases word5 (bef 32 s) with ⟨_, b0, b1, b2, b3, hk⟩ | ⟨_, b0, b1, b2, b3, hk⟩ | ⟨_, b0, b1, b2, b3, hk⟩ | ⟨_, b0, b1, b2, b3, hk⟩ | ⟨b0, b1, b2, b3, hk⟩ <;>
    (rw [hk] at h; cases m : hasB 32 s <;> rw [m] at h <;> cases m2 : hasB 32 (aft 32 s) <;> simp only [b0, b1, b2, b3, Bool.not_true, Bool.not_false, Bool.and_self, Bool.and_true, Bool.and_false, Bool.false_and, Bool.true_and, cond_true, cond_false])
  all_goals first | exact h | (exact fin 0 (.inl rfl) m m2 h) | (exact fin 2 (.inr rfl) m m2 h) | (have hh := nope m m2; have h : K (.tup [.agg [.int .i64 (parN 0 (aft 32 s)).1, .int .i64 (parN 0 (aft 32 s)).2.1], .one (.int .i64 (parN 0 (aft 32 s)).2.2)]) [] := h; rw [hh] at h; exact h) | (have hh := nope m m2; have h : K (.tup [.agg [.int .i64 (parN 2 (aft 32 s)).1, .int .i64 (parN 2 (aft 32 s)).2.1], .one (.int .i64 (parN 2 (aft 32 s)).2.2)]) [] := h; rw [hh] at h; exact h)
end Go.Ev
