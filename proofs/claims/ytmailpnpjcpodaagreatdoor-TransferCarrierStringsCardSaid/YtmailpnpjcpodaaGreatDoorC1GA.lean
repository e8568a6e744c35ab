/-
  Part of the proof of a law.
-/
import Derived.Test.YtmailpnpjcpodaaGreatDoorC1G
import Derived.KernelRfl
import Derived.Test.YtmailpnpjcpodaaGreatDoorCStr
import Derived.Test.YtmailpnpjcpodaaGreatDoorCNum
import Derived.Lib.Join
import Derived.Test.YtmailpnpjcpodaaGreatDoorEvTab
import Derived.Test.YtmailpnpjcpodaaGreatDoorC1GS
import Derived.Lib.ItoaLen
import Derived.Lib.AtoiErrMem
import Derived.Lib.SplitLaws
set_option linter.unusedVariables false
set_option linter.unusedSimpArgs false
set_option linter.unusedSectionVars false
/-
  Chapter 1, contracts: strings of blocks.
-/
namespace Go.Ev
open Go Go.Proofs
set_option maxRecDepth 20000
set_option linter.unusedVariables false
def strcutS : Spec := fun args σ K => match args, σ with
  | [.one (.str s), .one (.str [c])], [] => s.length ≤ 1000000 ∧ K (.tup [.one (.str (bef c s)), .one (.str (aft c s)), .one (.bool (hasB c s))]) []
  | _, _ => False
def itoaS : Spec := fun args σ K => match args, σ with
  | [.one (.int .i64 n)], [] => (-9223372036854775808 ≤ n ∧ n ≤ 9223372036854775807) ∧ K (.one (.str (itoG n))) []
  | _, _ => False
def atoiS : Spec := fun args σ K => match args, σ with
  | [.one (.str s)], [] => s.length ≤ 1000000 ∧ K (.tup [.one (.int .i64 (atoV s)), .one (.ifc (atoB s))]) []
  | _, _ => False
def one1 (s : List UInt8) : List D := [.str s]
def splitS : Spec := fun args σ K => match args, σ with
  | [.one (.str s), .one (.str [c])], [] => s.length ≤ 1000000 ∧ K (.one (.data (.recs [.str] ((pcs c s).map one1)))) []
  | _, _ => False
def strG (d : List D) : List UInt8 := (d.getD 0 (.int 0)).toStr
def joinG (c : UInt8) (l : List (List D)) : List UInt8 := Lib.join (l.map strG) [c]
def joinS : Spec := fun args σ K => match args, σ with
  | [.one (.data (.recs [.str] l)), .one (.str [c])], [] => (1 ≤ l.length ∧ l.length ≤ 1000 ∧ (joinG c l).length ≤ 140737488355328) ∧ K (.one (.str (joinG c l))) []
  | _, _ => False
def tpS : Spec := fun args σ K => match args, σ with
  | [.one (.str s), .one (.str [45])], [] => K (.one (.str (tpG s))) []
  | _, _ => False
def numberS : Spec := fun args σ K => match args, σ with
  | [.one (.str s), .one (.bool b)], [] => s.length ≤ 1000000 ∧ K (.tup [.one (.int .i64 (atoV s)), .one (.bool (nmB s b))]) []
  | _, _ => False
def decL : LSpec := fun vs σ k => match vs, σ with
  | [.one (.int .i64 n), .one (.str s), .one (.str g)], [] => ((digF n ++ s).length ≤ 1000 ∧ -9223372036854775808 ≤ n ∧ n ≤ 9223372036854775807) ∧ k (.exit 0) [.one (.str (digF n ++ s)), .one (.str g)] []
  | _, _ => False
def numL : LSpec := fun vs σ k => match vs, σ with
  | [.one (.str s), .one (.int .i64 a), .one (.int .i64 n), .one (.int .i64 i)], [] => (s.length ≤ 1000000 ∧ 0 ≤ i ∧ i ≤ s.length ∧ s.length ≤ i + 18 ∧ 0 ≤ n ∧ (n + 1) * 10 ^ (s.length - i.toNat) ≤ 1000000000000000000) ∧
    bif digB (s.drop i.toNat) then k (.exit 0) [.any, .any, .one (.int .i64 a), .one (.int .i64 (digN (s.drop i.toNat) n))] [] else k .ret [.one (.int .i64 0), .one (.bool false), .one (.int .i64 a), .one (.int .i64 (digX (s.drop i.toNat) n))] []
  | _, _ => False
def numS : Spec := fun args σ K => match args, σ with
  | [.one (.str s), .one (.int .i64 d)], [] => (s.length ≤ 1000000 ∧ 0 ≤ d ∧ d ≤ 18) ∧ K (.tup [.one (.int .i64 (numV s d)), .one (.bool (numB s d))]) []
  | _, _ => False
def frmG (c : UInt8) : List UInt8 → Nat → Nat → Nat
  | [], _, f => f
  | x :: r, i, f => if x = c then frmG c r (i + 1) (i + 1) else frmG c r (i + 1) f
def pcsR (c : UInt8) (s : List UInt8) : List UInt8 → Nat → Nat → List (List UInt8)
  | [], _, _ => []
  | x :: r, i, f => if x = c then ((s.drop f).take (i - f)) :: pcsR c s r (i + 1) (i + 1) else pcsR c s r (i + 1) f
def cutBL : LSpec := fun vs σ k => match vs, σ with
  | [.one (.str s), .one (.int .u8 c), .one .nil, .one (.int .i64 f), .one (.int .i64 i)], [] => (s.length ≤ 1000000 ∧ 0 ≤ c ∧ c < 256 ∧ 0 ≤ f ∧ f ≤ i ∧ i ≤ s.length) ∧
    bif (pcsR (UInt8.ofNat c.toNat) s (s.drop i.toNat) i.toNat f.toNat).isEmpty then k (.exit 0) [.one (.str s), .one .nil, .one (.int .i64 (frmG (UInt8.ofNat c.toNat) (s.drop i.toNat) i.toNat f.toNat))] [] else
      k (.exit 0) [.one (.str s), .one (.own 0 1), .one (.int .i64 (frmG (UInt8.ofNat c.toNat) (s.drop i.toNat) i.toNat f.toNat))] [.row 9 (.recs [.str] ((pcsR (UInt8.ofNat c.toNat) s (s.drop i.toNat) i.toNat f.toNat).map one1))]
  | [.one (.str s), .one (.int .u8 c), .one (.own 0 1), .one (.int .i64 f), .one (.int .i64 i)], [.row 9 (.recs [.str] l)] => (s.length ≤ 1000000 ∧ 0 ≤ c ∧ c < 256 ∧ 0 ≤ f ∧ f ≤ i ∧ i ≤ s.length ∧ l.length ≤ i) ∧
      k (.exit 0) [.one (.str s), .one (.own 0 1), .one (.int .i64 (frmG (UInt8.ofNat c.toNat) (s.drop i.toNat) i.toNat f.toNat))] [.row 9 (.recs [.str] (l ++ (pcsR (UInt8.ofNat c.toNat) s (s.drop i.toNat) i.toNat f.toNat).map one1))]
  | _, _ => False
def cutBS : Spec := fun args σ K => match args, σ with
  | [.one (.str s), .one (.int .u8 c)], [] => (s.length ≤ 1000000 ∧ 0 ≤ c ∧ c < 256) ∧ K (.one (.own 0 1)) [.row 9 (.recs [.str] ((pcs (UInt8.ofNat c.toNat) s).map one1))]
  | _, _ => False
def cutDS : Spec := fun args σ K => match args, σ with
  | [.one (.str s), .one (.int .u8 c)], [] => (s.length ≤ 1000000 ∧ 0 ≤ c ∧ c < 256) ∧ K (.one (.data (.recs [.str] ((pcs (UInt8.ofNat c.toNat) s).map one1)))) []
  | _, _ => False
def decS : Spec := fun args σ K => match args, σ with
  | [.one (.int .i64 n)], [] => (-9223372036854775808 ≤ n ∧ n ≤ 9223372036854775807) ∧ K (.one (.str (itoG n))) []
  | _, _ => False
noncomputable abbrev Edec : Env := envOf Tryz.prog [(99, sizeS)] [(6, .spec [0, 3, 4] [3, 4] decL)] 27 0
noncomputable abbrev Enum : Env := envOf Tryz.prog [] [(8, .spec [0, 6, 7, 8] [4, 5, 6, 7] numL)] 70 0
noncomputable abbrev Ectb : Env := envOf Tryz.prog [] [(4, .spec [0, 1, 5, 6, 7] [0, 5, 6] cutBL)] 34 0
noncomputable abbrev Enmb : Env := envOf Tryz.prog [(94, atoiS), (37, itoaS), (95, tpS)] [] 35 0
end Go.Ev

namespace Go.Ev
open Go Go.Proofs
set_option maxRecDepth 100000
theorem exdec (n : Int) (K : AV → List Blk → Prop) : evFn Edec Tryz.f53 [.one (.int .i64 n)] [] K = ( bif n == 0 then K (.one (.str [(48 : UInt8)])) [] else bif decide (n < 0) then ((digF n ++ []).length ≤ 1000 ∧ (-9223372036854775808 : Int) ≤ n ∧ n ≤ 9223372036854775807) ∧ bif decide (1 + (digF n ++ []).length ≤ 140737488355328) then K (.one (.str ((45 : UInt8) :: (digF n ++ [])))) [] else False else ((digF n ++ []).length ≤ 1000 ∧ (-9223372036854775808 : Int) ≤ n ∧ n ≤ 9223372036854775807) ∧ bif decide (0 + (digF n ++ []).length ≤ 140737488355328) then K (.one (.str (digF n ++ []))) [] else False) := by kernel_rfl
theorem exdecl0a (n : Int) (s g : List UInt8) (K : Ex → List AV → List Blk → Prop) : evBody Edec (lb Tryz.f53 0) [0, 3, 4] [3, 4] [.one (.int .i64 n), .one (.str s), .one (.str g)] [] K = ( bif n != 0 then bif decide ([UInt8.ofNat (IntKind.u8.wrap (IntKind.i64.wrap (48 + sizeG (n.tmod 10)))).toNat].length + s.length ≤ 140737488355328) then K .normal [.one (.int .i64 (IntKind.i64.wrap (n.tdiv 10))), .one (.str (UInt8.ofNat (IntKind.u8.wrap (IntKind.i64.wrap (48 + sizeG (n.tmod 10)))).toNat :: s)), .one (.str g)] [] else False else K (.exit 0) [.one (.str s), .one (.str g)] []) := by kernel_rfl
def exnum_x0 (s : List UInt8) (d : Int) (K : AV → List Blk → Prop) : Prop := (
 bif (↑s.length : Int) == (0 : Int) then K (AV.tup [TV.one (SV.int IntKind.i64 (0 : Int)), TV.one (SV.bool false)]) []
 else
 bif decide (IntKind.i64.wrap ((↑s.length : Int) - (0 : Int)) > d) then
 K (AV.tup [TV.one (SV.int IntKind.i64 (0 : Int)), TV.one (SV.bool false)]) []
 else
 bif decide ((0 : Int) ≤ (0 : Int)) && decide ((0 : Nat) < s.length) then
 bif (↑(s.getD (0 : Nat) (0 : UInt8)).toNat : Int) == (48 : Int) then
 bif decide ((↑s.length : Int) > (1 : Int)) then
 K (AV.tup [TV.one (SV.int IntKind.i64 (0 : Int)), TV.one (SV.bool false)]) []
 else
 (s.length ≤ (1000000 : Nat) ∧
 (0 : Int) ≤ (0 : Int) ∧
 (0 : Int) ≤ (↑s.length : Int) ∧
 (↑s.length : Int) ≤ (18 : Int) ∧
 (0 : Int) ≤ (0 : Int) ∧
 (1 : Int) * (10 : Int) ^ (s.length - (0 : Nat)) ≤ (1000000000000000000 : Int)) ∧
 bif digB s then K (AV.tup [TV.one (SV.int IntKind.i64 (digN s (0 : Int))), TV.one (SV.bool true)]) []
 else K (AV.tup [TV.one (SV.int IntKind.i64 (0 : Int)), TV.one (SV.bool false)]) []
 else
 (s.length ≤ (1000000 : Nat) ∧
 (0 : Int) ≤ (0 : Int) ∧
 (0 : Int) ≤ (↑s.length : Int) ∧
 (↑s.length : Int) ≤ (18 : Int) ∧
 (0 : Int) ≤ (0 : Int) ∧
 (1 : Int) * (10 : Int) ^ (s.length - (0 : Nat)) ≤ (1000000000000000000 : Int)) ∧
 bif digB s then K (AV.tup [TV.one (SV.int IntKind.i64 (digN s (0 : Int))), TV.one (SV.bool true)]) []
 else K (AV.tup [TV.one (SV.int IntKind.i64 (0 : Int)), TV.one (SV.bool false)]) []
 else False)
theorem exnum (s : List UInt8) (d : Int) (K : AV → List Blk → Prop) : evFn Enum Tryz.f42 [.one (.str s), .one (.int .i64 d)] [] K = ( bif decide ((↑s.length : Int) > 0) then bif decide ((0 :Int) ≤ (0 :Int)) && decide (0 < s.length) then bif (↑(s.getD 0 (0 : UInt8)).toNat : Int) == 45 then bif (↑s.length : Int) == 1 then K (AV.tup [.one (.int .i64 0), .one (.bool false)]) [] else bif decide (IntKind.i64.wrap ((↑s.length : Int) - 1) > d) then K (AV.tup [.one (.int .i64 0), .one (.bool false)]) [] else bif decide ((0 :Int) ≤ (1 :Int)) && decide (1 < s.length) then bif (↑(s.getD 1 (0 : UInt8)).toNat : Int) == 48 then bif decide ((↑s.length : Int) > 1) then K (AV.tup [.one (.int .i64 0), .one (.bool false)]) [] else (s.length ≤ 1000000 ∧ (0 :Int) ≤ (1 :Int) ∧ 1 ≤ (↑s.length : Int) ∧ (↑s.length : Int) ≤ 19 ∧ (0 :Int) ≤ (0 :Int) ∧ (1 :Int) * (10 :Int) ^ (s.length - 1) ≤ 1000000000000000000) ∧ bif digB (List.drop 1 s) then K (AV.tup [.one (.int .i64 (IntKind.i64.wrap (0 - digN (List.drop 1 s) 0))), .one (.bool true)]) [] else K (AV.tup [.one (.int .i64 0), .one (.bool false)]) [] else (s.length ≤ 1000000 ∧ (0 :Int) ≤ (1 :Int) ∧ 1 ≤ (↑s.length : Int) ∧ (↑s.length : Int) ≤ 19 ∧ (0 :Int) ≤ (0 :Int) ∧ (1 :Int) * (10 :Int) ^ (s.length - 1) ≤ 1000000000000000000) ∧ bif digB (List.drop 1 s) then K (AV.tup [.one (.int .i64 (IntKind.i64.wrap (0 - digN (List.drop 1 s) 0))), .one (.bool true)]) [] else K (AV.tup [.one (.int .i64 0), .one (.bool false)]) [] else False else exnum_x0 s d K else False else exnum_x0 s d K) := by kernel_rfl
theorem exnuml0a (s : List UInt8) (a n i : Int) (K : Ex → List AV → List Blk → Prop) : evBody Enum (lb Tryz.f42 0) [0, 6, 7, 8] [4, 5, 6, 7] [.one (.str s), .one (.int .i64 a), .one (.int .i64 n), .one (.int .i64 i)] [] K = ( bif decide (i < (↑s.length : Int)) then bif decide (0 ≤ i) && decide (i.toNat < s.length) then bif decide ((↑(s.getD i.toNat (0 : UInt8)).toNat : Int) < 48) then K .ret [.one (.int .i64 0), .one (.bool false), .one (.int .i64 a), .one (.int .i64 n)] [] else bif decide (0 ≤ i) && decide (i.toNat < s.length) then bif decide ((↑(s.getD i.toNat (0 : UInt8)).toNat : Int) > 57) then K .ret [.one (.int .i64 0), .one (.bool false), .one (.int .i64 a), .one (.int .i64 n)] [] else bif decide (0 ≤ i) && decide (i.toNat < s.length) then K .normal [.one (.str s), .one (.int .i64 a), .one (.int .i64 (IntKind.i64.wrap (IntKind.i64.wrap (10 * n) + IntKind.i64.wrap (IntKind.u8.wrap ((↑(s.getD i.toNat (0 : UInt8)).toNat : Int) - 48))))), .one (.int .i64 (IntKind.i64.wrap (i + 1)))] [] else False else False else False else K (.exit 0) [AV.any, AV.any, .one (.int .i64 a), .one (.int .i64 n)] []) := by kernel_rfl
theorem exctb (s : List UInt8) (c : Int) (K : AV → List Blk → Prop) : evFn Ectb Tryz.f41 [.one (.str s), .one (.int .u8 c)] [] K = ( (s.length ≤ 1000000 ∧ 0 ≤ c ∧ c < 256 ∧ (0 :Int) ≤ (0 :Int) ∧ (0 :Int) ≤ (0 :Int) ∧ 0 ≤ (↑s.length : Int)) ∧ bif (pcsR (UInt8.ofNat c.toNat) s s 0 0).isEmpty then bif decide (0 ≤ (↑(frmG (UInt8.ofNat c.toNat) s 0 0) : Int)) && (decide (s.length ≤ s.length) && decide ((↑(frmG (UInt8.ofNat c.toNat) s 0 0) : Int).toNat ≤ s.length)) then K (.one (.own 0 1)) [Blk.row 9 (Row.recs [CK.str] [[D.str (List.take (s.length - (↑(frmG (UInt8.ofNat c.toNat) s 0 0) : Int).toNat) (List.drop (↑(frmG (UInt8.ofNat c.toNat) s 0 0) : Int).toNat s))]])] else False else bif decide (0 ≤ (↑(frmG (UInt8.ofNat c.toNat) s 0 0) : Int)) && (decide (s.length ≤ s.length) && decide ((↑(frmG (UInt8.ofNat c.toNat) s 0 0) : Int).toNat ≤ s.length)) then bif decide ((List.map one1 (pcsR (UInt8.ofNat c.toNat) s s 0 0) ++ [[D.str (List.take (s.length - (↑(frmG (UInt8.ofNat c.toNat) s 0 0) : Int).toNat) (List.drop (↑(frmG (UInt8.ofNat c.toNat) s 0 0) : Int).toNat s))]]).length * 16 ≤ 140737488355328 ∧ (List.map one1 (pcsR (UInt8.ofNat c.toNat) s s 0 0) ++ [[D.str (List.take (s.length - (↑(frmG (UInt8.ofNat c.toNat) s 0 0) : Int).toNat) (List.drop (↑(frmG (UInt8.ofNat c.toNat) s 0 0) : Int).toNat s))]]).length ≤ 140737488355328) then K (.one (.own 0 1)) [Blk.row 9 (Row.recs [CK.str] (List.map one1 (pcsR (UInt8.ofNat c.toNat) s s 0 0) ++ [[D.str (List.take (s.length - (↑(frmG (UInt8.ofNat c.toNat) s 0 0) : Int).toNat) (List.drop (↑(frmG (UInt8.ofNat c.toNat) s 0 0) : Int).toNat s))]]))] else False else False) := by kernel_rfl
theorem exctbl0a (s : List UInt8) (c f i : Int) (K : Ex → List AV → List Blk → Prop) : evBody Ectb (lb Tryz.f41 0) [0, 1, 5, 6, 7] [0, 5, 6] [.one (.str s), .one (.int .u8 c), .one .nil, .one (.int .i64 f), .one (.int .i64 i)] [] K = ( bif decide (i < (↑s.length : Int)) then bif decide (0 ≤ i) && decide (i.toNat < s.length) then bif (↑(s.getD i.toNat (0 : UInt8)).toNat : Int) == c then bif decide (0 ≤ f) && (decide (0 ≤ i) && (decide (i.toNat ≤ s.length) && decide (f.toNat ≤ i.toNat))) then K .normal [.one (.str s), .one (.int IntKind.u8 c), .one (.own 0 1), .one (.int .i64 (IntKind.i64.wrap (i + 1))), .one (.int .i64 (IntKind.i64.wrap (i + 1)))] [Blk.row 9 (Row.recs [CK.str] [[D.str (List.take (i.toNat - f.toNat) (List.drop f.toNat s))]])] else False else K .normal [.one (.str s), .one (.int IntKind.u8 c), .one .nil, .one (.int .i64 f), .one (.int .i64 (IntKind.i64.wrap (i + 1)))] [] else False else K (.exit 0) [.one (.str s), .one .nil, .one (.int .i64 f)] []) := by kernel_rfl
theorem exctbl0b (s : List UInt8) (c f i : Int) (l : List (List D)) (K : Ex → List AV → List Blk → Prop) : evBody Ectb (lb Tryz.f41 0) [0, 1, 5, 6, 7] [0, 5, 6] [.one (.str s), .one (.int .u8 c), .one (.own 0 1), .one (.int .i64 f), .one (.int .i64 i)] [.row 9 (.recs [.str] l)] K = ( bif decide (i < (↑s.length : Int)) then bif decide (0 ≤ i) && decide (i.toNat < s.length) then bif (↑(s.getD i.toNat (0 : UInt8)).toNat : Int) == c then bif decide (0 ≤ f) && (decide (0 ≤ i) && (decide (i.toNat ≤ s.length) && decide (f.toNat ≤ i.toNat))) then bif decide ((l ++ [[D.str (List.take (i.toNat - f.toNat) (List.drop f.toNat s))]]).length * 16 ≤ 140737488355328 ∧ (l ++ [[D.str (List.take (i.toNat - f.toNat) (List.drop f.toNat s))]]).length ≤ 140737488355328) then K .normal [.one (.str s), .one (.int IntKind.u8 c), .one (.own 0 1), .one (.int .i64 (IntKind.i64.wrap (i + 1))), .one (.int .i64 (IntKind.i64.wrap (i + 1)))] [Blk.row 9 (Row.recs [CK.str] (l ++ [[D.str (List.take (i.toNat - f.toNat) (List.drop f.toNat s))]]))] else False else False else K .normal [.one (.str s), .one (.int IntKind.u8 c), .one (.own 0 1), .one (.int .i64 f), .one (.int .i64 (IntKind.i64.wrap (i + 1)))] [Blk.row 9 (Row.recs [CK.str] l)] else False else K (.exit 0) [.one (.str s), .one (.own 0 1), .one (.int .i64 f)] [Blk.row 9 (Row.recs [CK.str] l)]) := by kernel_rfl
theorem exnmb (s : List UInt8) (b : Bool) (K : AV → List Blk → Prop) : evFn Enmb Tryz.f40 [.one (.str s), .one (.bool b)] [] K = ( s.length ≤ 1000000 ∧ bif atoB s then ((-9223372036854775808 : Int) ≤ atoV s ∧ atoV s ≤ 9223372036854775807) ∧ bif itoG (atoV s) == s then bif b then K (AV.tup [.one (.int .i64 (atoV s)), .one (.bool (decide ((↑(tpG s).length : Int) ≤ 6)))]) [] else bif decide (atoV s ≥ 0) then K (AV.tup [.one (.int .i64 (atoV s)), .one (.bool (decide ((↑(tpG s).length : Int) ≤ 6)))]) [] else K (AV.tup [.one (.int .i64 (atoV s)), .one (.bool false)]) [] else K (AV.tup [.one (.int .i64 (atoV s)), .one (.bool false)]) [] else K (AV.tup [.one (.int .i64 (atoV s)), .one (.bool false)]) []) := by kernel_rfl
end Go.Ev

/-
  Chapter 1: strings: the library's contracts; numbers, numerals, pieces.
-/
namespace Go.Ev
open Go Go.Proofs
attribute [local irreducible] evFn evBody evRound
set_option maxRecDepth 20000
set_option linter.unusedVariables false
set_option linter.unusedSimpArgs false
theorem okito : SpecOK Tryz.prog 37 itoaS := by
  refine SpecOK.lib ⟨_, _, Tryz.func37, rfl, by kernel_rfl⟩ fun args σ K h => ?_
  unfold itoaS at h
  split at h
  rotate_right
  · exact h.elim
  rename_i n
  refine ⟨rfl, fun m vals w hg ha => ?_⟩
  match vals, ha with
  | [v], ha =>
    obtain rfl : v = .int .i64 n := ha.1
    refine (Tryz.strconv_Itoa n h.1.1 h.1.2 w (hg.tabIs (g := 2) (by kernel_rfl) (by decide) (by kernel_rfl))).mono ?_
    rintro e w' ⟨rfl, k, os, rfl⟩
    exact ⟨_, _, rfl, h.2, (Grows.drewN w k).trans (Grows.grow _ os), rfl⟩
theorem okcut : SpecOK Tryz.prog 47 strcutS := by
  refine SpecOK.lib ⟨_, _, Tryz.func47, rfl, by kernel_rfl⟩ fun args σ K h => ?_
  unfold strcutS at h
  split at h
  rotate_right
  · exact h.elim
  rename_i s c
  refine ⟨rfl, fun m vals w hg ha => ?_⟩
  match vals, ha with
  | [v, u], ha =>
    obtain rfl : v = .string ⟨s.toArray⟩ := ha.1
    obtain rfl : u = .string ⟨[c].toArray⟩ := ha.2.1
    obtain ⟨x, hx⟩ := hg.someInt (g := 1) (by kernel_rfl)
    refine (Tryz.strings_Cut ⟨s.toArray⟩ ⟨[c].toArray⟩ x w (by have := h.1; show s.toArray.size < _; rw [List.size_toArray]; omega) hx).mono ?_
    rintro e w' ⟨rfl, n, rfl⟩
    refine ⟨_, _, rfl, h.2, Grows.drewN w n, _, rfl, ?_⟩
    have e1 : Lib.cut (ByteArray.mk s.toArray).data.toList (ByteArray.mk [c].toArray).data.toList = (bef c s, aft c s, hasB c s) := cut_one c s
    rw [e1]
    exact ⟨rfl, rfl, rfl, trivial⟩
theorem glob_iface {m : Nat → Prop} {w : World} {g : Nat} (h : GlobOK m w) (hl : globOf Glob.tab g = some [SV.ifc false]) : ∃ ev, w.cell? ⟨g, 0, none⟩ = some ev ∧ (ev = .nilIface ∨ ∃ te pe, ev = .iface te pe) := by
  obtain ⟨_, _, h3⟩ := h g _ hl
  obtain ⟨⟨u, hu, hd⟩, _⟩ := h3 0 (.ifc false) rfl
  refine ⟨u, hu, ?_⟩
  rcases hd with ⟨h1, _⟩ | ⟨_, h1⟩
  · cases h1
  · exact .inr h1
theorem okato : SpecOK Tryz.prog 94 atoiS := by
  refine SpecOK.lib ⟨_, _, Tryz.func94, rfl, by kernel_rfl⟩ fun args σ K h => ?_
  unfold atoiS at h
  split at h
  rotate_right
  · exact h.elim
  rename_i s
  obtain ⟨hl, h⟩ := h
  refine ⟨rfl, fun m vals w hg ha => ?_⟩
  match vals, ha with
  | [v], ha =>
    obtain rfl : v = .string ⟨s.toArray⟩ := ha.1
    have hsz : (ByteArray.mk s.toArray).size ≤ 1000000 := by
      show s.toArray.size ≤ _
      rw [List.size_toArray]; exact hl
    unfold atoV atoB at h
    rcases hx : Lib.atoiAll s with n | _ | _
    · rw [hx] at h
      refine (Tryz.strconv_Atoi_ok ⟨s.toArray⟩ (by omega) n hx w).mono ?_
      rintro e w' ⟨rfl, hw⟩
      refine ⟨_, _, rfl, h, ?_, _, rfl, rfl, .inl ⟨rfl, rfl⟩, trivial⟩
      rcases hw with rfl | ⟨t, rfl⟩
      · exact Grows.refl _
      · exact Grows.of_below (Lib.bytesWorld_below _ _ _)
    · rw [hx] at h
      obtain ⟨ev, hv, hev⟩ := glob_iface hg (g := 3) (by kernel_rfl)
      refine (Tryz.strconv_Atoi_syntax ⟨s.toArray⟩ (by omega) (hx.trans rfl) ev w hv hev).mono ?_
      rintro e w' ⟨N, rfl, _, _, hb⟩
      exact ⟨_, _, rfl, h, Grows.of_below hb, _, rfl, rfl, .inr ⟨rfl, _, _, rfl⟩, trivial⟩
    · rw [hx] at h
      obtain ⟨ev, hv, hev⟩ := glob_iface hg (g := 4) (by kernel_rfl)
      refine (Tryz.strconv_Atoi_range ⟨s.toArray⟩ (by omega) hx ev w hv hev).mono ?_
      rintro e w' ⟨N, rfl, _, _, hb⟩
      exact ⟨_, _, rfl, h, Grows.of_below hb, _, rfl, rfl, .inr ⟨rfl, _, _, rfl⟩, trivial⟩
theorem oktp : SpecOK Tryz.prog 95 tpS := by
  refine SpecOK.lib ⟨_, _, Tryz.func95, rfl, by kernel_rfl⟩ fun args σ K h => ?_
  unfold tpS at h
  split at h
  rotate_right
  · exact h.elim
  rename_i s
  refine ⟨rfl, fun m vals w hg ha => ?_⟩
  match vals, ha with
  | [v, u], ha =>
    obtain rfl : v = .string ⟨s.toArray⟩ := ha.1
    obtain rfl : u = .string ⟨[45].toArray⟩ := ha.2.1
    refine (Tryz.strings_TrimPrefix ⟨s.toArray⟩ ⟨[45].toArray⟩ w).mono ?_
    rintro e w' ⟨rfl, rfl⟩
    exact ⟨_, _, rfl, h, Grows.refl _, rfl⟩
theorem addr_flat {w : World} {a : Addr} {v : Value} (h : w.cell? a = some v) : a = ⟨a.block, a.off, none⟩ := by
  obtain ⟨b, o, s⟩ := a
  cases s with
  | none => rfl
  | some s =>
    unfold World.cell? at h
    split at h
    · rw [if_pos (by simp)] at h; cases h
    · cases h
theorem add_flat (b o j : Nat) : (⟨b, o, none⟩ : Addr).add j = ⟨b, o + j, none⟩ := by
  unfold Addr.add
  split
  · rename_i h; subst h; rfl
  · rfl
theorem okjoin : SpecOK Tryz.prog 38 joinS := by
  refine SpecOK.lib ⟨_, _, Tryz.func38, rfl, by kernel_rfl⟩ fun args σ K h => ?_
  unfold joinS at h
  split at h
  rotate_right
  · exact h.elim
  rename_i l c
  obtain ⟨⟨h1, h2, h3⟩, h⟩ := h
  refine ⟨rfl, fun m vals w hg ha => ?_⟩
  match vals, ha with
  | [v, u], ha =>
    obtain ⟨a, cap, rfl, hc1, hc2, had⟩ := ha.1
    obtain rfl : u = .string ⟨[c].toArray⟩ := ha.2.1
    have hcount : (Row.recs [.str] l).count = l.length := rfl
    obtain ⟨ad, rfl, hb, hm, hcell⟩ := had.resolve_left (by rw [hcount]; omega)
    have hat : ∀ (i : Nat) (xs : List D), l[i]? = some xs → w.cell? (ad.add i) = some (.string ⟨(strG xs).toArray⟩) := by
      intro i xs hi
      obtain ⟨u, hu, hd⟩ := hcell i xs hi 0 .str rfl
      have hd2 : u = .string ⟨(strG xs).toArray⟩ := hd
      rw [← hd2, ← hu]
      show w.cell? (ad.add i) = w.cell? (ad.add (i * 1 + 0))
      rw [Nat.mul_one, Nat.add_zero]
    have hflat : ad = ⟨ad.block, ad.off, none⟩ := by
      have h0 := hat 0 l[0] (List.getElem?_eq_getElem (by omega))
      exact addr_flat h0
    rw [hflat] at hat ⊢
    have hj : ((l.map fun x => ByteArray.mk (strG x).toArray).map (·.data.toList)) = l.map strG := by
      rw [List.map_map]
      exact List.map_congr_left fun x _ => rfl
    have hlen2 : (l.map fun x => ByteArray.mk (strG x).toArray).length = l.length := List.length_map _
    have hres := Tryz.strings_Join ad.block ad.off cap (l.map fun x => ByteArray.mk (strG x).toArray) ⟨[c].toArray⟩ w (fun j x hx => by
        rw [List.getElem?_map] at hx
        cases hl : l[j]? with
        | none => rw [hl] at hx; cases hx
        | some xs =>
          rw [hl] at hx
          simp only [Option.map_some, Option.some.injEq] at hx
          subst hx
          have := hat j xs hl
          rwa [add_flat] at this) hb (by omega) (by rw [hlen2]; rw [hcount] at hc1; exact hc1) (by rw [hj]; exact h3)
    rw [hlen2] at hres
    refine hres.mono ?_
    rintro e w' ⟨rfl, hb2⟩
    rw [hj]
    exact ⟨_, _, rfl, h, Grows.of_below hb2, rfl⟩
theorem oksplit : SpecOK Tryz.prog 39 splitS := by
  refine SpecOK.lib2 ⟨_, _, Tryz.func39, rfl, by kernel_rfl⟩ fun args σ K h => ?_
  unfold splitS at h
  split at h
  rotate_right
  · exact h.elim
  rename_i s c
  obtain ⟨hl, h⟩ := h
  refine ⟨rfl, fun m vals w hg hm ha => ?_⟩
  match vals, ha with
  | [v, u], ha =>
    obtain rfl : v = .string ⟨s.toArray⟩ := ha.1
    obtain rfl : u = .string ⟨[c].toArray⟩ := ha.2.1
    obtain ⟨x, hx⟩ := hg.someInt (g := 1) (by kernel_rfl)
    have hsz : (ByteArray.mk s.toArray).size = s.length := List.size_toArray
    have hc1 : 1 ≤ (ByteArray.mk [c].toArray).size := Nat.le_refl 1
    have hall := Lib.splitB_all (ByteArray.mk [c].toArray) hc1 0 _ (ByteArray.mk s.toArray) rfl
    have hdat := Lib.splitB_data (ByteArray.mk [c].toArray) 0 (Lib.countB (ByteArray.mk s.toArray) (ByteArray.mk [c].toArray)) (ByteArray.mk s.toArray)
    have hspl : Lib.splitK (ByteArray.mk [c].toArray).data.toList 0 (Lib.countB (ByteArray.mk s.toArray) (ByteArray.mk [c].toArray)) (ByteArray.mk s.toArray).data.toList = pcs c s := split_one c s
    rw [hspl] at hdat
    have hcb := Lib.countB_le (ByteArray.mk [c].toArray) hc1 _ (ByteArray.mk s.toArray) (Nat.le_refl _)
    have hres := Tryz.strings_Split ⟨s.toArray⟩ ⟨[c].toArray⟩ x w (by rw [hsz]; omega) hx hc1
    refine hres.mono ?_
    rintro e w' ⟨rfl, rfl⟩
    generalize hn : Lib.countB (ByteArray.mk s.toArray) (ByteArray.mk [c].toArray) = n at *
    generalize Lib.splitB (ByteArray.mk [c].toArray) 0 n (ByteArray.mk s.toArray) = L at *
    have hpl : (pcs c s).length = n + 1 := by rw [← hdat, List.length_map]; exact hall
    have hcount : (Row.recs [.str] ((pcs c s).map one1)).count = n + 1 := by
      show ((pcs c s).map one1).length = n + 1
      rw [List.length_map]; exact hpl
    have hget : ∀ b, b < w.heap.size → (w.alloc (.cells (L.map Value.string).toArray 9)).heap[b]? = w.heap[b]? := fun b hb => by
      show (w.heap.push _)[b]? = _
      rw [Array.getElem?_push, if_neg (by omega)]
    have hnew : (w.alloc (.cells (L.map Value.string).toArray 9)).heap[w.heap.size]? = some (.cells (L.map Value.string).toArray 9 (0, 0)) := by
      show (w.heap.push _)[w.heap.size]? = _
      rw [Array.getElem?_push, if_pos rfl]
    refine ⟨_, _, rfl, h, Grows.of_heap rfl rfl rfl (by show w.heap.size ≤ (w.heap.push _).size; rw [Array.size_push]; omega) hget, some ⟨w.heap.size, 0, none⟩, n + 1, ?_, ?_, ?_, .inr ⟨_, rfl, ?_, fun hmm => Nat.lt_irrefl _ (hm _ hmm), ?_⟩⟩
    · rw [hcount]
    · rw [hcount]; exact Nat.le_refl _
    · have : n ≤ s.length := by rw [← hsz]; exact hcb
      unfold maxLen; omega
    · show w.heap.size < (w.heap.push _).size
      rw [Array.size_push]; omega
    · intro i xs hi c' ck hc'
      cases c' with
      | succ c' => simp at hc'
      | zero =>
        simp only [List.getElem?_cons_zero, Option.some.injEq] at hc'
        subst hc'
        rw [List.getElem?_map] at hi
        cases hp : (pcs c s)[i]? with
        | none => rw [hp] at hi; cases hi
        | some q =>
          rw [hp] at hi
          simp only [Option.map_some, Option.some.injEq] at hi
          subst hi
          rw [← hdat, List.getElem?_map] at hp
          cases hL : L[i]? with
          | none => rw [hL] at hp; cases hp
          | some y =>
            rw [hL] at hp
            simp only [Option.map_some, Option.some.injEq] at hp
            refine ⟨.string y, ?_, ?_⟩
            · show (w.alloc _).cell? ((⟨w.heap.size, 0, none⟩ : Addr).add (i * 1 + 0)) = _
              rw [add_flat, cell_of_cells hnew]
              simp [hL]
            · show Value.string y = .string ⟨q.toArray⟩
              rw [← hp, Array.toArray_toList]
theorem itoG_len {n : Int} (h : -9223372036854775808 ≤ n ∧ n ≤ 9223372036854775807) : (itoG n).length ≤ 21 := Lib.itoa_length_le n h.1 h.2
theorem digF_len {n : Int} (h : -9223372036854775808 ≤ n ∧ n ≤ 9223372036854775807) : (digF n).length ≤ 21 := by
  have h1 := Lib.itoa_length_le n h.1 h.2
  rw [itoa_digF] at h1
  by_cases h0 : n = 0
  · subst h0; decide
  · rw [if_neg h0, List.length_append] at h1; omega
theorem lokdec_0 : LoopOK Edec (lb Tryz.f53 0) [0, 3, 4] [3, 4] decL := by
  refine loopOK (.cons ok137 .nil) (noInner (by kernel_rfl)) (fun vs σ => match vs, σ with
    | [.one (.int .i64 n), .one (.str _), .one (.str _)], [] => n.natAbs
    | _, _ => 0) fun vs σ k h => ?_
  unfold decL at h
  split at h
  rotate_right
  · exact h.elim
  · rename_i n s g
    rw [exdecl0a n s g _]
    obtain ⟨⟨h1, h2, h3⟩, h⟩ := h
    by_cases h0 : n = 0
    · subst h0
      rw [show digF 0 = [] from rfl] at h
      exact h
    · have hb : (n != 0) = true := by simpa using h0
      have e : UInt8.ofNat (IntKind.u8.wrap (IntKind.i64.wrap ((48 : Int) + sizeG (n.tmod (10 : Int))))).toNat = UInt8.ofNat (48 + n.natAbs % 10) := by
        have hm : (n.tmod 10).natAbs = n.natAbs % 10 := by rw [Int.natAbs_tmod]; rfl
        have hs : sizeG (n.tmod 10) = ((n.natAbs % 10 : Nat) : Int) := by
          unfold sizeG wi
          rw [wrap_id (by omega) (by omega)]
          split <;> omega
        rw [hs, wrap_id (by omega) (by omega)]
        congr 1
        have e1 : (2 : Int) ^ IntKind.u8.bits = 256 := by decide
        have e3 : IntKind.u8.signed = false := rfl
        unfold IntKind.wrap
        simp only [e1, e3, Bool.false_and, Bool.false_eq_true, if_false]
        omega
      have hq : IntKind.i64.wrap (n.tdiv 10) = n.tdiv 10 := by
        have : (n.tdiv 10).natAbs = n.natAbs / 10 := by rw [Int.natAbs_tdiv]; rfl
        exact wrap_id (by omega) (by omega)
      have hd := digF_step h0 s
      rw [hd] at h h1
      rw [hb, cond_true, e, hq]
      have hlen : s.length ≤ 1000 := by
        rw [List.length_append, List.length_cons] at h1; omega
      rw [decide_eq_true (by simp only [List.length_cons, List.length_nil]; omega), cond_true]
      have ha : (n.tdiv 10).natAbs = n.natAbs / 10 := by rw [Int.natAbs_tdiv]; rfl
      have hmu : (n.tdiv 10).natAbs < n.natAbs := by rw [ha]; omega
      exact ⟨⟨⟨h1, by omega, by omega⟩, h⟩, hmu⟩
theorem okdec : SpecOK Tryz.prog 53 decS := by
  refine specOK (n := 27) (m := 0) (lps := [(6, .spec [0, 3, 4] [3, 4] decL)]) (.cons ok137 .nil) Tryz.func53 (by kernel_rfl) (by kernel_rfl) (theLoops (n := 1) (by kernel_rfl) fun i hi => ?_) fun args σ K h => ?_
  · match i, hi with
    | 0, _ => exact loopHyp_of (key := 6) (by kernel_rfl) rfl lokdec_0
  unfold decS at h
  split at h
  rotate_right
  · exact h.elim
  rename_i n
  rw [exdec n K]
  obtain ⟨h1, h⟩ := h
  have hl := digF_len h1
  have e : itoG n = if n = 0 then [48] else (if n < 0 then [45] else []) ++ digF n := itoa_digF n
  rw [e] at h
  rw [List.append_nil]
  by_cases h0 : n = 0
  · subst h0; exact h
  · rw [if_neg h0] at h
    have hb : (n == 0) = false := by simpa using h0
    rw [hb, cond_false]
    by_cases hn : n < 0
    · rw [if_pos hn] at h
      rw [decide_eq_true hn, cond_true]
      refine And.intro ⟨by omega, h1⟩ ?_
      rw [decide_eq_true (by omega), cond_true]
      exact h
    · rw [if_neg hn] at h
      rw [decide_eq_false hn, cond_false]
      refine And.intro ⟨by omega, h1⟩ ?_
      rw [decide_eq_true (by omega), cond_true]
      exact h
theorem drop_byte {s : List UInt8} {i : Nat} (h : i < s.length) : s.drop i = s.getD i 0 :: s.drop (i + 1) := drop_step 0 h
theorem loknum_0 : LoopOK Enum (lb Tryz.f42 0) [0, 6, 7, 8] [4, 5, 6, 7] numL := by
  refine loopOK .nil (noInner (by kernel_rfl)) (fun vs σ => match vs, σ with
    | [.one (.str s), .one (.int .i64 _), .one (.int .i64 _), .one (.int .i64 i)], [] => s.length - i.toNat
    | _, _ => 0) fun vs σ k h => ?_
  unfold numL at h
  split at h
  rotate_right
  · exact h.elim
  · rename_i s a n i
    rw [exnuml0a s a n i _]
    obtain ⟨⟨h0, h1, h2, h3, h4, h5⟩, h⟩ := h
    by_cases hi : i < (s.length : Int)
    · have hi' : i.toNat < s.length := by omega
      have hd := drop_byte hi'
      rw [hd] at h
      unfold digB digN digX dgB at h
      have hp : s.length - i.toNat = (s.length - (i.toNat + 1)) + 1 := by omega
      generalize hpe : s.length - (i.toNat + 1) = p at hp
      have hpow : (1 : Int) ≤ 10 ^ p := by
        have : (0 : Int) < 10 ^ p := Int.pow_pos (by decide)
        omega
      rw [hp, Int.pow_succ] at h5
      have hn10 : n * 10 + 10 ≤ 1000000000000000000 := by
        have h6 : (n + 1) * 10 * 1 ≤ (n + 1) * 10 * 10 ^ p := Int.mul_le_mul_of_nonneg_left hpow (by omega)
        have h7 : (n + 1) * (10 ^ p * 10) = (n + 1) * 10 * 10 ^ p := by rw [Int.mul_comm (10 ^ p) 10, Int.mul_assoc]
        rw [h7] at h5
        omega
      generalize hb : (s.getD i.toNat 0).toNat = b at *
      rw [decide_eq_true hi, decide_eq_true h1, decide_eq_true hi']
      simp only [Bool.and_self, cond_true]
      by_cases hlo : 48 ≤ b
      · rw [decide_eq_true hlo, Bool.true_and] at h
        rw [decide_eq_false (show ¬ ((b : Int) < 48) by omega), cond_false]
        by_cases hhi : b ≤ 57
        · rw [decide_eq_true hhi, cond_true, Bool.true_and] at h
          rw [decide_eq_false (show ¬ ((b : Int) > 57) by omega), cond_false]
          have hu : IntKind.u8.wrap ((b : Int) - 48) = (b : Int) - 48 := by
            have e1 : (2 : Int) ^ IntKind.u8.bits = 256 := by decide
            have e3 : IntKind.u8.signed = false := rfl
            unfold IntKind.wrap
            simp only [e1, e3, Bool.false_and, Bool.false_eq_true, if_false]
            omega
          have hw1 : IntKind.i64.wrap ((10 : Int) * n) = 10 * n := wrap_id (by omega) (by omega)
          have hw2 : IntKind.i64.wrap ((b : Int) - 48) = (b : Int) - 48 := wrap_id (by omega) (by omega)
          have hw3 : IntKind.i64.wrap (10 * n + ((b : Int) - 48)) = 10 * n + ((b : Int) - 48) := wrap_id (by omega) (by omega)
          have hw4 : IntKind.i64.wrap (i + 1) = i + 1 := wrap_id (by omega) (by omega)
          rw [hu, hw1, hw2, hw3, hw4]
          have hit : (i + 1).toNat = i.toNat + 1 := by omega
          refine ⟨⟨⟨h0, by omega, by omega, by omega, by omega, ?_⟩, ?_⟩, ?_⟩
          · rw [hit, hpe]
            have h7 : (n + 1) * (10 ^ p * 10) = (10 * (n + 1)) * 10 ^ p := by rw [Int.mul_comm (10 ^ p) 10, ← Int.mul_assoc, Int.mul_comm (n + 1) 10]
            rw [h7] at h5
            refine Int.le_trans (Int.mul_le_mul_of_nonneg_right ?_ (by omega)) h5
            omega
          · rw [hit]; exact h
          · show s.length - (i + 1).toNat < s.length - i.toNat
            omega
        · rw [decide_eq_false hhi, cond_false, Bool.false_and] at h
          rw [decide_eq_true (show ((b : Int) > 57) by omega), cond_true]
          exact h
      · rw [decide_eq_false hlo, Bool.false_and, cond_false, Bool.false_and] at h
        rw [decide_eq_true (show ((b : Int) < 48) by omega), cond_true]
        exact h
    · rw [decide_eq_false hi]
      rw [List.drop_eq_nil_of_le (by omega)] at h
      exact h
theorem pow10_le {p : Nat} (h : p ≤ 18) : (1 : Int) * (10 : Int) ^ p ≤ 1000000000000000000 := by
  have h3 := Nat.pow_le_pow_right (n := 10) (by decide) h
  have e : (10 : Nat) ^ 18 = 1000000000000000000 := by decide
  have e2 : ((10 ^ p : Nat) : Int) = (10 : Int) ^ p := by simp
  rw [Int.one_mul, ← e2]
  omega
theorem digN_lt : ∀ {l : List UInt8} {n : Int}, digB l = true → 0 ≤ n → 0 ≤ digN l n ∧ digN l n < (n + 1) * 10 ^ l.length
  | [], n, _, h0 => by
    unfold digN
    simp only [List.length_nil, Int.pow_zero, Int.mul_one]
    omega
  | b :: l, n, hb, h0 => by
    unfold digB dgB at hb
    simp only [Bool.and_eq_true, decide_eq_true_eq] at hb
    unfold digN
    obtain ⟨h1, h2⟩ := digN_lt (l := l) (n := 10 * n + ((b.toNat : Int) - 48)) hb.2 (by omega)
    refine ⟨h1, Int.lt_of_lt_of_le h2 ?_⟩
    rw [List.length_cons, Int.pow_succ]
    have hpow : (0 : Int) ≤ 10 ^ l.length := Int.pow_nonneg (by decide)
    have h7 : (n + 1) * (10 ^ l.length * 10) = (10 * (n + 1)) * 10 ^ l.length := by rw [Int.mul_comm (10 ^ l.length) 10, ← Int.mul_assoc, Int.mul_comm (n + 1) 10]
    rw [h7]
    exact Int.mul_le_mul_of_nonneg_right (by omega) hpow
theorem byte_eq {b c : UInt8} : ((b.toNat : Int) == (c.toNat : Int)) = (b == c) := by
  rw [Bool.eq_iff_iff, beq_iff_eq, beq_iff_eq]
  constructor
  · intro h; exact UInt8.toNat_inj.1 (by omega)
  · rintro rfl; rfl
theorem oknum : SpecOK Tryz.prog 42 numS := by
  refine specOK (n := 70) (m := 0) (lps := [(8, .spec [0, 6, 7, 8] [4, 5, 6, 7] numL)]) .nil Tryz.func42 (by kernel_rfl) (by kernel_rfl) (theLoops (n := 1) (by kernel_rfl) fun i hi => ?_) fun args σ K h => ?_
  · match i, hi with
    | 0, _ => exact loopHyp_of (key := 8) (by kernel_rfl) rfl loknum_0
  unfold numS at h
  split at h
  rotate_right
  · exact h.elim
  rename_i s d
  rw [exnum s d K]
  obtain ⟨⟨h1, h2, h3⟩, h⟩ := h
  have hp18 : ∀ p : Nat, p ≤ 18 → (1 : Int) * (10 : Int) ^ p ≤ 1000000000000000000 := fun p hp => pow10_le hp
  have hlen0 : decide ((s.length : Int) > 0) = decide (0 < s.length) := by rw [decide_eq_decide]; omega
  have c45 : ∀ b : UInt8, ((b.toNat : Int) == (45 : Int)) = (b == 45) := fun b => byte_eq (c := 45)
  have c48 : ∀ b : UInt8, ((b.toNat : Int) == (48 : Int)) = (b == 48) := fun b => byte_eq (c := 48)
  match s, h1, h with
  | [], h1, h => exact h
  | b :: r, h1, h =>
    have hat : numAt (b :: r) = if b = 45 then 1 else 0 := by
      unfold numAt
      simp only [List.head?_cons, Option.some.injEq]
    have hl : ((b :: r).length : Int) = (r.length : Int) + 1 := by simp
    rw [decide_eq_true (show ((b :: r).length : Int) > 0 by omega), cond_true]
    rw [decide_eq_true (show (0 : Int) ≤ 0 by omega), decide_eq_true (show 0 < (b :: r).length by simp)]
    rw [Bool.and_self, cond_true, c45]
    rw [show (b :: r).getD 0 0 = b from rfl]
    by_cases hb : b = 45
    · have hbb : (b == 45) = true := by rw [hb]; rfl
      rw [hbb, cond_true]
      rw [if_pos hb] at hat
      unfold numV numW numB at h
      rw [hat] at h
      rw [show (1 == 1) = true from rfl, show List.drop 1 (b :: r) = r from rfl, cond_true] at h
      rw [show List.drop 1 (b :: r) = r from rfl]
      cases r with
      | nil => exact h
      | cons x l =>
        have e1 : ((b :: x :: l).length : Int) = (l.length : Int) + 2 := by simp; omega
        have hll : (b :: x :: l).length = l.length + 2 := by simp
        rw [show ((((b :: x :: l).length : Nat) : Int) == 1) = false by rw [beq_eq_false_iff_ne]; omega, cond_false]
        have hw : IntKind.i64.wrap (((b :: x :: l).length : Int) - 1) = (l.length : Int) + 1 := by rw [wrap_id (by omega) (by omega)]; omega
        rw [hw]
        rw [show decide ((b :: x :: l).length = 1) = false by rw [decide_eq_false_iff_not]; omega, Bool.false_or] at h
        rw [show ((b :: x :: l).length : Int) - ((1 : Nat) : Int) = (l.length : Int) + 1 by omega] at h
        by_cases hd : d < (l.length : Int) + 1
        · rw [decide_eq_true hd, Bool.true_or, Bool.not_true, Bool.false_and] at h
          rw [decide_eq_true (show (l.length : Int) + 1 > d by omega), cond_true]
          exact h
        · rw [decide_eq_false hd, Bool.false_or] at h
          rw [decide_eq_false (show ¬ (l.length : Int) + 1 > d by omega), cond_false]
          rw [decide_eq_true (show (0 : Int) ≤ 1 by omega), decide_eq_true (show 1 < (b :: x :: l).length by omega), Bool.and_self, cond_true, c48]
          rw [show (b :: x :: l).getD 1 0 = x from rfl] at h ⊢
          rw [decide_eq_true (show 1 < (b :: x :: l).length by omega), Bool.and_true] at h
          rw [decide_eq_true (show ((b :: x :: l).length : Int) > 1 by omega)]
          cases hx : (x == 48) with
          | true => rw [hx] at h; exact h
          | false =>
            rw [hx, Bool.not_false, Bool.true_and] at h
            rw [cond_false]
            refine And.intro ⟨h1, by omega, by omega, by omega, by omega, hp18 _ (by omega)⟩ ?_
            cases hg : digB (x :: l) with
            | false => rw [hg] at h; exact h
            | true =>
              rw [hg] at h
              have hlt := (digN_lt hg (Int.le_refl 0))
              have hp : (0 + 1) * (10 : Int) ^ (x :: l).length ≤ 1000000000000000000 := by
                have := hp18 (x :: l).length (by simp only [List.length_cons]; omega)
                rwa [Int.zero_add]
              rw [show IntKind.i64.wrap ((0 : Int) - digN (x :: l) 0) = -digN (x :: l) 0 by rw [wrap_id (by omega) (by omega)]; omega]
              exact h
    · have hbb : (b == 45) = false := by simpa using hb
      rw [hbb, cond_false]
      rw [if_neg hb] at hat
      unfold numV numW numB at h
      rw [hat] at h
      rw [show ((0 : Nat) == 1) = false from rfl, show List.drop 0 (b :: r) = b :: r from rfl, cond_false] at h
      unfold exnum_x0
      have hll : (b :: r).length = r.length + 1 := by simp
      rw [show ((((b :: r).length : Nat) : Int) == 0) = false by rw [beq_eq_false_iff_ne]; omega, cond_false]
      have hw : IntKind.i64.wrap (((b :: r).length : Int) - 0) = (r.length : Int) + 1 := by rw [wrap_id (by omega) (by omega)]; omega
      rw [hw]
      rw [show decide ((b :: r).length = 0) = false by rw [decide_eq_false_iff_not]; omega, Bool.false_or] at h
      rw [show ((b :: r).length : Int) - ((0 : Nat) : Int) = (r.length : Int) + 1 by omega] at h
      by_cases hd : d < (r.length : Int) + 1
      · rw [decide_eq_true hd, Bool.true_or, Bool.not_true, Bool.false_and] at h
        rw [decide_eq_true (show (r.length : Int) + 1 > d by omega), cond_true]
        exact h
      · rw [decide_eq_false hd, Bool.false_or] at h
        rw [decide_eq_false (show ¬ (r.length : Int) + 1 > d by omega), cond_false]
        rw [decide_eq_true (show (0 : Int) ≤ 0 by omega), decide_eq_true (show 0 < (b :: r).length by omega), Bool.and_self, cond_true, c48]
        rw [show (b :: r).getD 0 0 = b from rfl] at h ⊢
        have hfin : ((b == 48 && decide (1 < (b :: r).length)) = false) → (((b :: r).length ≤ 1000000 ∧ (0 : Int) ≤ 0 ∧ (0 : Int) ≤ ((b :: r).length : Int) ∧ ((b :: r).length : Int) ≤ 18 ∧ (0 : Int) ≤ 0 ∧ (1 : Int) * (10 : Int) ^ ((b :: r).length - 0) ≤ 1000000000000000000) ∧
            bif digB (b :: r) then K (AV.tup [TV.one (SV.int IntKind.i64 (digN (b :: r) 0)), TV.one (SV.bool true)]) [] else K (AV.tup [TV.one (SV.int IntKind.i64 0), TV.one (SV.bool false)]) []) := by
          intro hz
          rw [hz, Bool.not_false, Bool.true_and] at h
          refine And.intro ⟨h1, by omega, by omega, by omega, by omega, hp18 _ (by omega)⟩ ?_
          cases hg : digB (b :: r) with
          | false => rw [hg] at h; exact h
          | true => rw [hg] at h; exact h
        cases hx : (b == 48) with
        | true =>
          rw [hx, Bool.true_and] at h hfin
          by_cases hr : 1 < (b :: r).length
          · rw [decide_eq_true hr] at h
            rw [cond_true, decide_eq_true (show ((b :: r).length : Int) > 1 by omega)]
            exact h
          · rw [cond_true, decide_eq_false (show ¬ ((b :: r).length : Int) > 1 by omega), cond_false]
            exact hfin (decide_eq_false hr)
        | false =>
          rw [hx, Bool.false_and] at hfin
          exact hfin rfl
theorem byte_is {x : UInt8} {c : Int} (h0 : 0 ≤ c) (h1 : c < 256) : ((x.toNat : Int) == c) = decide (x = UInt8.ofNat c.toNat) := by
  rw [Bool.eq_iff_iff, beq_iff_eq, decide_eq_true_eq]
  have e : (UInt8.ofNat c.toNat).toNat = c.toNat := by rw [UInt8.toNat_ofNat']; exact Nat.mod_eq_of_lt (by omega)
  constructor
  · intro h; exact UInt8.toNat_inj.1 (by omega)
  · intro h; rw [h]; omega
theorem frmG_le (c : UInt8) : ∀ (r : List UInt8) (i f : Nat), f ≤ i → frmG c r i f ≤ i + r.length
  | [], i, f, h => by unfold frmG; simpa using h
  | x :: r, i, f, h => by
    unfold frmG
    rw [List.length_cons]
    split
    · have := frmG_le c r (i + 1) (i + 1) (Nat.le_refl _); omega
    · have := frmG_le c r (i + 1) f (by omega); omega
theorem pcsR_len (c : UInt8) (s : List UInt8) : ∀ (r : List UInt8) (i f : Nat), (pcsR c s r i f).length ≤ r.length
  | [], i, f => by simp [pcsR]
  | x :: r, i, f => by
    unfold pcsR
    rw [List.length_cons]
    split
    · have := pcsR_len c s r (i + 1) (i + 1); rw [List.length_cons]; omega
    · have := pcsR_len c s r (i + 1) f; omega
theorem pcsR_all (c : UInt8) (s : List UInt8) : ∀ (r : List UInt8) (i f : Nat), r = s.drop i → f ≤ i → i ≤ s.length → pcsR c s r i f ++ [s.drop (frmG c r i f)] = glue ((s.drop f).take (i - f)) (pcs c r)
  | [], i, f, hr, hf, hi => by
    have hi2 : i = s.length := by
      have := congrArg List.length hr
      simp at this; omega
    unfold pcsR frmG
    rw [glue_end, List.nil_append]
    congr 1
    rw [List.take_of_length_le (by rw [List.length_drop]; omega)]
  | x :: r, i, f, hr, hf, hi => by
    have hil : i < s.length := by
      have := congrArg List.length hr
      simp at this; omega
    have hd := drop_byte hil
    rw [hd] at hr
    obtain ⟨hx, hr2⟩ := List.cons.inj hr
    unfold pcsR frmG
    by_cases h : x = c
    · subst h
      rw [if_pos rfl, if_pos rfl, List.cons_append, pcsR_all x s r (i + 1) (i + 1) hr2 (Nat.le_refl _) (by omega), glue_at]
      rw [Nat.sub_self, List.take_zero, glue_nil (pcs_ne _ _)]
    · rw [if_neg h, if_neg h, pcsR_all c s r (i + 1) f hr2 (by omega) (by omega), glue_on h]
      congr 1
      rw [show i + 1 - f = (i - f) + 1 by omega, List.take_add_one, List.getElem?_drop, show f + (i - f) = i by omega, List.getElem?_eq_getElem hil]
      rw [hx, getD_of_lt hil]
      rfl
theorem pcs_eq (c : UInt8) (s : List UInt8) : pcsR c s s 0 0 ++ [s.drop (frmG c s 0 0)] = pcs c s := by
  rw [pcsR_all c s s 0 0 rfl (Nat.le_refl _) (Nat.zero_le _)]
  exact glue_nil (pcs_ne _ _)
theorem lokctb_0 : LoopOK Ectb (lb Tryz.f41 0) [0, 1, 5, 6, 7] [0, 5, 6] cutBL := by
  refine loopOK .nil (noInner (by kernel_rfl)) (fun vs σ => match vs, σ with
    | [.one (.str s), .one (.int .u8 _), .one .nil, .one (.int .i64 _), .one (.int .i64 i)], [] => s.length - i.toNat
    | [.one (.str s), .one (.int .u8 _), .one (.own 0 1), .one (.int .i64 _), .one (.int .i64 i)], [.row 9 (.recs [.str] _)] => s.length - i.toNat
    | _, _ => 0) fun vs σ k h => ?_
  unfold cutBL at h
  split at h
  rotate_right
  · exact h.elim
  · rename_i s c f i
    rw [exctbl0a s c f i _]
    obtain ⟨⟨h1, c0, c1, f0, hfi, hil⟩, h⟩ := h
    by_cases hi : i < (s.length : Int)
    · have hi' : i.toNat < s.length := by omega
      have hw : IntKind.i64.wrap (i + 1) = i + 1 := wrap_id (by omega) (by omega)
      have hit : (i + 1).toNat = i.toNat + 1 := by omega
      have hmu : s.length - (i + 1).toNat < s.length - i.toNat := by omega
      rw [drop_byte hi'] at h
      unfold pcsR frmG at h
      rw [decide_eq_true hi, decide_eq_true (show 0 ≤ i by omega), decide_eq_true hi', Bool.and_self, cond_true, cond_true, byte_is c0 c1, hw]
      by_cases hb : s.getD i.toNat 0 = UInt8.ofNat c.toNat
      · rw [if_pos hb, if_pos hb] at h
        rw [decide_eq_true hb, decide_eq_true f0, decide_eq_true (show i.toNat ≤ s.length by omega), decide_eq_true (show f.toNat ≤ i.toNat by omega)]
        simp only [Bool.and_self, cond_true]
        refine ⟨⟨⟨h1, c0, c1, by omega, by omega, by omega, by simp; omega⟩, ?_⟩, hmu⟩
        rw [hit]
        exact h
      · rw [if_neg hb, if_neg hb] at h
        rw [decide_eq_false hb, cond_false]
        refine ⟨⟨⟨h1, c0, c1, f0, by omega, by omega⟩, ?_⟩, hmu⟩
        rw [hit]
        exact h
    · rw [decide_eq_false hi]
      rw [List.drop_eq_nil_of_le (by omega)] at h
      unfold pcsR frmG at h
      rw [show ((f.toNat : Nat) : Int) = f by omega] at h
      exact h
  · rename_i s c f i l
    rw [exctbl0b s c f i l _]
    obtain ⟨⟨h1, c0, c1, f0, hfi, hil, hl⟩, h⟩ := h
    by_cases hi : i < (s.length : Int)
    · have hi' : i.toNat < s.length := by omega
      have hw : IntKind.i64.wrap (i + 1) = i + 1 := wrap_id (by omega) (by omega)
      have hit : (i + 1).toNat = i.toNat + 1 := by omega
      have hmu : s.length - (i + 1).toNat < s.length - i.toNat := by omega
      rw [drop_byte hi'] at h
      unfold pcsR frmG at h
      rw [decide_eq_true hi, decide_eq_true (show 0 ≤ i by omega), decide_eq_true hi', Bool.and_self, cond_true, cond_true, byte_is c0 c1, hw]
      by_cases hb : s.getD i.toNat 0 = UInt8.ofNat c.toNat
      · rw [if_pos hb, if_pos hb] at h
        rw [decide_eq_true hb, decide_eq_true f0, decide_eq_true (show i.toNat ≤ s.length by omega), decide_eq_true (show f.toNat ≤ i.toNat by omega)]
        simp only [Bool.and_self, cond_true]
        have hl2 : (l ++ [[D.str (List.take (i.toNat - f.toNat) (List.drop f.toNat s))]]).length = l.length + 1 := by simp
        rw [hl2, decide_eq_true (show (l.length + 1) * 16 ≤ 140737488355328 ∧ l.length + 1 ≤ 140737488355328 by omega), cond_true]
        refine ⟨⟨⟨h1, c0, c1, by omega, by omega, by omega, by rw [hl2]; omega⟩, ?_⟩, hmu⟩
        rw [hit]
        rw [List.map_cons, List.append_cons] at h
        exact h
      · rw [if_neg hb, if_neg hb] at h
        rw [decide_eq_false hb, cond_false]
        refine ⟨⟨⟨h1, c0, c1, f0, by omega, by omega, by omega⟩, ?_⟩, hmu⟩
        rw [hit]
        exact h
    · rw [decide_eq_false hi]
      rw [List.drop_eq_nil_of_le (by omega)] at h
      unfold pcsR frmG at h
      rw [show ((f.toNat : Nat) : Int) = f by omega, List.map_nil, List.append_nil] at h
      exact h
theorem okctb : SpecOK Tryz.prog 41 cutBS := by
  refine specOK (n := 34) (m := 0) (lps := [(4, .spec [0, 1, 5, 6, 7] [0, 5, 6] cutBL)]) .nil Tryz.func41 (by kernel_rfl) (by kernel_rfl) (theLoops (n := 1) (by kernel_rfl) fun i hi => ?_) fun args σ K h => ?_
  · match i, hi with
    | 0, _ => exact loopHyp_of (key := 4) (by kernel_rfl) rfl lokctb_0
  unfold cutBS at h
  split at h
  rotate_right
  · exact h.elim
  rename_i s c
  rw [exctb s c K]
  obtain ⟨⟨h1, c0, c1⟩, h⟩ := h
  refine And.intro ⟨h1, c0, c1, by omega, by omega, by omega⟩ ?_
  have hf := frmG_le (UInt8.ofNat c.toNat) s 0 0 (Nat.le_refl _)
  have hp := pcsR_len (UInt8.ofNat c.toNat) s s 0 0
  have he := pcs_eq (UInt8.ofNat c.toNat) s
  rw [← he] at h
  generalize frmG (UInt8.ofNat c.toNat) s 0 0 = F at *
  generalize pcsR (UInt8.ofNat c.toNat) s s 0 0 = L at *
  rw [Nat.zero_add] at hf
  have hdr : List.take (s.length - F) (List.drop F s) = List.drop F s := List.take_of_length_le (by rw [List.length_drop]; omega)
  rw [decide_eq_true (show (0 : Int) ≤ (F : Int) by omega), decide_eq_true (Nat.le_refl s.length)]
  rw [show ((F : Int).toNat) = F from rfl, decide_eq_true hf, hdr]
  simp only [Bool.and_self, cond_true]
  cases L with
  | nil => exact h
  | cons p l =>
    rw [show (p :: l).isEmpty = false from rfl, cond_false]
    have hl2 : (List.map one1 (p :: l) ++ [[D.str (List.drop F s)]]).length = l.length + 2 := by simp
    rw [hl2, decide_eq_true (by simp only [List.length_cons] at hp; omega), cond_true]
    rw [List.map_append] at h
    exact h
theorem okctbD : SpecOK Tryz.prog 41 cutDS := by
  refine okctb.froze fun args σ K h => ?_
  unfold cutDS at h
  split at h
  rotate_right
  · exact h.elim
  rename_i s c
  refine ⟨rfl, h.1, _, ?_, h.2⟩
  exact ⟨_, _, rfl, rfl, rfl⟩
theorem one1_at {L : List (List UInt8)} {j : Nat} (h : j < L.length) : (((List.map one1 L).getD j []).getD 0 (D.int 0)).toStr = L.getD j [] := by
  have e : (List.map one1 L).getD j [] = one1 (L.getD j []) := by simp [List.getD, List.getElem?_eq_getElem h]
  rw [e]
  rfl
theorem pcs_pos (c : UInt8) (s : List UInt8) : 0 < (pcs c s).length := List.length_pos_iff.2 (pcs_ne c s)
theorem pcs_one (c : UInt8) (s : List UInt8) : (((pcs c s).length : Int) != 1) = hasB c s := by
  cases h : hasB c s with
  | true =>
    rw [pcs_has h]
    have := pcs_pos c (aft c s)
    simp only [List.length_cons, bne_iff_ne]; omega
  | false => rw [pcs_no h]; rfl
theorem pcs_two (c : UInt8) (s : List UInt8) : (((pcs c s).length : Int) != 2) = !(hasB c s && !hasB c (aft c s)) := by
  cases h : hasB c s with
  | true =>
    rw [pcs_has h, Bool.true_and, Bool.not_not]
    have h1 := pcs_one c (aft c s)
    rw [← h1, Bool.eq_iff_iff]
    simp only [List.length_cons, bne_iff_ne]; omega
  | false => rw [pcs_no h]; rfl
theorem aft_le (c : UInt8) (s : List UInt8) : (aft c s).length ≤ s.length := by
  cases h : hasB c s with
  | true => have := aft_len h; omega
  | false => rw [aft_no h]; simp
theorem atoV_range (s : List UInt8) (h : atoB s = true) : -9223372036854775808 ≤ atoV s ∧ atoV s ≤ 9223372036854775807 := by
  unfold atoB at h
  unfold atoV
  rcases hx : Lib.atoiAll s with v | _ | _
  · have := Lib.atoiAll_bounds hx
    show -9223372036854775808 ≤ v ∧ v ≤ 9223372036854775807
    omega
  · rw [hx] at h; cases h
  · rw [hx] at h; cases h
theorem oknmb : SpecOK Tryz.prog 40 numberS := by
  refine specOK (n := 35) (m := 0) (lps := []) (.cons okato (.cons okito (.cons oktp .nil))) Tryz.func40 (by kernel_rfl) (by kernel_rfl) (noLoops (by kernel_rfl)) fun args σ K h => ?_
  unfold numberS at h
  split at h
  rotate_right
  · exact h.elim
  rename_i s b
  rw [exnmb s b K]
  obtain ⟨h1, h⟩ := h
  refine And.intro h1 ?_
  unfold nmB at h
  cases ha : atoB s with
  | false => rw [ha] at h; exact h
  | true =>
    rw [ha] at h
    refine And.intro (atoV_range s ha) ?_
    cases hi : (itoG (atoV s) == s) with
    | false => rw [hi] at h; exact h
    | true =>
      rw [hi] at h
      cases b with
      | true => exact h
      | false =>
        cases hv : decide (atoV s ≥ 0) with
        | true => rw [hv] at h; exact h
        | false => rw [hv] at h; exact h
end Go.Ev
