/-
  Part of the proof of a law.
-/
import Derived.Test.YtmailpnpjcpodaaGreatDoorC1GB
import Derived.KernelRfl
import Derived.Test.YtmailpnpjcpodaaGreatDoorC1GC
set_option linter.unusedVariables false
set_option linter.unusedSimpArgs false
set_option linter.unusedSectionVars false
/-
  Chapter 1, contracts: strings of carriers.
-/
namespace Go.Ev
open Go Go.Proofs
set_option maxRecDepth 20000
set_option linter.unusedVariables false
def wdsS : Spec := fun args σ K => match args, σ with
  | [], [] => K (.one (.own 0 1)) [.row 9 (.recs [.str] [[.str [100, 105, 115, 99]], [.str [99, 121, 108, 105, 110, 100, 101, 114]], [.str [116, 97, 112, 101]]])]
  | _, _ => False
def wdsDS : Spec := fun args σ K => match args, σ with
  | [], [] => K (.one (.data (.recs [.str] [[.str [100, 105, 115, 99]], [.str [99, 121, 108, 105, 110, 100, 101, 114]], [.str [116, 97, 112, 101]]]))) []
  | _, _ => False
def wrdG (k : Int) : List UInt8 := bif k == 0 then [100, 105, 115, 99] else (bif k == 1 then [99, 121, 108, 105, 110, 100, 101, 114] else [116, 97, 112, 101])
def idx3 (a b c w : List UInt8) : Int := bif w == a then 0 else (bif w == b then 1 else (bif w == c then 2 else -1))
def kndG (w : List UInt8) : Int := idx3 [100, 105, 115, 99] [99, 121, 108, 105, 110, 100, 101, 114] [116, 97, 112, 101] w
def idxS : Spec := fun args σ K => match args, σ with
  | [.one (.data (.recs [.str] [[.str a], [.str b], [.str c]])), .one (.str w)], [] => K (.one (.int .i64 (idx3 a b c w))) []
  | _, _ => False
def fmcG (nm : List UInt8) (k s n d : Int) : List UInt8 := bif withinG k 0 2 then joinG 32 [[.str nm], [.str (wrdG k)], [.str (itoG s)], [.str (itoG n ++ [47] ++ itoG d)]] else []
def fmcS : Spec := fun args σ K => match args, σ with
  | [.agg [.str nm, .int .i64 k, .int .i64 s, .int .i64 n, .int .i64 d]], [] => (nm.length ≤ 1000 ∧ i64B s ∧ i64B n ∧ i64B d) ∧ K (.one (.str (fmcG nm k s n d))) []
  | _, _ => False
def nbC (t : List UInt8) : Bool := numB t 6 && decide (numV t 6 ≥ 0)
def pcA (s : List UInt8) : Bool := (pcs 32 s).length == 4 && (!(pcI s 0 == []) && (decide (kndG (pcI s 1) ≥ 0) && (nbC (pcI s 2) && (nbC (bef 47 (pcI s 3)) && nbC (aft 47 (pcI s 3))))))
def pcE (s : List UInt8) : Int := bif pcA s then carrierG (pcI s 0) (kndG (pcI s 1)) (numV (pcI s 2) 6) (numV (bef 47 (pcI s 3)) 6) (numV (aft 47 (pcI s 3)) 6) else 7
def pcN (s : List UInt8) : List UInt8 := bif pcE s == 0 then pcI s 0 else []
def pcZ (s : List UInt8) (v : Int) : Int := bif pcE s == 0 then v else 0
def pacS : Spec := fun args σ K => match args, σ with
  | [.one (.str s)], [] => s.length ≤ 1000000 ∧ K (.tup [.agg [.str (pcN s), .int .i64 (pcZ s (kndG (pcI s 1))), .int .i64 (pcZ s (numV (pcI s 2) 6)), .int .i64 (pcZ s (numV (bef 47 (pcI s 3)) 6)), .int .i64 (pcZ s (numV (aft 47 (pcI s 3)) 6))], .one (.int .i64 (pcE s))]) []
  | _, _ => False
noncomputable abbrev Ewds : Env := envOf Tryz.prog [] [] 2 0
noncomputable abbrev Eidx : Env := envOf Tryz.prog [] [(2, .unroll 4)] 19 0
noncomputable abbrev Efmc : Env := envOf Tryz.prog [(46, withinS), (37, itoaS), (38, joinS)] [] 30 0
noncomputable abbrev Erfc : Env := envOf Tryz.prog [(19, withinS), (52, wdsDS), (53, decS)] [] 33 0
noncomputable abbrev Epac : Env := envOf Tryz.prog [(39, splitS), (47, strcutS), (40, numberS), (48, idxS), (50, unlessS), (51, carrierS), (49, firstS)] [] 89 0
noncomputable abbrev Erpc : Env := envOf Tryz.prog [(41, cutDS), (52, wdsDS), (42, numS), (16, carrierS)] [(7, .unroll 4), (17, .unroll 4)] 107 0
end Go.Ev

/-
  Chapter 1, contract: the law of strings of carriers.
-/
namespace Go.Ev
open Go Go.Proofs
set_option maxRecDepth 20000
set_option linter.unusedVariables false
def lcsS : Spec := fun args σ K => match args, σ with
  | [.agg [.str nm, .int .i64 k, .int .i64 s, .int .i64 n, .int .i64 d], .one (.str t)], [] => (i64B s ∧ i64B n ∧ i64B d) ∧ K (.one (.bool true)) []
  | _, _ => False
noncomputable abbrev Elcs : Env := envOf Tryz.prog [(6, trueS), (12, fmcS), (13, pacS), (14, pacS), (15, fmcS), (16, carrierS)] [] 64 0
end Go.Ev

namespace Go.Ev
open Go Go.Proofs
set_option maxRecDepth 100000
theorem exlcs (nm : List UInt8) (k s n d : Int) (t : List UInt8) (K : AV → List Blk → Prop) : evFn Elcs Tryz.f4 [.agg [.str nm, .int .i64 k, .int .i64 s, .int .i64 n, .int .i64 d], .one (.str t)] [] K = ( bif decide ((↑nm.length : Int) > 20) then K (.one (.bool true)) [] else bif decide ((↑t.length : Int) > 80) then K (.one (.bool true)) [] else (nm.length ≤ 1000 ∧ ((-9223372036854775808 : Int) ≤ s ∧ s ≤ 9223372036854775807) ∧ ((-9223372036854775808 : Int) ≤ n ∧ n ≤ 9223372036854775807) ∧ (-9223372036854775808 : Int) ≤ d ∧ d ≤ 9223372036854775807) ∧ t.length ≤ 1000000 ∧ t.length ≤ 1000000 ∧ (nm.length ≤ 1000 ∧ ((-9223372036854775808 : Int) ≤ s ∧ s ≤ 9223372036854775807) ∧ ((-9223372036854775808 : Int) ≤ n ∧ n ≤ 9223372036854775807) ∧ (-9223372036854775808 : Int) ≤ d ∧ d ≤ 9223372036854775807) ∧ bif !fmcG nm k s n d == fmcG nm k s n d then K (.one (.bool false)) [] else bif pcE t != pcE t then K (.one (.bool false)) [] else bif !(pcN t == pcN t && (pcZ t (kndG (pcI t 1)) == pcZ t (kndG (pcI t 1)) && (pcZ t (numV (pcI t 2) 6) == pcZ t (numV (pcI t 2) 6) && (pcZ t (numV (bef (47 : UInt8) (pcI t 3)) 6) == pcZ t (numV (bef (47 : UInt8) (pcI t 3)) 6) && pcZ t (numV (aft (47 : UInt8) (pcI t 3)) 6) == pcZ t (numV (aft (47 : UInt8) (pcI t 3)) 6))))) then K (.one (.bool false)) [] else nm.length ≤ 1000000 ∧ bif carrierG nm k s n d != 0 then K (.one (.bool true)) [] else (fmcG nm k s n d).length ≤ 1000000 ∧ bif pcE (fmcG nm k s n d) == 0 then K (.one (.bool (pcN (fmcG nm k s n d) == nm && (pcZ (fmcG nm k s n d) (kndG (pcI (fmcG nm k s n d) 1)) == k && (pcZ (fmcG nm k s n d) (numV (pcI (fmcG nm k s n d) 2) 6) == s && (pcZ (fmcG nm k s n d) (numV (bef (47 : UInt8) (pcI (fmcG nm k s n d) 3)) 6) == n && pcZ (fmcG nm k s n d) (numV (aft (47 : UInt8) (pcI (fmcG nm k s n d) 3)) 6) == d)))))) [] else K (.one (.bool false)) []) := by kernel_rfl
end Go.Ev

namespace Go.Ev
open Go Go.Proofs
set_option maxRecDepth 100000
theorem exwds (K : AV → List Blk → Prop) : evFn Ewds Tryz.f52 [] [] K = ( K (.one (.own 0 1)) [Blk.row 9 (Row.recs [CK.str] [[D.str [(100 : UInt8), (105 : UInt8), (115 : UInt8), (99 : UInt8)]], [D.str [(99 : UInt8), (121 : UInt8), (108 : UInt8), (105 : UInt8), (110 : UInt8), (100 : UInt8), (101 : UInt8), (114 : UInt8)]], [D.str [(116 : UInt8), (97 : UInt8), (112 : UInt8), (101 : UInt8)]]])]) := by kernel_rfl
theorem exidx (a b c w : List UInt8) (K : AV → List Blk → Prop) : evFn Eidx Tryz.f48 [.one (.data (.recs [.str] [[.str a], [.str b], [.str c]])), .one (.str w)] [] K = ( bif w == a then K (.one (.int .i64 0)) [] else bif w == b then K (.one (.int .i64 1)) [] else bif w == c then K (.one (.int .i64 2)) [] else K (.one (.int .i64 (-1 : Int))) []) := by kernel_rfl
theorem exfmc (nm : List UInt8) (k s n d : Int) (K : AV → List Blk → Prop) : evFn Efmc Tryz.f12 [.agg [.str nm, .int .i64 k, .int .i64 s, .int .i64 n, .int .i64 d]] [] K = ( bif !(decide (0 ≤ k) && decide (k ≤ 2)) then K (.one (.str [])) [] else ((-9223372036854775808 : Int) ≤ n ∧ n ≤ 9223372036854775807) ∧ bif decide ((itoG n).length + 1 ≤ 140737488355328) then ((-9223372036854775808 : Int) ≤ d ∧ d ≤ 9223372036854775807) ∧ bif decide ((itoG n ++ [(47 : UInt8)]).length + (itoG d).length ≤ 140737488355328) then bif decide (0 ≤ k) && decide (k < 3) then bif k == 0 then ((-9223372036854775808 : Int) ≤ s ∧ s ≤ 9223372036854775807) ∧ (1 ≤ [[D.str nm], [D.str [(100 : UInt8), (105 : UInt8), (115 : UInt8), (99 : UInt8)]], [D.str (itoG s)], [D.str (itoG n ++ [(47 : UInt8)] ++ itoG d)]].length ∧ [[D.str nm], [D.str [(100 : UInt8), (105 : UInt8), (115 : UInt8), (99 : UInt8)]], [D.str (itoG s)], [D.str (itoG n ++ [(47 : UInt8)] ++ itoG d)]].length ≤ 1000 ∧ (joinG (32 : UInt8) [[D.str nm], [D.str [(100 : UInt8), (105 : UInt8), (115 : UInt8), (99 : UInt8)]], [D.str (itoG s)], [D.str (itoG n ++ [(47 : UInt8)] ++ itoG d)]]).length ≤ 140737488355328) ∧ K (.one (.str (joinG (32 : UInt8) [[D.str nm], [D.str [(100 : UInt8), (105 : UInt8), (115 : UInt8), (99 : UInt8)]], [D.str (itoG s)], [D.str (itoG n ++ [(47 : UInt8)] ++ itoG d)]]))) [] else bif k == 1 then ((-9223372036854775808 : Int) ≤ s ∧ s ≤ 9223372036854775807) ∧ (1 ≤ [[D.str nm], [D.str [(99 : UInt8), (121 : UInt8), (108 : UInt8), (105 : UInt8), (110 : UInt8), (100 : UInt8), (101 : UInt8), (114 : UInt8)]], [D.str (itoG s)], [D.str (itoG n ++ [(47 : UInt8)] ++ itoG d)]].length ∧ [[D.str nm], [D.str [(99 : UInt8), (121 : UInt8), (108 : UInt8), (105 : UInt8), (110 : UInt8), (100 : UInt8), (101 : UInt8), (114 : UInt8)]], [D.str (itoG s)], [D.str (itoG n ++ [(47 : UInt8)] ++ itoG d)]].length ≤ 1000 ∧ (joinG (32 : UInt8) [[D.str nm], [D.str [(99 : UInt8), (121 : UInt8), (108 : UInt8), (105 : UInt8), (110 : UInt8), (100 : UInt8), (101 : UInt8), (114 : UInt8)]], [D.str (itoG s)], [D.str (itoG n ++ [(47 : UInt8)] ++ itoG d)]]).length ≤ 140737488355328) ∧ K (.one (.str (joinG (32 : UInt8) [[D.str nm], [D.str [(99 : UInt8), (121 : UInt8), (108 : UInt8), (105 : UInt8), (110 : UInt8), (100 : UInt8), (101 : UInt8), (114 : UInt8)]], [D.str (itoG s)], [D.str (itoG n ++ [(47 : UInt8)] ++ itoG d)]]))) [] else ((-9223372036854775808 : Int) ≤ s ∧ s ≤ 9223372036854775807) ∧ (1 ≤ [[D.str nm], [D.str [(116 : UInt8), (97 : UInt8), (112 : UInt8), (101 : UInt8)]], [D.str (itoG s)], [D.str (itoG n ++ [(47 : UInt8)] ++ itoG d)]].length ∧ [[D.str nm], [D.str [(116 : UInt8), (97 : UInt8), (112 : UInt8), (101 : UInt8)]], [D.str (itoG s)], [D.str (itoG n ++ [(47 : UInt8)] ++ itoG d)]].length ≤ 1000 ∧ (joinG (32 : UInt8) [[D.str nm], [D.str [(116 : UInt8), (97 : UInt8), (112 : UInt8), (101 : UInt8)]], [D.str (itoG s)], [D.str (itoG n ++ [(47 : UInt8)] ++ itoG d)]]).length ≤ 140737488355328) ∧ K (.one (.str (joinG (32 : UInt8) [[D.str nm], [D.str [(116 : UInt8), (97 : UInt8), (112 : UInt8), (101 : UInt8)]], [D.str (itoG s)], [D.str (itoG n ++ [(47 : UInt8)] ++ itoG d)]]))) [] else False else False else False) := by kernel_rfl
theorem exrfc (nm : List UInt8) (k s n d : Int) (K : AV → List Blk → Prop) : evFn Erfc Tryz.f15 [.agg [.str nm, .int .i64 k, .int .i64 s, .int .i64 n, .int .i64 d]] [] K = ( bif !(decide (0 ≤ k) && decide (k ≤ 2)) then K (.one (.str [])) [] else bif decide (nm.length + 1 ≤ 140737488355328) then bif decide (0 ≤ k) && decide (k < 3) then bif decide (0 < 1) && decide (k.toNat < 3) then bif decide ((nm ++ [(32 : UInt8)]).length + (([[D.str [(100 : UInt8), (105 : UInt8), (115 : UInt8), (99 : UInt8)]], [D.str [(99 : UInt8), (121 : UInt8), (108 : UInt8), (105 : UInt8), (110 : UInt8), (100 : UInt8), (101 : UInt8), (114 : UInt8)]], [D.str [(116 : UInt8), (97 : UInt8), (112 : UInt8), (101 : UInt8)]]].getD k.toNat []).getD 0 (D.int 0)).toStr.length ≤ 140737488355328) then bif decide ((nm ++ [(32 : UInt8)] ++ (([[D.str [(100 : UInt8), (105 : UInt8), (115 : UInt8), (99 : UInt8)]], [D.str [(99 : UInt8), (121 : UInt8), (108 : UInt8), (105 : UInt8), (110 : UInt8), (100 : UInt8), (101 : UInt8), (114 : UInt8)]], [D.str [(116 : UInt8), (97 : UInt8), (112 : UInt8), (101 : UInt8)]]].getD k.toNat []).getD 0 (D.int 0)).toStr).length + 1 ≤ 140737488355328) then ((-9223372036854775808 : Int) ≤ s ∧ s ≤ 9223372036854775807) ∧ bif decide ((nm ++ [(32 : UInt8)] ++ (([[D.str [(100 : UInt8), (105 : UInt8), (115 : UInt8), (99 : UInt8)]], [D.str [(99 : UInt8), (121 : UInt8), (108 : UInt8), (105 : UInt8), (110 : UInt8), (100 : UInt8), (101 : UInt8), (114 : UInt8)]], [D.str [(116 : UInt8), (97 : UInt8), (112 : UInt8), (101 : UInt8)]]].getD k.toNat []).getD 0 (D.int 0)).toStr ++ [(32 : UInt8)]).length + (itoG s).length ≤ 140737488355328) then bif decide ((nm ++ [(32 : UInt8)] ++ (([[D.str [(100 : UInt8), (105 : UInt8), (115 : UInt8), (99 : UInt8)]], [D.str [(99 : UInt8), (121 : UInt8), (108 : UInt8), (105 : UInt8), (110 : UInt8), (100 : UInt8), (101 : UInt8), (114 : UInt8)]], [D.str [(116 : UInt8), (97 : UInt8), (112 : UInt8), (101 : UInt8)]]].getD k.toNat []).getD 0 (D.int 0)).toStr ++ [(32 : UInt8)] ++ itoG s).length + 1 ≤ 140737488355328) then ((-9223372036854775808 : Int) ≤ n ∧ n ≤ 9223372036854775807) ∧ bif decide ((nm ++ [(32 : UInt8)] ++ (([[D.str [(100 : UInt8), (105 : UInt8), (115 : UInt8), (99 : UInt8)]], [D.str [(99 : UInt8), (121 : UInt8), (108 : UInt8), (105 : UInt8), (110 : UInt8), (100 : UInt8), (101 : UInt8), (114 : UInt8)]], [D.str [(116 : UInt8), (97 : UInt8), (112 : UInt8), (101 : UInt8)]]].getD k.toNat []).getD 0 (D.int 0)).toStr ++ [(32 : UInt8)] ++ itoG s ++ [(32 : UInt8)]).length + (itoG n).length ≤ 140737488355328) then bif decide ((nm ++ [(32 : UInt8)] ++ (([[D.str [(100 : UInt8), (105 : UInt8), (115 : UInt8), (99 : UInt8)]], [D.str [(99 : UInt8), (121 : UInt8), (108 : UInt8), (105 : UInt8), (110 : UInt8), (100 : UInt8), (101 : UInt8), (114 : UInt8)]], [D.str [(116 : UInt8), (97 : UInt8), (112 : UInt8), (101 : UInt8)]]].getD k.toNat []).getD 0 (D.int 0)).toStr ++ [(32 : UInt8)] ++ itoG s ++ [(32 : UInt8)] ++ itoG n).length + 1 ≤ 140737488355328) then ((-9223372036854775808 : Int) ≤ d ∧ d ≤ 9223372036854775807) ∧ bif decide ((nm ++ [(32 : UInt8)] ++ (([[D.str [(100 : UInt8), (105 : UInt8), (115 : UInt8), (99 : UInt8)]], [D.str [(99 : UInt8), (121 : UInt8), (108 : UInt8), (105 : UInt8), (110 : UInt8), (100 : UInt8), (101 : UInt8), (114 : UInt8)]], [D.str [(116 : UInt8), (97 : UInt8), (112 : UInt8), (101 : UInt8)]]].getD k.toNat []).getD 0 (D.int 0)).toStr ++ [(32 : UInt8)] ++ itoG s ++ [(32 : UInt8)] ++ itoG n ++ [(47 : UInt8)]).length + (itoG d).length ≤ 140737488355328) then K (.one (.str (nm ++ [(32 : UInt8)] ++ (([[D.str [(100 : UInt8), (105 : UInt8), (115 : UInt8), (99 : UInt8)]], [D.str [(99 : UInt8), (121 : UInt8), (108 : UInt8), (105 : UInt8), (110 : UInt8), (100 : UInt8), (101 : UInt8), (114 : UInt8)]], [D.str [(116 : UInt8), (97 : UInt8), (112 : UInt8), (101 : UInt8)]]].getD k.toNat []).getD 0 (D.int 0)).toStr ++ [(32 : UInt8)] ++ itoG s ++ [(32 : UInt8)] ++ itoG n ++ [(47 : UInt8)] ++ itoG d))) [] else False else False else False else False else False else False else False else False else False else False) := by kernel_rfl
def expac_x0 (s : List UInt8) (K : AV → List Blk → Prop) : Prop := (
 (((List.map one1 (pcs (32 : UInt8) s)).getD (0 : Nat) []).getD (0 : Nat) (D.int (0 : Int))).toStr.length ≤
 (1000000 : Nat) ∧
 [(7 : Int),
 carrierG (((List.map one1 (pcs (32 : UInt8) s)).getD (0 : Nat) []).getD (0 : Nat) (D.int (0 : Int))).toStr
 (idx3 [(100 : UInt8), (105 : UInt8), (115 : UInt8), (99 : UInt8)]
 [(99 : UInt8), (121 : UInt8), (108 : UInt8), (105 : UInt8), (110 : UInt8), (100 : UInt8), (101 : UInt8),
 (114 : UInt8)]
 [(116 : UInt8), (97 : UInt8), (112 : UInt8), (101 : UInt8)]
 (((List.map one1 (pcs (32 : UInt8) s)).getD (1 : Nat) []).getD (0 : Nat) (D.int (0 : Int))).toStr)
 (atoV (((List.map one1 (pcs (32 : UInt8) s)).getD (2 : Nat) []).getD (0 : Nat) (D.int (0 : Int))).toStr)
 (atoV
 (bef (47 : UInt8)
 (((List.map one1 (pcs (32 : UInt8) s)).getD (3 : Nat) []).getD (0 : Nat) (D.int (0 : Int))).toStr))
 (atoV
 (aft (47 : UInt8)
 (((List.map one1 (pcs (32 : UInt8) s)).getD (3 : Nat) []).getD (0 : Nat)
 (D.int (0 : Int))).toStr))].length ≤
 (1000 : Nat) ∧
 K
 (AV.tup
 [TV.agg
 [SV.str [], SV.int IntKind.i64 (0 : Int), SV.int IntKind.i64 (0 : Int), SV.int IntKind.i64 (0 : Int),
 SV.int IntKind.i64 (0 : Int)],
 TV.one
 (SV.int IntKind.i64
 (firstE
 [(7 : Int),
 carrierG
 (((List.map one1 (pcs (32 : UInt8) s)).getD (0 : Nat) []).getD (0 : Nat) (D.int (0 : Int))).toStr
 (idx3 [(100 : UInt8), (105 : UInt8), (115 : UInt8), (99 : UInt8)]
 [(99 : UInt8), (121 : UInt8), (108 : UInt8), (105 : UInt8), (110 : UInt8), (100 : UInt8),
 (101 : UInt8), (114 : UInt8)]
 [(116 : UInt8), (97 : UInt8), (112 : UInt8), (101 : UInt8)]
 (((List.map one1 (pcs (32 : UInt8) s)).getD (1 : Nat) []).getD (0 : Nat) (D.int (0 : Int))).toStr)
 (atoV
 (((List.map one1 (pcs (32 : UInt8) s)).getD (2 : Nat) []).getD (0 : Nat) (D.int (0 : Int))).toStr)
 (atoV
 (bef (47 : UInt8)
 (((List.map one1 (pcs (32 : UInt8) s)).getD (3 : Nat) []).getD (0 : Nat)
 (D.int (0 : Int))).toStr))
 (atoV
 (aft (47 : UInt8)
 (((List.map one1 (pcs (32 : UInt8) s)).getD (3 : Nat) []).getD (0 : Nat)
 (D.int (0 : Int))).toStr))]))])
 [])
theorem expac (s : List UInt8) (K : AV → List Blk → Prop) : evFn Epac Tryz.f13 [.one (.str s)] [] K = ( s.length ≤ 1000000 ∧ bif (↑(List.map one1 (pcs (32 : UInt8) s)).length : Int) != 4 then K (AV.tup [TV.agg [SV.str [], SV.int .i64 0, SV.int .i64 0, SV.int .i64 0, SV.int .i64 0], .one (.int .i64 7)]) [] else bif decide ((0 :Int) ≤ (0 :Int)) && decide (0 < (↑(List.map one1 (pcs (32 : UInt8) s)).length : Int)) then bif decide (0 < 1) && decide (0 < (List.map one1 (pcs (32 : UInt8) s)).length) then bif (((List.map one1 (pcs (32 : UInt8) s)).getD 0 []).getD 0 (D.int 0)).toStr == [] then K (AV.tup [TV.agg [SV.str [], SV.int .i64 0, SV.int .i64 0, SV.int .i64 0, SV.int .i64 0], .one (.int .i64 7)]) [] else bif decide ((0 :Int) ≤ (3 :Int)) && decide (3 < (↑(List.map one1 (pcs (32 : UInt8) s)).length : Int)) then bif decide (0 < 1) && decide (3 < (List.map one1 (pcs (32 : UInt8) s)).length) then (((List.map one1 (pcs (32 : UInt8) s)).getD 3 []).getD 0 (D.int 0)).toStr.length ≤ 1000000 ∧ bif decide ((0 :Int) ≤ (2 :Int)) && decide (2 < (↑(List.map one1 (pcs (32 : UInt8) s)).length : Int)) then bif decide (0 < 1) && decide (2 < (List.map one1 (pcs (32 : UInt8) s)).length) then (((List.map one1 (pcs (32 : UInt8) s)).getD 2 []).getD 0 (D.int 0)).toStr.length ≤ 1000000 ∧ (bef (47 : UInt8) (((List.map one1 (pcs (32 : UInt8) s)).getD 3 []).getD 0 (D.int 0)).toStr).length ≤ 1000000 ∧ (aft (47 : UInt8) (((List.map one1 (pcs (32 : UInt8) s)).getD 3 []).getD 0 (D.int 0)).toStr).length ≤ 1000000 ∧ bif decide ((0 :Int) ≤ (1 :Int)) && decide (1 < (↑(List.map one1 (pcs (32 : UInt8) s)).length : Int)) then bif decide (0 < 1) && decide (1 < (List.map one1 (pcs (32 : UInt8) s)).length) then bif decide ((0 :Int) ≤ (0 :Int)) && decide (0 < (↑(List.map one1 (pcs (32 : UInt8) s)).length : Int)) then bif decide (0 < 1) && decide (0 < (List.map one1 (pcs (32 : UInt8) s)).length) then bif nmB (((List.map one1 (pcs (32 : UInt8) s)).getD 2 []).getD 0 (D.int 0)).toStr false then bif nmB (bef (47 : UInt8) (((List.map one1 (pcs (32 : UInt8) s)).getD 3 []).getD 0 (D.int 0)).toStr) false then bif nmB (aft (47 : UInt8) (((List.map one1 (pcs (32 : UInt8) s)).getD 3 []).getD 0 (D.int 0)).toStr) false then (((List.map one1 (pcs (32 : UInt8) s)).getD 0 []).getD 0 (D.int 0)).toStr.length ≤ 1000000 ∧ [bif decide (idx3 [(100 : UInt8), (105 : UInt8), (115 : UInt8), (99 : UInt8)] [(99 : UInt8), (121 : UInt8), (108 : UInt8), (105 : UInt8), (110 : UInt8), (100 : UInt8), (101 : UInt8), (114 : UInt8)] [(116 : UInt8), (97 : UInt8), (112 : UInt8), (101 : UInt8)] (((List.map one1 (pcs (32 : UInt8) s)).getD 1 []).getD 0 (D.int 0)).toStr ≥ 0) then (0 :Int) else (7 :Int), carrierG (((List.map one1 (pcs (32 : UInt8) s)).getD 0 []).getD 0 (D.int 0)).toStr (idx3 [(100 : UInt8), (105 : UInt8), (115 : UInt8), (99 : UInt8)] [(99 : UInt8), (121 : UInt8), (108 : UInt8), (105 : UInt8), (110 : UInt8), (100 : UInt8), (101 : UInt8), (114 : UInt8)] [(116 : UInt8), (97 : UInt8), (112 : UInt8), (101 : UInt8)] (((List.map one1 (pcs (32 : UInt8) s)).getD 1 []).getD 0 (D.int 0)).toStr) (atoV (((List.map one1 (pcs (32 : UInt8) s)).getD 2 []).getD 0 (D.int 0)).toStr) (atoV (bef (47 : UInt8) (((List.map one1 (pcs (32 : UInt8) s)).getD 3 []).getD 0 (D.int 0)).toStr)) (atoV (aft (47 : UInt8) (((List.map one1 (pcs (32 : UInt8) s)).getD 3 []).getD 0 (D.int 0)).toStr))].length ≤ 1000 ∧ bif firstE [bif decide (idx3 [(100 : UInt8), (105 : UInt8), (115 : UInt8), (99 : UInt8)] [(99 : UInt8), (121 : UInt8), (108 : UInt8), (105 : UInt8), (110 : UInt8), (100 : UInt8), (101 : UInt8), (114 : UInt8)] [(116 : UInt8), (97 : UInt8), (112 : UInt8), (101 : UInt8)] (((List.map one1 (pcs (32 : UInt8) s)).getD 1 []).getD 0 (D.int 0)).toStr ≥ 0) then (0 :Int) else (7 :Int), carrierG (((List.map one1 (pcs (32 : UInt8) s)).getD 0 []).getD 0 (D.int 0)).toStr (idx3 [(100 : UInt8), (105 : UInt8), (115 : UInt8), (99 : UInt8)] [(99 : UInt8), (121 : UInt8), (108 : UInt8), (105 : UInt8), (110 : UInt8), (100 : UInt8), (101 : UInt8), (114 : UInt8)] [(116 : UInt8), (97 : UInt8), (112 : UInt8), (101 : UInt8)] (((List.map one1 (pcs (32 : UInt8) s)).getD 1 []).getD 0 (D.int 0)).toStr) (atoV (((List.map one1 (pcs (32 : UInt8) s)).getD 2 []).getD 0 (D.int 0)).toStr) (atoV (bef (47 : UInt8) (((List.map one1 (pcs (32 : UInt8) s)).getD 3 []).getD 0 (D.int 0)).toStr)) (atoV (aft (47 : UInt8) (((List.map one1 (pcs (32 : UInt8) s)).getD 3 []).getD 0 (D.int 0)).toStr))] != 0 then K (AV.tup [TV.agg [SV.str [], SV.int .i64 0, SV.int .i64 0, SV.int .i64 0, SV.int .i64 0], .one (.int .i64 (firstE [bif decide (idx3 [(100 : UInt8), (105 : UInt8), (115 : UInt8), (99 : UInt8)] [(99 : UInt8), (121 : UInt8), (108 : UInt8), (105 : UInt8), (110 : UInt8), (100 : UInt8), (101 : UInt8), (114 : UInt8)] [(116 : UInt8), (97 : UInt8), (112 : UInt8), (101 : UInt8)] (((List.map one1 (pcs (32 : UInt8) s)).getD 1 []).getD 0 (D.int 0)).toStr ≥ 0) then (0 :Int) else (7 :Int), carrierG (((List.map one1 (pcs (32 : UInt8) s)).getD 0 []).getD 0 (D.int 0)).toStr (idx3 [(100 : UInt8), (105 : UInt8), (115 : UInt8), (99 : UInt8)] [(99 : UInt8), (121 : UInt8), (108 : UInt8), (105 : UInt8), (110 : UInt8), (100 : UInt8), (101 : UInt8), (114 : UInt8)] [(116 : UInt8), (97 : UInt8), (112 : UInt8), (101 : UInt8)] (((List.map one1 (pcs (32 : UInt8) s)).getD 1 []).getD 0 (D.int 0)).toStr) (atoV (((List.map one1 (pcs (32 : UInt8) s)).getD 2 []).getD 0 (D.int 0)).toStr) (atoV (bef (47 : UInt8) (((List.map one1 (pcs (32 : UInt8) s)).getD 3 []).getD 0 (D.int 0)).toStr)) (atoV (aft (47 : UInt8) (((List.map one1 (pcs (32 : UInt8) s)).getD 3 []).getD 0 (D.int 0)).toStr))]))]) [] else K (AV.tup [TV.agg [SV.str (((List.map one1 (pcs (32 : UInt8) s)).getD 0 []).getD 0 (D.int 0)).toStr, SV.int .i64 (idx3 [(100 : UInt8), (105 : UInt8), (115 : UInt8), (99 : UInt8)] [(99 : UInt8), (121 : UInt8), (108 : UInt8), (105 : UInt8), (110 : UInt8), (100 : UInt8), (101 : UInt8), (114 : UInt8)] [(116 : UInt8), (97 : UInt8), (112 : UInt8), (101 : UInt8)] (((List.map one1 (pcs (32 : UInt8) s)).getD 1 []).getD 0 (D.int 0)).toStr), SV.int .i64 (atoV (((List.map one1 (pcs (32 : UInt8) s)).getD 2 []).getD 0 (D.int 0)).toStr), SV.int .i64 (atoV (bef (47 : UInt8) (((List.map one1 (pcs (32 : UInt8) s)).getD 3 []).getD 0 (D.int 0)).toStr)), SV.int .i64 (atoV (aft (47 : UInt8) (((List.map one1 (pcs (32 : UInt8) s)).getD 3 []).getD 0 (D.int 0)).toStr))], .one (.int .i64 0)]) [] else expac_x0 s K else expac_x0 s K else expac_x0 s K else False else False else False else False else False else False else False else False else False else False) := by kernel_rfl
def exrpc_x0 (s : List UInt8) (K : AV → List Blk → Prop) : Prop := (
 bif
 decide ((0 : Int) ≤ (3 : Int)) &&
 decide ((3 : Int) < (↑(List.map one1 (pcs (UInt8.ofNat (32 : Nat)) s)).length : Int)) then
 bif
 decide ((0 : Nat) < (1 : Nat)) &&
 decide ((3 : Nat) < (List.map one1 (pcs (UInt8.ofNat (32 : Nat)) s)).length) then
 ((((List.map one1 (pcs (UInt8.ofNat (32 : Nat)) s)).getD (3 : Nat) []).getD (0 : Nat)
 (D.int (0 : Int))).toStr.length ≤
 (1000000 : Nat) ∧
 (0 : Int) ≤ (47 : Int) ∧ (47 : Int) < (256 : Int)) ∧
 bif
 (↑(List.map one1
 (pcs (UInt8.ofNat (47 : Nat))
 (((List.map one1 (pcs (UInt8.ofNat (32 : Nat)) s)).getD (3 : Nat) []).getD (0 : Nat)
 (D.int (0 : Int))).toStr)).length :
 Int) !=
 (2 : Int) then
 K
 (AV.tup
 [TV.agg
 [SV.str [], SV.int IntKind.i64 (0 : Int), SV.int IntKind.i64 (0 : Int), SV.int IntKind.i64 (0 : Int),
 SV.int IntKind.i64 (0 : Int)],
 TV.one (SV.int IntKind.i64 (7 : Int))])
 []
 else
 bif
 decide ((0 : Int) ≤ (2 : Int)) &&
 decide ((2 : Int) < (↑(List.map one1 (pcs (UInt8.ofNat (32 : Nat)) s)).length : Int)) then
 bif
 decide ((0 : Nat) < (1 : Nat)) &&
 decide ((2 : Nat) < (List.map one1 (pcs (UInt8.ofNat (32 : Nat)) s)).length) then
 bif
 decide ((0 : Int) ≤ (0 : Int)) &&
 decide
 ((0 : Int) <
 (↑(List.map one1
 (pcs (UInt8.ofNat (47 : Nat))
 (((List.map one1 (pcs (UInt8.ofNat (32 : Nat)) s)).getD (3 : Nat) []).getD (0 : Nat)
 (D.int (0 : Int))).toStr)).length :
 Int)) then
 bif
 decide ((0 : Nat) < (1 : Nat)) &&
 decide
 ((0 : Nat) <
 (List.map one1
 (pcs (UInt8.ofNat (47 : Nat))
 (((List.map one1 (pcs (UInt8.ofNat (32 : Nat)) s)).getD (3 : Nat) []).getD (0 : Nat)
 (D.int (0 : Int))).toStr)).length) then
 bif
 decide ((0 : Int) ≤ (1 : Int)) &&
 decide
 ((1 : Int) <
 (↑(List.map one1
 (pcs (UInt8.ofNat (47 : Nat))
 (((List.map one1 (pcs (UInt8.ofNat (32 : Nat)) s)).getD (3 : Nat) []).getD (0 : Nat)
 (D.int (0 : Int))).toStr)).length :
 Int)) then
 bif
 decide ((0 : Nat) < (1 : Nat)) &&
 decide
 ((1 : Nat) <
 (List.map one1
 (pcs (UInt8.ofNat (47 : Nat))
 (((List.map one1 (pcs (UInt8.ofNat (32 : Nat)) s)).getD (3 : Nat) []).getD (0 : Nat)
 (D.int (0 : Int))).toStr)).length) then
 ((D.str
 (((List.map one1 (pcs (UInt8.ofNat (32 : Nat)) s)).getD (2 : Nat) []).getD (0 : Nat)
 (D.int (0 : Int))).toStr).toStr.length ≤
 (1000000 : Nat) ∧
 (0 : Int) ≤ (6 : Int) ∧ (6 : Int) ≤ (18 : Int)) ∧
 bif
 !numB
 (D.str
 (((List.map one1 (pcs (UInt8.ofNat (32 : Nat)) s)).getD (2 : Nat) []).getD (0 : Nat)
 (D.int (0 : Int))).toStr).toStr
 (6 : Int) then
 K
 (AV.tup
 [TV.agg
 [SV.str [], SV.int IntKind.i64 (0 : Int), SV.int IntKind.i64 (0 : Int),
 SV.int IntKind.i64 (0 : Int), SV.int IntKind.i64 (0 : Int)],
 TV.one (SV.int IntKind.i64 (7 : Int))])
 []
 else
 bif
 decide
 (numV
 (D.str
 (((List.map one1 (pcs (UInt8.ofNat (32 : Nat)) s)).getD (2 : Nat) []).getD
 (0 : Nat) (D.int (0 : Int))).toStr).toStr
 (6 : Int) <
 (0 : Int)) then
 K
 (AV.tup
 [TV.agg
 [SV.str [], SV.int IntKind.i64 (0 : Int), SV.int IntKind.i64 (0 : Int),
 SV.int IntKind.i64 (0 : Int), SV.int IntKind.i64 (0 : Int)],
 TV.one (SV.int IntKind.i64 (7 : Int))])
 []
 else
 ((D.str
 (((List.map one1
 (pcs (UInt8.ofNat (47 : Nat))
 (((List.map one1 (pcs (UInt8.ofNat (32 : Nat)) s)).getD (3 : Nat)
 []).getD
 (0 : Nat) (D.int (0 : Int))).toStr)).getD
 (0 : Nat) []).getD
 (0 : Nat) (D.int (0 : Int))).toStr).toStr.length ≤
 (1000000 : Nat) ∧
 (0 : Int) ≤ (6 : Int) ∧ (6 : Int) ≤ (18 : Int)) ∧
 bif
 !numB
 (D.str
 (((List.map one1
 (pcs (UInt8.ofNat (47 : Nat))
 (((List.map one1 (pcs (UInt8.ofNat (32 : Nat)) s)).getD (3 : Nat)
 []).getD
 (0 : Nat) (D.int (0 : Int))).toStr)).getD
 (0 : Nat) []).getD
 (0 : Nat) (D.int (0 : Int))).toStr).toStr
 (6 : Int) then
 K
 (AV.tup
 [TV.agg
 [SV.str [], SV.int IntKind.i64 (0 : Int), SV.int IntKind.i64 (0 : Int),
 SV.int IntKind.i64 (0 : Int), SV.int IntKind.i64 (0 : Int)],
 TV.one (SV.int IntKind.i64 (7 : Int))])
 []
 else
 bif
 decide
 (numV
 (D.str
 (((List.map one1
 (pcs (UInt8.ofNat (47 : Nat))
 (((List.map one1 (pcs (UInt8.ofNat (32 : Nat)) s)).getD
 (3 : Nat) []).getD
 (0 : Nat) (D.int (0 : Int))).toStr)).getD
 (0 : Nat) []).getD
 (0 : Nat) (D.int (0 : Int))).toStr).toStr
 (6 : Int) <
 (0 : Int)) then
 K
 (AV.tup
 [TV.agg
 [SV.str [], SV.int IntKind.i64 (0 : Int), SV.int IntKind.i64 (0 : Int),
 SV.int IntKind.i64 (0 : Int), SV.int IntKind.i64 (0 : Int)],
 TV.one (SV.int IntKind.i64 (7 : Int))])
 []
 else
 ((D.str
 (((List.map one1
 (pcs (UInt8.ofNat (47 : Nat))
 (((List.map one1 (pcs (UInt8.ofNat (32 : Nat)) s)).getD
 (3 : Nat) []).getD
 (0 : Nat) (D.int (0 : Int))).toStr)).getD
 (1 : Nat) []).getD
 (0 : Nat) (D.int (0 : Int))).toStr).toStr.length ≤
 (1000000 : Nat) ∧
 (0 : Int) ≤ (6 : Int) ∧ (6 : Int) ≤ (18 : Int)) ∧
 bif
 !numB
 (D.str
 (((List.map one1
 (pcs (UInt8.ofNat (47 : Nat))
 (((List.map one1 (pcs (UInt8.ofNat (32 : Nat)) s)).getD
 (3 : Nat) []).getD
 (0 : Nat) (D.int (0 : Int))).toStr)).getD
 (1 : Nat) []).getD
 (0 : Nat) (D.int (0 : Int))).toStr).toStr
 (6 : Int) then
 K
 (AV.tup
 [TV.agg
 [SV.str [], SV.int IntKind.i64 (0 : Int), SV.int IntKind.i64 (0 : Int),
 SV.int IntKind.i64 (0 : Int), SV.int IntKind.i64 (0 : Int)],
 TV.one (SV.int IntKind.i64 (7 : Int))])
 []
 else
 bif
 decide
 (numV
 (D.str
 (((List.map one1
 (pcs (UInt8.ofNat (47 : Nat))
 (((List.map one1 (pcs (UInt8.ofNat (32 : Nat)) s)).getD
 (3 : Nat) []).getD
 (0 : Nat) (D.int (0 : Int))).toStr)).getD
 (1 : Nat) []).getD
 (0 : Nat) (D.int (0 : Int))).toStr).toStr
 (6 : Int) <
 (0 : Int)) then
 K
 (AV.tup
 [TV.agg
 [SV.str [], SV.int IntKind.i64 (0 : Int), SV.int IntKind.i64 (0 : Int),
 SV.int IntKind.i64 (0 : Int), SV.int IntKind.i64 (0 : Int)],
 TV.one (SV.int IntKind.i64 (7 : Int))])
 []
 else
 (((List.map one1 (pcs (UInt8.ofNat (32 : Nat)) s)).getD (0 : Nat) []).getD
 (0 : Nat) (D.int (0 : Int))).toStr.length ≤
 (1000000 : Nat) ∧
 bif
 carrierG
 (((List.map one1 (pcs (UInt8.ofNat (32 : Nat)) s)).getD (0 : Nat)
 []).getD
 (0 : Nat) (D.int (0 : Int))).toStr
 (2 : Int)
 (((([(0 : Int), (0 : Int), (0 : Int)].set (0 : Nat)
 (numV
 (D.str
 (((List.map one1
 (pcs (UInt8.ofNat (32 : Nat)) s)).getD
 (2 : Nat) []).getD
 (0 : Nat) (D.int (0 : Int))).toStr).toStr
 (6 : Int))).set
 (1 : Nat)
 (numV
 (D.str
 (((List.map one1
 (pcs (UInt8.ofNat (47 : Nat))
 (((List.map one1
 (pcs (UInt8.ofNat (32 : Nat))
 s)).getD
 (3 : Nat) []).getD
 (0 : Nat)
 (D.int (0 : Int))).toStr)).getD
 (0 : Nat) []).getD
 (0 : Nat) (D.int (0 : Int))).toStr).toStr
 (6 : Int))).set
 (2 : Nat)
 (numV
 (D.str
 (((List.map one1
 (pcs (UInt8.ofNat (47 : Nat))
 (((List.map one1
 (pcs (UInt8.ofNat (32 : Nat))
 s)).getD
 (3 : Nat) []).getD
 (0 : Nat) (D.int (0 : Int))).toStr)).getD
 (1 : Nat) []).getD
 (0 : Nat) (D.int (0 : Int))).toStr).toStr
 (6 : Int))).getD
 (0 : Nat) (0 : Int))
 (((([(0 : Int), (0 : Int), (0 : Int)].set (0 : Nat)
 (numV
 (D.str
 (((List.map one1
 (pcs (UInt8.ofNat (32 : Nat)) s)).getD
 (2 : Nat) []).getD
 (0 : Nat) (D.int (0 : Int))).toStr).toStr
 (6 : Int))).set
 (1 : Nat)
 (numV
 (D.str
 (((List.map one1
 (pcs (UInt8.ofNat (47 : Nat))
 (((List.map one1
 (pcs (UInt8.ofNat (32 : Nat))
 s)).getD
 (3 : Nat) []).getD
 (0 : Nat)
 (D.int (0 : Int))).toStr)).getD
 (0 : Nat) []).getD
 (0 : Nat) (D.int (0 : Int))).toStr).toStr
 (6 : Int))).set
 (2 : Nat)
 (numV
 (D.str
 (((List.map one1
 (pcs (UInt8.ofNat (47 : Nat))
 (((List.map one1
 (pcs (UInt8.ofNat (32 : Nat))
 s)).getD
 (3 : Nat) []).getD
 (0 : Nat) (D.int (0 : Int))).toStr)).getD
 (1 : Nat) []).getD
 (0 : Nat) (D.int (0 : Int))).toStr).toStr
 (6 : Int))).getD
 (1 : Nat) (0 : Int))
 (((([(0 : Int), (0 : Int), (0 : Int)].set (0 : Nat)
 (numV
 (D.str
 (((List.map one1
 (pcs (UInt8.ofNat (32 : Nat)) s)).getD
 (2 : Nat) []).getD
 (0 : Nat) (D.int (0 : Int))).toStr).toStr
 (6 : Int))).set
 (1 : Nat)
 (numV
 (D.str
 (((List.map one1
 (pcs (UInt8.ofNat (47 : Nat))
 (((List.map one1
 (pcs (UInt8.ofNat (32 : Nat))
 s)).getD
 (3 : Nat) []).getD
 (0 : Nat)
 (D.int (0 : Int))).toStr)).getD
 (0 : Nat) []).getD
 (0 : Nat) (D.int (0 : Int))).toStr).toStr
 (6 : Int))).set
 (2 : Nat)
 (numV
 (D.str
 (((List.map one1
 (pcs (UInt8.ofNat (47 : Nat))
 (((List.map one1
 (pcs (UInt8.ofNat (32 : Nat))
 s)).getD
 (3 : Nat) []).getD
 (0 : Nat) (D.int (0 : Int))).toStr)).getD
 (1 : Nat) []).getD
 (0 : Nat) (D.int (0 : Int))).toStr).toStr
 (6 : Int))).getD
 (2 : Nat) (0 : Int)) !=
 (0 : Int) then
 K
 (AV.tup
 [TV.agg
 [SV.str [], SV.int IntKind.i64 (0 : Int),
 SV.int IntKind.i64 (0 : Int), SV.int IntKind.i64 (0 : Int),
 SV.int IntKind.i64 (0 : Int)],
 TV.one
 (SV.int IntKind.i64
 (carrierG
 (((List.map one1 (pcs (UInt8.ofNat (32 : Nat)) s)).getD (0 : Nat)
 []).getD
 (0 : Nat) (D.int (0 : Int))).toStr
 (2 : Int)
 (((([(0 : Int), (0 : Int), (0 : Int)].set (0 : Nat)
 (numV
 (D.str
 (((List.map one1
 (pcs (UInt8.ofNat (32 : Nat))
 s)).getD
 (2 : Nat) []).getD
 (0 : Nat) (D.int (0 : Int))).toStr).toStr
 (6 : Int))).set
 (1 : Nat)
 (numV
 (D.str
 (((List.map one1
 (pcs (UInt8.ofNat (47 : Nat))
 (((List.map one1
 (pcs
 (UInt8.ofNat
 (32 : Nat))
 s)).getD
 (3 : Nat) []).getD
 (0 : Nat)
 (D.int (0 : Int))).toStr)).getD
 (0 : Nat) []).getD
 (0 : Nat) (D.int (0 : Int))).toStr).toStr
 (6 : Int))).set
 (2 : Nat)
 (numV
 (D.str
 (((List.map one1
 (pcs (UInt8.ofNat (47 : Nat))
 (((List.map one1
 (pcs
 (UInt8.ofNat (32 : Nat))
 s)).getD
 (3 : Nat) []).getD
 (0 : Nat)
 (D.int (0 : Int))).toStr)).getD
 (1 : Nat) []).getD
 (0 : Nat) (D.int (0 : Int))).toStr).toStr
 (6 : Int))).getD
 (0 : Nat) (0 : Int))
 (((([(0 : Int), (0 : Int), (0 : Int)].set (0 : Nat)
 (numV
 (D.str
 (((List.map one1
 (pcs (UInt8.ofNat (32 : Nat))
 s)).getD
 (2 : Nat) []).getD
 (0 : Nat) (D.int (0 : Int))).toStr).toStr
 (6 : Int))).set
 (1 : Nat)
 (numV
 (D.str
 (((List.map one1
 (pcs (UInt8.ofNat (47 : Nat))
 (((List.map one1
 (pcs
 (UInt8.ofNat
 (32 : Nat))
 s)).getD
 (3 : Nat) []).getD
 (0 : Nat)
 (D.int (0 : Int))).toStr)).getD
 (0 : Nat) []).getD
 (0 : Nat) (D.int (0 : Int))).toStr).toStr
 (6 : Int))).set
 (2 : Nat)
 (numV
 (D.str
 (((List.map one1
 (pcs (UInt8.ofNat (47 : Nat))
 (((List.map one1
 (pcs
 (UInt8.ofNat (32 : Nat))
 s)).getD
 (3 : Nat) []).getD
 (0 : Nat)
 (D.int (0 : Int))).toStr)).getD
 (1 : Nat) []).getD
 (0 : Nat) (D.int (0 : Int))).toStr).toStr
 (6 : Int))).getD
 (1 : Nat) (0 : Int))
 (((([(0 : Int), (0 : Int), (0 : Int)].set (0 : Nat)
 (numV
 (D.str
 (((List.map one1
 (pcs (UInt8.ofNat (32 : Nat))
 s)).getD
 (2 : Nat) []).getD
 (0 : Nat) (D.int (0 : Int))).toStr).toStr
 (6 : Int))).set
 (1 : Nat)
 (numV
 (D.str
 (((List.map one1
 (pcs (UInt8.ofNat (47 : Nat))
 (((List.map one1
 (pcs
 (UInt8.ofNat
 (32 : Nat))
 s)).getD
 (3 : Nat) []).getD
 (0 : Nat)
 (D.int (0 : Int))).toStr)).getD
 (0 : Nat) []).getD
 (0 : Nat) (D.int (0 : Int))).toStr).toStr
 (6 : Int))).set
 (2 : Nat)
 (numV
 (D.str
 (((List.map one1
 (pcs (UInt8.ofNat (47 : Nat))
 (((List.map one1
 (pcs
 (UInt8.ofNat (32 : Nat))
 s)).getD
 (3 : Nat) []).getD
 (0 : Nat)
 (D.int (0 : Int))).toStr)).getD
 (1 : Nat) []).getD
 (0 : Nat) (D.int (0 : Int))).toStr).toStr
 (6 : Int))).getD
 (2 : Nat) (0 : Int))))])
 []
 else
 K
 (AV.tup
 [TV.agg
 [SV.str
 (((List.map one1 (pcs (UInt8.ofNat (32 : Nat)) s)).getD (0 : Nat)
 []).getD
 (0 : Nat) (D.int (0 : Int))).toStr,
 SV.int IntKind.i64 (2 : Int),
 SV.int IntKind.i64
 (((([(0 : Int), (0 : Int), (0 : Int)].set (0 : Nat)
 (numV
 (D.str
 (((List.map one1
 (pcs (UInt8.ofNat (32 : Nat))
 s)).getD
 (2 : Nat) []).getD
 (0 : Nat) (D.int (0 : Int))).toStr).toStr
 (6 : Int))).set
 (1 : Nat)
 (numV
 (D.str
 (((List.map one1
 (pcs (UInt8.ofNat (47 : Nat))
 (((List.map one1
 (pcs
 (UInt8.ofNat
 (32 : Nat))
 s)).getD
 (3 : Nat) []).getD
 (0 : Nat)
 (D.int (0 : Int))).toStr)).getD
 (0 : Nat) []).getD
 (0 : Nat) (D.int (0 : Int))).toStr).toStr
 (6 : Int))).set
 (2 : Nat)
 (numV
 (D.str
 (((List.map one1
 (pcs (UInt8.ofNat (47 : Nat))
 (((List.map one1
 (pcs
 (UInt8.ofNat (32 : Nat))
 s)).getD
 (3 : Nat) []).getD
 (0 : Nat)
 (D.int (0 : Int))).toStr)).getD
 (1 : Nat) []).getD
 (0 : Nat) (D.int (0 : Int))).toStr).toStr
 (6 : Int))).getD
 (0 : Nat) (0 : Int)),
 SV.int IntKind.i64
 (((([(0 : Int), (0 : Int), (0 : Int)].set (0 : Nat)
 (numV
 (D.str
 (((List.map one1
 (pcs (UInt8.ofNat (32 : Nat))
 s)).getD
 (2 : Nat) []).getD
 (0 : Nat) (D.int (0 : Int))).toStr).toStr
 (6 : Int))).set
 (1 : Nat)
 (numV
 (D.str
 (((List.map one1
 (pcs (UInt8.ofNat (47 : Nat))
 (((List.map one1
 (pcs
 (UInt8.ofNat
 (32 : Nat))
 s)).getD
 (3 : Nat) []).getD
 (0 : Nat)
 (D.int (0 : Int))).toStr)).getD
 (0 : Nat) []).getD
 (0 : Nat) (D.int (0 : Int))).toStr).toStr
 (6 : Int))).set
 (2 : Nat)
 (numV
 (D.str
 (((List.map one1
 (pcs (UInt8.ofNat (47 : Nat))
 (((List.map one1
 (pcs
 (UInt8.ofNat (32 : Nat))
 s)).getD
 (3 : Nat) []).getD
 (0 : Nat)
 (D.int (0 : Int))).toStr)).getD
 (1 : Nat) []).getD
 (0 : Nat) (D.int (0 : Int))).toStr).toStr
 (6 : Int))).getD
 (1 : Nat) (0 : Int)),
 SV.int IntKind.i64
 (((([(0 : Int), (0 : Int), (0 : Int)].set (0 : Nat)
 (numV
 (D.str
 (((List.map one1
 (pcs (UInt8.ofNat (32 : Nat))
 s)).getD
 (2 : Nat) []).getD
 (0 : Nat) (D.int (0 : Int))).toStr).toStr
 (6 : Int))).set
 (1 : Nat)
 (numV
 (D.str
 (((List.map one1
 (pcs (UInt8.ofNat (47 : Nat))
 (((List.map one1
 (pcs
 (UInt8.ofNat
 (32 : Nat))
 s)).getD
 (3 : Nat) []).getD
 (0 : Nat)
 (D.int (0 : Int))).toStr)).getD
 (0 : Nat) []).getD
 (0 : Nat) (D.int (0 : Int))).toStr).toStr
 (6 : Int))).set
 (2 : Nat)
 (numV
 (D.str
 (((List.map one1
 (pcs (UInt8.ofNat (47 : Nat))
 (((List.map one1
 (pcs
 (UInt8.ofNat (32 : Nat))
 s)).getD
 (3 : Nat) []).getD
 (0 : Nat)
 (D.int (0 : Int))).toStr)).getD
 (1 : Nat) []).getD
 (0 : Nat) (D.int (0 : Int))).toStr).toStr
 (6 : Int))).getD
 (2 : Nat) (0 : Int))],
 TV.one (SV.int IntKind.i64 (0 : Int))])
 []
 else False
 else False
 else False
 else False
 else False
 else False
 else False
 else False)
def exrpc_x1 (s : List UInt8) (K : AV → List Blk → Prop) : Prop := (
 bif
 decide ((0 : Int) ≤ (1 : Int)) &&
 decide ((1 : Int) < (↑(List.map one1 (pcs (UInt8.ofNat (32 : Nat)) s)).length : Int)) then
 bif
 decide ((0 : Nat) < (1 : Nat)) &&
 decide ((1 : Nat) < (List.map one1 (pcs (UInt8.ofNat (32 : Nat)) s)).length) then
 bif
 (((List.map one1 (pcs (UInt8.ofNat (32 : Nat)) s)).getD (1 : Nat) []).getD (0 : Nat) (D.int (0 : Int))).toStr ==
 [(116 : UInt8), (97 : UInt8), (112 : UInt8), (101 : UInt8)] then
 exrpc_x0 s K
 else
 bif
 decide ((0 : Int) ≤ (3 : Int)) &&
 decide ((3 : Int) < (↑(List.map one1 (pcs (UInt8.ofNat (32 : Nat)) s)).length : Int)) then
 bif
 decide ((0 : Nat) < (1 : Nat)) &&
 decide ((3 : Nat) < (List.map one1 (pcs (UInt8.ofNat (32 : Nat)) s)).length) then
 ((((List.map one1 (pcs (UInt8.ofNat (32 : Nat)) s)).getD (3 : Nat) []).getD (0 : Nat)
 (D.int (0 : Int))).toStr.length ≤
 (1000000 : Nat) ∧
 (0 : Int) ≤ (47 : Int) ∧ (47 : Int) < (256 : Int)) ∧
 bif
 (↑(List.map one1
 (pcs (UInt8.ofNat (47 : Nat))
 (((List.map one1 (pcs (UInt8.ofNat (32 : Nat)) s)).getD (3 : Nat) []).getD (0 : Nat)
 (D.int (0 : Int))).toStr)).length :
 Int) !=
 (2 : Int) then
 K
 (AV.tup
 [TV.agg
 [SV.str [], SV.int IntKind.i64 (0 : Int), SV.int IntKind.i64 (0 : Int),
 SV.int IntKind.i64 (0 : Int), SV.int IntKind.i64 (0 : Int)],
 TV.one (SV.int IntKind.i64 (7 : Int))])
 []
 else
 bif
 decide ((0 : Int) ≤ (2 : Int)) &&
 decide ((2 : Int) < (↑(List.map one1 (pcs (UInt8.ofNat (32 : Nat)) s)).length : Int)) then
 bif
 decide ((0 : Nat) < (1 : Nat)) &&
 decide ((2 : Nat) < (List.map one1 (pcs (UInt8.ofNat (32 : Nat)) s)).length) then
 bif
 decide ((0 : Int) ≤ (0 : Int)) &&
 decide
 ((0 : Int) <
 (↑(List.map one1
 (pcs (UInt8.ofNat (47 : Nat))
 (((List.map one1 (pcs (UInt8.ofNat (32 : Nat)) s)).getD (3 : Nat) []).getD
 (0 : Nat) (D.int (0 : Int))).toStr)).length :
 Int)) then
 bif
 decide ((0 : Nat) < (1 : Nat)) &&
 decide
 ((0 : Nat) <
 (List.map one1
 (pcs (UInt8.ofNat (47 : Nat))
 (((List.map one1 (pcs (UInt8.ofNat (32 : Nat)) s)).getD (3 : Nat) []).getD (0 : Nat)
 (D.int (0 : Int))).toStr)).length) then
 bif
 decide ((0 : Int) ≤ (1 : Int)) &&
 decide
 ((1 : Int) <
 (↑(List.map one1
 (pcs (UInt8.ofNat (47 : Nat))
 (((List.map one1 (pcs (UInt8.ofNat (32 : Nat)) s)).getD (3 : Nat) []).getD
 (0 : Nat) (D.int (0 : Int))).toStr)).length :
 Int)) then
 bif
 decide ((0 : Nat) < (1 : Nat)) &&
 decide
 ((1 : Nat) <
 (List.map one1
 (pcs (UInt8.ofNat (47 : Nat))
 (((List.map one1 (pcs (UInt8.ofNat (32 : Nat)) s)).getD (3 : Nat) []).getD
 (0 : Nat) (D.int (0 : Int))).toStr)).length) then
 ((D.str
 (((List.map one1 (pcs (UInt8.ofNat (32 : Nat)) s)).getD (2 : Nat) []).getD
 (0 : Nat) (D.int (0 : Int))).toStr).toStr.length ≤
 (1000000 : Nat) ∧
 (0 : Int) ≤ (6 : Int) ∧ (6 : Int) ≤ (18 : Int)) ∧
 bif
 !numB
 (D.str
 (((List.map one1 (pcs (UInt8.ofNat (32 : Nat)) s)).getD (2 : Nat) []).getD
 (0 : Nat) (D.int (0 : Int))).toStr).toStr
 (6 : Int) then
 K
 (AV.tup
 [TV.agg
 [SV.str [], SV.int IntKind.i64 (0 : Int), SV.int IntKind.i64 (0 : Int),
 SV.int IntKind.i64 (0 : Int), SV.int IntKind.i64 (0 : Int)],
 TV.one (SV.int IntKind.i64 (7 : Int))])
 []
 else
 bif
 decide
 (numV
 (D.str
 (((List.map one1 (pcs (UInt8.ofNat (32 : Nat)) s)).getD (2 : Nat) []).getD
 (0 : Nat) (D.int (0 : Int))).toStr).toStr
 (6 : Int) <
 (0 : Int)) then
 K
 (AV.tup
 [TV.agg
 [SV.str [], SV.int IntKind.i64 (0 : Int), SV.int IntKind.i64 (0 : Int),
 SV.int IntKind.i64 (0 : Int), SV.int IntKind.i64 (0 : Int)],
 TV.one (SV.int IntKind.i64 (7 : Int))])
 []
 else
 ((D.str
 (((List.map one1
 (pcs (UInt8.ofNat (47 : Nat))
 (((List.map one1 (pcs (UInt8.ofNat (32 : Nat)) s)).getD
 (3 : Nat) []).getD
 (0 : Nat) (D.int (0 : Int))).toStr)).getD
 (0 : Nat) []).getD
 (0 : Nat) (D.int (0 : Int))).toStr).toStr.length ≤
 (1000000 : Nat) ∧
 (0 : Int) ≤ (6 : Int) ∧ (6 : Int) ≤ (18 : Int)) ∧
 bif
 !numB
 (D.str
 (((List.map one1
 (pcs (UInt8.ofNat (47 : Nat))
 (((List.map one1 (pcs (UInt8.ofNat (32 : Nat)) s)).getD
 (3 : Nat) []).getD
 (0 : Nat) (D.int (0 : Int))).toStr)).getD
 (0 : Nat) []).getD
 (0 : Nat) (D.int (0 : Int))).toStr).toStr
 (6 : Int) then
 K
 (AV.tup
 [TV.agg
 [SV.str [], SV.int IntKind.i64 (0 : Int), SV.int IntKind.i64 (0 : Int),
 SV.int IntKind.i64 (0 : Int), SV.int IntKind.i64 (0 : Int)],
 TV.one (SV.int IntKind.i64 (7 : Int))])
 []
 else
 bif
 decide
 (numV
 (D.str
 (((List.map one1
 (pcs (UInt8.ofNat (47 : Nat))
 (((List.map one1 (pcs (UInt8.ofNat (32 : Nat)) s)).getD
 (3 : Nat) []).getD
 (0 : Nat) (D.int (0 : Int))).toStr)).getD
 (0 : Nat) []).getD
 (0 : Nat) (D.int (0 : Int))).toStr).toStr
 (6 : Int) <
 (0 : Int)) then
 K
 (AV.tup
 [TV.agg
 [SV.str [], SV.int IntKind.i64 (0 : Int), SV.int IntKind.i64 (0 : Int),
 SV.int IntKind.i64 (0 : Int), SV.int IntKind.i64 (0 : Int)],
 TV.one (SV.int IntKind.i64 (7 : Int))])
 []
 else
 ((D.str
 (((List.map one1
 (pcs (UInt8.ofNat (47 : Nat))
 (((List.map one1 (pcs (UInt8.ofNat (32 : Nat)) s)).getD
 (3 : Nat) []).getD
 (0 : Nat) (D.int (0 : Int))).toStr)).getD
 (1 : Nat) []).getD
 (0 : Nat) (D.int (0 : Int))).toStr).toStr.length ≤
 (1000000 : Nat) ∧
 (0 : Int) ≤ (6 : Int) ∧ (6 : Int) ≤ (18 : Int)) ∧
 bif
 !numB
 (D.str
 (((List.map one1
 (pcs (UInt8.ofNat (47 : Nat))
 (((List.map one1
 (pcs (UInt8.ofNat (32 : Nat)) s)).getD
 (3 : Nat) []).getD
 (0 : Nat) (D.int (0 : Int))).toStr)).getD
 (1 : Nat) []).getD
 (0 : Nat) (D.int (0 : Int))).toStr).toStr
 (6 : Int) then
 K
 (AV.tup
 [TV.agg
 [SV.str [], SV.int IntKind.i64 (0 : Int),
 SV.int IntKind.i64 (0 : Int), SV.int IntKind.i64 (0 : Int),
 SV.int IntKind.i64 (0 : Int)],
 TV.one (SV.int IntKind.i64 (7 : Int))])
 []
 else
 bif
 decide
 (numV
 (D.str
 (((List.map one1
 (pcs (UInt8.ofNat (47 : Nat))
 (((List.map one1
 (pcs (UInt8.ofNat (32 : Nat)) s)).getD
 (3 : Nat) []).getD
 (0 : Nat) (D.int (0 : Int))).toStr)).getD
 (1 : Nat) []).getD
 (0 : Nat) (D.int (0 : Int))).toStr).toStr
 (6 : Int) <
 (0 : Int)) then
 K
 (AV.tup
 [TV.agg
 [SV.str [], SV.int IntKind.i64 (0 : Int),
 SV.int IntKind.i64 (0 : Int), SV.int IntKind.i64 (0 : Int),
 SV.int IntKind.i64 (0 : Int)],
 TV.one (SV.int IntKind.i64 (7 : Int))])
 []
 else
 (((List.map one1 (pcs (UInt8.ofNat (32 : Nat)) s)).getD (0 : Nat) []).getD
 (0 : Nat) (D.int (0 : Int))).toStr.length ≤
 (1000000 : Nat) ∧
 bif
 carrierG
 (((List.map one1 (pcs (UInt8.ofNat (32 : Nat)) s)).getD (0 : Nat)
 []).getD
 (0 : Nat) (D.int (0 : Int))).toStr
 (1 : Int)
 (((([(0 : Int), (0 : Int), (0 : Int)].set (0 : Nat)
 (numV
 (D.str
 (((List.map one1
 (pcs (UInt8.ofNat (32 : Nat))
 s)).getD
 (2 : Nat) []).getD
 (0 : Nat) (D.int (0 : Int))).toStr).toStr
 (6 : Int))).set
 (1 : Nat)
 (numV
 (D.str
 (((List.map one1
 (pcs (UInt8.ofNat (47 : Nat))
 (((List.map one1
 (pcs
 (UInt8.ofNat
 (32 : Nat))
 s)).getD
 (3 : Nat) []).getD
 (0 : Nat)
 (D.int (0 : Int))).toStr)).getD
 (0 : Nat) []).getD
 (0 : Nat) (D.int (0 : Int))).toStr).toStr
 (6 : Int))).set
 (2 : Nat)
 (numV
 (D.str
 (((List.map one1
 (pcs (UInt8.ofNat (47 : Nat))
 (((List.map one1
 (pcs
 (UInt8.ofNat (32 : Nat))
 s)).getD
 (3 : Nat) []).getD
 (0 : Nat)
 (D.int (0 : Int))).toStr)).getD
 (1 : Nat) []).getD
 (0 : Nat) (D.int (0 : Int))).toStr).toStr
 (6 : Int))).getD
 (0 : Nat) (0 : Int))
 (((([(0 : Int), (0 : Int), (0 : Int)].set (0 : Nat)
 (numV
 (D.str
 (((List.map one1
 (pcs (UInt8.ofNat (32 : Nat))
 s)).getD
 (2 : Nat) []).getD
 (0 : Nat) (D.int (0 : Int))).toStr).toStr
 (6 : Int))).set
 (1 : Nat)
 (numV
 (D.str
 (((List.map one1
 (pcs (UInt8.ofNat (47 : Nat))
 (((List.map one1
 (pcs
 (UInt8.ofNat
 (32 : Nat))
 s)).getD
 (3 : Nat) []).getD
 (0 : Nat)
 (D.int (0 : Int))).toStr)).getD
 (0 : Nat) []).getD
 (0 : Nat) (D.int (0 : Int))).toStr).toStr
 (6 : Int))).set
 (2 : Nat)
 (numV
 (D.str
 (((List.map one1
 (pcs (UInt8.ofNat (47 : Nat))
 (((List.map one1
 (pcs
 (UInt8.ofNat (32 : Nat))
 s)).getD
 (3 : Nat) []).getD
 (0 : Nat)
 (D.int (0 : Int))).toStr)).getD
 (1 : Nat) []).getD
 (0 : Nat) (D.int (0 : Int))).toStr).toStr
 (6 : Int))).getD
 (1 : Nat) (0 : Int))
 (((([(0 : Int), (0 : Int), (0 : Int)].set (0 : Nat)
 (numV
 (D.str
 (((List.map one1
 (pcs (UInt8.ofNat (32 : Nat))
 s)).getD
 (2 : Nat) []).getD
 (0 : Nat) (D.int (0 : Int))).toStr).toStr
 (6 : Int))).set
 (1 : Nat)
 (numV
 (D.str
 (((List.map one1
 (pcs (UInt8.ofNat (47 : Nat))
 (((List.map one1
 (pcs
 (UInt8.ofNat
 (32 : Nat))
 s)).getD
 (3 : Nat) []).getD
 (0 : Nat)
 (D.int (0 : Int))).toStr)).getD
 (0 : Nat) []).getD
 (0 : Nat) (D.int (0 : Int))).toStr).toStr
 (6 : Int))).set
 (2 : Nat)
 (numV
 (D.str
 (((List.map one1
 (pcs (UInt8.ofNat (47 : Nat))
 (((List.map one1
 (pcs
 (UInt8.ofNat (32 : Nat))
 s)).getD
 (3 : Nat) []).getD
 (0 : Nat)
 (D.int (0 : Int))).toStr)).getD
 (1 : Nat) []).getD
 (0 : Nat) (D.int (0 : Int))).toStr).toStr
 (6 : Int))).getD
 (2 : Nat) (0 : Int)) !=
 (0 : Int) then
 K
 (AV.tup
 [TV.agg
 [SV.str [], SV.int IntKind.i64 (0 : Int),
 SV.int IntKind.i64 (0 : Int), SV.int IntKind.i64 (0 : Int),
 SV.int IntKind.i64 (0 : Int)],
 TV.one
 (SV.int IntKind.i64
 (carrierG
 (((List.map one1 (pcs (UInt8.ofNat (32 : Nat)) s)).getD
 (0 : Nat) []).getD
 (0 : Nat) (D.int (0 : Int))).toStr
 (1 : Int)
 (((([(0 : Int), (0 : Int), (0 : Int)].set (0 : Nat)
 (numV
 (D.str
 (((List.map one1
 (pcs
 (UInt8.ofNat (32 : Nat))
 s)).getD
 (2 : Nat) []).getD
 (0 : Nat)
 (D.int (0 : Int))).toStr).toStr
 (6 : Int))).set
 (1 : Nat)
 (numV
 (D.str
 (((List.map one1
 (pcs (UInt8.ofNat (47 : Nat))
 (((List.map one1
 (pcs
 (UInt8.ofNat
 (32 : Nat))
 s)).getD
 (3 : Nat) []).getD
 (0 : Nat)
 (D.int
 (0 : Int))).toStr)).getD
 (0 : Nat) []).getD
 (0 : Nat)
 (D.int (0 : Int))).toStr).toStr
 (6 : Int))).set
 (2 : Nat)
 (numV
 (D.str
 (((List.map one1
 (pcs (UInt8.ofNat (47 : Nat))
 (((List.map one1
 (pcs
 (UInt8.ofNat
 (32 : Nat))
 s)).getD
 (3 : Nat) []).getD
 (0 : Nat)
 (D.int
 (0 : Int))).toStr)).getD
 (1 : Nat) []).getD
 (0 : Nat) (D.int (0 : Int))).toStr).toStr
 (6 : Int))).getD
 (0 : Nat) (0 : Int))
 (((([(0 : Int), (0 : Int), (0 : Int)].set (0 : Nat)
 (numV
 (D.str
 (((List.map one1
 (pcs
 (UInt8.ofNat (32 : Nat))
 s)).getD
 (2 : Nat) []).getD
 (0 : Nat)
 (D.int (0 : Int))).toStr).toStr
 (6 : Int))).set
 (1 : Nat)
 (numV
 (D.str
 (((List.map one1
 (pcs (UInt8.ofNat (47 : Nat))
 (((List.map one1
 (pcs
 (UInt8.ofNat
 (32 : Nat))
 s)).getD
 (3 : Nat) []).getD
 (0 : Nat)
 (D.int
 (0 : Int))).toStr)).getD
 (0 : Nat) []).getD
 (0 : Nat)
 (D.int (0 : Int))).toStr).toStr
 (6 : Int))).set
 (2 : Nat)
 (numV
 (D.str
 (((List.map one1
 (pcs (UInt8.ofNat (47 : Nat))
 (((List.map one1
 (pcs
 (UInt8.ofNat
 (32 : Nat))
 s)).getD
 (3 : Nat) []).getD
 (0 : Nat)
 (D.int
 (0 : Int))).toStr)).getD
 (1 : Nat) []).getD
 (0 : Nat) (D.int (0 : Int))).toStr).toStr
 (6 : Int))).getD
 (1 : Nat) (0 : Int))
 (((([(0 : Int), (0 : Int), (0 : Int)].set (0 : Nat)
 (numV
 (D.str
 (((List.map one1
 (pcs
 (UInt8.ofNat (32 : Nat))
 s)).getD
 (2 : Nat) []).getD
 (0 : Nat)
 (D.int (0 : Int))).toStr).toStr
 (6 : Int))).set
 (1 : Nat)
 (numV
 (D.str
 (((List.map one1
 (pcs (UInt8.ofNat (47 : Nat))
 (((List.map one1
 (pcs
 (UInt8.ofNat
 (32 : Nat))
 s)).getD
 (3 : Nat) []).getD
 (0 : Nat)
 (D.int
 (0 : Int))).toStr)).getD
 (0 : Nat) []).getD
 (0 : Nat)
 (D.int (0 : Int))).toStr).toStr
 (6 : Int))).set
 (2 : Nat)
 (numV
 (D.str
 (((List.map one1
 (pcs (UInt8.ofNat (47 : Nat))
 (((List.map one1
 (pcs
 (UInt8.ofNat
 (32 : Nat))
 s)).getD
 (3 : Nat) []).getD
 (0 : Nat)
 (D.int
 (0 : Int))).toStr)).getD
 (1 : Nat) []).getD
 (0 : Nat) (D.int (0 : Int))).toStr).toStr
 (6 : Int))).getD
 (2 : Nat) (0 : Int))))])
 []
 else
 K
 (AV.tup
 [TV.agg
 [SV.str
 (((List.map one1 (pcs (UInt8.ofNat (32 : Nat)) s)).getD
 (0 : Nat) []).getD
 (0 : Nat) (D.int (0 : Int))).toStr,
 SV.int IntKind.i64 (1 : Int),
 SV.int IntKind.i64
 (((([(0 : Int), (0 : Int), (0 : Int)].set (0 : Nat)
 (numV
 (D.str
 (((List.map one1
 (pcs
 (UInt8.ofNat (32 : Nat))
 s)).getD
 (2 : Nat) []).getD
 (0 : Nat)
 (D.int (0 : Int))).toStr).toStr
 (6 : Int))).set
 (1 : Nat)
 (numV
 (D.str
 (((List.map one1
 (pcs (UInt8.ofNat (47 : Nat))
 (((List.map one1
 (pcs
 (UInt8.ofNat
 (32 : Nat))
 s)).getD
 (3 : Nat) []).getD
 (0 : Nat)
 (D.int
 (0 : Int))).toStr)).getD
 (0 : Nat) []).getD
 (0 : Nat)
 (D.int (0 : Int))).toStr).toStr
 (6 : Int))).set
 (2 : Nat)
 (numV
 (D.str
 (((List.map one1
 (pcs (UInt8.ofNat (47 : Nat))
 (((List.map one1
 (pcs
 (UInt8.ofNat
 (32 : Nat))
 s)).getD
 (3 : Nat) []).getD
 (0 : Nat)
 (D.int
 (0 : Int))).toStr)).getD
 (1 : Nat) []).getD
 (0 : Nat) (D.int (0 : Int))).toStr).toStr
 (6 : Int))).getD
 (0 : Nat) (0 : Int)),
 SV.int IntKind.i64
 (((([(0 : Int), (0 : Int), (0 : Int)].set (0 : Nat)
 (numV
 (D.str
 (((List.map one1
 (pcs
 (UInt8.ofNat (32 : Nat))
 s)).getD
 (2 : Nat) []).getD
 (0 : Nat)
 (D.int (0 : Int))).toStr).toStr
 (6 : Int))).set
 (1 : Nat)
 (numV
 (D.str
 (((List.map one1
 (pcs (UInt8.ofNat (47 : Nat))
 (((List.map one1
 (pcs
 (UInt8.ofNat
 (32 : Nat))
 s)).getD
 (3 : Nat) []).getD
 (0 : Nat)
 (D.int
 (0 : Int))).toStr)).getD
 (0 : Nat) []).getD
 (0 : Nat)
 (D.int (0 : Int))).toStr).toStr
 (6 : Int))).set
 (2 : Nat)
 (numV
 (D.str
 (((List.map one1
 (pcs (UInt8.ofNat (47 : Nat))
 (((List.map one1
 (pcs
 (UInt8.ofNat
 (32 : Nat))
 s)).getD
 (3 : Nat) []).getD
 (0 : Nat)
 (D.int
 (0 : Int))).toStr)).getD
 (1 : Nat) []).getD
 (0 : Nat) (D.int (0 : Int))).toStr).toStr
 (6 : Int))).getD
 (1 : Nat) (0 : Int)),
 SV.int IntKind.i64
 (((([(0 : Int), (0 : Int), (0 : Int)].set (0 : Nat)
 (numV
 (D.str
 (((List.map one1
 (pcs
 (UInt8.ofNat (32 : Nat))
 s)).getD
 (2 : Nat) []).getD
 (0 : Nat)
 (D.int (0 : Int))).toStr).toStr
 (6 : Int))).set
 (1 : Nat)
 (numV
 (D.str
 (((List.map one1
 (pcs (UInt8.ofNat (47 : Nat))
 (((List.map one1
 (pcs
 (UInt8.ofNat
 (32 : Nat))
 s)).getD
 (3 : Nat) []).getD
 (0 : Nat)
 (D.int
 (0 : Int))).toStr)).getD
 (0 : Nat) []).getD
 (0 : Nat)
 (D.int (0 : Int))).toStr).toStr
 (6 : Int))).set
 (2 : Nat)
 (numV
 (D.str
 (((List.map one1
 (pcs (UInt8.ofNat (47 : Nat))
 (((List.map one1
 (pcs
 (UInt8.ofNat
 (32 : Nat))
 s)).getD
 (3 : Nat) []).getD
 (0 : Nat)
 (D.int
 (0 : Int))).toStr)).getD
 (1 : Nat) []).getD
 (0 : Nat) (D.int (0 : Int))).toStr).toStr
 (6 : Int))).getD
 (2 : Nat) (0 : Int))],
 TV.one (SV.int IntKind.i64 (0 : Int))])
 []
 else False
 else False
 else False
 else False
 else False
 else False
 else False
 else False
 else False
 else False)
theorem exrpc (s : List UInt8) (K : AV → List Blk → Prop) : evFn Erpc Tryz.f14 [.one (.str s)] [] K = ( (s.length ≤ 1000000 ∧ (0 :Int) ≤ (32 :Int) ∧ (32 :Int) < (256 :Int)) ∧ bif (↑(List.map one1 (pcs (UInt8.ofNat 32) s)).length : Int) != 4 then K (AV.tup [TV.agg [SV.str [], SV.int .i64 0, SV.int .i64 0, SV.int .i64 0, SV.int .i64 0], .one (.int .i64 7)]) [] else bif decide ((0 :Int) ≤ (0 :Int)) && decide (0 < (↑(List.map one1 (pcs (UInt8.ofNat 32) s)).length : Int)) then bif decide (0 < 1) && decide (0 < (List.map one1 (pcs (UInt8.ofNat 32) s)).length) then bif (((List.map one1 (pcs (UInt8.ofNat 32) s)).getD 0 []).getD 0 (D.int 0)).toStr == [] then K (AV.tup [TV.agg [SV.str [], SV.int .i64 0, SV.int .i64 0, SV.int .i64 0, SV.int .i64 0], .one (.int .i64 7)]) [] else bif decide ((0 :Int) ≤ (0 :Int)) && decide (0 < (↑(List.map one1 (pcs (UInt8.ofNat 32) s)).length : Int)) then bif decide (0 < 1) && decide (0 < (List.map one1 (pcs (UInt8.ofNat 32) s)).length) then bif decide ((0 :Int) ≤ (1 :Int)) && decide (1 < (↑(List.map one1 (pcs (UInt8.ofNat 32) s)).length : Int)) then bif decide (0 < 1) && decide (1 < (List.map one1 (pcs (UInt8.ofNat 32) s)).length) then bif (((List.map one1 (pcs (UInt8.ofNat 32) s)).getD 1 []).getD 0 (D.int 0)).toStr == [(100 : UInt8), (105 : UInt8), (115 : UInt8), (99 : UInt8)] then bif decide ((0 :Int) ≤ (1 :Int)) && decide (1 < (↑(List.map one1 (pcs (UInt8.ofNat 32) s)).length : Int)) then bif decide (0 < 1) && decide (1 < (List.map one1 (pcs (UInt8.ofNat 32) s)).length) then bif (((List.map one1 (pcs (UInt8.ofNat 32) s)).getD 1 []).getD 0 (D.int 0)).toStr == [(99 : UInt8), (121 : UInt8), (108 : UInt8), (105 : UInt8), (110 : UInt8), (100 : UInt8), (101 : UInt8), (114 : UInt8)] then exrpc_x1 s K else bif decide ((0 :Int) ≤ (1 :Int)) && decide (1 < (↑(List.map one1 (pcs (UInt8.ofNat 32) s)).length : Int)) then bif decide (0 < 1) && decide (1 < (List.map one1 (pcs (UInt8.ofNat 32) s)).length) then bif (((List.map one1 (pcs (UInt8.ofNat 32) s)).getD 1 []).getD 0 (D.int 0)).toStr == [(116 : UInt8), (97 : UInt8), (112 : UInt8), (101 : UInt8)] then exrpc_x0 s K else bif decide ((0 :Int) ≤ (3 :Int)) && decide (3 < (↑(List.map one1 (pcs (UInt8.ofNat 32) s)).length : Int)) then bif decide (0 < 1) && decide (3 < (List.map one1 (pcs (UInt8.ofNat 32) s)).length) then ((((List.map one1 (pcs (UInt8.ofNat 32) s)).getD 3 []).getD 0 (D.int 0)).toStr.length ≤ 1000000 ∧ (0 :Int) ≤ (47 :Int) ∧ (47 :Int) < (256 :Int)) ∧ bif (↑(List.map one1 (pcs (UInt8.ofNat 47) (((List.map one1 (pcs (UInt8.ofNat 32) s)).getD 3 []).getD 0 (D.int 0)).toStr)).length : Int) != 2 then K (AV.tup [TV.agg [SV.str [], SV.int .i64 0, SV.int .i64 0, SV.int .i64 0, SV.int .i64 0], .one (.int .i64 7)]) [] else bif decide ((0 :Int) ≤ (2 :Int)) && decide (2 < (↑(List.map one1 (pcs (UInt8.ofNat 32) s)).length : Int)) then bif decide (0 < 1) && decide (2 < (List.map one1 (pcs (UInt8.ofNat 32) s)).length) then bif decide ((0 :Int) ≤ (0 :Int)) && decide (0 < (↑(List.map one1 (pcs (UInt8.ofNat 47) (((List.map one1 (pcs (UInt8.ofNat 32) s)).getD 3 []).getD 0 (D.int 0)).toStr)).length : Int)) then bif decide (0 < 1) && decide (0 < (List.map one1 (pcs (UInt8.ofNat 47) (((List.map one1 (pcs (UInt8.ofNat 32) s)).getD 3 []).getD 0 (D.int 0)).toStr)).length) then bif decide ((0 :Int) ≤ (1 :Int)) && decide (1 < (↑(List.map one1 (pcs (UInt8.ofNat 47) (((List.map one1 (pcs (UInt8.ofNat 32) s)).getD 3 []).getD 0 (D.int 0)).toStr)).length : Int)) then bif decide (0 < 1) && decide (1 < (List.map one1 (pcs (UInt8.ofNat 47) (((List.map one1 (pcs (UInt8.ofNat 32) s)).getD 3 []).getD 0 (D.int 0)).toStr)).length) then ((D.str (((List.map one1 (pcs (UInt8.ofNat 32) s)).getD 2 []).getD 0 (D.int 0)).toStr).toStr.length ≤ 1000000 ∧ (0 :Int) ≤ (6 :Int) ∧ (6 :Int) ≤ (18 :Int)) ∧ bif !numB (D.str (((List.map one1 (pcs (UInt8.ofNat 32) s)).getD 2 []).getD 0 (D.int 0)).toStr).toStr 6 then K (AV.tup [TV.agg [SV.str [], SV.int .i64 0, SV.int .i64 0, SV.int .i64 0, SV.int .i64 0], .one (.int .i64 7)]) [] else bif decide (numV (D.str (((List.map one1 (pcs (UInt8.ofNat 32) s)).getD 2 []).getD 0 (D.int 0)).toStr).toStr (6 :Int) < (0 :Int)) then K (AV.tup [TV.agg [SV.str [], SV.int .i64 0, SV.int .i64 0, SV.int .i64 0, SV.int .i64 0], .one (.int .i64 7)]) [] else ((D.str (((List.map one1 (pcs (UInt8.ofNat 47) (((List.map one1 (pcs (UInt8.ofNat 32) s)).getD 3 []).getD 0 (D.int 0)).toStr)).getD 0 []).getD 0 (D.int 0)).toStr).toStr.length ≤ 1000000 ∧ (0 :Int) ≤ (6 :Int) ∧ (6 :Int) ≤ (18 :Int)) ∧ bif !numB (D.str (((List.map one1 (pcs (UInt8.ofNat 47) (((List.map one1 (pcs (UInt8.ofNat 32) s)).getD 3 []).getD 0 (D.int 0)).toStr)).getD 0 []).getD 0 (D.int 0)).toStr).toStr 6 then K (AV.tup [TV.agg [SV.str [], SV.int .i64 0, SV.int .i64 0, SV.int .i64 0, SV.int .i64 0], .one (.int .i64 7)]) [] else bif decide (numV (D.str (((List.map one1 (pcs (UInt8.ofNat 47) (((List.map one1 (pcs (UInt8.ofNat 32) s)).getD 3 []).getD 0 (D.int 0)).toStr)).getD 0 []).getD 0 (D.int 0)).toStr).toStr (6 :Int) < (0 :Int)) then K (AV.tup [TV.agg [SV.str [], SV.int .i64 0, SV.int .i64 0, SV.int .i64 0, SV.int .i64 0], .one (.int .i64 7)]) [] else ((D.str (((List.map one1 (pcs (UInt8.ofNat 47) (((List.map one1 (pcs (UInt8.ofNat 32) s)).getD 3 []).getD 0 (D.int 0)).toStr)).getD 1 []).getD 0 (D.int 0)).toStr).toStr.length ≤ 1000000 ∧ (0 :Int) ≤ (6 :Int) ∧ (6 :Int) ≤ (18 :Int)) ∧ bif !numB (D.str (((List.map one1 (pcs (UInt8.ofNat 47) (((List.map one1 (pcs (UInt8.ofNat 32) s)).getD 3 []).getD 0 (D.int 0)).toStr)).getD 1 []).getD 0 (D.int 0)).toStr).toStr 6 then K (AV.tup [TV.agg [SV.str [], SV.int .i64 0, SV.int .i64 0, SV.int .i64 0, SV.int .i64 0], .one (.int .i64 7)]) [] else bif decide (numV (D.str (((List.map one1 (pcs (UInt8.ofNat 47) (((List.map one1 (pcs (UInt8.ofNat 32) s)).getD 3 []).getD 0 (D.int 0)).toStr)).getD 1 []).getD 0 (D.int 0)).toStr).toStr (6 :Int) < (0 :Int)) then K (AV.tup [TV.agg [SV.str [], SV.int .i64 0, SV.int .i64 0, SV.int .i64 0, SV.int .i64 0], .one (.int .i64 7)]) [] else (((List.map one1 (pcs (UInt8.ofNat 32) s)).getD 0 []).getD 0 (D.int 0)).toStr.length ≤ 1000000 ∧ bif carrierG (((List.map one1 (pcs (UInt8.ofNat 32) s)).getD 0 []).getD 0 (D.int 0)).toStr 0 (((([0, 0, 0].set 0 (numV (D.str (((List.map one1 (pcs (UInt8.ofNat 32) s)).getD 2 []).getD 0 (D.int 0)).toStr).toStr 6)).set 1 (numV (D.str (((List.map one1 (pcs (UInt8.ofNat 47) (((List.map one1 (pcs (UInt8.ofNat 32) s)).getD 3 []).getD 0 (D.int 0)).toStr)).getD 0 []).getD 0 (D.int 0)).toStr).toStr 6)).set 2 (numV (D.str (((List.map one1 (pcs (UInt8.ofNat 47) (((List.map one1 (pcs (UInt8.ofNat 32) s)).getD 3 []).getD 0 (D.int 0)).toStr)).getD 1 []).getD 0 (D.int 0)).toStr).toStr 6)).getD 0 0) (((([0, 0, 0].set 0 (numV (D.str (((List.map one1 (pcs (UInt8.ofNat 32) s)).getD 2 []).getD 0 (D.int 0)).toStr).toStr 6)).set 1 (numV (D.str (((List.map one1 (pcs (UInt8.ofNat 47) (((List.map one1 (pcs (UInt8.ofNat 32) s)).getD 3 []).getD 0 (D.int 0)).toStr)).getD 0 []).getD 0 (D.int 0)).toStr).toStr 6)).set 2 (numV (D.str (((List.map one1 (pcs (UInt8.ofNat 47) (((List.map one1 (pcs (UInt8.ofNat 32) s)).getD 3 []).getD 0 (D.int 0)).toStr)).getD 1 []).getD 0 (D.int 0)).toStr).toStr 6)).getD 1 0) (((([0, 0, 0].set 0 (numV (D.str (((List.map one1 (pcs (UInt8.ofNat 32) s)).getD 2 []).getD 0 (D.int 0)).toStr).toStr 6)).set 1 (numV (D.str (((List.map one1 (pcs (UInt8.ofNat 47) (((List.map one1 (pcs (UInt8.ofNat 32) s)).getD 3 []).getD 0 (D.int 0)).toStr)).getD 0 []).getD 0 (D.int 0)).toStr).toStr 6)).set 2 (numV (D.str (((List.map one1 (pcs (UInt8.ofNat 47) (((List.map one1 (pcs (UInt8.ofNat 32) s)).getD 3 []).getD 0 (D.int 0)).toStr)).getD 1 []).getD 0 (D.int 0)).toStr).toStr 6)).getD 2 0) != 0 then K (AV.tup [TV.agg [SV.str [], SV.int .i64 0, SV.int .i64 0, SV.int .i64 0, SV.int .i64 0], .one (.int .i64 (carrierG (((List.map one1 (pcs (UInt8.ofNat 32) s)).getD 0 []).getD 0 (D.int 0)).toStr 0 (((([0, 0, 0].set 0 (numV (D.str (((List.map one1 (pcs (UInt8.ofNat 32) s)).getD 2 []).getD 0 (D.int 0)).toStr).toStr 6)).set 1 (numV (D.str (((List.map one1 (pcs (UInt8.ofNat 47) (((List.map one1 (pcs (UInt8.ofNat 32) s)).getD 3 []).getD 0 (D.int 0)).toStr)).getD 0 []).getD 0 (D.int 0)).toStr).toStr 6)).set 2 (numV (D.str (((List.map one1 (pcs (UInt8.ofNat 47) (((List.map one1 (pcs (UInt8.ofNat 32) s)).getD 3 []).getD 0 (D.int 0)).toStr)).getD 1 []).getD 0 (D.int 0)).toStr).toStr 6)).getD 0 0) (((([0, 0, 0].set 0 (numV (D.str (((List.map one1 (pcs (UInt8.ofNat 32) s)).getD 2 []).getD 0 (D.int 0)).toStr).toStr 6)).set 1 (numV (D.str (((List.map one1 (pcs (UInt8.ofNat 47) (((List.map one1 (pcs (UInt8.ofNat 32) s)).getD 3 []).getD 0 (D.int 0)).toStr)).getD 0 []).getD 0 (D.int 0)).toStr).toStr 6)).set 2 (numV (D.str (((List.map one1 (pcs (UInt8.ofNat 47) (((List.map one1 (pcs (UInt8.ofNat 32) s)).getD 3 []).getD 0 (D.int 0)).toStr)).getD 1 []).getD 0 (D.int 0)).toStr).toStr 6)).getD 1 0) (((([0, 0, 0].set 0 (numV (D.str (((List.map one1 (pcs (UInt8.ofNat 32) s)).getD 2 []).getD 0 (D.int 0)).toStr).toStr 6)).set 1 (numV (D.str (((List.map one1 (pcs (UInt8.ofNat 47) (((List.map one1 (pcs (UInt8.ofNat 32) s)).getD 3 []).getD 0 (D.int 0)).toStr)).getD 0 []).getD 0 (D.int 0)).toStr).toStr 6)).set 2 (numV (D.str (((List.map one1 (pcs (UInt8.ofNat 47) (((List.map one1 (pcs (UInt8.ofNat 32) s)).getD 3 []).getD 0 (D.int 0)).toStr)).getD 1 []).getD 0 (D.int 0)).toStr).toStr 6)).getD 2 0)))]) [] else K (AV.tup [TV.agg [SV.str (((List.map one1 (pcs (UInt8.ofNat 32) s)).getD 0 []).getD 0 (D.int 0)).toStr, SV.int .i64 0, SV.int .i64 (((([0, 0, 0].set 0 (numV (D.str (((List.map one1 (pcs (UInt8.ofNat 32) s)).getD 2 []).getD 0 (D.int 0)).toStr).toStr 6)).set 1 (numV (D.str (((List.map one1 (pcs (UInt8.ofNat 47) (((List.map one1 (pcs (UInt8.ofNat 32) s)).getD 3 []).getD 0 (D.int 0)).toStr)).getD 0 []).getD 0 (D.int 0)).toStr).toStr 6)).set 2 (numV (D.str (((List.map one1 (pcs (UInt8.ofNat 47) (((List.map one1 (pcs (UInt8.ofNat 32) s)).getD 3 []).getD 0 (D.int 0)).toStr)).getD 1 []).getD 0 (D.int 0)).toStr).toStr 6)).getD 0 0), SV.int .i64 (((([0, 0, 0].set 0 (numV (D.str (((List.map one1 (pcs (UInt8.ofNat 32) s)).getD 2 []).getD 0 (D.int 0)).toStr).toStr 6)).set 1 (numV (D.str (((List.map one1 (pcs (UInt8.ofNat 47) (((List.map one1 (pcs (UInt8.ofNat 32) s)).getD 3 []).getD 0 (D.int 0)).toStr)).getD 0 []).getD 0 (D.int 0)).toStr).toStr 6)).set 2 (numV (D.str (((List.map one1 (pcs (UInt8.ofNat 47) (((List.map one1 (pcs (UInt8.ofNat 32) s)).getD 3 []).getD 0 (D.int 0)).toStr)).getD 1 []).getD 0 (D.int 0)).toStr).toStr 6)).getD 1 0), SV.int .i64 (((([0, 0, 0].set 0 (numV (D.str (((List.map one1 (pcs (UInt8.ofNat 32) s)).getD 2 []).getD 0 (D.int 0)).toStr).toStr 6)).set 1 (numV (D.str (((List.map one1 (pcs (UInt8.ofNat 47) (((List.map one1 (pcs (UInt8.ofNat 32) s)).getD 3 []).getD 0 (D.int 0)).toStr)).getD 0 []).getD 0 (D.int 0)).toStr).toStr 6)).set 2 (numV (D.str (((List.map one1 (pcs (UInt8.ofNat 47) (((List.map one1 (pcs (UInt8.ofNat 32) s)).getD 3 []).getD 0 (D.int 0)).toStr)).getD 1 []).getD 0 (D.int 0)).toStr).toStr 6)).getD 2 0)], .one (.int .i64 0)]) [] else False else False else False else False else False else False else False else False else False else False else False else False else bif decide ((0 :Int) ≤ (1 :Int)) && decide (1 < (↑(List.map one1 (pcs (UInt8.ofNat 32) s)).length : Int)) then bif decide (0 < 1) && decide (1 < (List.map one1 (pcs (UInt8.ofNat 32) s)).length) then bif (((List.map one1 (pcs (UInt8.ofNat 32) s)).getD 1 []).getD 0 (D.int 0)).toStr == [(99 : UInt8), (121 : UInt8), (108 : UInt8), (105 : UInt8), (110 : UInt8), (100 : UInt8), (101 : UInt8), (114 : UInt8)] then exrpc_x1 s K else bif decide ((0 :Int) ≤ (1 :Int)) && decide (1 < (↑(List.map one1 (pcs (UInt8.ofNat 32) s)).length : Int)) then bif decide (0 < 1) && decide (1 < (List.map one1 (pcs (UInt8.ofNat 32) s)).length) then bif (((List.map one1 (pcs (UInt8.ofNat 32) s)).getD 1 []).getD 0 (D.int 0)).toStr == [(116 : UInt8), (97 : UInt8), (112 : UInt8), (101 : UInt8)] then exrpc_x0 s K else bif decide ((0 :Int) ≤ (3 :Int)) && decide (3 < (↑(List.map one1 (pcs (UInt8.ofNat 32) s)).length : Int)) then bif decide (0 < 1) && decide (3 < (List.map one1 (pcs (UInt8.ofNat 32) s)).length) then ((((List.map one1 (pcs (UInt8.ofNat 32) s)).getD 3 []).getD 0 (D.int 0)).toStr.length ≤ 1000000 ∧ (0 :Int) ≤ (47 :Int) ∧ (47 :Int) < (256 :Int)) ∧ K (AV.tup [TV.agg [SV.str [], SV.int .i64 0, SV.int .i64 0, SV.int .i64 0, SV.int .i64 0], .one (.int .i64 7)]) [] else False else False else False else False else False else False else False else False else False else False else False else False) := by kernel_rfl
end Go.Ev

/-
  Chapter 1: strings of carriers: the contracts are kept.
-/
namespace Go.Ev
open Go Go.Proofs
attribute [local irreducible] evFn evBody evRound
set_option maxRecDepth 20000
set_option linter.unusedVariables false
set_option linter.unusedSimpArgs false
theorem okwds : SpecOK Tryz.prog 52 wdsS := by
  refine specOK (n := 2) (m := 0) (lps := []) .nil Tryz.func52 (by kernel_rfl) (by kernel_rfl) (noLoops (by kernel_rfl)) fun args σ K h => ?_
  unfold wdsS at h
  split at h
  rotate_right
  · exact h.elim
  rw [exwds K]
  exact h
theorem okwdsD : SpecOK Tryz.prog 52 wdsDS := by
  refine okwds.froze fun args σ K h => ?_
  unfold wdsDS at h
  split at h
  rotate_right
  · exact h.elim
  refine ⟨rfl, _, ?_, h⟩
  exact ⟨_, _, rfl, rfl, rfl⟩
theorem okidx : SpecOK Tryz.prog 48 idxS := by
  refine specOK (n := 19) (m := 0) (lps := [(2, .unroll 4)]) .nil Tryz.func48 (by kernel_rfl) (by kernel_rfl) (theLoops (n := 1) (by kernel_rfl) fun i hi => ?_) fun args σ K h => ?_
  · match i, hi with
    | 0, _ => exact loopHyp_none (key := 2) (n := 4) (by kernel_rfl) rfl
  unfold idxS at h
  split at h
  rotate_right
  · exact h.elim
  rename_i a b c w
  rw [exidx a b c w K]
  unfold idx3 at h
  cases h0 : (w == a) with
  | true => rw [h0] at h; exact h
  | false =>
    rw [h0] at h
    cases h1 : (w == b) with
    | true => rw [h1] at h; exact h
    | false =>
      rw [h1] at h
      cases h2 : (w == c) with
      | true => rw [h2] at h; exact h
      | false => rw [h2] at h; exact h
theorem within3 {k : Int} (h : withinG k 0 2 = true) : k = 0 ∨ k = 1 ∨ k = 2 := by
  unfold withinG at h
  simp only [Bool.and_eq_true, decide_eq_true_eq] at h
  omega
theorem fmc_join (nm wd : List UInt8) (s n d : Int) : joinG 32 [[.str nm], [.str wd], [.str (itoG s)], [.str (itoG n ++ [47] ++ itoG d)]] = nm ++ [32] ++ wd ++ [32] ++ itoG s ++ [32] ++ itoG n ++ [47] ++ itoG d := by
  unfold joinG
  have e : ([[D.str nm], [D.str wd], [D.str (itoG s)], [D.str (itoG n ++ [47] ++ itoG d)]]).map strG = nm :: [wd, itoG s, itoG n ++ [47] ++ itoG d] := rfl
  rw [e, Lib.join_cons]
  show nm ++ (([32] ++ wd) ++ (([32] ++ itoG s) ++ (([32] ++ (itoG n ++ [47] ++ itoG d)) ++ []))) = _
  simp only [List.append_assoc, List.append_nil]
theorem okfmc : SpecOK Tryz.prog 12 fmcS := by
  refine specOK (n := 30) (m := 0) (lps := []) (.cons ok71 (.cons okito (.cons okjoin .nil))) Tryz.func12 (by kernel_rfl) (by kernel_rfl) (noLoops (by kernel_rfl)) fun args σ K h => ?_
  unfold fmcS at h
  split at h
  rotate_right
  · exact h.elim
  rename_i nm k s n d
  rw [exfmc nm k s n d K]
  obtain ⟨⟨h1, hs, hn, hd⟩, h⟩ := h
  have ls := itoG_len hs
  have ln := itoG_len hn
  have ld := itoG_len hd
  unfold fmcG at h
  cases hw : withinG k 0 2 with
  | false =>
    rw [hw] at h
    have : (decide (0 ≤ k) && decide (k ≤ 2)) = false := hw
    rw [this]
    exact h
  | true =>
    rw [hw, cond_true] at h
    have : (decide (0 ≤ k) && decide (k ≤ 2)) = true := hw
    rw [this]
    have hl1 : (itoG n).length + 1 ≤ 140737488355328 := by omega
    have hl2 : (itoG n ++ ([47] : List UInt8)).length + (itoG d).length ≤ 140737488355328 := by simp only [List.length_append, List.length_cons, List.length_nil]; omega
    rw [decide_eq_true hl1, decide_eq_true hl2]
    have hj : ∀ wd : List UInt8, wd.length ≤ 10 → (joinG 32 [[.str nm], [.str wd], [.str (itoG s)], [.str (itoG n ++ [47] ++ itoG d)]]).length ≤ 140737488355328 := fun wd hwd => by
      rw [fmc_join]
      simp only [List.length_append, List.length_cons, List.length_nil]; omega
    refine And.intro hn (And.intro hd ?_)
    rcases within3 hw with rfl | rfl | rfl
    · exact And.intro hs (And.intro ⟨by simp, by simp, hj _ (by decide)⟩ h)
    · exact And.intro hs (And.intro ⟨by simp, by simp, hj _ (by decide)⟩ h)
    · exact And.intro hs (And.intro ⟨by simp, by simp, hj _ (by decide)⟩ h)
theorem cnd {b : Bool} {E : Prop} (hb : b = true) (hT : E) : bif b then E else False := by rw [hb]; exact hT
theorem okrfc : SpecOK Tryz.prog 15 fmcS := by
  refine specOK (n := 33) (m := 0) (lps := []) (.cons ok25 (.cons okwdsD (.cons okdec .nil))) Tryz.func15 (by kernel_rfl) (by kernel_rfl) (noLoops (by kernel_rfl)) fun args σ K h => ?_
  unfold fmcS at h
  split at h
  rotate_right
  · exact h.elim
  rename_i nm k s n d
  rw [exrfc nm k s n d K]
  obtain ⟨⟨h1, hs, hn, hd⟩, h⟩ := h
  have ls := itoG_len hs
  have ln := itoG_len hn
  have ld := itoG_len hd
  unfold fmcG at h
  cases hw : withinG k 0 2 with
  | false =>
    rw [hw] at h
    have : (decide (0 ≤ k) && decide (k ≤ 2)) = false := hw
    rw [this]
    exact h
  | true =>
    rw [hw, cond_true, fmc_join] at h
    have : (decide (0 ≤ k) && decide (k ≤ 2)) = true := hw
    rw [this, Bool.not_true, cond_false]
    have hk : 0 ≤ k ∧ k < 3 := by rcases within3 hw with rfl | rfl | rfl <;> decide
    have hq : (([[D.str [100, 105, 115, 99]], [D.str [99, 121, 108, 105, 110, 100, 101, 114]], [D.str [116, 97, 112, 101]]].getD k.toNat []).getD 0 (D.int 0)).toStr = wrdG k := by rcases within3 hw with rfl | rfl | rfl <;> rfl
    have lw : (wrdG k).length ≤ 8 := by rcases within3 hw with rfl | rfl | rfl <;> decide
    rw [hq]
    refine cnd (decide_eq_true (by omega)) ?_
    refine cnd (by rw [decide_eq_true hk.1, decide_eq_true hk.2]; rfl) ?_
    refine cnd (by rw [decide_eq_true (show k.toNat < 3 by omega)]; rfl) ?_
    refine cnd (decide_eq_true (by simp only [List.length_append, List.length_cons, List.length_nil]; omega)) ?_
    refine cnd (decide_eq_true (by simp only [List.length_append, List.length_cons, List.length_nil]; omega)) ?_
    refine And.intro hs (cnd (decide_eq_true (by simp only [List.length_append, List.length_cons, List.length_nil]; omega)) ?_)
    refine cnd (decide_eq_true (by simp only [List.length_append, List.length_cons, List.length_nil]; omega)) ?_
    refine And.intro hn (cnd (decide_eq_true (by simp only [List.length_append, List.length_cons, List.length_nil]; omega)) ?_)
    refine cnd (decide_eq_true (by simp only [List.length_append, List.length_cons, List.length_nil]; omega)) ?_
    exact And.intro hd (cnd (decide_eq_true (by simp only [List.length_append, List.length_cons, List.length_nil]; omega)) h)
theorem pc_no {s : List UInt8} {K : AV → List Blk → Prop} (h : K (.tup [.agg [.str (pcN s), .int .i64 (pcZ s (kndG (pcI s 1))), .int .i64 (pcZ s (numV (pcI s 2) 6)), .int .i64 (pcZ s (numV (bef 47 (pcI s 3)) 6)), .int .i64 (pcZ s (numV (aft 47 (pcI s 3)) 6))], .one (.int .i64 (pcE s))]) []) (hn : pcA s = false) : K (.tup [.agg [.str [], .int .i64 0, .int .i64 0, .int .i64 0, .int .i64 0], .one (.int .i64 7)]) [] := by
  have e : pcE s = 7 := by unfold pcE; rw [hn]; rfl
  unfold pcN pcZ at h
  rw [e] at h
  exact h
theorem pc_yes {s : List UInt8} {K : AV → List Blk → Prop} (h : K (.tup [.agg [.str (pcN s), .int .i64 (pcZ s (kndG (pcI s 1))), .int .i64 (pcZ s (numV (pcI s 2) 6)), .int .i64 (pcZ s (numV (bef 47 (pcI s 3)) 6)), .int .i64 (pcZ s (numV (aft 47 (pcI s 3)) 6))], .one (.int .i64 (pcE s))]) []) (hn : pcA s = true) :
    bif carrierG (pcI s 0) (kndG (pcI s 1)) (numV (pcI s 2) 6) (numV (bef 47 (pcI s 3)) 6) (numV (aft 47 (pcI s 3)) 6) != 0 then K (.tup [.agg [.str [], .int .i64 0, .int .i64 0, .int .i64 0, .int .i64 0], .one (.int .i64 (carrierG (pcI s 0) (kndG (pcI s 1)) (numV (pcI s 2) 6) (numV (bef 47 (pcI s 3)) 6) (numV (aft 47 (pcI s 3)) 6)))]) [] else K (.tup [.agg [.str (pcI s 0), .int .i64 (kndG (pcI s 1)), .int .i64 (numV (pcI s 2) 6), .int .i64 (numV (bef 47 (pcI s 3)) 6), .int .i64 (numV (aft 47 (pcI s 3)) 6)], .one (.int .i64 0)]) [] := by
  have e : pcE s = carrierG (pcI s 0) (kndG (pcI s 1)) (numV (pcI s 2) 6) (numV (bef 47 (pcI s 3)) 6) (numV (aft 47 (pcI s 3)) 6) := by unfold pcE; rw [hn]; rfl
  unfold pcN pcZ at h
  rw [e] at h
  generalize carrierG (pcI s 0) (kndG (pcI s 1)) (numV (pcI s 2) 6) (numV (bef 47 (pcI s 3)) 6) (numV (aft 47 (pcI s 3)) 6) = q at *
  cases hq : (q == 0) with
  | true =>
    rw [hq] at h
    have : q = 0 := eq_of_beq hq
    subst this
    exact h
  | false =>
    rw [hq] at h
    rw [show (q != 0) = true by unfold bne; rw [hq]; rfl, cond_true]
    exact h
theorem bef_le47 (c : UInt8) : ∀ s : List UInt8, (bef c s).length ≤ s.length
  | [] => Nat.le_refl _
  | x :: s => by
    unfold bef
    by_cases h : x = c
    · rw [if_pos h]; simp
    · rw [if_neg h]
      have := bef_le47 c s
      simp only [List.length_cons]; omega
theorem nbC_eq (t : List UInt8) : nmB t false = nbC t := by rw [nmB_eq]; unfold nbC; simp
theorem okpac : SpecOK Tryz.prog 13 pacS := by
  refine specOK (n := 89) (m := 0) (lps := []) (.cons oksplit (.cons okcut (.cons oknmb (.cons okidx (.cons ok70 (.cons ok18 (.cons ok69 .nil))))))) Tryz.func13 (by kernel_rfl) (by kernel_rfl) (noLoops (by kernel_rfl)) fun args σ K h => ?_
  unfold pacS at h
  split at h
  rotate_right
  · exact h.elim
  rename_i s
  rw [expac s K]
  obtain ⟨h1, h⟩ := h
  refine And.intro h1 ?_
  have hE := pc_no h
  by_cases hL : (pcs 32 s).length = 4
  rotate_left
  · have hne : (((List.map one1 (pcs 32 s)).length : Int) != 4) = true := by
      rw [List.length_map]; simp only [bne_iff_ne]; omega
    rw [hne, cond_true]
    exact hE (by unfold pcA; rw [show ((pcs 32 s).length == 4) = false by simpa using hL]; rfl)
  have g : ∀ i, i < 4 → (((List.map one1 (pcs 32 s)).getD i []).getD 0 (D.int 0)).toStr = pcI s i := fun i hi => one1_at (by omega)
  have hlm : (List.map one1 (pcs 32 s)).length = 4 := by rw [List.length_map]; exact hL
  have hlen : ∀ i, (pcI s i).length ≤ 1000000 := fun i => Nat.le_trans (pcI_len s i) h1
  unfold expac_x0
  rw [hlm, g 0 (by decide), g 1 (by decide), g 2 (by decide), g 3 (by decide)]
  cases hw : (pcI s 0 == []) with
  | true => exact hE (by unfold pcA; rw [hL, hw]; rfl)
  | false =>
    refine And.intro (hlen 3) (And.intro (hlen 2) (And.intro (Nat.le_trans (bef_le47 _ _) (hlen 3)) (And.intro (Nat.le_trans (aft_le _ _) (hlen 3)) ?_)))
    have hno : pcA s = false → (pcI s 0).length ≤ 1000000 ∧ [(7 : Int), carrierG (pcI s 0) (idx3 [100, 105, 115, 99] [99, 121, 108, 105, 110, 100, 101, 114] [116, 97, 112, 101] (pcI s 1)) (atoV (pcI s 2)) (atoV (bef 47 (pcI s 3))) (atoV (aft 47 (pcI s 3)))].length ≤ 1000 ∧ K (.tup [.agg [.str [], .int .i64 0, .int .i64 0, .int .i64 0, .int .i64 0], .one (.int .i64 7)]) [] := fun hn => ⟨hlen 0, by simp, hE hn⟩
    cases h2 : nmB (pcI s 2) false with
    | false => exact hno (by unfold pcA; rw [hw, ← nbC_eq, h2]; simp)
    | true =>
      cases h3 : nmB (bef 47 (pcI s 3)) false with
      | false => exact hno (by unfold pcA; rw [hw, ← nbC_eq (bef 47 (pcI s 3)), h3]; simp)
      | true =>
        cases h4 : nmB (aft 47 (pcI s 3)) false with
        | false => exact hno (by unfold pcA; rw [hw, ← nbC_eq (aft 47 (pcI s 3)), h4]; simp)
        | true =>
          refine And.intro (hlen 0) (And.intro (by simp) ?_)
          rw [show idx3 [100, 105, 115, 99] [99, 121, 108, 105, 110, 100, 101, 114] [116, 97, 112, 101] (pcI s 1) = kndG (pcI s 1) from rfl]
          rw [(nmB_val h2).2.1, (nmB_val h3).2.1, (nmB_val h4).2.1]
          cases hk : decide (kndG (pcI s 1) ≥ 0) with
          | false => exact hE (by unfold pcA; rw [hk]; simp)
          | true =>
            have hy := pc_yes h (by unfold pcA; rw [hL, hw, hk, ← nbC_eq, h2, ← nbC_eq, h3, ← nbC_eq, h4]; rfl)
            generalize carrierG (pcI s 0) (kndG (pcI s 1)) (numV (pcI s 2) 6) (numV (bef 47 (pcI s 3)) 6) (numV (aft 47 (pcI s 3)) 6) = q at *
            have e : firstE [bif true then (0 : Int) else 7, q] = q := by
              show (bif q == 0 then 0 else q) = q
              cases hq : (q == 0) with
              | true => exact (eq_of_beq hq).symm
              | false => rfl
            rw [e]
            exact hy
end Go.Ev

/-
  Chapter 1: strings of carriers: the reference's parsing keeps its contract.
-/
namespace Go.Ev
open Go Go.Proofs
attribute [local irreducible] evFn evBody evRound
set_option maxRecDepth 20000
set_option linter.unusedVariables false
set_option linter.unusedSimpArgs false
theorem digB_no47 : ∀ {l : List UInt8}, digB l = true → hasB 47 l = false
  | [], _ => rfl
  | b :: l, h => by
    unfold digB at h
    rw [Bool.and_eq_true] at h
    have hb := dgB_iff.1 h.1
    unfold hasB
    rw [if_neg (fun e => by subst e; revert hb; decide), digB_no47 h.2]
theorem numB_no47 {t : List UInt8} (h : numB t 6 = true) : hasB 47 t = false := by
  have hd := (numB_iff.1 h).2.2.2
  unfold numAt at hd
  by_cases hm : t.head? = some 45
  · rw [if_pos hm] at hd
    match t, hm with
    | x :: r, hm =>
      have hx : x = 45 := by simpa using hm
      subst hx
      unfold hasB
      rw [if_neg (by decide)]
      exact digB_no47 hd
  · rw [if_neg hm] at hd
    exact digB_no47 hd
theorem nbC_no47 {t : List UInt8} (h : nbC t = true) : hasB 47 t = false := by
  unfold nbC at h
  rw [Bool.and_eq_true] at h
  exact numB_no47 h.1
theorem nbC_nil : nbC [] = false := by decide
theorem nbC_cond {t : List UInt8} {E T : Prop} (hE : nbC t = false → E) (hT : nbC t = true → T) : bif !numB t 6 then E else bif decide (numV t 6 < 0) then E else T := by
  unfold nbC at hE hT
  cases hn : numB t 6 with
  | false => rw [hn] at hE; exact hE rfl
  | true =>
    rw [hn, Bool.true_and] at hE hT
    by_cases hv : numV t 6 < 0
    · rw [decide_eq_true hv]; exact hE (decide_eq_false (by omega))
    · rw [decide_eq_false hv]; exact hT (decide_eq_true (by omega))
def rpcR (kd : Int) (p0 p2 q0 q1 : List UInt8) (K : AV → List Blk → Prop) : Prop :=
  (p2.length ≤ 1000000 ∧ 0 ≤ (6 : Int) ∧ (6 : Int) ≤ 18) ∧ bif !numB p2 6 then K (AV.tup [TV.agg [SV.str [], SV.int .i64 0, SV.int .i64 0, SV.int .i64 0, SV.int .i64 0], TV.one (SV.int .i64 7)]) [] else bif decide (numV p2 6 < 0) then K (AV.tup [TV.agg [SV.str [], SV.int .i64 0, SV.int .i64 0, SV.int .i64 0, SV.int .i64 0], TV.one (SV.int .i64 7)]) [] else
  (q0.length ≤ 1000000 ∧ 0 ≤ (6 : Int) ∧ (6 : Int) ≤ 18) ∧ bif !numB q0 6 then K (AV.tup [TV.agg [SV.str [], SV.int .i64 0, SV.int .i64 0, SV.int .i64 0, SV.int .i64 0], TV.one (SV.int .i64 7)]) [] else bif decide (numV q0 6 < 0) then K (AV.tup [TV.agg [SV.str [], SV.int .i64 0, SV.int .i64 0, SV.int .i64 0, SV.int .i64 0], TV.one (SV.int .i64 7)]) [] else
  (q1.length ≤ 1000000 ∧ 0 ≤ (6 : Int) ∧ (6 : Int) ≤ 18) ∧ bif !numB q1 6 then K (AV.tup [TV.agg [SV.str [], SV.int .i64 0, SV.int .i64 0, SV.int .i64 0, SV.int .i64 0], TV.one (SV.int .i64 7)]) [] else bif decide (numV q1 6 < 0) then K (AV.tup [TV.agg [SV.str [], SV.int .i64 0, SV.int .i64 0, SV.int .i64 0, SV.int .i64 0], TV.one (SV.int .i64 7)]) [] else
  p0.length ≤ 1000000 ∧ bif carrierG p0 kd (numV p2 6) (numV q0 6) (numV q1 6) != 0 then K (AV.tup [TV.agg [SV.str [], SV.int .i64 0, SV.int .i64 0, SV.int .i64 0, SV.int .i64 0], TV.one (SV.int .i64 (carrierG p0 kd (numV p2 6) (numV q0 6) (numV q1 6)))]) [] else K (AV.tup [TV.agg [SV.str p0, SV.int .i64 kd, SV.int .i64 (numV p2 6), SV.int .i64 (numV q0 6), SV.int .i64 (numV q1 6)], TV.one (SV.int .i64 0)]) []
def rpcM (kd : Int) (p0 p2 p3 : List UInt8) (K : AV → List Blk → Prop) : Prop :=
  p3.length ≤ 1000000 ∧ bif ((pcs 47 p3).length : Int) != 2 then K (AV.tup [TV.agg [SV.str [], SV.int .i64 0, SV.int .i64 0, SV.int .i64 0, SV.int .i64 0], TV.one (SV.int .i64 7)]) [] else rpcR kd p0 p2 (bef 47 p3) (aft 47 p3) K
theorem rpcM_ok {s p0 p1 p2 p3 : List UInt8} {K : AV → List Blk → Prop} (h1 : s.length ≤ 1000000) (hp : pcs 32 s = [p0, p1, p2, p3]) (hw : (p0 == []) = false) (hk : kndG p1 ≥ 0)
    (h : K (.tup [.agg [.str (pcN s), .int .i64 (pcZ s (kndG (pcI s 1))), .int .i64 (pcZ s (numV (pcI s 2) 6)), .int .i64 (pcZ s (numV (bef 47 (pcI s 3)) 6)), .int .i64 (pcZ s (numV (aft 47 (pcI s 3)) 6))], .one (.int .i64 (pcE s))]) []) : rpcM (kndG p1) p0 p2 p3 K := by
  have i0 : pcI s 0 = p0 := by unfold pcI; rw [hp]; rfl
  have i1 : pcI s 1 = p1 := by unfold pcI; rw [hp]; rfl
  have i2 : pcI s 2 = p2 := by unfold pcI; rw [hp]; rfl
  have i3 : pcI s 3 = p3 := by unfold pcI; rw [hp]; rfl
  have hA : pcA s = (nbC p2 && (nbC (bef 47 p3) && nbC (aft 47 p3))) := by
    unfold pcA
    rw [i0, i1, i2, i3, hp, hw, decide_eq_true hk]; rfl
  have hE := pc_no h
  have hlen : ∀ i, (pcI s i).length ≤ 1000000 := fun i => Nat.le_trans (pcI_len s i) h1
  have l0 := hlen 0
  have l2 := hlen 2
  have l3 := hlen 3
  rw [i0] at l0
  rw [i2] at l2
  rw [i3] at l3
  refine And.intro l3 ?_
  rw [pcs_two]
  cases hh : hasB 47 p3 with
  | false =>
    refine hE ?_
    rw [hA, aft_no hh, nbC_nil, Bool.and_false, Bool.and_false]
  | true =>
    cases ha : hasB 47 (aft 47 p3) with
    | true =>
      refine hE ?_
      cases hn : nbC (aft 47 p3) with
      | true => rw [nbC_no47 hn] at ha; cases ha
      | false => rw [hA, hn, Bool.and_false, Bool.and_false]
    | false =>
      show rpcR (kndG p1) p0 p2 (bef 47 p3) (aft 47 p3) K
      refine And.intro ⟨l2, by decide, by decide⟩ (nbC_cond (fun h2 => hE (by rw [hA, h2]; rfl)) fun h2 => ?_)
      refine And.intro ⟨Nat.le_trans (bef_le47 _ _) l3, by decide, by decide⟩ (nbC_cond (fun h3 => hE (by rw [hA, h2, h3]; rfl)) fun h3 => ?_)
      refine And.intro ⟨Nat.le_trans (aft_le _ _) l3, by decide, by decide⟩ (nbC_cond (fun h4 => hE (by rw [hA, h2, h3, h4]; rfl)) fun h4 => ?_)
      refine And.intro l0 ?_
      have hy := pc_yes h (by rw [hA, h2, h3, h4]; rfl)
      rw [i0, i1, i2, i3] at hy
      exact hy
theorem list4 {α : Type} {l : List α} (h : l.length = 4) : ∃ p0 p1 p2 p3, l = [p0, p1, p2, p3] := by
  match l, h with
  | [p0, p1, p2, p3], _ => exact ⟨p0, p1, p2, p3, rfl⟩
theorem pcs_list {p3 : List UInt8} (h : ((pcs 47 p3).length : Int) = 2) : pcs 47 p3 = [bef 47 p3, aft 47 p3] := by
  have h2 := pcs_two 47 p3
  rw [h] at h2
  have e : (hasB 47 p3 && !hasB 47 (aft 47 p3)) = true := by
    cases hb : (hasB 47 p3 && !hasB 47 (aft 47 p3)) with
    | true => rfl
    | false => rw [hb] at h2; cases h2
  rw [Bool.and_eq_true] at e
  rw [pcs_has e.1, pcs_no (by simpa using e.2)]
theorem rpc_x0 {s p0 p1 p2 p3 : List UInt8} {K : AV → List Blk → Prop} (hp : pcs 32 s = [p0, p1, p2, p3]) (h : rpcM 2 p0 p2 p3 K) : exrpc_x0 s K := by
  unfold exrpc_x0
  rw [show UInt8.ofNat 32 = 32 from rfl, show UInt8.ofNat 47 = 47 from rfl, hp]
  obtain ⟨l3, h⟩ := h
  refine And.intro ⟨l3, by decide, by decide⟩ ?_
  have el : ((List.map one1 (pcs 47 p3)).length : Int) = ((pcs 47 p3).length : Int) := by rw [List.length_map]
  show bif ((List.map one1 (pcs 47 p3)).length : Int) != 2 then _ else _
  rw [el]
  cases hc : (((pcs 47 p3).length : Int) != 2) with
  | true => rw [hc] at h; exact h
  | false =>
    rw [hc] at h
    have hq := pcs_list (bne_eq_false_iff_eq.1 hc)
    rw [show (((List.map one1 [p0, p1, p2, p3]).getD 3 []).getD 0 (D.int 0)).toStr = p3 from rfl, hq]
    exact h
theorem rpc_x1 {s p0 p1 p2 p3 : List UInt8} {K : AV → List Blk → Prop} (hp : pcs 32 s = [p0, p1, p2, p3]) (hn : (p1 == [116, 97, 112, 101]) = false) (h : rpcM 1 p0 p2 p3 K) : exrpc_x1 s K := by
  unfold exrpc_x1
  rw [show UInt8.ofNat 32 = 32 from rfl, show UInt8.ofNat 47 = 47 from rfl, hp]
  obtain ⟨l3, h⟩ := h
  show bif (p1 == [116, 97, 112, 101]) then _ else _
  rw [hn, cond_false]
  refine And.intro ⟨l3, by decide, by decide⟩ ?_
  have el : ((List.map one1 (pcs 47 p3)).length : Int) = ((pcs 47 p3).length : Int) := by rw [List.length_map]
  show bif ((List.map one1 (pcs 47 p3)).length : Int) != 2 then _ else _
  rw [el]
  cases hc : (((pcs 47 p3).length : Int) != 2) with
  | true => rw [hc] at h; exact h
  | false =>
    rw [hc] at h
    have hq := pcs_list (bne_eq_false_iff_eq.1 hc)
    rw [show (((List.map one1 [p0, p1, p2, p3]).getD 3 []).getD 0 (D.int 0)).toStr = p3 from rfl, hq]
    exact h
theorem okrpc : SpecOK Tryz.prog 14 pacS := by
  refine specOK (n := 107) (m := 0) (lps := [(7, .unroll 4), (17, .unroll 4)]) (.cons okctbD (.cons okwdsD (.cons oknum (.cons ok17 .nil)))) Tryz.func14 (by kernel_rfl) (by kernel_rfl) (theLoops (n := 2) (by kernel_rfl) fun i hi => ?_) fun args σ K h => ?_
  · match i, hi with
    | 0, _ => exact loopHyp_none (key := 7) (n := 4) (by kernel_rfl) rfl
    | 1, _ => exact loopHyp_none (key := 17) (n := 4) (by kernel_rfl) rfl
  unfold pacS at h
  split at h
  rotate_right
  · exact h.elim
  rename_i s
  rw [exrpc s K]
  obtain ⟨h1, h⟩ := h
  refine And.intro ⟨h1, by decide, by decide⟩ ?_
  rw [show UInt8.ofNat 32 = 32 from rfl, show UInt8.ofNat 47 = 47 from rfl]
  have hE := pc_no h
  by_cases hL : (pcs 32 s).length = 4
  rotate_left
  · have hne : (((List.map one1 (pcs 32 s)).length : Int) != 4) = true := by
      rw [List.length_map]; simp only [bne_iff_ne]; omega
    rw [hne, cond_true]
    exact hE (by unfold pcA; rw [show ((pcs 32 s).length == 4) = false by simpa using hL]; rfl)
  obtain ⟨p0, p1, p2, p3, hp⟩ := list4 hL
  rw [hp]
  show bif (p0 == []) then _ else _
  have i0 : pcI s 0 = p0 := by unfold pcI; rw [hp]; rfl
  have i1 : pcI s 1 = p1 := by unfold pcI; rw [hp]; rfl
  cases hw : (p0 == []) with
  | true => exact hE (by unfold pcA; rw [i0, hw, hL]; rfl)
  | false =>
    rw [cond_false]
    show bif (p1 == [100, 105, 115, 99]) then _ else _
    cases hd : (p1 == [100, 105, 115, 99]) with
    | true =>
      rw [cond_true]
      have e := eq_of_beq hd
      have hk : kndG p1 = 0 := by unfold kndG idx3; rw [hd]; rfl
      have hm := rpcM_ok h1 hp hw (by rw [hk]; decide) h
      rw [hk] at hm
      subst e
      obtain ⟨l3, hm⟩ := hm
      refine And.intro ⟨l3, by decide, by decide⟩ ?_
      have el : ((List.map one1 (pcs 47 p3)).length : Int) = ((pcs 47 p3).length : Int) := by rw [List.length_map]
      show bif ((List.map one1 (pcs 47 p3)).length : Int) != 2 then _ else _
      rw [el]
      cases hc : (((pcs 47 p3).length : Int) != 2) with
      | true => rw [hc] at hm; exact hm
      | false =>
        rw [hc] at hm
        have hq := pcs_list (bne_eq_false_iff_eq.1 hc)
        rw [show (((List.map one1 [p0, [100, 105, 115, 99], p2, p3]).getD 3 []).getD 0 (D.int 0)).toStr = p3 from rfl, hq]
        exact hm
    | false =>
      rw [cond_false]
      show bif (p1 == [99, 121, 108, 105, 110, 100, 101, 114]) then _ else _
      cases hc : (p1 == [99, 121, 108, 105, 110, 100, 101, 114]) with
      | true =>
        rw [cond_true]
        have e := eq_of_beq hc
        have hk : kndG p1 = 1 := by unfold kndG idx3; rw [hd, hc]; rfl
        have hm := rpcM_ok h1 hp hw (by rw [hk]; decide) h
        rw [hk] at hm
        exact rpc_x1 hp (by rw [e]; decide) hm
      | false =>
        rw [cond_false]
        show bif (p1 == [116, 97, 112, 101]) then _ else _
        cases ht : (p1 == [116, 97, 112, 101]) with
        | true =>
          rw [cond_true]
          have hk : kndG p1 = 2 := by unfold kndG idx3; rw [hd, hc, ht]; rfl
          have hm := rpcM_ok h1 hp hw (by rw [hk]; decide) h
          rw [hk] at hm
          exact rpc_x0 hp hm
        | false =>
          rw [cond_false]
          have l3 := Nat.le_trans (pcI_len s 3) h1
          rw [show pcI s 3 = p3 by unfold pcI; rw [hp]; rfl] at l3
          exact And.intro ⟨l3, by decide, by decide⟩ (hE (by
            have hk : kndG p1 = -1 := by unfold kndG idx3; rw [hd, hc, ht]; rfl
            unfold pcA
            rw [i0, i1, hk]
            simp))
end Go.Ev

/-
  Chapter 1: the law of strings of carriers: the contract is kept.
-/
namespace Go.Ev
open Go Go.Proofs
attribute [local irreducible] evFn evBody evRound
set_option maxRecDepth 20000
set_option linter.unusedVariables false
set_option linter.unusedSimpArgs false
theorem chars_no : ∀ (s : List UInt8) (i : Int), charsG i (bytesG s) = true → hasB 32 s = false
  | [], _, _ => rfl
  | b :: s, i, h => by
    have h' : (!badG i (b.toNat : Int) && charsG (i + 1) (bytesG s)) = true := h
    rw [Bool.and_eq_true] at h'
    unfold hasB
    rw [if_neg ?_, chars_no s (i + 1) h'.2]
    intro e
    subst e
    have h1 := h'.1
    revert h1
    unfold badG letterG
    show (!(!((decide ((32 : Int) ≥ 97) && decide ((32 : Int) ≤ 122)) || (decide ((32 : Int) ≥ 65) && decide ((32 : Int) ≤ 90))) && (i == 0 || ((32 : Int) != 45 && (decide ((32 : Int) < 48) || decide ((32 : Int) > 57)))))) = true → False
    rw [show (!((decide ((32 : Int) ≥ 97) && decide ((32 : Int) ≤ 122)) || (decide ((32 : Int) ≥ 65) && decide ((32 : Int) ≤ 90)))) = true from by decide, show ((32 : Int) != 45 && (decide ((32 : Int) < 48) || decide ((32 : Int) > 57))) = true from by decide, Bool.or_true]
    intro h; cases h
theorem name_no {s : List UInt8} (h : nameG s = true) : hasB 32 s = false ∧ (s == []) = false ∧ s.length ≤ 12 := by
  unfold nameG at h
  simp only [Bool.and_eq_true, decide_eq_true_eq] at h
  refine ⟨chars_no s 0 h.2, ?_, h.1.2⟩
  cases s with
  | nil => have := h.1.1; simp at this
  | cons x r => rfl
theorem wrd_no {k : Int} (h : withinG k 0 2 = true) : hasB 32 (wrdG k) = false ∧ kndG (wrdG k) = k := by
  rcases within3 h with rfl | rfl | rfl <;> decide
theorem itoG_no47 (v : Int) : hasB 47 (itoG v) = false := by
  unfold itoG Lib.itoa
  by_cases h : v < 0
  · rw [if_pos h]
    unfold hasB
    rw [if_neg (by decide)]
    exact digB_no47 (dec_facts _).1
  · rw [if_neg h]
    exact digB_no47 (dec_facts _).1
theorem bef_app {c : UInt8} : ∀ (s t : List UInt8), hasB c s = false → bef c (s ++ c :: t) = s ∧ aft c (s ++ c :: t) = t
  | [], t, _ => by
    rw [List.nil_append]
    unfold bef aft
    rw [if_pos rfl, if_pos rfl]; exact ⟨rfl, rfl⟩
  | x :: s, t, h => by
    unfold hasB at h
    by_cases hx : x = c
    · rw [if_pos hx] at h; cases h
    · rw [if_neg hx] at h
      rw [List.cons_append]
      unfold bef aft
      rw [if_neg hx, if_neg hx, (bef_app s t h).1, (bef_app s t h).2]
      exact ⟨rfl, rfl⟩
theorem has_app {c : UInt8} : ∀ (s t : List UInt8), hasB c (s ++ t) = (hasB c s || hasB c t)
  | [], t => rfl
  | x :: s, t => by
    rw [List.cons_append]
    show (if x = c then true else hasB c (s ++ t)) = ((if x = c then true else hasB c s) || hasB c t)
    by_cases hx : x = c
    · rw [if_pos hx, if_pos hx]; rfl
    · rw [if_neg hx, if_neg hx, has_app s t]
theorem car_facts {nm : List UInt8} {k s n d : Int} (h : carrierG nm k s n d = 0) : nameG nm = true ∧ withinG k 0 2 = true ∧ (1 ≤ s ∧ s ≤ 2) ∧ (1 ≤ n ∧ n ≤ 10000) ∧ 0 < d ∧ d ≤ 10000 := by
  unfold carrierG at h
  cases h1 : nameG nm with
  | false => rw [h1] at h; exact absurd h (by simp)
  | true =>
    rw [h1, Bool.not_true, cond_false] at h
    cases h2 : withinG k 0 2 with
    | false => rw [h2] at h; exact absurd h (by simp)
    | true =>
      rw [h2, Bool.not_true, cond_false] at h
      cases h3 : withinG s 1 2 with
      | false => rw [h3] at h; exact absurd h (by simp)
      | true =>
        rw [h3, Bool.not_true, cond_false] at h
        cases h4 : (k != 0 && s == 2) || !lowestG n d with
        | true => rw [h4] at h; exact absurd h (by simp)
        | false =>
          rw [h4, cond_false] at h
          cases h5 : (!withinG n 1 10000 || decide (d > 10000)) with
          | true => rw [h5] at h; exact absurd h (by simp)
          | false =>
            rw [Bool.or_eq_false_iff] at h4 h5
            have e1 : lowestG n d = true := by simpa using h4.2
            have e2 : withinG n 1 10000 = true := by simpa using h5.1
            have e3 : ¬ d > 10000 := by simpa using h5.2
            unfold lowestG at e1
            unfold withinG at h3 e2
            simp only [Bool.and_eq_true, decide_eq_true_eq] at e1 h3 e2
            exact ⟨rfl, rfl, h3, e2, by omega, by omega⟩
theorem par_car {nm : List UInt8} {k s n d : Int} (h : carrierG nm k s n d = 0) : pcE (fmcG nm k s n d) = 0 ∧ pcN (fmcG nm k s n d) = nm ∧ pcZ (fmcG nm k s n d) (kndG (pcI (fmcG nm k s n d) 1)) = k ∧ pcZ (fmcG nm k s n d) (numV (pcI (fmcG nm k s n d) 2) 6) = s ∧ pcZ (fmcG nm k s n d) (numV (bef 47 (pcI (fmcG nm k s n d) 3)) 6) = n ∧ pcZ (fmcG nm k s n d) (numV (aft 47 (pcI (fmcG nm k s n d) 3)) 6) = d := by
  obtain ⟨hn, hk, hs, hnn, hd⟩ := car_facts h
  obtain ⟨n1, n2, n3⟩ := name_no hn
  obtain ⟨w1, w2⟩ := wrd_no hk
  have hf : fmcG nm k s n d = nm ++ 32 :: (wrdG k ++ 32 :: (itoG s ++ 32 :: (itoG n ++ 47 :: itoG d))) := by
    unfold fmcG
    rw [hk, cond_true, fmc_join]
    simp only [List.append_assoc, List.cons_append, List.nil_append]
  have hlast : hasB 32 (itoG n ++ 47 :: itoG d) = false := by
    rw [has_app, itoG_no]
    show (false || hasB 32 (47 :: itoG d)) = false
    unfold hasB
    rw [if_neg (by decide), itoG_no]; rfl
  have hp : pcs 32 (fmcG nm k s n d) = [nm, wrdG k, itoG s, itoG n ++ 47 :: itoG d] := by
    rw [hf, pcs_app _ _ n1, pcs_app _ _ w1, pcs_app _ _ (itoG_no s), pcs_no hlast]
  obtain ⟨u, hu⟩ : ∃ u, u = fmcG nm k s n d := ⟨_, rfl⟩
  rw [← hu] at hp ⊢
  have i0 : pcI u 0 = nm := by unfold pcI; rw [hp]; rfl
  have i1 : pcI u 1 = wrdG k := by unfold pcI; rw [hp]; rfl
  have i2 : pcI u 2 = itoG s := by unfold pcI; rw [hp]; rfl
  have i3 : pcI u 3 = itoG n ++ 47 :: itoG d := by unfold pcI; rw [hp]; rfl
  obtain ⟨b1, b2⟩ := bef_app (itoG n) (itoG d) (itoG_no47 n)
  have m1 := num_small (v := s) (by omega)
  have m2 := num_small (v := n) (by omega)
  have m3 := num_small (v := d) (by omega)
  have k0 : k ≥ 0 := by rcases within3 hk with rfl | rfl | rfl <;> decide
  have hA : pcA u = true := by
    unfold pcA nbC
    rw [i0, i1, i2, i3, b1, b2, hp, n2, w2, m1.1, m1.2, m2.1, m2.2, m3.1, m3.2, decide_eq_true k0, decide_eq_true (show s ≥ 0 by omega), decide_eq_true (show n ≥ 0 by omega), decide_eq_true (show d ≥ 0 by omega)]
    rfl
  have hE : pcE u = 0 := by
    unfold pcE
    rw [hA, cond_true, i0, i1, i2, i3, b1, b2, w2, m1.2, m2.2, m3.2]
    exact h
  have hZ : ∀ v, pcZ u v = v := fun v => by unfold pcZ; rw [hE]; rfl
  refine ⟨hE, by unfold pcN; rw [hE]; exact i0, by rw [hZ, i1, w2], by rw [hZ, i2, m1.2], by rw [hZ, i3, b1, m2.2], by rw [hZ, i3, b2, m3.2]⟩
theorem fmc_len {nm : List UInt8} {k s n d : Int} (h1 : nm.length ≤ 1000) (hs : i64B s) (hn : i64B n) (hd : i64B d) : (fmcG nm k s n d).length ≤ 1000000 := by
  have ls := itoG_len hs
  have ln := itoG_len hn
  have ld := itoG_len hd
  unfold fmcG
  cases hw : withinG k 0 2 with
  | false => simp
  | true =>
    have lw : (wrdG k).length ≤ 8 := by rcases within3 hw with rfl | rfl | rfl <;> decide
    rw [cond_true, fmc_join]
    simp only [List.length_append, List.length_cons, List.length_nil]; omega
theorem oklcs : SpecOK Tryz.prog 4 lcsS := by
  refine specOK (n := 64) (m := 0) (lps := []) (.cons ok15 (.cons okfmc (.cons okpac (.cons okrpc (.cons okrfc (.cons ok17 .nil)))))) Tryz.func4 (by kernel_rfl) (by kernel_rfl) (noLoops (by kernel_rfl)) fun args σ K h => ?_
  unfold lcsS at h
  split at h
  rotate_right
  · exact h.elim
  rename_i nm k s n d t
  rw [exlcs nm k s n d t K]
  obtain ⟨⟨hs, hn, hd⟩, h⟩ := h
  by_cases h1 : (nm.length : Int) > 20
  · rw [decide_eq_true h1]; exact h
  rw [decide_eq_false h1, cond_false]
  by_cases h2 : (t.length : Int) > 80
  · rw [decide_eq_true h2]; exact h
  rw [decide_eq_false h2, cond_false]
  refine And.intro ⟨by omega, hs, hn, hd⟩ (And.intro (by omega) (And.intro (by omega) (And.intro ⟨by omega, hs, hn, hd⟩ ?_)))
  simp only [beq_self_eq_true, bne_self_eq_false, Bool.not_true, Bool.and_self, cond_false]
  refine And.intro (by omega) ?_
  cases he : (carrierG nm k s n d != 0) with
  | true => exact h
  | false =>
    rw [cond_false]
    refine And.intro (fmc_len (by omega) hs hn hd) ?_
    obtain ⟨e, e0, e1, e2, e3, e4⟩ := par_car (show carrierG nm k s n d = 0 by simpa using he)
    rw [e, e0, e1, e2, e3, e4]
    simp only [beq_self_eq_true, Bool.and_self, cond_true]
    exact h
end Go.Ev
