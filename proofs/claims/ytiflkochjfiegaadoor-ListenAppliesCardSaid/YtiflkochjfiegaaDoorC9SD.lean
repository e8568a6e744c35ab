/-
  Chapter 9, contract: the law of applies.
-/
import Derived.Test.YtiflkochjfiegaaDoorC9SC
import Derived.KernelRfl
set_option linter.unusedVariables false
set_option linter.unusedSimpArgs false
set_option linter.unusedSectionVars false
namespace Go.Ev
open Go Go.Proofs
set_option maxRecDepth 20000

def lawAppS : Spec := fun args σ K => match args, σ with
  | [.agg [.data (.ints .i64 h)], .agg [.int .i64 p, .bool b0, .bool b1, .bool b2, .data (.ints .i64 a)], .one (.data (.mat .i64 2 l))], [] => K (.one (.bool true)) []
  | _, _ => False
noncomputable abbrev Eapp : Env := envOf Tryd.prog [(19, awakeS), (61, fewS), (63, cpRS), (65, cpSS), (90, aplS), (91, cpvDS), (89, repDS), (66, ruS), (68, ssS), (92, rrpS), (93, rstS), (94, rapS)] [] 140 0
end Go.Ev

namespace Go.Ev
open Go Go.Proofs
set_option maxRecDepth 100000
def exapp_x0 (h : List Int) (p : Int) (b0 b1 b2 : Bool) (a : List Int) (l : List (List Int)) (K : AV → List Blk → Prop) : Prop := (
 (h.length ≤ (1000000000 : Nat) ∧ a.length ≤ (1000000 : Nat)) ∧
 h.length ≤ (1000000000000 : Nat) ∧
 l.length ≤ (1000000000000 : Nat) ∧
 (h.length ≤ (1000000000 : Nat) ∧ l.length ≤ (1000 : Nat)) ∧
 h.length ≤ (1000000000 : Nat) ∧
 bif ruE h != (0 : Int) then
 bif
 apE h p b0 b1 b2 a ((l.getD (0 : Nat) []).getD (0 : Nat) (0 : Int))
 ((l.getD (0 : Nat) []).getD (1 : Nat) (0 : Int)) ==
 ruE h then
 bif (rpR (rpE h l) h l).e == ruE h then
 (aoA
 (apE h p b0 b1 b2 a ((l.getD (0 : Nat) []).getD (0 : Nat) (0 : Int))
 ((l.getD (0 : Nat) []).getD (1 : Nat) (0 : Int)))
 a ((l.getD (0 : Nat) []).getD (0 : Nat) (0 : Int))
 ((l.getD (0 : Nat) []).getD (1 : Nat) (0 : Int))).length ≤
 (1000000000 : Nat) ∧
 bif
 ssG
 (aoP
 (apE h p b0 b1 b2 a ((l.getD (0 : Nat) []).getD (0 : Nat) (0 : Int))
 ((l.getD (0 : Nat) []).getD (1 : Nat) (0 : Int)))
 p ((l.getD (0 : Nat) []).getD (0 : Nat) (0 : Int))
 ((l.getD (0 : Nat) []).getD (1 : Nat) (0 : Int)))
 (aoB
 (apE h p b0 b1 b2 a ((l.getD (0 : Nat) []).getD (0 : Nat) (0 : Int))
 ((l.getD (0 : Nat) []).getD (1 : Nat) (0 : Int)))
 (0 : Int) b0 ((l.getD (0 : Nat) []).getD (0 : Nat) (0 : Int))
 ((l.getD (0 : Nat) []).getD (1 : Nat) (0 : Int)))
 (aoB
 (apE h p b0 b1 b2 a ((l.getD (0 : Nat) []).getD (0 : Nat) (0 : Int))
 ((l.getD (0 : Nat) []).getD (1 : Nat) (0 : Int)))
 (1 : Int) b1 ((l.getD (0 : Nat) []).getD (0 : Nat) (0 : Int))
 ((l.getD (0 : Nat) []).getD (1 : Nat) (0 : Int)))
 (aoB
 (apE h p b0 b1 b2 a ((l.getD (0 : Nat) []).getD (0 : Nat) (0 : Int))
 ((l.getD (0 : Nat) []).getD (1 : Nat) (0 : Int)))
 (2 : Int) b2 ((l.getD (0 : Nat) []).getD (0 : Nat) (0 : Int))
 ((l.getD (0 : Nat) []).getD (1 : Nat) (0 : Int)))
 (aoA
 (apE h p b0 b1 b2 a ((l.getD (0 : Nat) []).getD (0 : Nat) (0 : Int))
 ((l.getD (0 : Nat) []).getD (1 : Nat) (0 : Int)))
 a ((l.getD (0 : Nat) []).getD (0 : Nat) (0 : Int))
 ((l.getD (0 : Nat) []).getD (1 : Nat) (0 : Int)))
 (0 : Int) false false false [] then
 (rpR (rpE h l) h l).a.length ≤ (1000000000 : Nat) ∧
 bif
 ssG (rpR (rpE h l) h l).p (rpR (rpE h l) h l).b0 (rpR (rpE h l) h l).b1 (rpR (rpE h l) h l).b2
 (rpR (rpE h l) h l).a (0 : Int) false false false [] then
 K (AV.one (SV.bool ((rpR (rpE h l) h l).i == (0 : Int)))) []
 else K (AV.one (SV.bool false)) []
 else K (AV.one (SV.bool false)) []
 else K (AV.one (SV.bool false)) []
 else K (AV.one (SV.bool false)) []
 else
 (h.length ≤ (1000000 : Nat) ∧ l.length ≤ (1000 : Nat)) ∧
 bif (rpR (rpE h l) h l).e != (rpR (rrpE l) h l).e then K (AV.one (SV.bool false)) []
 else
 (rpR (rpE h l) h l).a.length ≤ (1000000000 : Nat) ∧
 bif
 !ssG (rpR (rpE h l) h l).p (rpR (rpE h l) h l).b0 (rpR (rpE h l) h l).b1 (rpR (rpE h l) h l).b2
 (rpR (rpE h l) h l).a (rpR (rrpE l) h l).p (rpR (rrpE l) h l).b0 (rpR (rrpE l) h l).b1
 (rpR (rrpE l) h l).b2 (rpR (rrpE l) h l).a then
 K (AV.one (SV.bool false)) []
 else
 bif (rpR (rpE h l) h l).i != (rpR (rrpE l) h l).i then K (AV.one (SV.bool false)) []
 else
 a.length ≤ (1000000000 : Nat) ∧
 bif stE h p b0 b1 b2 a != (0 : Int) then
 bif
 apE h p b0 b1 b2 a ((l.getD (0 : Nat) []).getD (0 : Nat) (0 : Int))
 ((l.getD (0 : Nat) []).getD (1 : Nat) (0 : Int)) ==
 stE h p b0 b1 b2 a then
 (aoA
 (apE h p b0 b1 b2 a ((l.getD (0 : Nat) []).getD (0 : Nat) (0 : Int))
 ((l.getD (0 : Nat) []).getD (1 : Nat) (0 : Int)))
 a ((l.getD (0 : Nat) []).getD (0 : Nat) (0 : Int))
 ((l.getD (0 : Nat) []).getD (1 : Nat) (0 : Int))).length ≤
 (1000000000 : Nat) ∧
 K
 (AV.one
 (SV.bool
 (ssG
 (aoP
 (apE h p b0 b1 b2 a ((l.getD (0 : Nat) []).getD (0 : Nat) (0 : Int))
 ((l.getD (0 : Nat) []).getD (1 : Nat) (0 : Int)))
 p ((l.getD (0 : Nat) []).getD (0 : Nat) (0 : Int))
 ((l.getD (0 : Nat) []).getD (1 : Nat) (0 : Int)))
 (aoB
 (apE h p b0 b1 b2 a ((l.getD (0 : Nat) []).getD (0 : Nat) (0 : Int))
 ((l.getD (0 : Nat) []).getD (1 : Nat) (0 : Int)))
 (0 : Int) b0 ((l.getD (0 : Nat) []).getD (0 : Nat) (0 : Int))
 ((l.getD (0 : Nat) []).getD (1 : Nat) (0 : Int)))
 (aoB
 (apE h p b0 b1 b2 a ((l.getD (0 : Nat) []).getD (0 : Nat) (0 : Int))
 ((l.getD (0 : Nat) []).getD (1 : Nat) (0 : Int)))
 (1 : Int) b1 ((l.getD (0 : Nat) []).getD (0 : Nat) (0 : Int))
 ((l.getD (0 : Nat) []).getD (1 : Nat) (0 : Int)))
 (aoB
 (apE h p b0 b1 b2 a ((l.getD (0 : Nat) []).getD (0 : Nat) (0 : Int))
 ((l.getD (0 : Nat) []).getD (1 : Nat) (0 : Int)))
 (2 : Int) b2 ((l.getD (0 : Nat) []).getD (0 : Nat) (0 : Int))
 ((l.getD (0 : Nat) []).getD (1 : Nat) (0 : Int)))
 (aoA
 (apE h p b0 b1 b2 a ((l.getD (0 : Nat) []).getD (0 : Nat) (0 : Int))
 ((l.getD (0 : Nat) []).getD (1 : Nat) (0 : Int)))
 a ((l.getD (0 : Nat) []).getD (0 : Nat) (0 : Int))
 ((l.getD (0 : Nat) []).getD (1 : Nat) (0 : Int)))
 (0 : Int) false false false [])))
 []
 else K (AV.one (SV.bool false)) []
 else
 (a.length ≤ h.length ∧ h.length ≤ (1000000 : Nat)) ∧
 bif
 apE h p b0 b1 b2 a ((l.getD (0 : Nat) []).getD (0 : Nat) (0 : Int))
 ((l.getD (0 : Nat) []).getD (1 : Nat) (0 : Int)) ==
 prE h p b0 b1 b2 a.length ((l.getD (0 : Nat) []).getD (0 : Nat) (0 : Int))
 ((l.getD (0 : Nat) []).getD (1 : Nat) (0 : Int)) then
 (aoA
 (apE h p b0 b1 b2 a ((l.getD (0 : Nat) []).getD (0 : Nat) (0 : Int))
 ((l.getD (0 : Nat) []).getD (1 : Nat) (0 : Int)))
 a ((l.getD (0 : Nat) []).getD (0 : Nat) (0 : Int))
 ((l.getD (0 : Nat) []).getD (1 : Nat) (0 : Int))).length ≤
 (1000000000 : Nat) ∧
 K
 (AV.one
 (SV.bool
 (ssG
 (aoP
 (apE h p b0 b1 b2 a ((l.getD (0 : Nat) []).getD (0 : Nat) (0 : Int))
 ((l.getD (0 : Nat) []).getD (1 : Nat) (0 : Int)))
 p ((l.getD (0 : Nat) []).getD (0 : Nat) (0 : Int))
 ((l.getD (0 : Nat) []).getD (1 : Nat) (0 : Int)))
 (aoB
 (apE h p b0 b1 b2 a ((l.getD (0 : Nat) []).getD (0 : Nat) (0 : Int))
 ((l.getD (0 : Nat) []).getD (1 : Nat) (0 : Int)))
 (0 : Int) b0 ((l.getD (0 : Nat) []).getD (0 : Nat) (0 : Int))
 ((l.getD (0 : Nat) []).getD (1 : Nat) (0 : Int)))
 (aoB
 (apE h p b0 b1 b2 a ((l.getD (0 : Nat) []).getD (0 : Nat) (0 : Int))
 ((l.getD (0 : Nat) []).getD (1 : Nat) (0 : Int)))
 (1 : Int) b1 ((l.getD (0 : Nat) []).getD (0 : Nat) (0 : Int))
 ((l.getD (0 : Nat) []).getD (1 : Nat) (0 : Int)))
 (aoB
 (apE h p b0 b1 b2 a ((l.getD (0 : Nat) []).getD (0 : Nat) (0 : Int))
 ((l.getD (0 : Nat) []).getD (1 : Nat) (0 : Int)))
 (2 : Int) b2 ((l.getD (0 : Nat) []).getD (0 : Nat) (0 : Int))
 ((l.getD (0 : Nat) []).getD (1 : Nat) (0 : Int)))
 (aoA
 (apE h p b0 b1 b2 a ((l.getD (0 : Nat) []).getD (0 : Nat) (0 : Int))
 ((l.getD (0 : Nat) []).getD (1 : Nat) (0 : Int)))
 a ((l.getD (0 : Nat) []).getD (0 : Nat) (0 : Int))
 ((l.getD (0 : Nat) []).getD (1 : Nat) (0 : Int)))
 (aoP
 (prE h p b0 b1 b2 a.length ((l.getD (0 : Nat) []).getD (0 : Nat) (0 : Int))
 ((l.getD (0 : Nat) []).getD (1 : Nat) (0 : Int)))
 p ((l.getD (0 : Nat) []).getD (0 : Nat) (0 : Int))
 ((l.getD (0 : Nat) []).getD (1 : Nat) (0 : Int)))
 (aoB
 (prE h p b0 b1 b2 a.length ((l.getD (0 : Nat) []).getD (0 : Nat) (0 : Int))
 ((l.getD (0 : Nat) []).getD (1 : Nat) (0 : Int)))
 (0 : Int) b0 ((l.getD (0 : Nat) []).getD (0 : Nat) (0 : Int))
 ((l.getD (0 : Nat) []).getD (1 : Nat) (0 : Int)))
 (aoB
 (prE h p b0 b1 b2 a.length ((l.getD (0 : Nat) []).getD (0 : Nat) (0 : Int))
 ((l.getD (0 : Nat) []).getD (1 : Nat) (0 : Int)))
 (1 : Int) b1 ((l.getD (0 : Nat) []).getD (0 : Nat) (0 : Int))
 ((l.getD (0 : Nat) []).getD (1 : Nat) (0 : Int)))
 (aoB
 (prE h p b0 b1 b2 a.length ((l.getD (0 : Nat) []).getD (0 : Nat) (0 : Int))
 ((l.getD (0 : Nat) []).getD (1 : Nat) (0 : Int)))
 (2 : Int) b2 ((l.getD (0 : Nat) []).getD (0 : Nat) (0 : Int))
 ((l.getD (0 : Nat) []).getD (1 : Nat) (0 : Int)))
 (aoA
 (prE h p b0 b1 b2 a.length ((l.getD (0 : Nat) []).getD (0 : Nat) (0 : Int))
 ((l.getD (0 : Nat) []).getD (1 : Nat) (0 : Int)))
 a ((l.getD (0 : Nat) []).getD (0 : Nat) (0 : Int))
 ((l.getD (0 : Nat) []).getD (1 : Nat) (0 : Int))))))
 []
 else K (AV.one (SV.bool false)) [])
def exapp_x1 (h : List Int) (p : Int) (b0 b1 b2 : Bool) (a : List Int) (l : List (List Int)) (K : AV → List Blk → Prop) : Prop := (
 a.length ≤ (1000000000000 : Nat) ∧ exapp_x0 h p b0 b1 b2 a l K)
def exapp_x2 (h : List Int) (p : Int) (b0 b1 b2 : Bool) (a : List Int) (l : List (List Int)) (K : AV → List Blk → Prop) : Prop := (
 (h.length ≤ (1000000000 : Nat) ∧ a.length ≤ (1000000 : Nat)) ∧
 h.length ≤ (1000000000000 : Nat) ∧
 l.length ≤ (1000000000000 : Nat) ∧
 (h.length ≤ (1000000000 : Nat) ∧ l.length ≤ (1000 : Nat)) ∧
 h.length ≤ (1000000000 : Nat) ∧
 bif ruE h != (0 : Int) then
 bif apE h p b0 b1 b2 a (-1 : Int) (0 : Int) == ruE h then
 bif (rpR (rpE h l) h l).e == ruE h then
 (aoA (apE h p b0 b1 b2 a (-1 : Int) (0 : Int)) a (-1 : Int) (0 : Int)).length ≤ (1000000000 : Nat) ∧
 bif
 ssG (aoP (apE h p b0 b1 b2 a (-1 : Int) (0 : Int)) p (-1 : Int) (0 : Int))
 (aoB (apE h p b0 b1 b2 a (-1 : Int) (0 : Int)) (0 : Int) b0 (-1 : Int) (0 : Int))
 (aoB (apE h p b0 b1 b2 a (-1 : Int) (0 : Int)) (1 : Int) b1 (-1 : Int) (0 : Int))
 (aoB (apE h p b0 b1 b2 a (-1 : Int) (0 : Int)) (2 : Int) b2 (-1 : Int) (0 : Int))
 (aoA (apE h p b0 b1 b2 a (-1 : Int) (0 : Int)) a (-1 : Int) (0 : Int)) (0 : Int) false false
 false [] then
 (rpR (rpE h l) h l).a.length ≤ (1000000000 : Nat) ∧
 bif
 ssG (rpR (rpE h l) h l).p (rpR (rpE h l) h l).b0 (rpR (rpE h l) h l).b1 (rpR (rpE h l) h l).b2
 (rpR (rpE h l) h l).a (0 : Int) false false false [] then
 K (AV.one (SV.bool ((rpR (rpE h l) h l).i == (0 : Int)))) []
 else K (AV.one (SV.bool false)) []
 else K (AV.one (SV.bool false)) []
 else K (AV.one (SV.bool false)) []
 else K (AV.one (SV.bool false)) []
 else
 (h.length ≤ (1000000 : Nat) ∧ l.length ≤ (1000 : Nat)) ∧
 bif (rpR (rpE h l) h l).e != (rpR (rrpE l) h l).e then K (AV.one (SV.bool false)) []
 else
 (rpR (rpE h l) h l).a.length ≤ (1000000000 : Nat) ∧
 bif
 !ssG (rpR (rpE h l) h l).p (rpR (rpE h l) h l).b0 (rpR (rpE h l) h l).b1 (rpR (rpE h l) h l).b2
 (rpR (rpE h l) h l).a (rpR (rrpE l) h l).p (rpR (rrpE l) h l).b0 (rpR (rrpE l) h l).b1
 (rpR (rrpE l) h l).b2 (rpR (rrpE l) h l).a then
 K (AV.one (SV.bool false)) []
 else
 bif (rpR (rpE h l) h l).i != (rpR (rrpE l) h l).i then K (AV.one (SV.bool false)) []
 else
 a.length ≤ (1000000000 : Nat) ∧
 bif stE h p b0 b1 b2 a != (0 : Int) then
 bif apE h p b0 b1 b2 a (-1 : Int) (0 : Int) == stE h p b0 b1 b2 a then
 (aoA (apE h p b0 b1 b2 a (-1 : Int) (0 : Int)) a (-1 : Int) (0 : Int)).length ≤
 (1000000000 : Nat) ∧
 K
 (AV.one
 (SV.bool
 (ssG (aoP (apE h p b0 b1 b2 a (-1 : Int) (0 : Int)) p (-1 : Int) (0 : Int))
 (aoB (apE h p b0 b1 b2 a (-1 : Int) (0 : Int)) (0 : Int) b0 (-1 : Int) (0 : Int))
 (aoB (apE h p b0 b1 b2 a (-1 : Int) (0 : Int)) (1 : Int) b1 (-1 : Int) (0 : Int))
 (aoB (apE h p b0 b1 b2 a (-1 : Int) (0 : Int)) (2 : Int) b2 (-1 : Int) (0 : Int))
 (aoA (apE h p b0 b1 b2 a (-1 : Int) (0 : Int)) a (-1 : Int) (0 : Int)) (0 : Int)
 false false false [])))
 []
 else K (AV.one (SV.bool false)) []
 else
 (a.length ≤ h.length ∧ h.length ≤ (1000000 : Nat)) ∧
 bif
 apE h p b0 b1 b2 a (-1 : Int) (0 : Int) ==
 prE h p b0 b1 b2 a.length (-1 : Int) (0 : Int) then
 (aoA (apE h p b0 b1 b2 a (-1 : Int) (0 : Int)) a (-1 : Int) (0 : Int)).length ≤
 (1000000000 : Nat) ∧
 K
 (AV.one
 (SV.bool
 (ssG (aoP (apE h p b0 b1 b2 a (-1 : Int) (0 : Int)) p (-1 : Int) (0 : Int))
 (aoB (apE h p b0 b1 b2 a (-1 : Int) (0 : Int)) (0 : Int) b0 (-1 : Int)
 (0 : Int))
 (aoB (apE h p b0 b1 b2 a (-1 : Int) (0 : Int)) (1 : Int) b1 (-1 : Int)
 (0 : Int))
 (aoB (apE h p b0 b1 b2 a (-1 : Int) (0 : Int)) (2 : Int) b2 (-1 : Int)
 (0 : Int))
 (aoA (apE h p b0 b1 b2 a (-1 : Int) (0 : Int)) a (-1 : Int) (0 : Int))
 (aoP (prE h p b0 b1 b2 a.length (-1 : Int) (0 : Int)) p (-1 : Int) (0 : Int))
 (aoB (prE h p b0 b1 b2 a.length (-1 : Int) (0 : Int)) (0 : Int) b0 (-1 : Int)
 (0 : Int))
 (aoB (prE h p b0 b1 b2 a.length (-1 : Int) (0 : Int)) (1 : Int) b1 (-1 : Int)
 (0 : Int))
 (aoB (prE h p b0 b1 b2 a.length (-1 : Int) (0 : Int)) (2 : Int) b2 (-1 : Int)
 (0 : Int))
 (aoA (prE h p b0 b1 b2 a.length (-1 : Int) (0 : Int)) a (-1 : Int) (0 : Int)))))
 []
 else K (AV.one (SV.bool false)) [])
def exapp_x3 (h : List Int) (p : Int) (b0 b1 b2 : Bool) (a : List Int) (l : List (List Int)) (K : AV → List Blk → Prop) : Prop := (
 a.length ≤ (1000000000000 : Nat) ∧ exapp_x2 h p b0 b1 b2 a l K)
def exapp_x4 (h : List Int) (p : Int) (b0 b1 b2 : Bool) (a : List Int) (l : List (List Int)) (K : AV → List Blk → Prop) : Prop := (
 bif decide ((↑l.length : Int) > (202 : Int)) then K (AV.one (SV.bool true)) []
 else
 bif decide ((↑l.length : Int) > (0 : Int)) then
 bif decide ((0 : Int) ≤ (0 : Int)) && decide ((0 : Int) < (↑l.length : Int)) then
 bif decide ((1 : Nat) < (2 : Nat)) && decide ((0 : Nat) < l.length) then
 (h.length ≤ (1000000000000 : Nat) ∧
 (a.length ≤ (1000000000000 : Nat) ∧ exapp_x0 h p b0 b1 b2 a l K ∧ exapp_x0 h p b0 b1 b2 a l K) ∧
 exapp_x1 h p b0 b1 b2 a l K) ∧
 h.length ≤ (1000000000000 : Nat) ∧ exapp_x1 h p b0 b1 b2 a l K
 else False
 else False
 else
 (h.length ≤ (1000000000000 : Nat) ∧
 (a.length ≤ (1000000000000 : Nat) ∧ exapp_x2 h p b0 b1 b2 a l K ∧ exapp_x2 h p b0 b1 b2 a l K) ∧
 exapp_x3 h p b0 b1 b2 a l K) ∧
 h.length ≤ (1000000000000 : Nat) ∧ exapp_x3 h p b0 b1 b2 a l K)
theorem exapp (h : List Int) (p : Int) (b0 b1 b2 : Bool) (a : List Int) (l : List (List Int)) (K : AV → List Blk → Prop) : evFn Eapp Tryd.f16 [.agg [.data (.ints .i64 h)], .agg [.int .i64 p, .bool b0, .bool b1, .bool b2, .data (.ints .i64 a)], .one (.data (.mat .i64 2 l))] [] K = (
 bif !(decide ((↑h.length : Int) ≤ (12 : Int)) && decide ((↑a.length : Int) ≤ (12 : Int))) then
 K (AV.one (SV.bool true)) []
 else
 bif decide ((↑l.length : Int) > (60 : Int)) then
 bif decide ((↑l.length : Int) ≤ (200 : Int)) then K (AV.one (SV.bool true)) [] else exapp_x4 h p b0 b1 b2 a l K
 else exapp_x4 h p b0 b1 b2 a l K) := by kernel_rfl
end Go.Ev

namespace Go.Ev
open Go Go.Proofs
attribute [local irreducible] evFn evBody evRound

set_option maxRecDepth 20000

theorem okrrpD : SpecOK Tryd.prog 92 rrpS := by
  refine okrrp.froze fun args σ K h => ?_
  unfold rrpS at h
  split at h
  rotate_right
  · exact h.elim
  rename_i hs l
  obtain ⟨h1, h⟩ := h
  refine ⟨rfl, h1, ?_⟩
  unfold rpR at h
  cases hq : rrpE l == 0 with
  | false =>
    have e8 : rrpE l = 8 := by
      unfold rrpE at hq ⊢
      cases hd : decide ((l.length : Int) > 200) with
      | true => rfl
      | false => rw [hd] at hq; cases hq
    rw [e8] at h
    refine ⟨_, ?_, h⟩
    exact ⟨⟨rfl, rfl, rfl, rfl, .inr ⟨.ints .i64 [], rfl, rfl⟩, trivial⟩, rfl, rfl, trivial⟩
  | true =>
    rw [hq] at h
    simp only [cond_true] at h
    have hz0 : ∀ r : Rp, rpG hs (-1) false false false [] 0 l = r → (r.e == 0) = false → r = ⟨0, false, false, false, [], r.i, r.e⟩ := by
      have key : ∀ (l : List (List Int)) (p : Int) (b0 b1 b2 : Bool) (a : List Int) (i : Int), ((rpG hs p b0 b1 b2 a i l).e == 0) = false → rpG hs p b0 b1 b2 a i l = ⟨0, false, false, false, [], (rpG hs p b0 b1 b2 a i l).i, (rpG hs p b0 b1 b2 a i l).e⟩ := by
        intro l
        induction l with
        | nil => intro p b0 b1 b2 a i hx; exact absurd (show ((0 : Int) == 0) = false from hx) (by decide)
        | cons x l ih =>
          intro p b0 b1 b2 a i hx
          simp only [rpG] at hx ⊢
          cases he : prE hs p b0 b1 b2 a.length (x.getD 0 0) (x.getD 1 0) == 0 with
          | true => simp only [he, cond_true] at hx ⊢; exact ih _ _ _ _ _ _ hx
          | false => rfl
      intro r hr hx
      subst hr
      exact key _ _ _ _ _ _ _ hx
    have hi0 : ∀ r : Rp, rpG hs (-1) false false false [] 0 l = r → (r.e == 0) = true → r.i = 0 := by
      have key : ∀ (l : List (List Int)) (p : Int) (b0 b1 b2 : Bool) (a : List Int) (i : Int), ((rpG hs p b0 b1 b2 a i l).e == 0) = true → (rpG hs p b0 b1 b2 a i l).i = 0 := by
        intro l
        induction l with
        | nil => intro p b0 b1 b2 a i hx; rfl
        | cons x l ih =>
          intro p b0 b1 b2 a i hx
          simp only [rpG] at hx ⊢
          cases he : prE hs p b0 b1 b2 a.length (x.getD 0 0) (x.getD 1 0) == 0 with
          | true => simp only [he, cond_true] at hx ⊢; exact ih _ _ _ _ _ _ hx
          | false => simp only [he, cond_false] at hx; cases hx
      intro r hr hx
      subst hr
      exact key _ _ _ _ _ _ _ hx
    replace hz0 := hz0 _ rfl
    replace hi0 := hi0 _ rfl
    generalize rpG hs (-1) false false false [] 0 l = r at *
    cases hz : r.e == 0 with
    | true =>
      rw [hi0 hz, eq_of_beq hz] at h
      refine ⟨_, ?_, h⟩
      exact ⟨⟨rfl, rfl, rfl, rfl, rfl, trivial⟩, rfl, rfl, trivial⟩
    | false =>
      rw [hz0 hz] at h
      refine ⟨_, ?_, h⟩
      exact ⟨⟨rfl, rfl, rfl, rfl, .inr ⟨.ints .i64 [], rfl, rfl⟩, trivial⟩, rfl, rfl, trivial⟩
theorem rpE_ok {h : List Int} {l : List (List Int)} (hr : ruE h = 0) : rpE h l = rrpE l := by
  unfold rpE rrpE
  rw [hr]
  by_cases hl : (l.length : Int) ≤ 200
  · rw [decide_eq_true hl, decide_eq_false (by omega)]; rfl
  · rw [decide_eq_false hl, decide_eq_true (by omega)]; rfl
theorem nxA_le (a : List Int) (k n : Int) : (nxA a k n).length ≤ a.length + 1 := by
  unfold nxA
  cases k == 2 with
  | true => rw [cond_true, List.length_append, List.length_singleton]; omega
  | false =>
    rw [cond_false]
    cases k == 3 with
    | true => rw [cond_true, List.length_take]; omega
    | false => rw [cond_false]; omega
theorem aoA_len (e : Int) (a : List Int) (k n : Int) (h : a.length ≤ 1000000) : (aoA e a k n).length ≤ 1000000000 := by
  unfold aoA
  cases e == 0 with
  | true => rw [cond_true]; have := nxA_le a k n; omega
  | false => exact Nat.zero_le _
theorem rpG_len (h : List Int) : ∀ (l : List (List Int)) (p : Int) (b0 b1 b2 : Bool) (a : List Int) (i : Int), (rpG h p b0 b1 b2 a i l).a.length ≤ a.length + l.length
  | [], p, b0, b1, b2, a, i => Nat.le_refl _
  | x :: l, p, b0, b1, b2, a, i => by
    simp only [rpG]
    cases prE h p b0 b1 b2 a.length (x.getD 0 0) (x.getD 1 0) == 0 with
    | true =>
      rw [cond_true]
      have h1 := rpG_len h l (nxP p (x.getD 0 0) (x.getD 1 0)) (nxB 0 b0 (x.getD 0 0) (x.getD 1 0)) (nxB 1 b1 (x.getD 0 0) (x.getD 1 0)) (nxB 2 b2 (x.getD 0 0) (x.getD 1 0)) (nxA a (x.getD 0 0) (x.getD 1 0)) (i + 1)
      have h2 := nxA_le a (x.getD 0 0) (x.getD 1 0)
      simp only [List.length_cons]
      omega
    | false => exact Nat.zero_le _
theorem rpR_len (e : Int) (h : List Int) (l : List (List Int)) (hl : l.length ≤ 1000) : (rpR e h l).a.length ≤ 1000000000 := by
  unfold rpR
  cases e == 0 with
  | true =>
    rw [cond_true]
    have := rpG_len h l (-1) false false false [] 0
    simp only [List.length_nil] at this
    omega
  | false => exact Nat.zero_le _
theorem ssG_refl (p : Int) (b0 b1 b2 : Bool) (a : List Int) : ssG p b0 b1 b2 a p b0 b1 b2 a = true := by
  unfold ssG
  rw [beq_self_eq_true, beq_self_eq_true, beq_self_eq_true, beq_self_eq_true, beq_self_eq_true]; rfl
theorem ao_err {e : Int} (he : e ≠ 0) {p : Int} {b0 b1 b2 : Bool} {a : List Int} {k n : Int} : ssG (aoP e p k n) (aoB e 0 b0 k n) (aoB e 1 b1 k n) (aoB e 2 b2 k n) (aoA e a k n) 0 false false false [] = true := by
  unfold aoP aoB aoA
  rw [beq_ff he]; rfl
theorem app_x0 {h : List Int} {p : Int} {b0 b1 b2 : Bool} {a : List Int} {l : List (List Int)} {K : AV → List Blk → Prop} (f1 : h.length ≤ 12) (f2 : a.length ≤ 12) (f3 : l.length ≤ 202) (hK : K (.one (.bool true)) []) : exapp_x0 h p b0 b1 b2 a l K := by
  unfold exapp_x0
  generalize (l.getD 0 []).getD 0 0 = k
  generalize (l.getD 0 []).getD 1 0 = n
  refine And.intro ⟨by omega, by omega⟩ (And.intro (by omega) (And.intro (by omega) (And.intro ⟨by omega, by omega⟩ (And.intro (by omega) ?_))))
  have z : ∀ n : Int, (n != n) = false := fun n => by rw [bne, beq_self_eq_true]; rfl
  by_cases hr : ruE h = 0
  · have e1 : rpE h l = rrpE l := rpE_ok hr
    rw [e1, hr]
    refine And.intro ⟨by omega, by omega⟩ ?_
    rw [z, cond_false]
    refine And.intro (rpR_len _ _ _ (by omega)) ?_
    rw [ssG_refl, z]
    refine And.intro (by omega) ?_
    by_cases hs : stE h p b0 b1 b2 a = 0
    · rw [hs]
      have hb : boE h p b0 b1 b2 a = 0 := by unfold boE; rw [hr]; exact hs
      have e2 : apE h p b0 b1 b2 a k n = prE h p b0 b1 b2 a.length k n := by unfold apE; rw [hb]; rfl
      have hl := stE2_len (boE_facts hb).2.2
      refine And.intro ⟨hl, by omega⟩ ?_
      rw [e2, beq_self_eq_true, cond_true]
      refine And.intro (aoA_len _ _ _ _ (by omega)) ?_
      rw [ssG_refl]; exact hK
    · rw [bne_tt hs, cond_true]
      have hb : boE h p b0 b1 b2 a = stE h p b0 b1 b2 a := by unfold boE; rw [hr]; rfl
      have e2 : apE h p b0 b1 b2 a k n = stE h p b0 b1 b2 a := by unfold apE; rw [hb, beq_ff hs]; rfl
      rw [e2, beq_self_eq_true, cond_true]
      refine And.intro (aoA_len _ _ _ _ (by omega)) ?_
      rw [ao_err hs]; exact hK
  · rw [bne_tt hr, cond_true]
    have hb : boE h p b0 b1 b2 a = ruE h := by unfold boE; rw [beq_ff hr]; rfl
    have e2 : apE h p b0 b1 b2 a k n = ruE h := by unfold apE; rw [hb, beq_ff hr]; rfl
    have e3 : rpE h l = ruE h := by unfold rpE; rw [beq_ff hr]; rfl
    have e4 : rpR (ruE h) h l = ⟨0, false, false, false, [], 0, ruE h⟩ := by unfold rpR; rw [beq_ff hr]; rfl
    rw [e2, e3, e4, beq_self_eq_true, cond_true]
    rw [cond_true]
    refine And.intro (aoA_len _ _ _ _ (by omega)) ?_
    rw [ao_err hr, cond_true]
    refine And.intro (by show (0 : Nat) ≤ _; omega) ?_
    exact hK
theorem app_x2 {h : List Int} {p : Int} {b0 b1 b2 : Bool} {a : List Int} {l : List (List Int)} {K : AV → List Blk → Prop} (f1 : h.length ≤ 12) (f2 : a.length ≤ 12) (f3 : l.length ≤ 202) (hK : K (.one (.bool true)) []) : exapp_x2 h p b0 b1 b2 a l K := by
  unfold exapp_x2
  refine And.intro ⟨by omega, by omega⟩ (And.intro (by omega) (And.intro (by omega) (And.intro ⟨by omega, by omega⟩ (And.intro (by omega) ?_))))
  have z : ∀ n : Int, (n != n) = false := fun n => by rw [bne, beq_self_eq_true]; rfl
  by_cases hr : ruE h = 0
  · have e1 : rpE h l = rrpE l := rpE_ok hr
    rw [e1, hr]
    refine And.intro ⟨by omega, by omega⟩ ?_
    rw [z, cond_false]
    refine And.intro (rpR_len _ _ _ (by omega)) ?_
    rw [ssG_refl, z]
    refine And.intro (by omega) ?_
    by_cases hs : stE h p b0 b1 b2 a = 0
    · rw [hs]
      have hb : boE h p b0 b1 b2 a = 0 := by unfold boE; rw [hr]; exact hs
      have e2 : apE h p b0 b1 b2 a (-1) 0 = prE h p b0 b1 b2 a.length (-1) 0 := by unfold apE; rw [hb]; rfl
      have hl := stE2_len (boE_facts hb).2.2
      refine And.intro ⟨hl, by omega⟩ ?_
      rw [e2, beq_self_eq_true, cond_true]
      refine And.intro (aoA_len _ _ _ _ (by omega)) ?_
      rw [ssG_refl]; exact hK
    · rw [bne_tt hs, cond_true]
      have hb : boE h p b0 b1 b2 a = stE h p b0 b1 b2 a := by unfold boE; rw [hr]; rfl
      have e2 : apE h p b0 b1 b2 a (-1) 0 = stE h p b0 b1 b2 a := by unfold apE; rw [hb, beq_ff hs]; rfl
      rw [e2, beq_self_eq_true, cond_true]
      refine And.intro (aoA_len _ _ _ _ (by omega)) ?_
      rw [ao_err hs]; exact hK
  · rw [bne_tt hr, cond_true]
    have hb : boE h p b0 b1 b2 a = ruE h := by unfold boE; rw [beq_ff hr]; rfl
    have e2 : apE h p b0 b1 b2 a (-1) 0 = ruE h := by unfold apE; rw [hb, beq_ff hr]; rfl
    have e3 : rpE h l = ruE h := by unfold rpE; rw [beq_ff hr]; rfl
    have e4 : rpR (ruE h) h l = ⟨0, false, false, false, [], 0, ruE h⟩ := by unfold rpR; rw [beq_ff hr]; rfl
    rw [e2, e3, e4, beq_self_eq_true, cond_true]
    rw [cond_true]
    refine And.intro (aoA_len _ _ _ _ (by omega)) ?_
    rw [ao_err hr, cond_true]
    refine And.intro (by show (0 : Nat) ≤ _; omega) ?_
    exact hK
theorem app_x4 {h : List Int} {p : Int} {b0 b1 b2 : Bool} {a : List Int} {l : List (List Int)} {K : AV → List Blk → Prop} (f1 : h.length ≤ 12) (f2 : a.length ≤ 12) (f3 : l.length ≤ 202) (hK : K (.one (.bool true)) []) : exapp_x4 h p b0 b1 b2 a l K := by
  unfold exapp_x4 exapp_x1 exapp_x3
  have x0 : exapp_x0 h p b0 b1 b2 a l K := app_x0 f1 f2 f3 hK
  have x2 : exapp_x2 h p b0 b1 b2 a l K := app_x2 f1 f2 f3 hK
  have g1 : h.length ≤ 1000000000000 := by omega
  have g2 : a.length ≤ 1000000000000 := by omega
  generalize exapp_x0 h p b0 b1 b2 a l K = X0 at *
  generalize exapp_x2 h p b0 b1 b2 a l K = X2 at *
  rw [decide_eq_false (show ¬ (l.length : Int) > 202 by omega), cond_false]
  by_cases hl : (l.length : Int) > 0
  · rw [decide_eq_true hl, cond_true, decide_eq_true (show (0 : Nat) < l.length by omega)]
    show _ ∧ _
    repeat' apply And.intro
    all_goals first | exact g1 | exact g2 | exact x0
  · rw [decide_eq_false hl, cond_false]
    repeat' apply And.intro
    all_goals first | exact g1 | exact g2 | exact x2
theorem okapp : SpecOK Tryd.prog 16 lawAppS := by
  refine specOK (n := 140) (m := 0) (lps := []) (.cons okawk (.cons okfew (.cons okcpR (.cons okcpS (.cons okaplD (.cons okcpvD (.cons okrepD (.cons okrru (.cons oksme (.cons okrrpD (.cons okrst (.cons okrap2 .nil)))))))))))) Tryd.func16 (by kernel_rfl) (by kernel_rfl) (noLoops (by kernel_rfl)) fun args σ K h => ?_
  unfold lawAppS at h
  split at h
  rotate_right
  · exact h.elim
  rename_i hs p b0 b1 b2 a l
  rw [exapp hs p b0 b1 b2 a l K]
  cases hf : decide ((hs.length : Int) ≤ 12) && decide ((a.length : Int) ≤ 12) with
  | false => exact h
  | true =>
    rw [Bool.and_eq_true, decide_eq_true_eq, decide_eq_true_eq] at hf
    obtain ⟨f1, f2⟩ := hf
    rw [Bool.not_true, cond_false]
    by_cases f3 : l.length ≤ 202
    · have x4 : exapp_x4 hs p b0 b1 b2 a l K := app_x4 (by omega) (by omega) f3 h
      by_cases h6 : (l.length : Int) > 60
      · rw [decide_eq_true h6, cond_true]
        cases decide ((l.length : Int) ≤ 200)
        · exact x4
        · exact h
      · rw [decide_eq_false h6]; exact x4
    · rw [decide_eq_true (show (l.length : Int) > 60 by omega), decide_eq_false (show ¬ (l.length : Int) ≤ 200 by omega), cond_true, cond_false]
      unfold exapp_x4
      rw [decide_eq_true (show (l.length : Int) > 202 by omega)]
      exact h
end Go.Ev
