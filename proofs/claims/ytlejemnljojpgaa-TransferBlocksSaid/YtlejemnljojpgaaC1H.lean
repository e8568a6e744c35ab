/-
  Chapter 1, contracts: the examples; the law of carriers.
-/
import Derived.Test.YtlejemnljojpgaaC1Gok
namespace Go.Ev
open Go Go.Proofs
set_option maxRecDepth 20000

def trueS : Spec := fun args σ K => match args, σ with
  | [], [] => K (.one (.bool true)) []
  | _, _ => False
noncomputable abbrev E15 : Env := envOf Try.prog [(16, turnS), (28, packedS), (39, inverseOfS), (20, sumOfS), (68, wholeS), (30, intsS)] [] 61 0
noncomputable abbrev E3 : Env := envOf Try.prog [(15, trueS), (16, turnS), (17, carrierS), (18, carrierS), (19, refTurnS)] [] 43 0
end Go.Ev
