/-
  A piece of code cut in two behind the first region of its block: its meaning is that of the two parts.
-/
import Derived.Test.YtiflkochjfiegaaDoorEvKit2
set_option linter.unusedVariables false
set_option linter.unusedSimpArgs false
set_option linter.unusedSectionVars false
namespace Go.Ev
open Go
variable [Glob]

def cutA : Code → Code
  | .seq A (.seq (.block _ (.seq r _)) _) => .seq A r
  | c => c
def cutB : Code → Code
  | .seq _ (.seq (.block i (.seq _ R)) w) => .seq (.block i R) w
  | c => c
def cutOK : Code → Bool
  | .seq _ (.seq (.block _ (.seq (.region _ _ _) _)) _) => true
  | _ => false
/-- What comes behind the first part. -/
def cutK (E : Env) (c : Code) (k : Ex → St → Prop) : Ex → St → Prop
  | .normal, s => evCode E (cutB c) s k
  | e, s => k e s
/-- What comes behind a loop's body. -/
def bodyK (E : Env) (ins outs : List Nat) (K : Ex → List AV → List Blk → Prop) : Ex → St → Prop := fun e s =>
  if s.t.length = E.n then (match e with
    | .normal => K .normal (headV E.m ins s) (headB E.m ins s)
    | e => K e (headV E.m outs s) (headB E.m outs s)) else False

theorem evCode_cut {E : Env} {c : Code} (h : cutOK c = true) (s : St) (k : Ex → St → Prop) : evCode E c s k = evCode E (cutA c) s (cutK E c k) := by
  unfold cutOK at h
  split at h
  · rename_i A i id ops dr R w
    simp only [cutA, evCode]
    congr 1
    funext e s'
    cases e with
    | normal =>
      simp only [evCode]
      rfl
    | exit j => rfl
    | ret => rfl
  · cases h
theorem evBody_cut {E : Env} {b : Code} (h : cutOK b = true) (ins outs : List Nat) (vs : List AV) (σ : List Blk) (K : Ex → List AV → List Blk → Prop) :
    evBody E b ins outs vs σ K = evCode E (cutA b) (spread E.n ins vs σ) (cutK E b (bodyK E ins outs K)) := by
  rw [← evCode_cut h]
  rfl
end Go.Ev
