/-
  Part of the proof of a law.
-/
import Derived.Test.YtophekjofpahfaaEvKit2
set_option linter.unusedVariables false
set_option linter.unusedSimpArgs false
set_option linter.unusedSectionVars false
/-
  A function's body cut into stages: its meaning is that of the stages one after the other.
-/
namespace Go.Ev
open Go
variable [Glob]
def spine : Code → List Code
  | .seq a b => spine a ++ spine b
  | c => [c]
def evL (E : Env) : List Code → St → (Ex → St → Prop) → Prop
  | [], s, k => k .normal s
  | c :: cs, s, k => evCode E c s fun e s' => match e with
    | .normal => evL E cs s' k
    | e => k e s'
def andK (B : St → Prop) (k : Ex → St → Prop) : Ex → St → Prop := fun e s => match e with
  | .normal => B s
  | e => k e s
theorem evL_append (E : Env) : ∀ (xs ys : List Code) (s : St) (k : Ex → St → Prop), evL E (xs ++ ys) s k = evL E xs s (andK (fun s' => evL E ys s' k) k)
  | [], _, _, _ => rfl
  | x :: xs, ys, s, k => by
    show evCode E x s _ = evCode E x s _
    congr 1
    funext e s'
    cases e with
    | normal => exact evL_append E xs ys s' k
    | exit j => rfl
    | ret => rfl
theorem evL_one (E : Env) (c : Code) (s : St) (k : Ex → St → Prop) : evL E [c] s k = evCode E c s k := by
  show evCode E c s _ = evCode E c s _
  congr 1
  funext e s'
  cases e <;> rfl
theorem evCode_spine (E : Env) : ∀ (c : Code) (s : St) (k : Ex → St → Prop), evCode E c s k = evL E (spine c) s k
  | .seq a b, s, k => by
    show evCode E (.seq a b) s k = evL E (spine a ++ spine b) s k
    rw [evL_append, ← evCode_spine E a]
    show evCode E a s _ = evCode E a s _
    congr 1
    funext e s'
    cases e with
    | normal => exact evCode_spine E b s' k
    | exit j => rfl
    | ret => rfl
  | .skip, s, k => (evL_one E _ s k).symm
  | .region .., s, k => (evL_one E _ s k).symm
  | .cond .., s, k => (evL_one E _ s k).symm
  | .block .., s, k => (evL_one E _ s k).symm
  | .loop .., s, k => (evL_one E _ s k).symm
  | .rangeFunc .., s, k => (evL_one E _ s k).symm
  | .exit .., s, k => (evL_one E _ s k).symm
  | .ret, s, k => (evL_one E _ s k).symm
  | .scope .., s, k => (evL_one E _ s k).symm
  | .label .., s, k => (evL_one E _ s k).symm
  | .goto .., s, k => (evL_one E _ s k).symm
  | .refuse .., s, k => (evL_one E _ s k).symm
def fnK (E : Env) (fn : Func) (K : AV → List Blk → Prop) : Ex → St → Prop := fun e s => match e with
  | .exit _ => False
  | _ => evRet E.P fn.results.toList E.m s K
def spF (fn : Func) : List Code := match fn.body with | some c => spine c | none => []
def st0 (fn : Func) (args : List AV) (σ : List Blk) : St := ⟨args ++ List.replicate (fn.ntmps - args.length) .any, σ⟩
def evStage (E : Env) (fn : Func) (n m : Nat) (s : St) (K : AV → List Blk → Prop) (B : St → Prop) : Prop := evL E (((spF fn).drop n).take m) s (andK B (fnK E fn K))
def evRest (E : Env) (fn : Func) (n : Nat) (s : St) (K : AV → List Blk → Prop) : Prop := evL E ((spF fn).drop n) s (fnK E fn K)
theorem evFn_rest {E : Env} {fn : Func} {args : List AV} {σ : List Blk} {K : AV → List Blk → Prop} (hm : σ.length = E.m) (hb : fn.body.isSome = true) : evFn E fn args σ K = evRest E fn 0 (st0 fn args σ) K := by
  unfold evFn evRest spF
  rw [if_pos hm]
  cases h : fn.body with
  | none => rw [h] at hb; cases hb
  | some c =>
    simp only
    rw [evCode_spine]
    rfl
theorem evRest_stage (E : Env) (fn : Func) (n m : Nat) (s : St) (K : AV → List Blk → Prop) : evRest E fn n s K = evStage E fn n m s K fun s' => evRest E fn (n + m) s' K := by
  unfold evRest evStage
  conv => lhs; rw [← List.take_append_drop m ((spF fn).drop n), evL_append, List.drop_drop]
end Go.Ev
