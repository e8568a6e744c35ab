/-
  Part of the proof of a law.
-/
import Derived.Test.YtophekjofpahfaaEvWp
set_option linter.unusedVariables false
set_option linter.unusedSimpArgs false
set_option linter.unusedSectionVars false
/-
  Lists of contracts and of loops; a function by its parts.
-/
namespace Go.Ev
open Go
variable [Glob]
def spOf : List (FuncId × Spec) → FuncId → Option Spec
  | [], _ => none
  | p :: l, f => bif Nat.beq p.1 f then some p.2 else spOf l f
def lpOf : List (Nat × LoopBy) → Nat → Option LoopBy
  | [], _ => none
  | p :: l, f => bif Nat.beq p.1 f then some p.2 else lpOf l f
def AllOK (P : Program) : List (FuncId × Spec) → Prop
  | [] => True
  | p :: l => SpecOK P p.1 p.2 ∧ AllOK P l
theorem AllOK.nil {P : Program} : AllOK P [] := trivial
theorem AllOK.cons {P : Program} {f : FuncId} {S : Spec} {l : List (FuncId × Spec)} (h : SpecOK P f S) (hl : AllOK P l) : AllOK P ((f, S) :: l) := ⟨h, hl⟩
theorem spOf_ok {P : Program} : ∀ {l : List (FuncId × Spec)}, AllOK P l → ∀ f S, spOf l f = some S → SpecOK P f S
  | [], _, f, S, h => by simp [spOf] at h
  | p :: l, H, f, S, h => by
    simp only [spOf] at h
    cases hb : Nat.beq p.1 f with
    | true =>
      rw [hb] at h
      have e := Nat.eq_of_beq_eq_true hb
      simp only [cond_true, Option.some.injEq] at h
      subst e; subst h
      exact H.1
    | false => rw [hb] at h; exact spOf_ok H.2 f S h
def envOf (P : Program) (l : List (FuncId × Spec)) (lps : List (Nat × LoopBy)) (n m : Nat) (ds : List Nat := []) (cs : List Nat := []) : Env := ⟨P, spOf l, lpOf lps, n, m, fun f => ds.any (Nat.beq f), fun t => cs.any (Nat.beq t)⟩
def lb (fn : Func) (i : Nat) : Code := (loopsOf (fn.body.getD .skip)).getD i .skip
theorem noLoops {E : Env} {fn : Func} (h : (loopsOf (fn.body.getD .skip)).length = 0) : ∀ b ∈ loopsOf (fn.body.getD .skip), LoopHyp E b := by
  rw [List.length_eq_zero_iff] at h
  rw [h]
  intro b hb
  cases hb
theorem theLoops {E : Env} {fn : Func} {n : Nat} (h : (loopsOf (fn.body.getD .skip)).length = n) (H : ∀ i, i < n → LoopHyp E (lb fn i)) : ∀ b ∈ loopsOf (fn.body.getD .skip), LoopHyp E b := by
  intro b hb
  obtain ⟨i, hi⟩ := List.getElem?_of_mem hb
  have hl := (List.getElem?_eq_some_iff.1 hi).1
  have := H i (by omega)
  unfold lb at this
  rw [List.getD_eq_getElem?_getD, hi] at this
  exact this
theorem noInner {E : Env} {b : Code} (h : (loopsOf b).length = 0) : ∀ b' ∈ loopsOf b, LoopHyp E b' := by
  rw [List.length_eq_zero_iff] at h
  rw [h]
  intro b hb
  cases hb
theorem rangeHyp_no {E : Env} {b : Code} (h : ∀ f Sq ins G, E.loops (keyOf b) ≠ some (.range f Sq ins G)) : RangeHyp E b := by
  cases b with
  | rangeFunc g ps assign body => exact fun f Sq ins G h' => absurd h' (h f Sq ins G)
  | _ => trivial
theorem frmHyp_no {E : Env} {b : Code} (h : ∀ m ins outs G, E.loops (keyOf b) ≠ some (.frm m ins outs G)) : FrmHyp E b := fun m ins outs G h' => absurd h' (h m ins outs G)
theorem loopHyp_of {E : Env} {b : Code} {key : Nat} {ins outs : List Nat} {G : LSpec} (hk : keyOf b = key) (hl : E.loops key = some (.spec ins outs G)) (h : LoopOK E b ins outs G) : LoopHyp E b := by
  refine ⟨fun ins' outs' G' h' => ?_, rangeHyp_no fun f Sq ins G h' => ?_, frmHyp_no fun m ins outs G h' => ?_⟩
  · rw [hk, hl] at h'
    cases h'
    exact h
  · rw [hk, hl] at h'
    cases h'
  · rw [hk, hl] at h'
    cases h'
theorem loopHyp_frm {E E' : Env} {b : Code} {key m : Nat} {ins outs : List Nat} {G : LSpec} (hk : keyOf b = key) (hl : E.loops key = some (.frm m ins outs G)) (he : E' = { E with m := m }) (h : LoopOK E' b ins outs G) : LoopHyp E b := by
  subst he
  refine ⟨fun ins' outs' G' h' => ?_, rangeHyp_no fun f Sq ins G h' => ?_, fun m ins outs G h' => ?_⟩
  · rw [hk, hl] at h'
    cases h'
  · rw [hk, hl] at h'
    cases h'
  · rw [hk, hl] at h'
    cases h'
    exact h
theorem loopHyp_none {E : Env} {b : Code} {key n : Nat} (hk : keyOf b = key) (hl : E.loops key = some (.unroll n)) : LoopHyp E b := by
  refine ⟨fun ins' outs' G' h' => ?_, rangeHyp_no fun f Sq ins G h' => ?_, frmHyp_no fun m ins outs G h' => ?_⟩
  · rw [hk, hl] at h'
    cases h'
  · rw [hk, hl] at h'
    cases h'
  · rw [hk, hl] at h'
    cases h'
def rangePs : Code → List Tmp | .rangeFunc _ ps _ _ => ps.toList | _ => []
def rangeAssign : Code → Code | .rangeFunc _ _ a _ => a | _ => .skip
def rangeBody : Code → Code | .rangeFunc _ _ _ b => b | _ => .skip
def isRange : Code → Bool | .rangeFunc .. => true | _ => false
theorem loopHyp_range {E : Env} {b : Code} {key : Nat} {f : FuncId} {Sq : SeqSpec} {ins : List Nat} {G : List (List AV) → LSpec} (hb : isRange b = true) (hk : keyOf b = key) (hl : E.loops key = some (.range f Sq ins G)) (h : RangeOK E f Sq (rangePs b) (rangeAssign b) (rangeBody b) ins G) : LoopHyp E b := by
  cases b with
  | rangeFunc g ps assign body =>
    refine ⟨fun ins' outs' G' h' => ?_, fun f' Sq' ins' G' h' => ?_, frmHyp_no fun m ins outs G h' => ?_⟩
    · rw [hk, hl] at h'
      cases h'
    · rw [hk, hl] at h'
      cases h'
      exact h
    · rw [hk, hl] at h'
      cases h'
  | _ => simp [isRange] at hb
theorem specOKc {P : Program} {l : List (FuncId × Spec)} {lps : List (Nat × LoopBy)} {n m : Nat} (ds cs : List Nat) {f : FuncId} {fn : Func} {S : Spec} (hS : AllOK P l) (hf : P.funcs[f]? = some fn) (hb : fn.body.isSome = true) (hname : (fn.name == "runtime.NumGoroutine") = false)
    (hL : ∀ b ∈ loopsOf (fn.body.getD .skip), LoopHyp (envOf P l lps n m ds cs) b) (h : ∀ args σ K, S args σ K → evFn (envOf P l lps n m ds cs) fn args σ K) : SpecOK P f S := by
  obtain ⟨c, hc⟩ := Option.isSome_iff_exists.1 hb
  rw [hc] at hL
  exact fnOK (E := envOf P l lps n m ds cs) (spOf_ok hS) hf hc hname hL h
theorem specOKd {P : Program} {l : List (FuncId × Spec)} {lps : List (Nat × LoopBy)} {n m : Nat} (ds : List Nat) {f : FuncId} {fn : Func} {S : Spec} (hS : AllOK P l) (hf : P.funcs[f]? = some fn) (hb : fn.body.isSome = true) (hname : (fn.name == "runtime.NumGoroutine") = false)
    (hL : ∀ b ∈ loopsOf (fn.body.getD .skip), LoopHyp (envOf P l lps n m ds) b) (h : ∀ args σ K, S args σ K → evFn (envOf P l lps n m ds) fn args σ K) : SpecOK P f S :=
  specOKc (n := n) (m := m) ds [] hS hf hb hname hL h
theorem specOK {P : Program} {l : List (FuncId × Spec)} {lps : List (Nat × LoopBy)} {n m : Nat} {f : FuncId} {fn : Func} {S : Spec} (hS : AllOK P l) (hf : P.funcs[f]? = some fn) (hb : fn.body.isSome = true) (hname : (fn.name == "runtime.NumGoroutine") = false)
    (hL : ∀ b ∈ loopsOf (fn.body.getD .skip), LoopHyp (envOf P l lps n m) b) (h : ∀ args σ K, S args σ K → evFn (envOf P l lps n m) fn args σ K) : SpecOK P f S :=
  specOKd (n := n) (m := m) [] hS hf hb hname hL h
theorem loopOK {P : Program} {l : List (FuncId × Spec)} {lps : List (Nat × LoopBy)} {n m : Nat} {ds cs : List Nat} (hS : AllOK P l) {b : Code} (hL : ∀ b' ∈ loopsOf b, LoopHyp (envOf P l lps n m ds cs) b') {ins outs : List Nat} {G : LSpec} (μ : List AV → List Blk → Nat)
    (step : ∀ vs σ k, G vs σ k → evBody (envOf P l lps n m ds cs) b ins outs vs σ fun e vs' σ' => match e with
      | .normal => G vs' σ' k ∧ μ vs' σ' < μ vs σ
      | e => k e vs' σ') : LoopOK (envOf P l lps n m ds cs) b ins outs G :=
  loopOK_of (spOf_ok hS) hL μ step
theorem wrap_id {n : Int} (h1 : -9223372036854775808 ≤ n) (h2 : n < 9223372036854775808) : IntKind.i64.wrap n = n := by
  have e1 : (2 : Int) ^ IntKind.i64.bits = 18446744073709551616 := by decide
  have e2 : (2 : Int) ^ (IntKind.i64.bits - 1) = 9223372036854775808 := by decide
  have e3 : IntKind.i64.signed = true := rfl
  unfold IntKind.wrap
  simp only [e1, e2, e3, Bool.true_and, decide_eq_true_eq]
  split <;> omega
theorem hasN_one (r : Row) (i c : Nat) : r.hasN i c 1 = r.has i c := by simp [Row.hasN]
theorem has_ints (k : IntKind) (l : List Int) (i c : Nat) : (Row.ints k l).has i c = decide (i + c < l.length) := rfl
theorem count_ints (k : IntKind) (l : List Int) : (Row.ints k l).count = l.length := rfl
theorem getD_of_lt {α : Type} {l : List α} {i : Nat} {d : α} (h : i < l.length) : l.getD i d = l[i] := by simp [List.getD, h]
theorem drop_step {α : Type} {l : List α} {i : Nat} (d : α) (h : i < l.length) : l.drop i = l.getD i d :: l.drop (i + 1) := by
  rw [getD_of_lt h]
  exact List.drop_eq_getElem_cons h
end Go.Ev
