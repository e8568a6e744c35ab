/-
  Part of the proof of a law.
-/
import Derived.Test.YtmailpnpjcpodaaGreatDoorEvFrz
import Derived.Sort.Grow
import Derived.Deep.Draws
import Derived.Below
set_option linter.unusedVariables false
set_option linter.unusedSimpArgs false
set_option linter.unusedSectionVars false
/-
  Contracts of the kit's library (Calls, over the whole world) as contracts of the evaluator: no blocks are lent, new blocks lie behind the heap.
-/
namespace Go.Ev
open Go
variable [Glob]
structure Grows (w w' : World) : Prop where
  os : w'.os = w.os
  tape : w'.tape = w.tape
  output : w'.output = w.output
  size : w.heap.size ≤ w'.heap.size
  blk : ∀ b, b < w.heap.size → w'.heap[b]? = w.heap[b]?
  shape : ∀ b, b < w.heap.size → w'.shape? b = w.shape? b
theorem Grows.refl (w : World) : Grows w w := ⟨rfl, rfl, rfl, Nat.le_refl _, fun _ _ => rfl, fun _ _ => rfl⟩
theorem Grows.trans {w w' w'' : World} (h : Grows w w') (k : Grows w' w'') : Grows w w'' :=
  ⟨k.os.trans h.os, k.tape.trans h.tape, k.output.trans h.output, Nat.le_trans h.size k.size, fun b hb => (k.blk b (Nat.lt_of_lt_of_le hb h.size)).trans (h.blk b hb), fun b hb => (k.shape b (Nat.lt_of_lt_of_le hb h.size)).trans (h.shape b hb)⟩
theorem Grows.drewN (w : World) (n : Nat) : Grows w (w.drewN n) := ⟨rfl, rfl, rfl, Nat.le_refl _, fun _ _ => rfl, fun _ _ => rfl⟩
theorem Grows.grow (w : World) (os : Array Obj) : Grows w (Go.Sort.grow w os) := by
  refine ⟨rfl, rfl, rfl, ?_, fun b hb => ?_, fun b hb => ?_⟩
  · show w.heap.size ≤ (w.heap ++ os).size
    rw [Array.size_append]; omega
  · show (w.heap ++ os)[b]? = _
    rw [Array.getElem?_append_left hb]
  · show (match (w.heap ++ os)[b]? with | _ => _) = _
    unfold World.shape?
    show _ = _
    have : (Go.Sort.grow w os).heap[b]? = w.heap[b]? := by
      show (w.heap ++ os)[b]? = _
      rw [Array.getElem?_append_left hb]
    first | rw [this] | simp [this]
theorem SpecOK.lib {P : Program} {f : FuncId} {S : Spec} (hb : HasBody P f)
    (h : ∀ args σ K, S args σ K → σ = [] ∧ ∀ (m : Nat → Prop) (vals : List Value) (w : World), GlobOK m w → All2 (Den w m []) args vals →
      Calls P f vals.toArray w fun e w' => ∃ v a, e = .returned v ∧ K a [] ∧ Grows w w' ∧ Den w' m [] a v) : SpecOK P f S := by
  refine ⟨hb, fun args σ K hK F ρ vals w H hF ha => ?_⟩
  obtain ⟨rfl, hS⟩ := h args σ K hK
  have hρ : ρ = [] := List.length_eq_zero_iff.1 H.len
  subst hρ
  refine (hS (Mut F [] []) vals w H.glob ha).mono ?_
  rintro e w' ⟨v, a, h1, h2, g, hd⟩
  refine ⟨v, a, [], [], h1, h2, ?_, ⟨g.size, fun b hb _ => g.blk b hb, fun _ _ h => h, g.shape⟩, hd⟩
  exact { heap := ⟨rfl, fun id b g n h => by simp at h, fun id b g n k h => by simp at h, fun i j b b' g g' n n' k h => by simp at h, H.glob.keep ⟨g.size, fun b hb _ => g.blk b hb, fun _ _ h => h, g.shape⟩⟩,
          pre := ⟨[], rfl⟩, os := g.os, tape := g.tape, output := g.output, size := g.size, blk := fun b hb _ => g.blk b hb, shape := g.shape, fresh := fun g hg => (lmut_nil hg).elim, foreign := fun b hb => Nat.lt_of_lt_of_le (hF b hb).1 g.size, apart := fun g hg => (lmut_nil hg).elim }
theorem Grows.of_heap {w w' : World} (h1 : w'.os = w.os) (h2 : w'.tape = w.tape) (h3 : w'.output = w.output) (h4 : w.heap.size ≤ w'.heap.size) (h5 : ∀ b, b < w.heap.size → w'.heap[b]? = w.heap[b]?) : Grows w w' := by
  refine ⟨h1, h2, h3, h4, h5, fun b hb => ?_⟩
  unfold World.shape?
  rw [h5 b hb]
theorem Grows.of_below {w w' : World} (h : RowKit.Below w.heap.size w w') : Grows w w' := Grows.of_heap h.os h.tape h.output h.size h.block
theorem SpecOK.lib2 {P : Program} {f : FuncId} {S : Spec} (hb : HasBody P f)
    (h : ∀ args σ K, S args σ K → σ = [] ∧ ∀ (m : Nat → Prop) (vals : List Value) (w : World), GlobOK m w → (∀ b, m b → b < w.heap.size) → All2 (Den w m []) args vals →
      Calls P f vals.toArray w fun e w' => ∃ v a, e = .returned v ∧ K a [] ∧ Grows w w' ∧ Den w' m [] a v) : SpecOK P f S := by
  refine ⟨hb, fun args σ K hK F ρ vals w H hF ha => ?_⟩
  obtain ⟨rfl, hS⟩ := h args σ K hK
  have hρ : ρ = [] := List.length_eq_zero_iff.1 H.len
  subst hρ
  refine (hS (Mut F [] []) vals w H.glob (fun b hb => hb.elim (fun h => (hF b h).1) fun h => (lmut_nil h).elim) ha).mono ?_
  rintro e w' ⟨v, a, h1, h2, g, hd⟩
  refine ⟨v, a, [], [], h1, h2, ?_, ⟨g.size, fun b hb _ => g.blk b hb, fun _ _ h => h, g.shape⟩, hd⟩
  exact { heap := ⟨rfl, fun id b g n h => by simp at h, fun id b g n k h => by simp at h, fun i j b b' g g' n n' k h => by simp at h, H.glob.keep ⟨g.size, fun b hb _ => g.blk b hb, fun _ _ h => h, g.shape⟩⟩,
          pre := ⟨[], rfl⟩, os := g.os, tape := g.tape, output := g.output, size := g.size, blk := fun b hb _ => g.blk b hb, shape := g.shape, fresh := fun g hg => (lmut_nil hg).elim, foreign := fun b hb => Nat.lt_of_lt_of_le (hF b hb).1 g.size, apart := fun g hg => (lmut_nil hg).elim }
end Go.Ev
