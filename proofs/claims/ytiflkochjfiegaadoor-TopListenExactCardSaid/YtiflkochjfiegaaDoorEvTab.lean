/-
  Part of the proof of a law.
-/
import Derived.Test.YtiflkochjfiegaaDoorEvFrz
import Derived.Sort.Grow
import Derived.Deep.Draws
import Derived.Lib.LaidTab
set_option linter.unusedVariables false
set_option linter.unusedSimpArgs false
set_option linter.unusedSectionVars false
/-
  Contracts of the kit's library (Calls, over the whole world) as contracts of the evaluator: no blocks are lent, new blocks lie behind the heap.
-/
namespace Go.Ev
open Go
variable [Glob]
structure Grows (w w' : World) : Prop where
  os : w'.os = w.os
  tape : w'.tape = w.tape
  output : w'.output = w.output
  size : w.heap.size ≤ w'.heap.size
  blk : ∀ b, b < w.heap.size → w'.heap[b]? = w.heap[b]?
  shape : ∀ b, b < w.heap.size → w'.shape? b = w.shape? b
theorem Grows.refl (w : World) : Grows w w := ⟨rfl, rfl, rfl, Nat.le_refl _, fun _ _ => rfl, fun _ _ => rfl⟩
theorem Grows.trans {w w' w'' : World} (h : Grows w w') (k : Grows w' w'') : Grows w w'' :=
  ⟨k.os.trans h.os, k.tape.trans h.tape, k.output.trans h.output, Nat.le_trans h.size k.size, fun b hb => (k.blk b (Nat.lt_of_lt_of_le hb h.size)).trans (h.blk b hb), fun b hb => (k.shape b (Nat.lt_of_lt_of_le hb h.size)).trans (h.shape b hb)⟩
theorem Grows.drewN (w : World) (n : Nat) : Grows w (w.drewN n) := ⟨rfl, rfl, rfl, Nat.le_refl _, fun _ _ => rfl, fun _ _ => rfl⟩
theorem Grows.grow (w : World) (os : Array Obj) : Grows w (Go.Sort.grow w os) := by
  refine ⟨rfl, rfl, rfl, ?_, fun b hb => ?_, fun b hb => ?_⟩
  · show w.heap.size ≤ (w.heap ++ os).size
    rw [Array.size_append]; omega
  · show (w.heap ++ os)[b]? = _
    rw [Array.getElem?_append_left hb]
  · show (match (w.heap ++ os)[b]? with | _ => _) = _
    unfold World.shape?
    show _ = _
    have : (Go.Sort.grow w os).heap[b]? = w.heap[b]? := by
      show (w.heap ++ os)[b]? = _
      rw [Array.getElem?_append_left hb]
    first | rw [this] | simp [this]
theorem SpecOK.lib {P : Program} {f : FuncId} {S : Spec} (hb : HasBody P f)
    (h : ∀ args σ K, S args σ K → σ = [] ∧ ∀ (m : Nat → Prop) (vals : List Value) (w : World), GlobOK m w → All2 (Den w m []) args vals →
      Calls P f vals.toArray w fun e w' => ∃ v a, e = .returned v ∧ K a [] ∧ Grows w w' ∧ Den w' m [] a v) : SpecOK P f S := by
  refine ⟨hb, fun args σ K hK F ρ vals w H hF ha => ?_⟩
  obtain ⟨rfl, hS⟩ := h args σ K hK
  have hρ : ρ = [] := List.length_eq_zero_iff.1 H.len
  subst hρ
  refine (hS (Mut F [] []) vals w H.glob ha).mono ?_
  rintro e w' ⟨v, a, h1, h2, g, hd⟩
  refine ⟨v, a, [], [], h1, h2, ?_, ⟨g.size, fun b hb _ => g.blk b hb, fun _ _ h => h, g.shape⟩, hd⟩
  exact { heap := ⟨rfl, fun id b g n h => by simp at h, fun id b g n k h => by simp at h, fun i j b b' g g' n n' k h => by simp at h, H.glob.keep ⟨g.size, fun b hb _ => g.blk b hb, fun _ _ h => h, g.shape⟩⟩,
          pre := ⟨[], rfl⟩, os := g.os, tape := g.tape, output := g.output, size := g.size, blk := fun b hb _ => g.blk b hb, shape := g.shape, fresh := fun g hg => (lmut_nil hg).elim, foreign := fun b hb => Nat.lt_of_lt_of_le (hF b hb).1 g.size, apart := fun g hg => (lmut_nil hg).elim }
end Go.Ev

/-
  Tables of integers and single integers among the package-level variables: from what is known of them to the kit's words.
-/
namespace Go.Ev
open Go
variable [Glob]
theorem cell_of_cells {w : World} {g j : Nat} {arr : Array Value} {t : TypeId} {fr : Nat × Nat} (h : w.heap[g]? = some (.cells arr t fr)) : w.cell? ⟨g, j, none⟩ = arr[j]? := by
  unfold World.cell?
  rw [h]
  show (if (Addr.mk g j none).spot.isSome = true then none else arr[j]?) = arr[j]?
  rw [if_neg (by simp)]
theorem GlobOK.tabIs {P : Program} {m : Nat → Prop} {w : World} {g : Nat} {name : String} {k : IntKind} {zs : List Int} (h : GlobOK m w) (hl : globOf Glob.tab g = some (zs.map (SV.int k))) (h0 : zs ≠ []) (hg : P.globalNamed name = some g) : Lib.TabIs P w name k zs := by
  obtain ⟨_, _, h3⟩ := h g _ hl
  obtain ⟨z0, r, rfl⟩ : ∃ z0 r, zs = z0 :: r := by
    cases zs with
    | nil => exact absurd rfl h0
    | cons a b => exact ⟨a, b, rfl⟩
  obtain ⟨_, arr, t, fr, ha, hs⟩ := h3 0 (.int k z0) rfl
  unfold Lib.TabIs World.var?
  rw [hg]
  show (match w.heap[g]? with | some (.cells cs _ _) => some cs | _ => none) = _
  rw [ha]
  show some arr = _
  congr 1
  apply Array.ext
  · rw [hs]; simp
  · intro i h1 h2
    have hi : i < (z0 :: r).length := by rw [hs] at h1; simpa using h1
    obtain ⟨⟨u, hu, hd⟩, _⟩ := h3 i (.int k (z0 :: r)[i]) (by rw [List.getElem?_map, List.getElem?_eq_getElem hi]; rfl)
    rw [cell_of_cells ha] at hu
    rw [Array.getElem?_eq_getElem h1] at hu
    have e1 := Option.some.inj hu
    have e2 : u = .int k (z0 :: r)[i] := hd
    rw [e1, e2, List.getElem_toArray, List.getElem_map]
theorem GlobOK.someInt {m : Nat → Prop} {w : World} {g : Nat} (h : GlobOK m w) (hl : globOf Glob.tab g = some [SV.any]) : ∃ n, w.cell? ⟨g, 0, none⟩ = some (.int .i64 n) := by
  obtain ⟨_, _, h3⟩ := h g _ hl
  obtain ⟨⟨u, hu, n, rfl⟩, _⟩ := h3 0 .any rfl
  exact ⟨n, hu⟩
end Go.Ev
