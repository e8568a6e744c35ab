/-
  Part of the proof of a law.
-/
import Derived.Test.YtmailpnpjcpodaaGreatDoorEvLib
import Derived.Lib.LaidTab
set_option linter.unusedVariables false
set_option linter.unusedSimpArgs false
set_option linter.unusedSectionVars false
/-
  Tables of integers and single integers among the package-level variables: from what is known of them to the kit's words.
-/
namespace Go.Ev
open Go
variable [Glob]
theorem cell_of_cells {w : World} {g j : Nat} {arr : Array Value} {t : TypeId} {fr : Nat × Nat} (h : w.heap[g]? = some (.cells arr t fr)) : w.cell? ⟨g, j, none⟩ = arr[j]? := by
  unfold World.cell?
  rw [h]
  show (if (Addr.mk g j none).spot.isSome = true then none else arr[j]?) = arr[j]?
  rw [if_neg (by simp)]
theorem GlobOK.tabIs {P : Program} {m : Nat → Prop} {w : World} {g : Nat} {name : String} {k : IntKind} {zs : List Int} (h : GlobOK m w) (hl : globOf Glob.tab g = some (zs.map (SV.int k))) (h0 : zs ≠ []) (hg : P.globalNamed name = some g) : Lib.TabIs P w name k zs := by
  obtain ⟨_, _, h3⟩ := h g _ hl
  obtain ⟨z0, r, rfl⟩ : ∃ z0 r, zs = z0 :: r := by
    cases zs with
    | nil => exact absurd rfl h0
    | cons a b => exact ⟨a, b, rfl⟩
  obtain ⟨_, arr, t, fr, ha, hs⟩ := h3 0 (.int k z0) rfl
  unfold Lib.TabIs World.var?
  rw [hg]
  show (match w.heap[g]? with | some (.cells cs _ _) => some cs | _ => none) = _
  rw [ha]
  show some arr = _
  congr 1
  apply Array.ext
  · rw [hs]; simp
  · intro i h1 h2
    have hi : i < (z0 :: r).length := by rw [hs] at h1; simpa using h1
    obtain ⟨⟨u, hu, hd⟩, _⟩ := h3 i (.int k (z0 :: r)[i]) (by rw [List.getElem?_map, List.getElem?_eq_getElem hi]; rfl)
    rw [cell_of_cells ha] at hu
    rw [Array.getElem?_eq_getElem h1] at hu
    have e1 := Option.some.inj hu
    have e2 : u = .int k (z0 :: r)[i] := hd
    rw [e1, e2, List.getElem_toArray, List.getElem_map]
theorem GlobOK.someInt {m : Nat → Prop} {w : World} {g : Nat} (h : GlobOK m w) (hl : globOf Glob.tab g = some [SV.any]) : ∃ n, w.cell? ⟨g, 0, none⟩ = some (.int .i64 n) := by
  obtain ⟨_, _, h3⟩ := h g _ hl
  obtain ⟨⟨u, hu, n, rfl⟩, _⟩ := h3 0 .any rfl
  exact ⟨n, hu⟩
end Go.Ev
