/-
  Chapter 9: what the condition on the library's tables, and the world's shape, give: their cells.
-/
import Derived.Test.YtiflkochjfiegaaDoorC9A
import Derived.Test.YtiflkochjfiegaaDoorEvOpen2
import Derived.Test.YtiflkochjfiegaaDoorEvShaped
import Derived.Test.YtiflkochjfiegaaDoorEvTab
import Derived.OpenShut
import Derived.Handed
import Derived.FnData
import Derived.MakeChecks
import Derived.KernelRfl
import Derived.Lib.ItoaNum
set_option linter.unusedVariables false
set_option linter.unusedSimpArgs false
set_option linter.unusedSectionVars false
/-
  Chapter 9: conditions on tables: one cell after the other.
-/
namespace Go.Ev
open Go Go.Proofs Go.RowKit
theorem laid_tail {P : Program} {x : String × DataW Unit} {r : List (String × DataW Unit)} {w : World} (h : laidMet P (x :: r) w) : laidMet P r w := by
  obtain ⟨ps, ⟨g, t, cs, fuel, p, q, hg, ht, hv, hd, hr, rfl⟩, hn, hc⟩ := h
  exact ⟨q, hr, (List.nodup_append.1 hn).2.1, fun b off hb => hc b off (List.mem_append_right _ hb)⟩
theorem var_block {P : Program} {w : World} {name : String} {g : Nat} {cs : Array Value} (hg : P.globalNamed name = some g) (h : w.var? P name = some cs) : ∃ t fr, w.heap[g]? = some (.cells cs t fr) := by
  unfold World.var? at h
  rw [hg] at h
  change (match w.heap[g]? with | some (.cells cs _ _) => some cs | _ => none) = some cs at h
  split at h
  · rename_i c t fr hh
    cases h
    exact ⟨t, fr, hh⟩
  · cases h
theorem all2_tab (k : IntKind) : ∀ zs : List Int, All2 plainDen (zs.map (SV.int k)) (zs.map fun z => Value.int k z)
  | [] => trivial
  | z :: zs => ⟨rfl, all2_tab k zs⟩
theorem glob_block {w : World} {g : Nat} {l : List SV} {arr : Array Value} {t : TypeId} {fr : Nat × Nat} (h : w.heap[g]? = some (.cells arr t fr)) (hl : All2 plainDen l arr.toList) :
    g < w.heap.size ∧ ¬ Mut (fun _ => False) [] [] g ∧ ∀ (j : Nat) (sv : SV), l[j]? = some sv → (∃ u, w.cell? ⟨g, j, none⟩ = some u ∧ plainDen sv u) ∧ ∃ arr t fr, w.heap[g]? = some (.cells arr t fr) ∧ arr.size = l.length := by
  refine ⟨(Array.getElem?_eq_some_iff.1 h).1, ?_, fun j sv hj => ⟨?_, arr, t, fr, h, by rw [hl.length]; simp⟩⟩
  · rintro (h | ⟨id, _, _, _, h, _⟩)
    · exact h
    · simp at h
  · obtain ⟨u, hu, hd⟩ := hl.get hj
    exact ⟨u, by rw [cell_of_cells h]; simpa using hu, hd⟩
theorem glob_int {w : World} {g : Nat} {m : Int} {t : TypeId} {fr : Nat × Nat} (h : w.heap[g]? = some (.cells #[.int .i64 m] t fr)) :
    g < w.heap.size ∧ ¬ Mut (fun _ => False) [] [] g ∧ ∀ (j : Nat) (sv : SV), [SV.any][j]? = some sv → (∃ u, w.cell? ⟨g, j, none⟩ = some u ∧ plainDen sv u) ∧ ∃ arr t fr, w.heap[g]? = some (.cells arr t fr) ∧ arr.size = [SV.any].length :=
  glob_block h ⟨⟨m, rfl⟩, trivial⟩
theorem maxlen_glob {w : World} (hs : w.ShapedOpen Tryd.prog) : ∃ m t fr, w.heap[1]? = some (.cells #[.int .i64 m] t fr) := by
  obtain ⟨m, fr, h⟩ := block_of_shapedOpen_int (P := Tryd.prog) (g := 1) (t := 3) (zero := #[.int .i64 0]) (k := .i64) hs (by decide +kernel) (by kernel_rfl) rfl (by kernel_rfl) (by kernel_rfl) (by kernel_rfl)
  exact ⟨m, 3, fr, h⟩
end Go.Ev

namespace Go.Ev
open Go Go.Proofs Go.RowKit

theorem str_glob {w : World} {a b : String × DataW Unit} (h : laidMet Tryd.prog [a, b, ("internal/strconv.uint64pow10", Lib.tabData .u64 Lib.pow10Tab)] w) (hs : w.ShapedOpen Tryd.prog) :
    GlobOK (Mut (fun _ => False) [] []) w := by
  have h2 := laid_tail (laid_tail h)
  have htab := Lib.tabIs_of_head (g := 2) (t := 219) (e := 210) (n := 20) (by kernel_rfl) (by kernel_rfl) (by kernel_rfl) (by kernel_rfl) (by kernel_rfl) (by kernel_rfl) h2
  obtain ⟨t2, fr2, hb2⟩ := var_block (show Tryd.prog.globalNamed "internal/strconv.uint64pow10" = some 2 by kernel_rfl) htab
  obtain ⟨m, t1, fr1, hb1⟩ := maxlen_glob hs
  have k2 := glob_block hb2 (all2_tab .u64 Lib.pow10Tab)
  intro g l hl
  match g, hl with
  | 0, hl => cases hl
  | 1, hl => cases hl; exact glob_int hb1
  | 2, hl => cases hl; exact k2
  | n + 3, hl => cases hl
end Go.Ev
