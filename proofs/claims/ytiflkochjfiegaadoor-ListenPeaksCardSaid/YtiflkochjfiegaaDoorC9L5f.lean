/-
  The closed facts of the row of ListenPeaks, one by one.
-/
import Derived.Handed
import Derived.SevenTiedAt
import Derived.Test.YtiflkochjfiegaaDoorTie
import Derived.Test.YtiflkochjfiegaaDoorCards
import Derived.KernelRfl
set_option linter.unusedVariables false
set_option linter.unusedSimpArgs false
set_option linter.unusedSectionVars false
namespace Go.Proofs.YtiflkochjfiegaaDoor
open Go Go.ChangeShapes Go.WideShapes

theorem listenPeaks_named : Tryd.pinned.checked.prog.funcNamed Rows.listenPeaksRow.func = some 5 := by kernel_rfl
theorem listenPeaks_closed : joinedFacts Tryd.pinned.checked.prog 5 Tryd.f5 Rows.listenPeaksSpec Rows.listenPeaksRow = true := by kernel_rfl
theorem listenPeaks_inst : Tryd.f5.isInstance Tryd.pinned.checked.prog Rows.listenPeaksRow.origin Rows.listenPeaksRow.targs := of_decide_eq_true (by kernel_rfl)
theorem listenPeaks_wrap : Tryd.f5.isWrapper Tryd.pinned.checked.prog Rows.listenPeaksRow.wrapper Rows.listenPeaksRow.mainSum := by unfold Func.isWrapper; first | (rw [if_pos (by decide +kernel)]; kernel_rfl) | (rw [if_neg (by decide +kernel)]; exact ⟨rfl, rfl⟩)
theorem listenPeaks_wf : Rows.listenPeaksRow.wfByText (OpenSpec.ofChange Rows.listenPeaksSpec) = true := by kernel_rfl
theorem listenPeaks_main : Tryd.pinned.checked.prog.mainIs = some (true, "c73636dd90bb1235d6fec1f6f02343f1d38ce27153c58d0577484aa9e21c5f63".toList) := by kernel_rfl
theorem listenPeaks_goes : false = Rows.listenPeaksRow.goesBy Tryd.pinned.checked.prog := by kernel_rfl
theorem listenPeaks_looks : false = Tryd.pinned.checked.prog.looks [] := by kernel_rfl
theorem listenPeaks_plain : (Tryd.f5.params.toList.all fun u => !Tryd.prog.wantsStandIn u) = true := by kernel_rfl
end Go.Proofs.YtiflkochjfiegaaDoor
