/-
  The closed facts of the row of ListenLoudness, one by one.
-/
import Derived.Handed
import Derived.SevenTiedAt
import Derived.Test.YtiflkochjfiegaaDoorTie
import Derived.Test.YtiflkochjfiegaaDoorCards
import Derived.KernelRfl
set_option linter.unusedVariables false
set_option linter.unusedSimpArgs false
set_option linter.unusedSectionVars false
namespace Go.Proofs.YtiflkochjfiegaaDoor
open Go Go.ChangeShapes Go.WideShapes

theorem listenLoudness_named : Tryd.pinned.checked.prog.funcNamed Rows.listenLoudnessRow.func = some 3 := by kernel_rfl
theorem listenLoudness_closed : joinedFacts Tryd.pinned.checked.prog 3 Tryd.f3 Rows.listenLoudnessSpec Rows.listenLoudnessRow = true := by kernel_rfl
theorem listenLoudness_inst : Tryd.f3.isInstance Tryd.pinned.checked.prog Rows.listenLoudnessRow.origin Rows.listenLoudnessRow.targs := of_decide_eq_true (by kernel_rfl)
theorem listenLoudness_wrap : Tryd.f3.isWrapper Tryd.pinned.checked.prog Rows.listenLoudnessRow.wrapper Rows.listenLoudnessRow.mainSum := by unfold Func.isWrapper; first | (rw [if_pos (by decide +kernel)]; kernel_rfl) | (rw [if_neg (by decide +kernel)]; exact ⟨rfl, rfl⟩)
theorem listenLoudness_wf : Rows.listenLoudnessRow.wfByText (OpenSpec.ofChange Rows.listenLoudnessSpec) = true := by kernel_rfl
theorem listenLoudness_main : Tryd.pinned.checked.prog.mainIs = some (true, "c73636dd90bb1235d6fec1f6f02343f1d38ce27153c58d0577484aa9e21c5f63".toList) := by kernel_rfl
theorem listenLoudness_goes : false = Rows.listenLoudnessRow.goesBy Tryd.pinned.checked.prog := by kernel_rfl
theorem listenLoudness_looks : false = Tryd.pinned.checked.prog.looks [] := by kernel_rfl
theorem listenLoudness_plain : (Tryd.f3.params.toList.all fun u => !Tryd.prog.wantsStandIn u) = true := by kernel_rfl
end Go.Proofs.YtiflkochjfiegaaDoor
