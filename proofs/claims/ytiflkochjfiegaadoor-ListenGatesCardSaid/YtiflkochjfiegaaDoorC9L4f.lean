/-
  The closed facts of the row of ListenGates, one by one.
-/
import Derived.Handed
import Derived.SevenTiedAt
import Derived.Test.YtiflkochjfiegaaDoorTie
import Derived.Test.YtiflkochjfiegaaDoorCards
import Derived.KernelRfl
set_option linter.unusedVariables false
set_option linter.unusedSimpArgs false
set_option linter.unusedSectionVars false
namespace Go.Proofs.YtiflkochjfiegaaDoor
open Go Go.ChangeShapes Go.WideShapes

theorem listenGates_named : Tryd.pinned.checked.prog.funcNamed Rows.listenGatesRow.func = some 4 := by kernel_rfl
theorem listenGates_closed : joinedFacts Tryd.pinned.checked.prog 4 Tryd.f4 Rows.listenGatesSpec Rows.listenGatesRow = true := by kernel_rfl
theorem listenGates_inst : Tryd.f4.isInstance Tryd.pinned.checked.prog Rows.listenGatesRow.origin Rows.listenGatesRow.targs := of_decide_eq_true (by kernel_rfl)
theorem listenGates_wrap : Tryd.f4.isWrapper Tryd.pinned.checked.prog Rows.listenGatesRow.wrapper Rows.listenGatesRow.mainSum := by unfold Func.isWrapper; first | (rw [if_pos (by decide +kernel)]; kernel_rfl) | (rw [if_neg (by decide +kernel)]; exact ⟨rfl, rfl⟩)
theorem listenGates_wf : Rows.listenGatesRow.wfByText (OpenSpec.ofChange Rows.listenGatesSpec) = true := by kernel_rfl
theorem listenGates_main : Tryd.pinned.checked.prog.mainIs = some (true, "c73636dd90bb1235d6fec1f6f02343f1d38ce27153c58d0577484aa9e21c5f63".toList) := by kernel_rfl
theorem listenGates_goes : false = Rows.listenGatesRow.goesBy Tryd.pinned.checked.prog := by kernel_rfl
theorem listenGates_looks : false = Tryd.pinned.checked.prog.looks [] := by kernel_rfl
theorem listenGates_plain : (Tryd.f4.params.toList.all fun u => !Tryd.prog.wantsStandIn u) = true := by kernel_rfl
end Go.Proofs.YtiflkochjfiegaaDoor
