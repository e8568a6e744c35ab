/-
  The closed facts of the row of ListenStates, one by one.
-/
import Derived.Handed
import Derived.SevenTiedAt
import Derived.Test.YtiflkochjfiegaaDoorTie
import Derived.Test.YtiflkochjfiegaaDoorCards
import Derived.KernelRfl
set_option linter.unusedVariables false
set_option linter.unusedSimpArgs false
set_option linter.unusedSectionVars false
namespace Go.Proofs.YtiflkochjfiegaaDoor
open Go Go.ChangeShapes Go.WideShapes

theorem listenStates_named : Tryd.pinned.checked.prog.funcNamed Rows.listenStatesRow.func = some 10 := by kernel_rfl
theorem listenStates_closed : joinedFacts Tryd.pinned.checked.prog 10 Tryd.f10 Rows.listenStatesSpec Rows.listenStatesRow = true := by kernel_rfl
theorem listenStates_inst : Tryd.f10.isInstance Tryd.pinned.checked.prog Rows.listenStatesRow.origin Rows.listenStatesRow.targs := of_decide_eq_true (by kernel_rfl)
theorem listenStates_wrap : Tryd.f10.isWrapper Tryd.pinned.checked.prog Rows.listenStatesRow.wrapper Rows.listenStatesRow.mainSum := by unfold Func.isWrapper; first | (rw [if_pos (by decide +kernel)]; kernel_rfl) | (rw [if_neg (by decide +kernel)]; exact ⟨rfl, rfl⟩)
theorem listenStates_wf : Rows.listenStatesRow.wfByText (OpenSpec.ofChange Rows.listenStatesSpec) = true := by kernel_rfl
theorem listenStates_main : Tryd.pinned.checked.prog.mainIs = some (true, "c73636dd90bb1235d6fec1f6f02343f1d38ce27153c58d0577484aa9e21c5f63".toList) := by kernel_rfl
theorem listenStates_goes : false = Rows.listenStatesRow.goesBy Tryd.pinned.checked.prog := by kernel_rfl
theorem listenStates_looks : false = Tryd.pinned.checked.prog.looks [] := by kernel_rfl
theorem listenStates_plain : (Tryd.f10.params.toList.all fun u => !Tryd.prog.wantsStandIn u) = true := by kernel_rfl
end Go.Proofs.YtiflkochjfiegaaDoor
