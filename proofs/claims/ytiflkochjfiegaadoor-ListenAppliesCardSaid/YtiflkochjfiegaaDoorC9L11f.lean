/-
  The closed facts of the row of ListenApplies, one by one.
-/
import Derived.Handed
import Derived.SevenTiedAt
import Derived.Test.YtiflkochjfiegaaDoorTie
import Derived.Test.YtiflkochjfiegaaDoorCards
import Derived.KernelRfl
set_option linter.unusedVariables false
set_option linter.unusedSimpArgs false
set_option linter.unusedSectionVars false
namespace Go.Proofs.YtiflkochjfiegaaDoor
open Go Go.ChangeShapes Go.WideShapes

theorem listenApplies_named : Tryd.pinned.checked.prog.funcNamed Rows.listenAppliesRow.func = some 16 := by kernel_rfl
theorem listenApplies_closed : joinedFacts Tryd.pinned.checked.prog 16 Tryd.f16 Rows.listenAppliesSpec Rows.listenAppliesRow = true := by kernel_rfl
theorem listenApplies_inst : Tryd.f16.isInstance Tryd.pinned.checked.prog Rows.listenAppliesRow.origin Rows.listenAppliesRow.targs := of_decide_eq_true (by kernel_rfl)
theorem listenApplies_wrap : Tryd.f16.isWrapper Tryd.pinned.checked.prog Rows.listenAppliesRow.wrapper Rows.listenAppliesRow.mainSum := by unfold Func.isWrapper; first | (rw [if_pos (by decide +kernel)]; kernel_rfl) | (rw [if_neg (by decide +kernel)]; exact ⟨rfl, rfl⟩)
theorem listenApplies_wf : Rows.listenAppliesRow.wfByText (OpenSpec.ofChange Rows.listenAppliesSpec) = true := by kernel_rfl
theorem listenApplies_main : Tryd.pinned.checked.prog.mainIs = some (true, "c73636dd90bb1235d6fec1f6f02343f1d38ce27153c58d0577484aa9e21c5f63".toList) := by kernel_rfl
theorem listenApplies_goes : false = Rows.listenAppliesRow.goesBy Tryd.pinned.checked.prog := by kernel_rfl
theorem listenApplies_looks : false = Tryd.pinned.checked.prog.looks [] := by kernel_rfl
theorem listenApplies_plain : (Tryd.f16.params.toList.all fun u => !Tryd.prog.wantsStandIn u) = true := by kernel_rfl
end Go.Proofs.YtiflkochjfiegaaDoor
