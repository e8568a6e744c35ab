/-
  The closed facts of the row of ListenTests, one by one.
-/
import Derived.Handed
import Derived.SevenTiedAt
import Derived.Test.YtiflkochjfiegaaDoorTie
import Derived.Test.YtiflkochjfiegaaDoorCards
import Derived.KernelRfl
set_option linter.unusedVariables false
set_option linter.unusedSimpArgs false
set_option linter.unusedSectionVars false
namespace Go.Proofs.YtiflkochjfiegaaDoor
open Go Go.ChangeShapes Go.WideShapes

theorem listenTests_named : Tryd.pinned.checked.prog.funcNamed Rows.listenTestsRow.func = some 11 := by kernel_rfl
theorem listenTests_closed : joinedFacts Tryd.pinned.checked.prog 11 Tryd.f11 Rows.listenTestsSpec Rows.listenTestsRow = true := by kernel_rfl
theorem listenTests_inst : Tryd.f11.isInstance Tryd.pinned.checked.prog Rows.listenTestsRow.origin Rows.listenTestsRow.targs := of_decide_eq_true (by kernel_rfl)
theorem listenTests_wrap : Tryd.f11.isWrapper Tryd.pinned.checked.prog Rows.listenTestsRow.wrapper Rows.listenTestsRow.mainSum := by unfold Func.isWrapper; first | (rw [if_pos (by decide +kernel)]; kernel_rfl) | (rw [if_neg (by decide +kernel)]; exact ⟨rfl, rfl⟩)
theorem listenTests_wf : Rows.listenTestsRow.wfByText (OpenSpec.ofChange Rows.listenTestsSpec) = true := by kernel_rfl
theorem listenTests_main : Tryd.pinned.checked.prog.mainIs = some (true, "c73636dd90bb1235d6fec1f6f02343f1d38ce27153c58d0577484aa9e21c5f63".toList) := by kernel_rfl
theorem listenTests_goes : false = Rows.listenTestsRow.goesBy Tryd.pinned.checked.prog := by kernel_rfl
theorem listenTests_looks : false = Tryd.pinned.checked.prog.looks [] := by kernel_rfl
theorem listenTests_plain : (Tryd.f11.params.toList.all fun u => !Tryd.prog.wantsStandIn u) = true := by kernel_rfl
end Go.Proofs.YtiflkochjfiegaaDoor
