/-
  The closed facts of the row of TopListenExact, one by one.
-/
import Derived.Handed
import Derived.SevenTiedAt
import Derived.Test.YtiflkochjfiegaaDoorTie
import Derived.Test.YtiflkochjfiegaaDoorCards
import Derived.KernelRfl
set_option linter.unusedVariables false
set_option linter.unusedSimpArgs false
set_option linter.unusedSectionVars false
namespace Go.Proofs.YtiflkochjfiegaaDoor
open Go Go.ChangeShapes Go.WideShapes

theorem topListenExact_named : Tryd.pinned.checked.prog.funcNamed Rows.topListenExactRow.func = some 15 := by kernel_rfl
theorem topListenExact_closed : joinedFacts Tryd.pinned.checked.prog 15 Tryd.f15 Rows.topListenExactSpec Rows.topListenExactRow = true := by kernel_rfl
theorem topListenExact_inst : Tryd.f15.isInstance Tryd.pinned.checked.prog Rows.topListenExactRow.origin Rows.topListenExactRow.targs := of_decide_eq_true (by kernel_rfl)
theorem topListenExact_wrap : Tryd.f15.isWrapper Tryd.pinned.checked.prog Rows.topListenExactRow.wrapper Rows.topListenExactRow.mainSum := by unfold Func.isWrapper; first | (rw [if_pos (by decide +kernel)]; kernel_rfl) | (rw [if_neg (by decide +kernel)]; exact ⟨rfl, rfl⟩)
theorem topListenExact_wf : Rows.topListenExactRow.wfByText (OpenSpec.ofChange Rows.topListenExactSpec) = true := by kernel_rfl
theorem topListenExact_main : Tryd.pinned.checked.prog.mainIs = some (true, "c73636dd90bb1235d6fec1f6f02343f1d38ce27153c58d0577484aa9e21c5f63".toList) := by kernel_rfl
theorem topListenExact_goes : false = Rows.topListenExactRow.goesBy Tryd.pinned.checked.prog := by kernel_rfl
theorem topListenExact_looks : false = Tryd.pinned.checked.prog.looks [] := by kernel_rfl
theorem topListenExact_plain : (Tryd.f15.params.toList.all fun u => !Tryd.prog.wantsStandIn u) = true := by kernel_rfl
end Go.Proofs.YtiflkochjfiegaaDoor
