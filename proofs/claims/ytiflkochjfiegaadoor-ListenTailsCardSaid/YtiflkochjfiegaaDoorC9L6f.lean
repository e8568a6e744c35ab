/-
  The closed facts of the row of ListenTails, one by one.
-/
import Derived.Handed
import Derived.SevenTiedAt
import Derived.Test.YtiflkochjfiegaaDoorTie
import Derived.Test.YtiflkochjfiegaaDoorCards
import Derived.KernelRfl
set_option linter.unusedVariables false
set_option linter.unusedSimpArgs false
set_option linter.unusedSectionVars false
namespace Go.Proofs.YtiflkochjfiegaaDoor
open Go Go.ChangeShapes Go.WideShapes

theorem listenTails_named : Tryd.pinned.checked.prog.funcNamed Rows.listenTailsRow.func = some 6 := by kernel_rfl
theorem listenTails_closed : joinedFacts Tryd.pinned.checked.prog 6 Tryd.f6 Rows.listenTailsSpec Rows.listenTailsRow = true := by kernel_rfl
theorem listenTails_inst : Tryd.f6.isInstance Tryd.pinned.checked.prog Rows.listenTailsRow.origin Rows.listenTailsRow.targs := of_decide_eq_true (by kernel_rfl)
theorem listenTails_wrap : Tryd.f6.isWrapper Tryd.pinned.checked.prog Rows.listenTailsRow.wrapper Rows.listenTailsRow.mainSum := by unfold Func.isWrapper; first | (rw [if_pos (by decide +kernel)]; kernel_rfl) | (rw [if_neg (by decide +kernel)]; exact ⟨rfl, rfl⟩)
theorem listenTails_wf : Rows.listenTailsRow.wfByText (OpenSpec.ofChange Rows.listenTailsSpec) = true := by kernel_rfl
theorem listenTails_main : Tryd.pinned.checked.prog.mainIs = some (true, "c73636dd90bb1235d6fec1f6f02343f1d38ce27153c58d0577484aa9e21c5f63".toList) := by kernel_rfl
theorem listenTails_goes : false = Rows.listenTailsRow.goesBy Tryd.pinned.checked.prog := by kernel_rfl
theorem listenTails_looks : false = Tryd.pinned.checked.prog.looks [] := by kernel_rfl
theorem listenTails_plain : (Tryd.f6.params.toList.all fun u => !Tryd.prog.wantsStandIn u) = true := by kernel_rfl
end Go.Proofs.YtiflkochjfiegaaDoor
