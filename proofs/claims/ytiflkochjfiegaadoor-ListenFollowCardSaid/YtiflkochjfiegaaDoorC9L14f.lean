/-
  The closed facts of the row of ListenFollow, one by one.
-/
import Derived.Handed
import Derived.SevenTiedAt
import Derived.Test.YtiflkochjfiegaaDoorTie
import Derived.Test.YtiflkochjfiegaaDoorCards
import Derived.KernelRfl
set_option linter.unusedVariables false
set_option linter.unusedSimpArgs false
set_option linter.unusedSectionVars false
namespace Go.Proofs.YtiflkochjfiegaaDoor
open Go Go.ChangeShapes Go.WideShapes

theorem listenFollow_named : Tryd.pinned.checked.prog.funcNamed Rows.listenFollowRow.func = some 14 := by kernel_rfl
theorem listenFollow_closed : joinedFacts Tryd.pinned.checked.prog 14 Tryd.f14 Rows.listenFollowSpec Rows.listenFollowRow = true := by kernel_rfl
theorem listenFollow_inst : Tryd.f14.isInstance Tryd.pinned.checked.prog Rows.listenFollowRow.origin Rows.listenFollowRow.targs := of_decide_eq_true (by kernel_rfl)
theorem listenFollow_wrap : Tryd.f14.isWrapper Tryd.pinned.checked.prog Rows.listenFollowRow.wrapper Rows.listenFollowRow.mainSum := by unfold Func.isWrapper; first | (rw [if_pos (by decide +kernel)]; kernel_rfl) | (rw [if_neg (by decide +kernel)]; exact ⟨rfl, rfl⟩)
theorem listenFollow_wf : Rows.listenFollowRow.wfByText (OpenSpec.ofChange Rows.listenFollowSpec) = true := by kernel_rfl
theorem listenFollow_main : Tryd.pinned.checked.prog.mainIs = some (true, "c73636dd90bb1235d6fec1f6f02343f1d38ce27153c58d0577484aa9e21c5f63".toList) := by kernel_rfl
theorem listenFollow_goes : false = Rows.listenFollowRow.goesBy Tryd.pinned.checked.prog := by kernel_rfl
theorem listenFollow_looks : false = Tryd.pinned.checked.prog.looks [] := by kernel_rfl
theorem listenFollow_plain : (Tryd.f14.params.toList.all fun u => !Tryd.prog.wantsStandIn u) = true := by kernel_rfl
end Go.Proofs.YtiflkochjfiegaaDoor
