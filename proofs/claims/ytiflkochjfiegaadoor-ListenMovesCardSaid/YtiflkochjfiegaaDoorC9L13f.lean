/-
  The closed facts of the row of ListenMoves, one by one.
-/
import Derived.Handed
import Derived.SevenTiedAt
import Derived.Test.YtiflkochjfiegaaDoorTie
import Derived.Test.YtiflkochjfiegaaDoorCards
import Derived.KernelRfl
set_option linter.unusedVariables false
set_option linter.unusedSimpArgs false
set_option linter.unusedSectionVars false
namespace Go.Proofs.YtiflkochjfiegaaDoor
open Go Go.ChangeShapes Go.WideShapes

theorem listenMoves_named : Tryd.pinned.checked.prog.funcNamed Rows.listenMovesRow.func = some 13 := by kernel_rfl
theorem listenMoves_closed : joinedFacts Tryd.pinned.checked.prog 13 Tryd.f13 Rows.listenMovesSpec Rows.listenMovesRow = true := by kernel_rfl
theorem listenMoves_inst : Tryd.f13.isInstance Tryd.pinned.checked.prog Rows.listenMovesRow.origin Rows.listenMovesRow.targs := of_decide_eq_true (by kernel_rfl)
theorem listenMoves_wrap : Tryd.f13.isWrapper Tryd.pinned.checked.prog Rows.listenMovesRow.wrapper Rows.listenMovesRow.mainSum := by unfold Func.isWrapper; first | (rw [if_pos (by decide +kernel)]; kernel_rfl) | (rw [if_neg (by decide +kernel)]; exact ⟨rfl, rfl⟩)
theorem listenMoves_wf : Rows.listenMovesRow.wfByText (OpenSpec.ofChange Rows.listenMovesSpec) = true := by kernel_rfl
theorem listenMoves_main : Tryd.pinned.checked.prog.mainIs = some (true, "c73636dd90bb1235d6fec1f6f02343f1d38ce27153c58d0577484aa9e21c5f63".toList) := by kernel_rfl
theorem listenMoves_goes : false = Rows.listenMovesRow.goesBy Tryd.pinned.checked.prog := by kernel_rfl
theorem listenMoves_looks : false = Tryd.pinned.checked.prog.looks [] := by kernel_rfl
theorem listenMoves_plain : (Tryd.f13.params.toList.all fun u => !Tryd.prog.wantsStandIn u) = true := by kernel_rfl
end Go.Proofs.YtiflkochjfiegaaDoor
