/-
  The closed facts of the row of ListenRankings, one by one.
-/
import Derived.Handed
import Derived.SevenTiedAt
import Derived.Test.YtiflkochjfiegaaDoorTie
import Derived.Test.YtiflkochjfiegaaDoorCards
import Derived.KernelRfl
set_option linter.unusedVariables false
set_option linter.unusedSimpArgs false
set_option linter.unusedSectionVars false
namespace Go.Proofs.YtiflkochjfiegaaDoor
open Go Go.ChangeShapes Go.WideShapes

theorem listenRankings_named : Tryd.pinned.checked.prog.funcNamed Rows.listenRankingsRow.func = some 8 := by kernel_rfl
theorem listenRankings_closed : joinedFacts Tryd.pinned.checked.prog 8 Tryd.f8 Rows.listenRankingsSpec Rows.listenRankingsRow = true := by kernel_rfl
theorem listenRankings_inst : Tryd.f8.isInstance Tryd.pinned.checked.prog Rows.listenRankingsRow.origin Rows.listenRankingsRow.targs := of_decide_eq_true (by kernel_rfl)
theorem listenRankings_wrap : Tryd.f8.isWrapper Tryd.pinned.checked.prog Rows.listenRankingsRow.wrapper Rows.listenRankingsRow.mainSum := by unfold Func.isWrapper; first | (rw [if_pos (by decide +kernel)]; kernel_rfl) | (rw [if_neg (by decide +kernel)]; exact ⟨rfl, rfl⟩)
theorem listenRankings_wf : Rows.listenRankingsRow.wfByText (OpenSpec.ofChange Rows.listenRankingsSpec) = true := by kernel_rfl
theorem listenRankings_main : Tryd.pinned.checked.prog.mainIs = some (true, "c73636dd90bb1235d6fec1f6f02343f1d38ce27153c58d0577484aa9e21c5f63".toList) := by kernel_rfl
theorem listenRankings_goes : false = Rows.listenRankingsRow.goesBy Tryd.pinned.checked.prog := by kernel_rfl
theorem listenRankings_looks : false = Tryd.pinned.checked.prog.looks [] := by kernel_rfl
theorem listenRankings_plain : (Tryd.f8.params.toList.all fun u => !Tryd.prog.wantsStandIn u) = true := by kernel_rfl
end Go.Proofs.YtiflkochjfiegaaDoor
