/-
  The closed facts of the row of ListenBlind, one by one.
-/
import Derived.Handed
import Derived.SevenTiedAt
import Derived.Test.YtiflkochjfiegaaDoorTie
import Derived.Test.YtiflkochjfiegaaDoorCards
import Derived.KernelRfl
set_option linter.unusedVariables false
set_option linter.unusedSimpArgs false
set_option linter.unusedSectionVars false
namespace Go.Proofs.YtiflkochjfiegaaDoor
open Go Go.ChangeShapes Go.WideShapes

theorem listenBlind_named : Tryd.pinned.checked.prog.funcNamed Rows.listenBlindRow.func = some 17 := by kernel_rfl
theorem listenBlind_closed : joinedFacts Tryd.pinned.checked.prog 17 Tryd.f17 Rows.listenBlindSpec Rows.listenBlindRow = true := by kernel_rfl
theorem listenBlind_inst : Tryd.f17.isInstance Tryd.pinned.checked.prog Rows.listenBlindRow.origin Rows.listenBlindRow.targs := of_decide_eq_true (by kernel_rfl)
theorem listenBlind_wrap : Tryd.f17.isWrapper Tryd.pinned.checked.prog Rows.listenBlindRow.wrapper Rows.listenBlindRow.mainSum := by unfold Func.isWrapper; first | (rw [if_pos (by decide +kernel)]; kernel_rfl) | (rw [if_neg (by decide +kernel)]; exact ⟨rfl, rfl⟩)
theorem listenBlind_wf : Rows.listenBlindRow.wfByText (OpenSpec.ofChange Rows.listenBlindSpec) = true := by kernel_rfl
theorem listenBlind_main : Tryd.pinned.checked.prog.mainIs = some (true, "c73636dd90bb1235d6fec1f6f02343f1d38ce27153c58d0577484aa9e21c5f63".toList) := by kernel_rfl
theorem listenBlind_goes : false = Rows.listenBlindRow.goesBy Tryd.pinned.checked.prog := by kernel_rfl
theorem listenBlind_looks : false = Tryd.pinned.checked.prog.looks [] := by kernel_rfl
theorem listenBlind_plain : (Tryd.f17.params.toList.all fun u => !Tryd.prog.wantsStandIn u) = true := by kernel_rfl
end Go.Proofs.YtiflkochjfiegaaDoor
