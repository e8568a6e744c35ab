/-
  The closed facts of the row of ListenCounted, one by one.
-/
import Derived.Handed
import Derived.SevenTiedAt
import Derived.Test.YtiflkochjfiegaaDoorTie
import Derived.Test.YtiflkochjfiegaaDoorCards
import Derived.KernelRfl
set_option linter.unusedVariables false
set_option linter.unusedSimpArgs false
set_option linter.unusedSectionVars false
namespace Go.Proofs.YtiflkochjfiegaaDoor
open Go Go.ChangeShapes Go.WideShapes

theorem listenCounted_named : Tryd.pinned.checked.prog.funcNamed Rows.listenCountedRow.func = some 12 := by kernel_rfl
theorem listenCounted_closed : joinedFacts Tryd.pinned.checked.prog 12 Tryd.f12 Rows.listenCountedSpec Rows.listenCountedRow = true := by kernel_rfl
theorem listenCounted_inst : Tryd.f12.isInstance Tryd.pinned.checked.prog Rows.listenCountedRow.origin Rows.listenCountedRow.targs := of_decide_eq_true (by kernel_rfl)
theorem listenCounted_wrap : Tryd.f12.isWrapper Tryd.pinned.checked.prog Rows.listenCountedRow.wrapper Rows.listenCountedRow.mainSum := by unfold Func.isWrapper; first | (rw [if_pos (by decide +kernel)]; kernel_rfl) | (rw [if_neg (by decide +kernel)]; exact ⟨rfl, rfl⟩)
theorem listenCounted_wf : Rows.listenCountedRow.wfByText (OpenSpec.ofChange Rows.listenCountedSpec) = true := by kernel_rfl
theorem listenCounted_main : Tryd.pinned.checked.prog.mainIs = some (true, "c73636dd90bb1235d6fec1f6f02343f1d38ce27153c58d0577484aa9e21c5f63".toList) := by kernel_rfl
theorem listenCounted_goes : false = Rows.listenCountedRow.goesBy Tryd.pinned.checked.prog := by kernel_rfl
theorem listenCounted_looks : false = Tryd.pinned.checked.prog.looks [] := by kernel_rfl
theorem listenCounted_plain : (Tryd.f12.params.toList.all fun u => !Tryd.prog.wantsStandIn u) = true := by kernel_rfl
end Go.Proofs.YtiflkochjfiegaaDoor
