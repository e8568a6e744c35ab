/-
  The closed facts of the row of ListenNoBetter, one by one.
-/
import Derived.Handed
import Derived.SevenTiedAt
import Derived.Test.YtiflkochjfiegaaDoorTie
import Derived.Test.YtiflkochjfiegaaDoorCards
import Derived.KernelRfl
set_option linter.unusedVariables false
set_option linter.unusedSimpArgs false
set_option linter.unusedSectionVars false
namespace Go.Proofs.YtiflkochjfiegaaDoor
open Go Go.ChangeShapes Go.WideShapes

theorem listenNoBetter_named : Tryd.pinned.checked.prog.funcNamed Rows.listenNoBetterRow.func = some 9 := by kernel_rfl
theorem listenNoBetter_closed : joinedFacts Tryd.pinned.checked.prog 9 Tryd.f9 Rows.listenNoBetterSpec Rows.listenNoBetterRow = true := by kernel_rfl
theorem listenNoBetter_inst : Tryd.f9.isInstance Tryd.pinned.checked.prog Rows.listenNoBetterRow.origin Rows.listenNoBetterRow.targs := of_decide_eq_true (by kernel_rfl)
theorem listenNoBetter_wrap : Tryd.f9.isWrapper Tryd.pinned.checked.prog Rows.listenNoBetterRow.wrapper Rows.listenNoBetterRow.mainSum := by unfold Func.isWrapper; first | (rw [if_pos (by decide +kernel)]; kernel_rfl) | (rw [if_neg (by decide +kernel)]; exact ⟨rfl, rfl⟩)
theorem listenNoBetter_wf : Rows.listenNoBetterRow.wfByText (OpenSpec.ofChange Rows.listenNoBetterSpec) = true := by kernel_rfl
theorem listenNoBetter_main : Tryd.pinned.checked.prog.mainIs = some (true, "c73636dd90bb1235d6fec1f6f02343f1d38ce27153c58d0577484aa9e21c5f63".toList) := by kernel_rfl
theorem listenNoBetter_goes : false = Rows.listenNoBetterRow.goesBy Tryd.pinned.checked.prog := by kernel_rfl
theorem listenNoBetter_looks : false = Tryd.pinned.checked.prog.looks [] := by kernel_rfl
theorem listenNoBetter_plain : (Tryd.f9.params.toList.all fun u => !Tryd.prog.wantsStandIn u) = true := by kernel_rfl
end Go.Proofs.YtiflkochjfiegaaDoor
