/-
  Part of the proof of a law.
-/
import Derived.Handed
import Derived.SevenTiedAt
import Derived.Test.YtiflkochjfiegaaDoorTie
import Derived.Test.YtiflkochjfiegaaDoorCards
import Derived.KernelRfl
set_option linter.unusedVariables false
set_option linter.unusedSimpArgs false
set_option linter.unusedSectionVars false
/-
  The closed facts of the row of ListenStrings, one by one.
-/
namespace Go.Proofs.YtiflkochjfiegaaDoor
open Go Go.ChangeShapes Go.WideShapes
theorem listenStrings_named : Tryd.pinned.checked.prog.funcNamed Rows.listenStringsRow.func = some 18 := by kernel_rfl
theorem listenStrings_closed : joinedFacts Tryd.pinned.checked.prog 18 Tryd.f18 Rows.listenStringsSpec Rows.listenStringsRow = true := by kernel_rfl
theorem listenStrings_inst : Tryd.f18.isInstance Tryd.pinned.checked.prog Rows.listenStringsRow.origin Rows.listenStringsRow.targs := of_decide_eq_true (by kernel_rfl)
theorem listenStrings_wrap : Tryd.f18.isWrapper Tryd.pinned.checked.prog Rows.listenStringsRow.wrapper Rows.listenStringsRow.mainSum := by unfold Func.isWrapper; first | (rw [if_pos (by decide +kernel)]; kernel_rfl) | (rw [if_neg (by decide +kernel)]; exact ⟨rfl, rfl⟩)
theorem listenStrings_wf : Rows.listenStringsRow.wfByText (OpenSpec.ofChange Rows.listenStringsSpec) = true := by kernel_rfl
theorem listenStrings_main : Tryd.pinned.checked.prog.mainIs = some (true, "c73636dd90bb1235d6fec1f6f02343f1d38ce27153c58d0577484aa9e21c5f63".toList) := by kernel_rfl
theorem listenStrings_goes : false = Rows.listenStringsRow.goesBy Tryd.pinned.checked.prog := by kernel_rfl
theorem listenStrings_looks : false = Tryd.pinned.checked.prog.looks [] := by kernel_rfl
theorem listenStrings_plain : (Tryd.f18.params.toList.all fun u => !Tryd.prog.wantsStandIn u) = true := by kernel_rfl
end Go.Proofs.YtiflkochjfiegaaDoor
