/-
  Part of the proof of a law.
-/
import Derived.Handed
import Derived.SevenTiedAt
import Derived.Test.YtmailpnpjcpodaaGreatDoorTie
import Derived.Test.YtmailpnpjcpodaaGreatDoorCards
import Derived.KernelRfl
set_option linter.unusedVariables false
set_option linter.unusedSimpArgs false
set_option linter.unusedSectionVars false
/-
  The closed facts of the row of TransferBlockStrings, one by one.
-/
namespace Go.Proofs.YtmailpnpjcpodaaGreatDoor
open Go Go.ChangeShapes Go.WideShapes
theorem transferBlockStrings_named : Tryz.pinned.checked.prog.funcNamed Rows.transferBlockStringsRow.func = some 3 := by kernel_rfl
theorem transferBlockStrings_closed : joinedFacts Tryz.pinned.checked.prog 3 Tryz.f3 Rows.transferBlockStringsSpec Rows.transferBlockStringsRow = true := by kernel_rfl
theorem transferBlockStrings_inst : Tryz.f3.isInstance Tryz.pinned.checked.prog Rows.transferBlockStringsRow.origin Rows.transferBlockStringsRow.targs := of_decide_eq_true (by kernel_rfl)
theorem transferBlockStrings_wrap : Tryz.f3.isWrapper Tryz.pinned.checked.prog Rows.transferBlockStringsRow.wrapper Rows.transferBlockStringsRow.mainSum := by unfold Func.isWrapper; first | (rw [if_pos (by decide +kernel)]; kernel_rfl) | (rw [if_neg (by decide +kernel)]; exact ⟨rfl, rfl⟩)
theorem transferBlockStrings_wf : Rows.transferBlockStringsRow.wfByText (OpenSpec.ofChange Rows.transferBlockStringsSpec) = true := by kernel_rfl
theorem transferBlockStrings_main : Tryz.pinned.checked.prog.mainIs = some (true, "9bd40e97afd85f91163ea525d99619bd3d4dc301a18e589866391605f4d880fd".toList) := by kernel_rfl
theorem transferBlockStrings_goes : false = Rows.transferBlockStringsRow.goesBy Tryz.pinned.checked.prog := by kernel_rfl
theorem transferBlockStrings_looks : true = Tryz.pinned.checked.prog.looks [] := by kernel_rfl
theorem transferBlockStrings_plain : (Tryz.f3.params.toList.all fun u => !Tryz.prog.wantsStandIn u) = true := by kernel_rfl
end Go.Proofs.YtmailpnpjcpodaaGreatDoor
