/-
  Part of the proof of a law.
-/
import Derived.Handed
import Derived.SevenTiedAt
import Derived.Test.YtmailpnpjcpodaaGreatDoorTie
import Derived.Test.YtmailpnpjcpodaaGreatDoorCards
import Derived.KernelRfl
set_option linter.unusedVariables false
set_option linter.unusedSimpArgs false
set_option linter.unusedSectionVars false
/-
  The closed facts of the row of TransferCarrierStrings, one by one.
-/
namespace Go.Proofs.YtmailpnpjcpodaaGreatDoor
open Go Go.ChangeShapes Go.WideShapes
theorem transferCarrierStrings_named : Tryz.pinned.checked.prog.funcNamed Rows.transferCarrierStringsRow.func = some 4 := by kernel_rfl
theorem transferCarrierStrings_closed : joinedFacts Tryz.pinned.checked.prog 4 Tryz.f4 Rows.transferCarrierStringsSpec Rows.transferCarrierStringsRow = true := by kernel_rfl
theorem transferCarrierStrings_inst : Tryz.f4.isInstance Tryz.pinned.checked.prog Rows.transferCarrierStringsRow.origin Rows.transferCarrierStringsRow.targs := of_decide_eq_true (by kernel_rfl)
theorem transferCarrierStrings_wrap : Tryz.f4.isWrapper Tryz.pinned.checked.prog Rows.transferCarrierStringsRow.wrapper Rows.transferCarrierStringsRow.mainSum := by unfold Func.isWrapper; first | (rw [if_pos (by decide +kernel)]; kernel_rfl) | (rw [if_neg (by decide +kernel)]; exact ⟨rfl, rfl⟩)
theorem transferCarrierStrings_wf : Rows.transferCarrierStringsRow.wfByText (OpenSpec.ofChange Rows.transferCarrierStringsSpec) = true := by kernel_rfl
theorem transferCarrierStrings_main : Tryz.pinned.checked.prog.mainIs = some (true, "9bd40e97afd85f91163ea525d99619bd3d4dc301a18e589866391605f4d880fd".toList) := by kernel_rfl
theorem transferCarrierStrings_goes : false = Rows.transferCarrierStringsRow.goesBy Tryz.pinned.checked.prog := by kernel_rfl
theorem transferCarrierStrings_looks : true = Tryz.pinned.checked.prog.looks [] := by kernel_rfl
theorem transferCarrierStrings_plain : (Tryz.f4.params.toList.all fun u => !Tryz.prog.wantsStandIn u) = true := by kernel_rfl
end Go.Proofs.YtmailpnpjcpodaaGreatDoor
