/-
  The closed facts of the row of ListenChances, one by one.
-/
import Derived.Handed
import Derived.SevenTiedAt
import Derived.Test.YtiflkochjfiegaaDoorTie
import Derived.Test.YtiflkochjfiegaaDoorCards
import Derived.KernelRfl
set_option linter.unusedVariables false
set_option linter.unusedSimpArgs false
set_option linter.unusedSectionVars false
namespace Go.Proofs.YtiflkochjfiegaaDoor
open Go Go.ChangeShapes Go.WideShapes

theorem listenChances_named : Tryd.pinned.checked.prog.funcNamed Rows.listenChancesRow.func = some 7 := by kernel_rfl
theorem listenChances_closed : joinedFacts Tryd.pinned.checked.prog 7 Tryd.f7 Rows.listenChancesSpec Rows.listenChancesRow = true := by kernel_rfl
theorem listenChances_inst : Tryd.f7.isInstance Tryd.pinned.checked.prog Rows.listenChancesRow.origin Rows.listenChancesRow.targs := of_decide_eq_true (by kernel_rfl)
theorem listenChances_wrap : Tryd.f7.isWrapper Tryd.pinned.checked.prog Rows.listenChancesRow.wrapper Rows.listenChancesRow.mainSum := by unfold Func.isWrapper; first | (rw [if_pos (by decide +kernel)]; kernel_rfl) | (rw [if_neg (by decide +kernel)]; exact ⟨rfl, rfl⟩)
theorem listenChances_wf : Rows.listenChancesRow.wfByText (OpenSpec.ofChange Rows.listenChancesSpec) = true := by kernel_rfl
theorem listenChances_main : Tryd.pinned.checked.prog.mainIs = some (true, "c73636dd90bb1235d6fec1f6f02343f1d38ce27153c58d0577484aa9e21c5f63".toList) := by kernel_rfl
theorem listenChances_goes : false = Rows.listenChancesRow.goesBy Tryd.pinned.checked.prog := by kernel_rfl
theorem listenChances_looks : false = Tryd.pinned.checked.prog.looks [] := by kernel_rfl
theorem listenChances_plain : (Tryd.f7.params.toList.all fun u => !Tryd.prog.wantsStandIn u) = true := by kernel_rfl
end Go.Proofs.YtiflkochjfiegaaDoor
