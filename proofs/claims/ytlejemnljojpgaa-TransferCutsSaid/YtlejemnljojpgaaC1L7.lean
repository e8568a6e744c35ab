/-
  TransferCuts: for every input the law returns true, and its arguments read as before.
-/
import Derived.Test.YtlejemnljojpgaaC1S
import Derived.Test.YtlejemnljojpgaaEvOpen2
import Derived.Handed
import Derived.Test.YtlejemnljojpgaaRows
import Derived.KernelRfl
set_option linter.unusedVariables false
set_option linter.unusedSimpArgs false
namespace Go.Proofs.Ytlejemnljojpgaa
open Go Go.RowKit Go.ChangeShapes Go.WideShapes Go.Ev

set_option maxRecDepth 100000 in
theorem lifted7 (os : Os) (started : os.Started) (H : Type) (enc : TypeId × Value → H) :
    ReturnsInHanded {} Try.checked os 7 .any (Rows.transferCutsSpec.pre6 enc Try.prog Try.f7 Rows.transferCutsRow.domain false) (Rows.transferCutsSpec.post enc Try.prog Try.f7 false true false false) := by
  refine returnsInHanded_of_change (C := Try.checked) (by kernel_rfl) started (by kernel_rfl) Try.func7
    (ChangeSpec.witness6 (enc := enc) (C := Try.checked) false ⟨#[], #[.slice none 0 0, .agg #[.int .i64 0, .int .i64 0]], []⟩ 8 (by kernel_rfl) (by kernel_rfl) (by kernel_rfl) (by kernel_rfl)) ?_
  intro W base args ds gs before hval hW _ _
  refine law_calls (shapes := (argsT Try.prog Try.f7.params.toList).getD []) (bt := Try.f7.resultTypes.getD 0 0) (by kernel_rfl) (List.all_eq_true.1 (by kernel_rfl)) (by kernel_rfl) (by kernel_rfl) rfl ?_ ok7 (by kernel_rfl) ?_ W base args ds gs before hval hW
  · intro ds hds
    match ds, hds with
    | [d1, d2], _ => rfl
  · intro Q h
    have e : (argsT Try.prog Try.f7.params.toList).getD [] = [(false, [.rows [.int .i64]]), (true, [.cell (.int .i64), .cell (.int .i64)])] := by kernel_rfl
    rw [e] at h
    obtain ⟨x, _, ch, _, c, _, hq⟩ := h
    exact ⟨_, hq, rfl⟩

theorem TransferCuts_holds : Rows.TransferCutsSaid :=
  OpenClaim.holds_of_wide 7 Try.f7 rfl rfl rfl rfl rfl rfl rfl ⟨rfl, rfl, rfl, rfl, rfl⟩ rfl rfl rfl rfl rfl (by kernel_rfl) Try.func7 (by kernel_rfl)
    (of_decide_eq_true (by kernel_rfl)) (by unfold Func.isWrapper; first | (rw [if_pos (by decide +kernel)]; kernel_rfl) | (rw [if_neg (by decide +kernel)]; exact ⟨rfl, rfl⟩))
    (fun os started H enc _ => lifted7 os started H enc)
#print axioms TransferCuts_holds
end Go.Proofs.Ytlejemnljojpgaa
