/-
  TransferPacks: for every input the law returns true, and its arguments read as before.
-/
import Derived.Test.YtlejemnljojpgaaC1K
import Derived.Test.YtlejemnljojpgaaEvOpen2
import Derived.Handed
import Derived.Test.YtlejemnljojpgaaRows
import Derived.KernelRfl
namespace Go.Proofs.Ytlejemnljojpgaa
open Go Go.RowKit Go.ChangeShapes Go.WideShapes Go.Ev

set_option maxRecDepth 100000 in
theorem lifted6 (os : Os) (started : os.Started) (H : Type) (enc : TypeId × Value → H) :
    ReturnsInHanded {} Try.checked os 6 .any (Rows.transferPacksSpec.pre6 enc Try.prog Try.f6 Rows.transferPacksRow.domain false) (Rows.transferPacksSpec.post enc Try.prog Try.f6 false true false false) := by
  refine returnsInHanded_of_change (C := Try.checked) (by kernel_rfl) started (by kernel_rfl) Try.func6
    (ChangeSpec.witness6 (enc := enc) (C := Try.checked) false ⟨#[], #[.agg #[.int .i64 0, .int .i64 0, .int .i64 0, .int .i64 0, .int .i64 0, .int .i64 0, .int .i64 0, .int .i64 0], .int .i64 0, .int .i64 0], []⟩ 8 (by kernel_rfl) (by kernel_rfl) (by kernel_rfl) (by kernel_rfl)) ?_
  intro W base args ds gs before hval hW _ _
  refine law_calls (shapes := (argsT Try.prog Try.f6.params.toList).getD []) (bt := Try.f6.resultTypes.getD 0 0) (by kernel_rfl) (List.all_eq_true.1 (by kernel_rfl)) (by kernel_rfl) (by kernel_rfl) rfl ?_ ok6 (by kernel_rfl) ?_ W base args ds gs before hval hW
  · intro ds hds
    match ds, hds with
    | [d1, d2, d3], _ => rfl
  · intro Q h
    have e : (argsT Try.prog Try.f6.params.toList).getD [] = [(true, [.cell (.int .i64), .cell (.int .i64), .cell (.int .i64), .cell (.int .i64), .cell (.int .i64), .cell (.int .i64), .cell (.int .i64), .cell (.int .i64)]), (false, [.cell (.int .i64)]), (false, [.cell (.int .i64)])] := by kernel_rfl
    rw [e] at h
    obtain ⟨x0, _, x1, _, x2, _, x3, _, x4, _, x5, _, x6, _, x7, _, p, _, k, _, hq⟩ := h
    exact ⟨_, hq, rfl⟩

theorem TransferPacks_holds : Rows.TransferPacksSaid :=
  OpenClaim.holds_of_wide 6 Try.f6 rfl rfl rfl rfl rfl rfl rfl ⟨rfl, rfl, rfl, rfl, rfl⟩ rfl rfl rfl rfl rfl (by kernel_rfl) Try.func6 (by kernel_rfl)
    (of_decide_eq_true (by kernel_rfl)) (by unfold Func.isWrapper; first | (rw [if_pos (by decide +kernel)]; kernel_rfl) | (rw [if_neg (by decide +kernel)]; exact ⟨rfl, rfl⟩))
    (fun os started H enc _ => lifted6 os started H enc)
#print axioms TransferPacks_holds
end Go.Proofs.Ytlejemnljojpgaa
