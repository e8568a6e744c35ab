/-
  TransferRestored: for every input the law returns true, and its arguments read as before.
-/
import Derived.Test.YtlejemnljojpgaaC1BI
import Derived.Test.YtlejemnljojpgaaEvOpen2
import Derived.Handed
import Derived.Test.YtlejemnljojpgaaRows
import Derived.KernelRfl
set_option linter.unusedVariables false
set_option linter.unusedSimpArgs false
set_option linter.unusedSectionVars false
namespace Go.Proofs.Ytlejemnljojpgaa
open Go Go.RowKit Go.ChangeShapes Go.WideShapes Go.Ev
set_option maxRecDepth 100000 in
theorem lifted14 (os : Os) (started : os.Started) (H : Type) (enc : TypeId × Value → H) :
    ReturnsInHanded {} Try.checked os 14 .any (Rows.transferRestoredSpec.pre6 enc Try.prog Try.f14 Rows.transferRestoredRow.domain false) (Rows.transferRestoredSpec.post enc Try.prog Try.f14 false true false false) := by
  refine returnsInHanded_of_change (C := Try.checked) (by kernel_rfl) started (by kernel_rfl) Try.func14
    (ChangeSpec.witness6 (enc := enc) (C := Try.checked) false ⟨#[], #[.slice none 0 0, .int .i64 0, .agg #[.int .i64 0, .int .i64 0, .int .i64 0, .int .i64 0, .int .i64 0]], []⟩ 8 (by kernel_rfl) (by kernel_rfl) (by kernel_rfl) (by kernel_rfl)) ?_
  intro W base args ds gs before hval hW _ _
  refine law_calls (shapes := (argsT Try.prog Try.f14.params.toList).getD []) (bt := Try.f14.resultTypes.getD 0 0) (by kernel_rfl) (List.all_eq_true.1 (by kernel_rfl)) (by kernel_rfl) (by kernel_rfl) rfl ?_ oklr (by kernel_rfl) ?_ W base args ds gs before hval hW (fun g l h => by cases h)
  · intro ds hds
    match ds, hds with
    | [d1, d2, d3], _ => rfl
  · intro Q h
    have e : (argsT Try.prog Try.f14.params.toList).getD [] = [(false, [.rows [.int .i64, .int .i64, .int .i64, .int .i64, .int .i64, .int .i64, .int .i64, .int .i64]]), (false, [.cell (.int .i64)]), (true, [.cell (.int .i64), .cell (.int .i64), .cell (.int .i64), .cell (.int .i64), .cell (.int .i64)])] := by kernel_rfl
    rw [e] at h
    obtain ⟨xss, ok, c, _, x0, _, x1, _, x2, _, x3, _, x4, _, hq⟩ := h
    exact ⟨_, hq, ⟨List.all_eq_true.2 fun xs hx => by have := (ok.2 xs hx).1; simp [len8, this], rfl⟩⟩
theorem TransferRestored_holds : Rows.TransferRestoredSaid :=
  OpenClaim.holds_of_wide 14 Try.f14 rfl rfl rfl rfl rfl rfl rfl ⟨rfl, rfl, rfl, rfl, rfl⟩ rfl rfl rfl rfl rfl (by kernel_rfl) Try.func14 (by kernel_rfl)
    (of_decide_eq_true (by kernel_rfl)) (by unfold Func.isWrapper; first | (rw [if_pos (by decide +kernel)]; kernel_rfl) | (rw [if_neg (by decide +kernel)]; exact ⟨rfl, rfl⟩))
    (fun os started H enc _ => lifted14 os started H enc)
#print axioms TransferRestored_holds
end Go.Proofs.Ytlejemnljojpgaa
