/-
  TransferGroups: for every input the law returns true, and its arguments read as before.
-/
import Derived.Test.YtlejemnljojpgaaC1BJ
import Derived.Test.YtlejemnljojpgaaEvOpen2
import Derived.Handed
import Derived.Test.YtlejemnljojpgaaRows
import Derived.KernelRfl
set_option linter.unusedVariables false
set_option linter.unusedSimpArgs false
set_option linter.unusedSectionVars false
namespace Go.Proofs.Ytlejemnljojpgaa
open Go Go.RowKit Go.ChangeShapes Go.WideShapes Go.Ev
set_option maxRecDepth 100000 in
theorem lifted13 (os : Os) (started : os.Started) (H : Type) (enc : TypeId × Value → H) :
    ReturnsInHanded {} Try.checked os 13 .any (Rows.transferGroupsSpec.pre6 enc Try.prog Try.f13 Rows.transferGroupsRow.domain false) (Rows.transferGroupsSpec.post enc Try.prog Try.f13 false true false false) := by
  refine returnsInHanded_of_change (C := Try.checked) (by kernel_rfl) started (by kernel_rfl) Try.func13
    (ChangeSpec.witness6 (enc := enc) (C := Try.checked) false ⟨#[], #[.agg #[.slice none 0 0, .slice none 0 0, .slice none 0 0, .slice none 0 0]], []⟩ 8 (by kernel_rfl) (by kernel_rfl) (by kernel_rfl) (by kernel_rfl)) ?_
  intro W base args ds gs before hval hW _ _
  refine law_calls (shapes := (argsT Try.prog Try.f13.params.toList).getD []) (bt := Try.f13.resultTypes.getD 0 0) (by kernel_rfl) (List.all_eq_true.1 (by kernel_rfl)) (by kernel_rfl) (by kernel_rfl) rfl ?_ oklg (by kernel_rfl) ?_ W base args ds gs before hval hW (fun g l h => by cases h)
  · intro ds hds
    match ds, hds with
    | [d1], _ => rfl
  · intro Q h
    have e : (argsT Try.prog Try.f13.params.toList).getD [] = [(true, [.rows [.int .i64, .int .i64, .int .i64, .int .i64, .int .i64, .int .i64, .int .i64, .int .i64], .rows [.int .i64, .int .i64, .int .i64, .int .i64, .int .i64, .int .i64, .int .i64, .int .i64], .rows [.int .i64], .rows [.int .i64]])] := by kernel_rfl
    rw [e] at h
    obtain ⟨D, okD, P, okP, L, okL, Q, okQ, hq⟩ := h
    exact ⟨_, hq, ⟨⟨List.all_eq_true.2 fun xs hx => by have := (okD.2 xs hx).1; simp [len8, this], List.all_eq_true.2 fun xs hx => by have := (okP.2 xs hx).1; simp [len8, this]⟩, rfl⟩⟩
theorem TransferGroups_holds : Rows.TransferGroupsSaid :=
  OpenClaim.holds_of_wide 13 Try.f13 rfl rfl rfl rfl rfl rfl rfl ⟨rfl, rfl, rfl, rfl, rfl⟩ rfl rfl rfl rfl rfl (by kernel_rfl) Try.func13 (by kernel_rfl)
    (of_decide_eq_true (by kernel_rfl)) (by unfold Func.isWrapper; first | (rw [if_pos (by decide +kernel)]; kernel_rfl) | (rw [if_neg (by decide +kernel)]; exact ⟨rfl, rfl⟩))
    (fun os started H enc _ => lifted13 os started H enc)
#print axioms TransferGroups_holds
end Go.Proofs.Ytlejemnljojpgaa
