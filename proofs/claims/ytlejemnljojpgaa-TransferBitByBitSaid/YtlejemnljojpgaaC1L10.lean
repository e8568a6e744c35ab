/-
  TransferBitByBit: for every input the law returns true, and its arguments read as before.
-/
import Derived.Test.YtlejemnljojpgaaC1P
import Derived.Test.YtlejemnljojpgaaEvOpen2
import Derived.Handed
import Derived.Test.YtlejemnljojpgaaRows
import Derived.KernelRfl
namespace Go.Proofs.Ytlejemnljojpgaa
open Go Go.RowKit Go.ChangeShapes Go.WideShapes Go.Ev

set_option maxRecDepth 100000 in
theorem lifted10 (os : Os) (started : os.Started) (H : Type) (enc : TypeId × Value → H) :
    ReturnsInHanded {} Try.checked os 10 .any (Rows.transferBitByBitSpec.pre6 enc Try.prog Try.f10 Rows.transferBitByBitRow.domain false) (Rows.transferBitByBitSpec.post enc Try.prog Try.f10 false true false false) := by
  refine returnsInHanded_of_change (C := Try.checked) (by kernel_rfl) started (by kernel_rfl) Try.func10
    (ChangeSpec.witness6 (enc := enc) (C := Try.checked) false ⟨#[], #[.agg #[.int .i64 0, .int .i64 0, .int .i64 0, .int .i64 0, .int .i64 0, .int .i64 0, .int .i64 0, .int .i64 0], .int .i64 0, .int .i64 0], []⟩ 8 (by kernel_rfl) (by kernel_rfl) (by kernel_rfl) (by kernel_rfl)) ?_
  intro W base args ds gs before hval hW _ _
  refine law_calls (shapes := (argsT Try.prog Try.f10.params.toList).getD []) (bt := Try.f10.resultTypes.getD 0 0) (by kernel_rfl) (List.all_eq_true.1 (by kernel_rfl)) (by kernel_rfl) (by kernel_rfl) rfl ?_ ok10 (by kernel_rfl) ?_ W base args ds gs before hval hW
  · intro ds hds
    match ds, hds with
    | [d1, d2, d3], _ => rfl
  · intro Q h
    have e : (argsT Try.prog Try.f10.params.toList).getD [] = [(true, [.cell (.int .i64), .cell (.int .i64), .cell (.int .i64), .cell (.int .i64), .cell (.int .i64), .cell (.int .i64), .cell (.int .i64), .cell (.int .i64)]), (false, [.cell (.int .i64)]), (false, [.cell (.int .i64)])] := by kernel_rfl
    rw [e] at h
    obtain ⟨x0, _, x1, _, x2, _, x3, _, x4, _, x5, _, x6, _, x7, _, p, _, k, _, hq⟩ := h
    exact ⟨_, hq, rfl⟩

theorem TransferBitByBit_holds : Rows.TransferBitByBitSaid :=
  OpenClaim.holds_of_wide 10 Try.f10 rfl rfl rfl rfl rfl rfl rfl ⟨rfl, rfl, rfl, rfl, rfl⟩ rfl rfl rfl rfl rfl (by kernel_rfl) Try.func10 (by kernel_rfl)
    (of_decide_eq_true (by kernel_rfl)) (by unfold Func.isWrapper; first | (rw [if_pos (by decide +kernel)]; kernel_rfl) | (rw [if_neg (by decide +kernel)]; exact ⟨rfl, rfl⟩))
    (fun os started H enc _ => lifted10 os started H enc)
#print axioms TransferBitByBit_holds
end Go.Proofs.Ytlejemnljojpgaa
