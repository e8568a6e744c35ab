/-
  Part of the proof that TopClickOnly holds.
-/
import Derived.Test.YtgkngjjnpiheoaaT15
import Derived.Test.YtgkngjjnpiheoaaT22
import Derived.Handed
import Derived.Test.YtgkngjjnpiheoaaRows
set_option linter.unusedVariables false
set_option linter.unusedSimpArgs false
set_option linter.unusedSectionVars false
namespace Go.Proofs.Ytgkngjjnpiheoaa
open Go Go.RowKit Go.ChangeShapes Go.WideShapes Go.Ev
set_option maxRecDepth 100000 in
theorem lifted3(os:Os)(started:os.Started)(H:Type)(enc:TypeId × Value→H):
  ReturnsInHanded {} Try.checked os 3 .any (Rows.topClickOnlySpec.pre6 enc Try.prog Try.f3 Rows.topClickOnlyRow.domain false) (Rows.topClickOnlySpec.post enc Try.prog Try.f3 false true false false):=by
 refine returnsInHanded_of_change (C:=Try.checked) (by kernel_rfl) started (by kernel_rfl) Try.func3
  (ChangeSpec.witness6 (enc:=enc) (C:=Try.checked) false ⟨#[],#[.agg #[.int .i64 0,.int .i64 0],.agg #[.int .i64 0,.int .i64 0,.slice none 0 0],.slice none 0 0],[]⟩ 8 (by kernel_rfl) (by kernel_rfl) (by kernel_rfl) (by kernel_rfl)) ?_
 intro W base args ds gs before hval hW _ _
 refine law_calls (shapes:=(argsT Try.prog Try.f3.params.toList).getD []) (bt:=Try.f3.resultTypes.getD 0 0) (by kernel_rfl) (List.all_eq_true.1 (by kernel_rfl)) (by kernel_rfl) (by kernel_rfl) rfl ?_ oktco (by kernel_rfl) ?_ W base args ds gs before hval hW (fun g l h=>by cases h)
 ·intro ds hds
  match ds,hds with
  |[d1,d2,d3],_=>rfl
 ·intro Q h
  have e:(argsT Try.prog Try.f3.params.toList).getD []=[(true,[.cell (.int .i64),.cell (.int .i64)]),(true,[.cell (.int .i64),.cell (.int .i64),.rows [.int .i64]]),(false,[.rows [.int .i64,.int .i64]])]:=by kernel_rfl
  rw[e] at h
  obtain⟨a,_,b,_,p,_,hh,_,t,_,o,_,hq⟩:=h
  exact⟨_,hq,rfl⟩
theorem TopClickOnly_holds:Rows.TopClickOnlySaid:=
 OpenClaim.holds_of_wide 3 Try.f3 rfl rfl rfl rfl rfl rfl rfl ⟨rfl,rfl,rfl,rfl,rfl⟩ rfl rfl rfl rfl rfl (by kernel_rfl) Try.func3 (by kernel_rfl)
  (of_decide_eq_true (by kernel_rfl)) (by unfold Func.isWrapper;first|(rw[if_pos (by decide +kernel)];kernel_rfl)|(rw[if_neg (by decide +kernel)];exact⟨rfl,rfl⟩))
  (fun os started H enc _=>lifted3 os started H enc)
#print axioms TopClickOnly_holds
end Go.Proofs.Ytgkngjjnpiheoaa
