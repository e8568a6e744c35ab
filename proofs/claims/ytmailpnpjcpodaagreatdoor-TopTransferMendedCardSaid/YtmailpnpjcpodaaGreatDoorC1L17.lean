/-
  Part of the proof that TopTransferMended holds.
-/
import Derived.Test.YtmailpnpjcpodaaGreatDoorT40
import Derived.Lay
set_option linter.unusedVariables false
set_option linter.unusedSimpArgs false
set_option linter.unusedSectionVars false
namespace Go.Proofs.YtmailpnpjcpodaaGreatDoor
open Go Go.RowKit Go.ChangeShapes Go.WideShapes Go.Ev
set_option maxRecDepth 100000 in
theorem lifted5(os:Os)(started:os.Started)(H:Type)(enc:TypeId × Value→H):
  ReturnsInHanded {} Tryz.checked os 5 .any (fun w args=>(Rows.topTransferMendedSpec.pre enc Tryz.prog Tryz.f5 [] false w args∧laidMetH Tryz.prog Rows.topTransferMendedRow.laid w)∧sizedMet enc Tryz.prog Tryz.f5 (OpenSpec.ofChange Rows.topTransferMendedSpec) false w args)
   (Rows.topTransferMendedSpec.post enc Tryz.prog Tryz.f5 false true false false):=by
 refine returnsInHanded_of_change_and_shaped (C:=Tryz.checked) (X:=fun w _=>laidMetH Tryz.prog Rows.topTransferMendedRow.laid w) (fun _ _ _ hh h=>h.of_heap hh) (by kernel_rfl) started (by kernel_rfl) Tryz.func5
  (ChangeSpec.witness_shaped (enc:=enc) (C:=Tryz.checked) (os:=os) (X:=fun w _=>laidMetH Tryz.prog Rows.topTransferMendedRow.laid w) false (World.laidAll Tryz.prog os Rows.topTransferMendedRow.laid) #[.agg #[.slice none 0 0,.int .i64 0,.int .i64 0,.int .i64 0,.int .i64 0,.int .i64 0]] 8 (World.laidAll_os _ _ _)
   (World.shaped_of_ZipB (by kernel_rfl) (by kernel_rfl)) (by kernel_rfl) (by kernel_rfl) (by kernel_rfl)
   (by rw[MakeChecks.laidMetH_plain _ _ _ (by kernel_rfl)];exact laidMet_laidAll _ (by kernel_rfl) (by kernel_rfl))) ?_
 intro W base args ds gs before hval hW hL hs
 have hL':laidMet Tryz.prog Rows.topTransferMendedRow.laid W:=by
  have h:=hL
  rw[MakeChecks.laidMetH_plain _ _ _ (by kernel_rfl)] at h
  exact h
 have el:Rows.topTransferMendedRow.laid=[("math/bits.deBruijn32tab",Rows.laid_math_bits_deBruijn32tab),("math/bits.deBruijn64tab",Rows.laid_math_bits_deBruijn64tab),("internal/strconv.uint64pow10",Lib.tabData .u64 Lib.pow10Tab),("unicode/utf8.acceptRanges",Rows.laid_unicode_utf8_acceptRanges),("strconv.ErrRange",.iface "*errors.errorString" (.ptr (.agg [.lit (.string [118,97,108,117,101,32,111,117,116,32,111,102,32,114,97,110,103,101])]))),("strconv.ErrSyntax",.iface "*errors.errorString" (.ptr (.agg [.lit (.string [105,110,118,97,108,105,100,32,115,121,110,116,97,120])]))),("unicode/utf8.first",Rows.laid_unicode_utf8_first)]:=by kernel_rfl
 rw[el] at hL'
 refine law_calls (shapes:=(argsT Tryz.prog Tryz.f5.params.toList).getD []) (bt:=Tryz.f5.resultTypes.getD 0 0) (by kernel_rfl) (List.all_eq_true.1 (by kernel_rfl)) (by kernel_rfl) (by kernel_rfl) rfl ?_ okmen (by kernel_rfl) ?_ W base args ds gs before hval hW (blk_glob hL' hs)
 ·intro ds hds
  match ds,hds with
  |[d1],_=>rfl
 ·intro Q h
  have e:(argsT Tryz.prog Tryz.f5.params.toList).getD []=[(true,[.rows [.int .i64],.cell (.int .i64),.cell (.int .i64),.cell (.int .i64),.cell (.int .i64),.cell (.int .i64)])]:=by kernel_rfl
  rw[e] at h
  obtain⟨x,_,ch,_,c,_,cnt,_,lost,_,par,_,hq⟩:=h
  exact⟨_,hq,rfl⟩
theorem TopTransferMended_row:Rows.TopTransferMendedSaid:= OpenClaim.holds_of_wide 5 Tryz.f5 rfl rfl rfl rfl rfl rfl rfl ⟨rfl,rfl,rfl,rfl,rfl⟩ rfl rfl rfl rfl rfl topTransferMended_named Tryz.func5 topTransferMended_closed topTransferMended_inst topTransferMended_wrap (fun os started H enc _=>lifted5 os started H enc)
theorem TopTransferMended_holds:Rows.TopTransferMendedCardSaid:=
 Claim7.holds_tied_plain_at .later [] [.data,.data,.data,.data,.sentinel,.sentinel,.pinned] true (true, "9bd40e97afd85f91163ea525d99619bd3d4dc301a18e589866391605f4d880fd") true TopTransferMended_row (fun _ h=>by cases h) topTransferMended_wf (fun _ h=>by cases h) topTransferMended_row_tie rfl ⟨rfl,rfl⟩ topTransferMended_main rfl
  (fun f fn hf hfn=>by
   obtain rfl:f=5:=Option.some.inj (topTransferMended_named.symm.trans hf) |>.symm
   obtain rfl:fn=Tryz.f5:=(Option.some.inj (Tryz.func5.symm.trans hfn)).symm
   refine⟨topTransferMended_looks,fun j t ht=> ?_⟩
   have hm:t ∈ Tryz.f5.params.toList:=by simpa using Array.mem_of_getElem? ht
   have h:=List.all_eq_true.1 topTransferMended_plain t hm
   exact(show Tryz.prog.wantsStandIn t=false by simpa using h))
  topTransferMended_goes
#print axioms TopTransferMended_holds
end Go.Proofs.YtmailpnpjcpodaaGreatDoor
