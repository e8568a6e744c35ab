/-
  Part of the proof of a law.
-/
import Derived.Test.YtmailpnpjcpodaaGreatDoorC1GE
import Derived.Test.YtmailpnpjcpodaaGreatDoorC1GN
import Derived.Test.YtmailpnpjcpodaaGreatDoorEvOpen2
import Derived.Test.YtmailpnpjcpodaaGreatDoorC1L16f
import Derived.Lay
set_option linter.unusedVariables false
set_option linter.unusedSimpArgs false
set_option linter.unusedSectionVars false
/-
  TransferCarrierStrings: for every input the law returns true, and its arguments read as before; the package's tables are tied to the text.
  Conditions: those of the given card (the tables hold what the text lays).
-/
namespace Go.Proofs.YtmailpnpjcpodaaGreatDoor
open Go Go.RowKit Go.ChangeShapes Go.WideShapes Go.Ev
set_option maxRecDepth 100000 in
theorem lifted4 (os : Os) (started : os.Started) (H : Type) (enc : TypeId × Value → H) :
    ReturnsInHanded {} Tryz.checked os 4 .any (fun w args => (Rows.transferCarrierStringsSpec.pre enc Tryz.prog Tryz.f4 [] false w args ∧ laidMetH Tryz.prog Rows.transferCarrierStringsRow.laid w) ∧ sizedMet enc Tryz.prog Tryz.f4 (OpenSpec.ofChange Rows.transferCarrierStringsSpec) false w args)
      (Rows.transferCarrierStringsSpec.post enc Tryz.prog Tryz.f4 false true false false) := by
  refine returnsInHanded_of_change_and_shaped (C := Tryz.checked) (X := fun w _ => laidMetH Tryz.prog Rows.transferCarrierStringsRow.laid w) (fun _ _ _ hh h => h.of_heap hh) (by kernel_rfl) started (by kernel_rfl) Tryz.func4
    (ChangeSpec.witness_shaped (enc := enc) (C := Tryz.checked) (os := os) (X := fun w _ => laidMetH Tryz.prog Rows.transferCarrierStringsRow.laid w) false (World.laidAll Tryz.prog os Rows.transferCarrierStringsRow.laid) #[.agg #[.string ⟨#[]⟩, .int .i64 0, .int .i64 0, .int .i64 0, .int .i64 0], .string ⟨#[]⟩] 8 (World.laidAll_os _ _ _)
      (World.shaped_of_ZipB (by kernel_rfl) (by kernel_rfl)) (by kernel_rfl) (by kernel_rfl) (by kernel_rfl)
      (by rw [MakeChecks.laidMetH_plain _ _ _ (by kernel_rfl)]; exact laidMet_laidAll _ (by kernel_rfl) (by kernel_rfl))) ?_
  intro W base args ds gs before hval hW hL hs
  have hL' : laidMet Tryz.prog Rows.transferCarrierStringsRow.laid W := by
    have h := hL
    rw [MakeChecks.laidMetH_plain _ _ _ (by kernel_rfl)] at h
    exact h
  have el : Rows.transferCarrierStringsRow.laid = [("math/bits.deBruijn32tab", Rows.laid_math_bits_deBruijn32tab), ("math/bits.deBruijn64tab", Rows.laid_math_bits_deBruijn64tab), ("internal/strconv.uint64pow10", Lib.tabData .u64 Lib.pow10Tab), ("unicode/utf8.acceptRanges", Rows.laid_unicode_utf8_acceptRanges), ("strconv.ErrRange", .iface "*errors.errorString" (.ptr (.agg [.lit (.string [118, 97, 108, 117, 101, 32, 111, 117, 116, 32, 111, 102, 32, 114, 97, 110, 103, 101])]))), ("strconv.ErrSyntax", .iface "*errors.errorString" (.ptr (.agg [.lit (.string [105, 110, 118, 97, 108, 105, 100, 32, 115, 121, 110, 116, 97, 120])]))), ("lacquer/transfer.carrierWords", .agg [.lit (.string [100, 105, 115, 99]), .lit (.string [99, 121, 108, 105, 110, 100, 101, 114]), .lit (.string [116, 97, 112, 101])]), ("unicode/utf8.first", Rows.laid_unicode_utf8_first)] := by kernel_rfl
  rw [el] at hL'
  refine law_calls (shapes := (argsT Tryz.prog Tryz.f4.params.toList).getD []) (bt := Tryz.f4.resultTypes.getD 0 0) (by kernel_rfl) (List.all_eq_true.1 (by kernel_rfl)) (by kernel_rfl) (by kernel_rfl) rfl ?_ oklcs (by kernel_rfl) ?_ W base args ds gs before hval hW (car_glob hL' hs)
  · intro ds hds
    match ds, hds with
    | [d1, d2], _ => rfl
  · intro Q h
    have e : (argsT Tryz.prog Tryz.f4.params.toList).getD [] = [(true, [.cell .str, .cell (.int .i64), .cell (.int .i64), .cell (.int .i64), .cell (.int .i64)]), (false, [.cell .str])] := by kernel_rfl
    rw [e] at h
    obtain ⟨nm, _, k, hk, s, hs, n, hn, d, hd, t, _, hq⟩ := h
    exact ⟨_, hq, ⟨⟨i64_of hs, i64_of hn, i64_of hd⟩, rfl⟩⟩
theorem TransferCarrierStrings_row : Rows.TransferCarrierStringsSaid :=
  OpenClaim.holds_of_wide 4 Tryz.f4 rfl rfl rfl rfl rfl rfl rfl ⟨rfl, rfl, rfl, rfl, rfl⟩ rfl rfl rfl rfl rfl transferCarrierStrings_named Tryz.func4 transferCarrierStrings_closed transferCarrierStrings_inst transferCarrierStrings_wrap
    (fun os started H enc _ => lifted4 os started H enc)
theorem TransferCarrierStrings_holds : Rows.TransferCarrierStringsCardSaid :=
  Claim7.holds_tied_plain_at .later [] [.data, .data, .data, .data, .sentinel, .sentinel, .widerDeep, .pinned] true (true, "9bd40e97afd85f91163ea525d99619bd3d4dc301a18e589866391605f4d880fd") true TransferCarrierStrings_row (fun _ h => by cases h) transferCarrierStrings_wf (fun _ h => by cases h) transferCarrierStrings_row_tie rfl ⟨rfl, rfl⟩ transferCarrierStrings_main rfl
    (fun f fn hf hfn => by
      obtain rfl : f = 4 := Option.some.inj (transferCarrierStrings_named.symm.trans hf) |>.symm
      obtain rfl : fn = Tryz.f4 := (Option.some.inj (Tryz.func4.symm.trans hfn)).symm
      refine ⟨transferCarrierStrings_looks, fun j t ht => ?_⟩
      have hm : t ∈ Tryz.f4.params.toList := by simpa using Array.mem_of_getElem? ht
      have h := List.all_eq_true.1 transferCarrierStrings_plain t hm
      exact (show Tryz.prog.wantsStandIn t = false by simpa using h))
    transferCarrierStrings_goes
#print axioms TransferCarrierStrings_holds
end Go.Proofs.YtmailpnpjcpodaaGreatDoor
