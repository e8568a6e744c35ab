/-
  Part of the proof of a law.
-/
import Derived.Test.YtmailpnpjcpodaaGreatDoorC1GC
import Derived.Test.YtmailpnpjcpodaaGreatDoorC1GJ
import Derived.Test.YtmailpnpjcpodaaGreatDoorEvOpen2
import Derived.Test.YtmailpnpjcpodaaGreatDoorC1L15f
import Derived.Lay
set_option linter.unusedVariables false
set_option linter.unusedSimpArgs false
set_option linter.unusedSectionVars false
/-
  TransferBlockStrings: for every input the law returns true, and its arguments read as before; the package's tables are tied to the text.
  Conditions: those of the given card (the tables hold what the text lays).
-/
namespace Go.Proofs.YtmailpnpjcpodaaGreatDoor
open Go Go.RowKit Go.ChangeShapes Go.WideShapes Go.Ev
set_option maxRecDepth 100000 in
theorem lifted3 (os : Os) (started : os.Started) (H : Type) (enc : TypeId × Value → H) :
    ReturnsInHanded {} Tryz.checked os 3 .any (fun w args => (Rows.transferBlockStringsSpec.pre enc Tryz.prog Tryz.f3 [] false w args ∧ laidMetH Tryz.prog Rows.transferBlockStringsRow.laid w) ∧ sizedMet enc Tryz.prog Tryz.f3 (OpenSpec.ofChange Rows.transferBlockStringsSpec) false w args)
      (Rows.transferBlockStringsSpec.post enc Tryz.prog Tryz.f3 false true false false) := by
  refine returnsInHanded_of_change_and_shaped (C := Tryz.checked) (X := fun w _ => laidMetH Tryz.prog Rows.transferBlockStringsRow.laid w) (fun _ _ _ hh h => h.of_heap hh) (by kernel_rfl) started (by kernel_rfl) Tryz.func3
    (ChangeSpec.witness_shaped (enc := enc) (C := Tryz.checked) (os := os) (X := fun w _ => laidMetH Tryz.prog Rows.transferBlockStringsRow.laid w) false (World.laidAll Tryz.prog os Rows.transferBlockStringsRow.laid) #[.agg #[.int .i64 0, .int .i64 0, .int .i64 0, .int .i64 0, .int .i64 0, .int .i64 0, .int .i64 0, .int .i64 0, .int .i64 0, .int .i64 0, .int .i64 0], .string ⟨#[]⟩] 8 (World.laidAll_os _ _ _)
      (World.shaped_of_ZipB (by kernel_rfl) (by kernel_rfl)) (by kernel_rfl) (by kernel_rfl) (by kernel_rfl)
      (by rw [MakeChecks.laidMetH_plain _ _ _ (by kernel_rfl)]; exact laidMet_laidAll _ (by kernel_rfl) (by kernel_rfl))) ?_
  intro W base args ds gs before hval hW hL hs
  have hL' : laidMet Tryz.prog Rows.transferBlockStringsRow.laid W := by
    have h := hL
    rw [MakeChecks.laidMetH_plain _ _ _ (by kernel_rfl)] at h
    exact h
  have el : Rows.transferBlockStringsRow.laid = [("math/bits.deBruijn32tab", Rows.laid_math_bits_deBruijn32tab), ("math/bits.deBruijn64tab", Rows.laid_math_bits_deBruijn64tab), ("internal/strconv.uint64pow10", Lib.tabData .u64 Lib.pow10Tab), ("unicode/utf8.acceptRanges", Rows.laid_unicode_utf8_acceptRanges), ("strconv.ErrRange", .iface "*errors.errorString" (.ptr (.agg [.lit (.string [118, 97, 108, 117, 101, 32, 111, 117, 116, 32, 111, 102, 32, 114, 97, 110, 103, 101])]))), ("strconv.ErrSyntax", .iface "*errors.errorString" (.ptr (.agg [.lit (.string [105, 110, 118, 97, 108, 105, 100, 32, 115, 121, 110, 116, 97, 120])]))), ("unicode/utf8.first", Rows.laid_unicode_utf8_first)] := by kernel_rfl
  rw [el] at hL'
  refine law_calls (shapes := (argsT Tryz.prog Tryz.f3.params.toList).getD []) (bt := Tryz.f3.resultTypes.getD 0 0) (by kernel_rfl) (List.all_eq_true.1 (by kernel_rfl)) (by kernel_rfl) (by kernel_rfl) rfl ?_ oklbs (by kernel_rfl) ?_ W base args ds gs before hval hW (blk_glob hL' hs)
  · intro ds hds
    match ds, hds with
    | [d1, d2], _ => rfl
  · intro Q h
    have e : (argsT Tryz.prog Tryz.f3.params.toList).getD [] = [(true, [.cell (.int .i64), .cell (.int .i64), .cell (.int .i64), .cell (.int .i64), .cell (.int .i64), .cell (.int .i64), .cell (.int .i64), .cell (.int .i64), .cell (.int .i64), .cell (.int .i64), .cell (.int .i64)]), (false, [.cell .str])] := by kernel_rfl
    rw [e] at h
    obtain ⟨c, hc, ch, hch, x0, hx0, x1, hx1, x2, hx2, x3, hx3, x4, hx4, x5, hx5, x6, hx6, x7, hx7, sm, hsm, s, _, hq⟩ := h
    exact ⟨_, hq, ⟨all64_cons (i64_of hc) (all64_cons (i64_of hch) (all64_cons (i64_of hx0) (all64_cons (i64_of hx1) (all64_cons (i64_of hx2) (all64_cons (i64_of hx3) (all64_cons (i64_of hx4) (all64_cons (i64_of hx5) (all64_cons (i64_of hx6) (all64_cons (i64_of hx7) (all64_cons (i64_of hsm) (all64_nil))))))))))), rfl⟩⟩
theorem TransferBlockStrings_row : Rows.TransferBlockStringsSaid :=
  OpenClaim.holds_of_wide 3 Tryz.f3 rfl rfl rfl rfl rfl rfl rfl ⟨rfl, rfl, rfl, rfl, rfl⟩ rfl rfl rfl rfl rfl transferBlockStrings_named Tryz.func3 transferBlockStrings_closed transferBlockStrings_inst transferBlockStrings_wrap
    (fun os started H enc _ => lifted3 os started H enc)
theorem TransferBlockStrings_holds : Rows.TransferBlockStringsCardSaid :=
  Claim7.holds_tied_plain_at .later [] [.data, .data, .data, .data, .sentinel, .sentinel, .pinned] true (true, "9bd40e97afd85f91163ea525d99619bd3d4dc301a18e589866391605f4d880fd") true TransferBlockStrings_row (fun _ h => by cases h) transferBlockStrings_wf (fun _ h => by cases h) transferBlockStrings_row_tie rfl ⟨rfl, rfl⟩ transferBlockStrings_main rfl
    (fun f fn hf hfn => by
      obtain rfl : f = 3 := Option.some.inj (transferBlockStrings_named.symm.trans hf) |>.symm
      obtain rfl : fn = Tryz.f3 := (Option.some.inj (Tryz.func3.symm.trans hfn)).symm
      refine ⟨transferBlockStrings_looks, fun j t ht => ?_⟩
      have hm : t ∈ Tryz.f3.params.toList := by simpa using Array.mem_of_getElem? ht
      have h := List.all_eq_true.1 transferBlockStrings_plain t hm
      exact (show Tryz.prog.wantsStandIn t = false by simpa using h))
    transferBlockStrings_goes
#print axioms TransferBlockStrings_holds
end Go.Proofs.YtmailpnpjcpodaaGreatDoor
