/-
  Part of the proof of a law.
-/
import Derived.Test.YtiflkochjfiegaaDoorC9XB
import Derived.Test.YtiflkochjfiegaaDoorC9XK
import Derived.Test.YtiflkochjfiegaaDoorEvOpen2
import Derived.Test.YtiflkochjfiegaaDoorC9L17f
import Derived.Lay
set_option linter.unusedVariables false
set_option linter.unusedSimpArgs false
set_option linter.unusedSectionVars false
/-
  ListenStrings: for every input the law returns true, and its arguments read as before; the package's table is tied to the text.
  Conditions: those of the given card (the table lacquer/listen.kernels holds what the text lays).
-/
namespace Go.Proofs.YtiflkochjfiegaaDoor
open Go Go.RowKit Go.ChangeShapes Go.WideShapes Go.Ev
set_option maxRecDepth 100000 in
theorem lifted18 (os : Os) (started : os.Started) (H : Type) (enc : TypeId × Value → H) :
    ReturnsInHanded {} Tryd.checked os 18 .any (fun w args => (Rows.listenStringsSpec.pre enc Tryd.prog Tryd.f18 [] false w args ∧ laidMetH Tryd.prog Rows.listenStringsRow.laid w) ∧ sizedMet enc Tryd.prog Tryd.f18 (OpenSpec.ofChange Rows.listenStringsSpec) false w args)
      (Rows.listenStringsSpec.post enc Tryd.prog Tryd.f18 false true false false) := by
  refine returnsInHanded_of_change_and_shaped (C := Tryd.checked) (X := fun w _ => laidMetH Tryd.prog Rows.listenStringsRow.laid w) (fun _ _ _ hh h => h.of_heap hh) (by kernel_rfl) started (by kernel_rfl) Tryd.func18
    (ChangeSpec.witness_shaped (enc := enc) (C := Tryd.checked) (os := os) (X := fun w _ => laidMetH Tryd.prog Rows.listenStringsRow.laid w) false (World.laidAll Tryd.prog os Rows.listenStringsRow.laid) #[.agg #[.int .i64 0, .int .i64 0], .string ⟨#[]⟩] 8 (World.laidAll_os _ _ _)
      (World.shaped_of_ZipB (by kernel_rfl) (by kernel_rfl)) (by kernel_rfl) (by kernel_rfl) (by kernel_rfl)
      (by rw [MakeChecks.laidMetH_plain _ _ _ (by kernel_rfl)]; exact laidMet_laidAll _ (by kernel_rfl) (by kernel_rfl))) ?_
  intro W base args ds gs before hval hW hL hs
  have hL' : laidMet Tryd.prog Rows.listenStringsRow.laid W := by
    have h := hL
    rw [MakeChecks.laidMetH_plain _ _ _ (by kernel_rfl)] at h
    exact h
  have el : Rows.listenStringsRow.laid = [("math/bits.deBruijn32tab", Rows.laid_math_bits_deBruijn32tab), ("math/bits.deBruijn64tab", Rows.laid_math_bits_deBruijn64tab), ("internal/strconv.uint64pow10", Lib.tabData .u64 Lib.pow10Tab), ("lacquer/listen.kernels", .agg [.agg [.lit (.float .f32 3235905536), .lit (.float .f32 1121058816), .lit (.float .f32 1108082688), .lit (.float .f32 3231711232)], .agg [.lit (.float .f32 3238002688), .lit (.float .f32 1116733440), .lit (.float .f32 1116733440), .lit (.float .f32 3238002688)], .agg [.lit (.float .f32 3231711232), .lit (.float .f32 1108082688), .lit (.float .f32 1121058816), .lit (.float .f32 3235905536)]])] := by kernel_rfl
  rw [el] at hL'
  refine law_calls (shapes := (argsT Tryd.prog Tryd.f18.params.toList).getD []) (bt := Tryd.f18.resultTypes.getD 0 0) (by kernel_rfl) (List.all_eq_true.1 (by kernel_rfl)) (by kernel_rfl) (by kernel_rfl) rfl ?_ oklst (by kernel_rfl) ?_ W base args ds gs before hval hW (str_glob hL' hs)
  · intro ds hds
    match ds, hds with
    | [d1, d2], _ => rfl
  · intro Q h
    have e : (argsT Tryd.prog Tryd.f18.params.toList).getD [] = [(true, [.cell (.int .i64), .cell (.int .i64)]), (false, [.cell .str])] := by kernel_rfl
    rw [e] at h
    obtain ⟨k, _, n, hn, s, _, hq⟩ := h
    exact ⟨_, hq, ⟨(by have h9 := hn; simp [Lit.wf, IntKind.min, IntKind.max, IntKind.signed, IntKind.bits] at h9; omega), rfl⟩⟩
theorem ListenStrings_row : Rows.ListenStringsSaid :=
  OpenClaim.holds_of_wide 18 Tryd.f18 rfl rfl rfl rfl rfl rfl rfl ⟨rfl, rfl, rfl, rfl, rfl⟩ rfl rfl rfl rfl rfl listenStrings_named Tryd.func18 listenStrings_closed listenStrings_inst listenStrings_wrap
    (fun os started H enc _ => lifted18 os started H enc)
theorem ListenStrings_holds : Rows.ListenStringsCardSaid :=
  Claim7.holds_tied_plain_at .later [] [.data, .data, .data, .data] true (true, "c73636dd90bb1235d6fec1f6f02343f1d38ce27153c58d0577484aa9e21c5f63") false ListenStrings_row (fun _ h => by cases h) listenStrings_wf (fun _ h => by cases h) listenStrings_row_tie rfl ⟨rfl, rfl⟩ listenStrings_main rfl
    (fun f fn hf hfn => by
      obtain rfl : f = 18 := Option.some.inj (listenStrings_named.symm.trans hf) |>.symm
      obtain rfl : fn = Tryd.f18 := (Option.some.inj (Tryd.func18.symm.trans hfn)).symm
      refine ⟨listenStrings_looks, fun j t ht => ?_⟩
      have hm : t ∈ Tryd.f18.params.toList := by simpa using Array.mem_of_getElem? ht
      have h := List.all_eq_true.1 listenStrings_plain t hm
      exact (show Tryd.prog.wantsStandIn t = false by simpa using h))
    listenStrings_goes
#print axioms ListenStrings_holds
end Go.Proofs.YtiflkochjfiegaaDoor
