/-
  TopListenExact: for every input the law returns true, and its arguments read as before; the package's table is tied to the text.
  Conditions: those of the given card (the table lacquer/listen.kernels holds what the text lays).
-/
import Derived.Test.YtiflkochjfiegaaDoorC9YA
import Derived.Test.YtiflkochjfiegaaDoorC9XJ
import Derived.Test.YtiflkochjfiegaaDoorEvOpen2
import Derived.Test.YtiflkochjfiegaaDoorC9L18f
import Derived.Lay
set_option linter.unusedVariables false
set_option linter.unusedSimpArgs false
set_option linter.unusedSectionVars false
namespace Go.Proofs.YtiflkochjfiegaaDoor
open Go Go.RowKit Go.ChangeShapes Go.WideShapes Go.Ev

set_option maxRecDepth 100000 in
theorem lifted15 (os : Os) (started : os.Started) (H : Type) (enc : TypeId × Value → H) :
    ReturnsInHanded {} Tryd.checked os 15 .any (fun w args => (Rows.topListenExactSpec.pre enc Tryd.prog Tryd.f15 [] false w args ∧ laidMetH Tryd.prog Rows.topListenExactRow.laid w) ∧ sizedMet enc Tryd.prog Tryd.f15 (OpenSpec.ofChange Rows.topListenExactSpec) false w args)
      (Rows.topListenExactSpec.post enc Tryd.prog Tryd.f15 false true false false) := by
  refine returnsInHanded_of_change_and_shaped (C := Tryd.checked) (X := fun w _ => laidMetH Tryd.prog Rows.topListenExactRow.laid w) (fun _ _ _ hh h => h.of_heap hh) (by kernel_rfl) started (by kernel_rfl) Tryd.func15
    (ChangeSpec.witness_shaped (enc := enc) (C := Tryd.checked) (os := os) (X := fun w _ => laidMetH Tryd.prog Rows.topListenExactRow.laid w) false (World.laidAll Tryd.prog os Rows.topListenExactRow.laid) #[.agg #[.slice none 0 0], .slice none 0 0, .agg #[.int .i64 0, .int .i64 0, .int .i64 0]] 8 (World.laidAll_os _ _ _)
      (World.shaped_of_ZipB (by kernel_rfl) (by kernel_rfl)) (by kernel_rfl) (by kernel_rfl) (by kernel_rfl)
      (by rw [MakeChecks.laidMetH_plain _ _ _ (by kernel_rfl)]; exact laidMet_laidAll _ (by kernel_rfl) (by kernel_rfl))) ?_
  intro W base args ds gs before hval hW hL hs
  have hL' : laidMet Tryd.prog Rows.topListenExactRow.laid W := by
    have h := hL
    rw [MakeChecks.laidMetH_plain _ _ _ (by kernel_rfl)] at h
    exact h
  have el : Rows.topListenExactRow.laid = [("math/bits.deBruijn32tab", Rows.laid_math_bits_deBruijn32tab), ("math/bits.deBruijn64tab", Rows.laid_math_bits_deBruijn64tab), ("internal/strconv.uint64pow10", Lib.tabData .u64 Lib.pow10Tab)] := by kernel_rfl
  rw [el] at hL'
  refine law_calls (shapes := (argsT Tryd.prog Tryd.f15.params.toList).getD []) (bt := Tryd.f15.resultTypes.getD 0 0) (by kernel_rfl) (List.all_eq_true.1 (by kernel_rfl)) (by kernel_rfl) (by kernel_rfl) rfl ?_ okexc (by kernel_rfl) ?_ W base args ds gs before hval hW (str_glob hL' hs)
  · intro ds hds
    match ds, hds with
    | [d1, d2, d3], _ => rfl
  · intro Q h
    have e : (argsT Tryd.prog Tryd.f15.params.toList).getD [] = [(true, [.rows [.int .i64]]), (false, [.rows [.int .i64]]), (true, [.cell (.int .i64), .cell (.int .i64), .cell (.int .i64)])] := by kernel_rfl
    rw [e] at h
    obtain ⟨hs, _, a, _, t, _, u, _, l, _, hq⟩ := h
    exact ⟨_, hq, rfl⟩

theorem TopListenExact_row : Rows.TopListenExactSaid :=
  OpenClaim.holds_of_wide 15 Tryd.f15 rfl rfl rfl rfl rfl rfl rfl ⟨rfl, rfl, rfl, rfl, rfl⟩ rfl rfl rfl rfl rfl topListenExact_named Tryd.func15 topListenExact_closed topListenExact_inst topListenExact_wrap
    (fun os started H enc _ => lifted15 os started H enc)
theorem TopListenExact_holds : Rows.TopListenExactCardSaid :=
  Claim7.holds_tied_plain_at .later [] [.data, .data, .data] true (true, "c73636dd90bb1235d6fec1f6f02343f1d38ce27153c58d0577484aa9e21c5f63") false TopListenExact_row (fun _ h => by cases h) topListenExact_wf (fun _ h => by cases h) topListenExact_row_tie rfl ⟨rfl, rfl⟩ topListenExact_main rfl
    (fun f fn hf hfn => by
      obtain rfl : f = 15 := Option.some.inj (topListenExact_named.symm.trans hf) |>.symm
      obtain rfl : fn = Tryd.f15 := (Option.some.inj (Tryd.func15.symm.trans hfn)).symm
      refine ⟨topListenExact_looks, fun j t ht => ?_⟩
      have hm : t ∈ Tryd.f15.params.toList := by simpa using Array.mem_of_getElem? ht
      have h := List.all_eq_true.1 topListenExact_plain t hm
      exact (show Tryd.prog.wantsStandIn t = false by simpa using h))
    topListenExact_goes
#print axioms TopListenExact_holds
end Go.Proofs.YtiflkochjfiegaaDoor
