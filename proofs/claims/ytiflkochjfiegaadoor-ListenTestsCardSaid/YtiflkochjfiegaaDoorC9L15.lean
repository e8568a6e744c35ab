/-
  ListenTests: for every input the law returns true, and its arguments read as before; the package's table is tied to the text.
  Conditions: those of the given card (the table lacquer/listen.kernels holds what the text lays).
-/
import Derived.Test.YtiflkochjfiegaaDoorC9TD
import Derived.Test.YtiflkochjfiegaaDoorC9K
import Derived.Test.YtiflkochjfiegaaDoorEvOpen2
import Derived.Test.YtiflkochjfiegaaDoorC9L15f
import Derived.Lay
set_option linter.unusedVariables false
set_option linter.unusedSimpArgs false
set_option linter.unusedSectionVars false
namespace Go.Proofs.YtiflkochjfiegaaDoor
open Go Go.RowKit Go.ChangeShapes Go.WideShapes Go.Ev

set_option maxRecDepth 100000 in
theorem lifted11 (os : Os) (started : os.Started) (H : Type) (enc : TypeId × Value → H) :
    ReturnsInHanded {} Tryd.checked os 11 .any (fun w args => (Rows.listenTestsSpec.pre enc Tryd.prog Tryd.f11 [] false w args ∧ laidMetH Tryd.prog Rows.listenTestsRow.laid w) ∧ sizedMet enc Tryd.prog Tryd.f11 (OpenSpec.ofChange Rows.listenTestsSpec) false w args)
      (Rows.listenTestsSpec.post enc Tryd.prog Tryd.f11 false true false false) := by
  refine returnsInHanded_of_change_and (C := Tryd.checked) (X := fun w _ => laidMetH Tryd.prog Rows.listenTestsRow.laid w) (fun _ _ _ hh h => h.of_heap hh) (by kernel_rfl) started (by kernel_rfl) Tryd.func11
    (ChangeSpec.witness_shaped (enc := enc) (C := Tryd.checked) (os := os) (X := fun w _ => laidMetH Tryd.prog Rows.listenTestsRow.laid w) false (World.laidAll Tryd.prog os Rows.listenTestsRow.laid) #[.agg #[.int .i64 0, .int .i64 0, .int .i64 0], .slice none 0 0] 8 (World.laidAll_os _ _ _)
      (World.shaped_of_ZipB (by kernel_rfl) (by kernel_rfl)) (by kernel_rfl) (by kernel_rfl) (by kernel_rfl)
      (by rw [MakeChecks.laidMetH_plain _ _ _ (by kernel_rfl)]; exact laidMet_laidAll _ (by kernel_rfl) (by kernel_rfl))) ?_
  intro W base args ds gs before hval hW _ _ hL _
  have hL' : laidMet Tryd.prog Rows.listenTestsRow.laid W := by
    have h := hL
    rw [MakeChecks.laidMetH_plain _ _ _ (by kernel_rfl)] at h
    exact h
  refine law_calls (shapes := (argsT Tryd.prog Tryd.f11.params.toList).getD []) (bt := Tryd.f11.resultTypes.getD 0 0) (by kernel_rfl) (List.all_eq_true.1 (by kernel_rfl)) (by kernel_rfl) (by kernel_rfl) rfl ?_ oktes (by kernel_rfl) ?_ W base args ds gs before hval hW (kern_glob hL')
  · intro ds hds
    match ds, hds with
    | [d1, d2], _ => rfl
  · intro Q h
    have e : (argsT Tryd.prog Tryd.f11.params.toList).getD [] = [(true, [.cell (.int .i64), .cell (.int .i64), .cell (.int .i64)]), (false, [.rows [.bool]])] := by kernel_rfl
    rw [e] at h
    obtain ⟨t, _, u, _, l, _, r, _, hq⟩ := h
    exact ⟨_, hq, rfl⟩

theorem ListenTests_row : Rows.ListenTestsSaid :=
  OpenClaim.holds_of_wide 11 Tryd.f11 rfl rfl rfl rfl rfl rfl rfl ⟨rfl, rfl, rfl, rfl, rfl⟩ rfl rfl rfl rfl rfl listenTests_named Tryd.func11 listenTests_closed listenTests_inst listenTests_wrap
    (fun os started H enc _ => lifted11 os started H enc)
theorem ListenTests_holds : Rows.ListenTestsCardSaid :=
  Claim7.holds_tied_plain_at .later [] [.data] true (true, "c73636dd90bb1235d6fec1f6f02343f1d38ce27153c58d0577484aa9e21c5f63") false ListenTests_row (fun _ h => by cases h) listenTests_wf (fun _ h => by cases h) listenTests_row_tie rfl ⟨rfl, rfl⟩ listenTests_main rfl
    (fun f fn hf hfn => by
      obtain rfl : f = 11 := Option.some.inj (listenTests_named.symm.trans hf) |>.symm
      obtain rfl : fn = Tryd.f11 := (Option.some.inj (Tryd.func11.symm.trans hfn)).symm
      refine ⟨listenTests_looks, fun j t ht => ?_⟩
      have hm : t ∈ Tryd.f11.params.toList := by simpa using Array.mem_of_getElem? ht
      have h := List.all_eq_true.1 listenTests_plain t hm
      exact (show Tryd.prog.wantsStandIn t = false by simpa using h))
    listenTests_goes
#print axioms ListenTests_holds
end Go.Proofs.YtiflkochjfiegaaDoor
