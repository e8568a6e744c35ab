/-
  ListenBlind: for every input the law returns true, and its arguments read as before; the package's table is tied to the text.
  Conditions: those of the given card (the table lacquer/listen.kernels holds what the text lays).
-/
import Derived.Test.YtiflkochjfiegaaDoorC9SG
import Derived.Test.YtiflkochjfiegaaDoorC9K
import Derived.Test.YtiflkochjfiegaaDoorEvOpen2
import Derived.Test.YtiflkochjfiegaaDoorC9L12f
import Derived.Lay
set_option linter.unusedVariables false
set_option linter.unusedSimpArgs false
set_option linter.unusedSectionVars false
namespace Go.Proofs.YtiflkochjfiegaaDoor
open Go Go.RowKit Go.ChangeShapes Go.WideShapes Go.Ev

set_option maxRecDepth 100000 in
theorem lifted17 (os : Os) (started : os.Started) (H : Type) (enc : TypeId × Value → H) :
    ReturnsInHanded {} Tryd.checked os 17 .any (fun w args => (Rows.listenBlindSpec.pre enc Tryd.prog Tryd.f17 [] false w args ∧ laidMetH Tryd.prog Rows.listenBlindRow.laid w) ∧ sizedMet enc Tryd.prog Tryd.f17 (OpenSpec.ofChange Rows.listenBlindSpec) false w args)
      (Rows.listenBlindSpec.post enc Tryd.prog Tryd.f17 false true false false) := by
  refine returnsInHanded_of_change_and (C := Tryd.checked) (X := fun w _ => laidMetH Tryd.prog Rows.listenBlindRow.laid w) (fun _ _ _ hh h => h.of_heap hh) (by kernel_rfl) started (by kernel_rfl) Tryd.func17
    (ChangeSpec.witness_shaped (enc := enc) (C := Tryd.checked) (os := os) (X := fun w _ => laidMetH Tryd.prog Rows.listenBlindRow.laid w) false (World.laidAll Tryd.prog os Rows.listenBlindRow.laid) #[.agg #[.slice none 0 0], .slice none 0 0] 8 (World.laidAll_os _ _ _)
      (World.shaped_of_ZipB (by kernel_rfl) (by kernel_rfl)) (by kernel_rfl) (by kernel_rfl) (by kernel_rfl)
      (by rw [MakeChecks.laidMetH_plain _ _ _ (by kernel_rfl)]; exact laidMet_laidAll _ (by kernel_rfl) (by kernel_rfl))) ?_
  intro W base args ds gs before hval hW _ _ hL _
  have hL' : laidMet Tryd.prog Rows.listenBlindRow.laid W := by
    have h := hL
    rw [MakeChecks.laidMetH_plain _ _ _ (by kernel_rfl)] at h
    exact h
  refine law_calls (shapes := (argsT Tryd.prog Tryd.f17.params.toList).getD []) (bt := Tryd.f17.resultTypes.getD 0 0) (by kernel_rfl) (List.all_eq_true.1 (by kernel_rfl)) (by kernel_rfl) (by kernel_rfl) rfl ?_ okbli (by kernel_rfl) ?_ W base args ds gs before hval hW (kern_glob hL')
  · intro ds hds
    match ds, hds with
    | [d1, d2], _ => rfl
  · intro Q h
    have e : (argsT Tryd.prog Tryd.f17.params.toList).getD [] = [(true, [.rows [.int .i64]]), (false, [.rows [.int .i64, .int .i64]])] := by kernel_rfl
    rw [e] at h
    obtain ⟨h, _, l, _, hq⟩ := h
    exact ⟨_, hq, rfl⟩

theorem ListenBlind_row : Rows.ListenBlindSaid :=
  OpenClaim.holds_of_wide 17 Tryd.f17 rfl rfl rfl rfl rfl rfl rfl ⟨rfl, rfl, rfl, rfl, rfl⟩ rfl rfl rfl rfl rfl listenBlind_named Tryd.func17 listenBlind_closed listenBlind_inst listenBlind_wrap
    (fun os started H enc _ => lifted17 os started H enc)
theorem ListenBlind_holds : Rows.ListenBlindCardSaid :=
  Claim7.holds_tied_plain_at .later [] [.data] true (true, "c73636dd90bb1235d6fec1f6f02343f1d38ce27153c58d0577484aa9e21c5f63") false ListenBlind_row (fun _ h => by cases h) listenBlind_wf (fun _ h => by cases h) listenBlind_row_tie rfl ⟨rfl, rfl⟩ listenBlind_main rfl
    (fun f fn hf hfn => by
      obtain rfl : f = 17 := Option.some.inj (listenBlind_named.symm.trans hf) |>.symm
      obtain rfl : fn = Tryd.f17 := (Option.some.inj (Tryd.func17.symm.trans hfn)).symm
      refine ⟨listenBlind_looks, fun j t ht => ?_⟩
      have hm : t ∈ Tryd.f17.params.toList := by simpa using Array.mem_of_getElem? ht
      have h := List.all_eq_true.1 listenBlind_plain t hm
      exact (show Tryd.prog.wantsStandIn t = false by simpa using h))
    listenBlind_goes
#print axioms ListenBlind_holds
end Go.Proofs.YtiflkochjfiegaaDoor
