/-
  ListenRankings: for every input the law returns true, and its arguments read as before; the package's table is tied to the text.
  Conditions: those of the given card (the table lacquer/listen.kernels holds what the text lays).
-/
import Derived.Test.YtiflkochjfiegaaDoorC9W
import Derived.Test.YtiflkochjfiegaaDoorC9K
import Derived.Test.YtiflkochjfiegaaDoorEvOpen2
import Derived.Test.YtiflkochjfiegaaDoorC9L8f
import Derived.Lay
set_option linter.unusedVariables false
set_option linter.unusedSimpArgs false
set_option linter.unusedSectionVars false
namespace Go.Proofs.YtiflkochjfiegaaDoor
open Go Go.RowKit Go.ChangeShapes Go.WideShapes Go.Ev

set_option maxRecDepth 100000 in
theorem lifted8 (os : Os) (started : os.Started) (H : Type) (enc : TypeId × Value → H) :
    ReturnsInHanded {} Tryd.checked os 8 .any (fun w args => (Rows.listenRankingsSpec.pre enc Tryd.prog Tryd.f8 [] false w args ∧ laidMetH Tryd.prog Rows.listenRankingsRow.laid w) ∧ sizedMet enc Tryd.prog Tryd.f8 (OpenSpec.ofChange Rows.listenRankingsSpec) false w args)
      (Rows.listenRankingsSpec.post enc Tryd.prog Tryd.f8 false true false false) := by
  refine returnsInHanded_of_change_and (C := Tryd.checked) (X := fun w _ => laidMetH Tryd.prog Rows.listenRankingsRow.laid w) (fun _ _ _ hh h => h.of_heap hh) (by kernel_rfl) started (by kernel_rfl) Tryd.func8
    (ChangeSpec.witness_shaped (enc := enc) (C := Tryd.checked) (os := os) (X := fun w _ => laidMetH Tryd.prog Rows.listenRankingsRow.laid w) false (World.laidAll Tryd.prog os Rows.listenRankingsRow.laid) #[.slice none 0 0, .slice none 0 0] 8 (World.laidAll_os _ _ _)
      (World.shaped_of_ZipB (by kernel_rfl) (by kernel_rfl)) (by kernel_rfl) (by kernel_rfl) (by kernel_rfl)
      (by rw [MakeChecks.laidMetH_plain _ _ _ (by kernel_rfl)]; exact laidMet_laidAll _ (by kernel_rfl) (by kernel_rfl))) ?_
  intro W base args ds gs before hval hW _ _ hL _
  have hL' : laidMet Tryd.prog Rows.listenRankingsRow.laid W := by
    have h := hL
    rw [MakeChecks.laidMetH_plain _ _ _ (by kernel_rfl)] at h
    exact h
  refine law_calls (shapes := (argsT Tryd.prog Tryd.f8.params.toList).getD []) (bt := Tryd.f8.resultTypes.getD 0 0) (by kernel_rfl) (List.all_eq_true.1 (by kernel_rfl)) (by kernel_rfl) (by kernel_rfl) rfl ?_ okrkg (by kernel_rfl) ?_ W base args ds gs before hval hW (kern_glob hL')
  · intro ds hds
    match ds, hds with
    | [d1, d2], _ => rfl
  · intro Q h
    have e : (argsT Tryd.prog Tryd.f8.params.toList).getD [] = [(false, [.rows [.sints .i64]]), (false, [.rows [.int .i64]])] := by kernel_rfl
    rw [e] at h
    obtain ⟨p, hp, o, _, hq⟩ := h
    exact ⟨_, hq, ⟨wf_of hp, rfl⟩⟩

theorem ListenRankings_row : Rows.ListenRankingsSaid :=
  OpenClaim.holds_of_wide 8 Tryd.f8 rfl rfl rfl rfl rfl rfl rfl ⟨rfl, rfl, rfl, rfl, rfl⟩ rfl rfl rfl rfl rfl listenRankings_named Tryd.func8 listenRankings_closed listenRankings_inst listenRankings_wrap
    (fun os started H enc _ => lifted8 os started H enc)
theorem ListenRankings_holds : Rows.ListenRankingsCardSaid :=
  Claim7.holds_tied_plain_at .later [] [.data] true (true, "c73636dd90bb1235d6fec1f6f02343f1d38ce27153c58d0577484aa9e21c5f63") false ListenRankings_row (fun _ h => by cases h) listenRankings_wf (fun _ h => by cases h) listenRankings_row_tie rfl ⟨rfl, rfl⟩ listenRankings_main rfl
    (fun f fn hf hfn => by
      obtain rfl : f = 8 := Option.some.inj (listenRankings_named.symm.trans hf) |>.symm
      obtain rfl : fn = Tryd.f8 := (Option.some.inj (Tryd.func8.symm.trans hfn)).symm
      refine ⟨listenRankings_looks, fun j t ht => ?_⟩
      have hm : t ∈ Tryd.f8.params.toList := by simpa using Array.mem_of_getElem? ht
      have h := List.all_eq_true.1 listenRankings_plain t hm
      exact (show Tryd.prog.wantsStandIn t = false by simpa using h))
    listenRankings_goes
#print axioms ListenRankings_holds
end Go.Proofs.YtiflkochjfiegaaDoor
