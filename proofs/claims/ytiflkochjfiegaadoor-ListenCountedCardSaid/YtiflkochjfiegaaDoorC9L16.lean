/-
  ListenCounted: for every input the law returns true, and its arguments read as before; the package's table is tied to the text.
  Conditions: those of the given card (the table lacquer/listen.kernels holds what the text lays).
-/
import Derived.Test.YtiflkochjfiegaaDoorC9TD
import Derived.Test.YtiflkochjfiegaaDoorC9K
import Derived.Test.YtiflkochjfiegaaDoorEvOpen2
import Derived.Test.YtiflkochjfiegaaDoorC9L16f
import Derived.Lay
set_option linter.unusedVariables false
set_option linter.unusedSimpArgs false
set_option linter.unusedSectionVars false
namespace Go.Proofs.YtiflkochjfiegaaDoor
open Go Go.RowKit Go.ChangeShapes Go.WideShapes Go.Ev

set_option maxRecDepth 100000 in
theorem lifted12 (os : Os) (started : os.Started) (H : Type) (enc : TypeId × Value → H) :
    ReturnsInHanded {} Tryd.checked os 12 .any (fun w args => (Rows.listenCountedSpec.pre enc Tryd.prog Tryd.f12 [] false w args ∧ laidMetH Tryd.prog Rows.listenCountedRow.laid w) ∧ sizedMet enc Tryd.prog Tryd.f12 (OpenSpec.ofChange Rows.listenCountedSpec) false w args)
      (Rows.listenCountedSpec.post enc Tryd.prog Tryd.f12 false true false false) := by
  refine returnsInHanded_of_change_and (C := Tryd.checked) (X := fun w _ => laidMetH Tryd.prog Rows.listenCountedRow.laid w) (fun _ _ _ hh h => h.of_heap hh) (by kernel_rfl) started (by kernel_rfl) Tryd.func12
    (ChangeSpec.witness_shaped (enc := enc) (C := Tryd.checked) (os := os) (X := fun w _ => laidMetH Tryd.prog Rows.listenCountedRow.laid w) false (World.laidAll Tryd.prog os Rows.listenCountedRow.laid) #[.agg #[.int .i64 0, .int .i64 0, .int .i64 0]] 8 (World.laidAll_os _ _ _)
      (World.shaped_of_ZipB (by kernel_rfl) (by kernel_rfl)) (by kernel_rfl) (by kernel_rfl) (by kernel_rfl)
      (by rw [MakeChecks.laidMetH_plain _ _ _ (by kernel_rfl)]; exact laidMet_laidAll _ (by kernel_rfl) (by kernel_rfl))) ?_
  intro W base args ds gs before hval hW _ _ hL _
  have hL' : laidMet Tryd.prog Rows.listenCountedRow.laid W := by
    have h := hL
    rw [MakeChecks.laidMetH_plain _ _ _ (by kernel_rfl)] at h
    exact h
  refine law_calls (shapes := (argsT Tryd.prog Tryd.f12.params.toList).getD []) (bt := Tryd.f12.resultTypes.getD 0 0) (by kernel_rfl) (List.all_eq_true.1 (by kernel_rfl)) (by kernel_rfl) (by kernel_rfl) rfl ?_ okcnt (by kernel_rfl) ?_ W base args ds gs before hval hW (kern_glob hL')
  · intro ds hds
    match ds, hds with
    | [d1], _ => rfl
  · intro Q h
    have e : (argsT Tryd.prog Tryd.f12.params.toList).getD [] = [(true, [.cell (.int .i64), .cell (.int .i64), .cell (.int .i64)])] := by kernel_rfl
    rw [e] at h
    obtain ⟨t, _, u, _, l, _, hq⟩ := h
    exact ⟨_, hq, rfl⟩

theorem ListenCounted_row : Rows.ListenCountedSaid :=
  OpenClaim.holds_of_wide 12 Tryd.f12 rfl rfl rfl rfl rfl rfl rfl ⟨rfl, rfl, rfl, rfl, rfl⟩ rfl rfl rfl rfl rfl listenCounted_named Tryd.func12 listenCounted_closed listenCounted_inst listenCounted_wrap
    (fun os started H enc _ => lifted12 os started H enc)
theorem ListenCounted_holds : Rows.ListenCountedCardSaid :=
  Claim7.holds_tied_plain_at .later [] [.data] true (true, "c73636dd90bb1235d6fec1f6f02343f1d38ce27153c58d0577484aa9e21c5f63") false ListenCounted_row (fun _ h => by cases h) listenCounted_wf (fun _ h => by cases h) listenCounted_row_tie rfl ⟨rfl, rfl⟩ listenCounted_main rfl
    (fun f fn hf hfn => by
      obtain rfl : f = 12 := Option.some.inj (listenCounted_named.symm.trans hf) |>.symm
      obtain rfl : fn = Tryd.f12 := (Option.some.inj (Tryd.func12.symm.trans hfn)).symm
      refine ⟨listenCounted_looks, fun j t ht => ?_⟩
      have hm : t ∈ Tryd.f12.params.toList := by simpa using Array.mem_of_getElem? ht
      have h := List.all_eq_true.1 listenCounted_plain t hm
      exact (show Tryd.prog.wantsStandIn t = false by simpa using h))
    listenCounted_goes
#print axioms ListenCounted_holds
end Go.Proofs.YtiflkochjfiegaaDoor
