/-
  ListenFollow: for every input the law returns true, and its arguments read as before; the package's table is tied to the text.
  Conditions: those of the given card (the table lacquer/listen.kernels holds what the text lays).
-/
import Derived.Test.YtiflkochjfiegaaDoorC9MD
import Derived.Test.YtiflkochjfiegaaDoorC9K
import Derived.Test.YtiflkochjfiegaaDoorEvOpen2
import Derived.Test.YtiflkochjfiegaaDoorC9L14f
import Derived.Lay
set_option linter.unusedVariables false
set_option linter.unusedSimpArgs false
set_option linter.unusedSectionVars false
namespace Go.Proofs.YtiflkochjfiegaaDoor
open Go Go.RowKit Go.ChangeShapes Go.WideShapes Go.Ev

set_option maxRecDepth 100000 in
theorem lifted14 (os : Os) (started : os.Started) (H : Type) (enc : TypeId × Value → H) :
    ReturnsInHanded {} Tryd.checked os 14 .any (fun w args => (Rows.listenFollowSpec.pre enc Tryd.prog Tryd.f14 [] false w args ∧ laidMetH Tryd.prog Rows.listenFollowRow.laid w) ∧ sizedMet enc Tryd.prog Tryd.f14 (OpenSpec.ofChange Rows.listenFollowSpec) false w args)
      (Rows.listenFollowSpec.post enc Tryd.prog Tryd.f14 false true false false) := by
  refine returnsInHanded_of_change_and (C := Tryd.checked) (X := fun w _ => laidMetH Tryd.prog Rows.listenFollowRow.laid w) (fun _ _ _ hh h => h.of_heap hh) (by kernel_rfl) started (by kernel_rfl) Tryd.func14
    (ChangeSpec.witness_shaped (enc := enc) (C := Tryd.checked) (os := os) (X := fun w _ => laidMetH Tryd.prog Rows.listenFollowRow.laid w) false (World.laidAll Tryd.prog os Rows.listenFollowRow.laid) #[.slice none 0 0, .agg #[.bool false, .int .i64 0, .int .i64 0], .agg #[.bool false, .int .i64 0, .int .i64 0]] 8 (World.laidAll_os _ _ _)
      (World.shaped_of_ZipB (by kernel_rfl) (by kernel_rfl)) (by kernel_rfl) (by kernel_rfl) (by kernel_rfl)
      (by rw [MakeChecks.laidMetH_plain _ _ _ (by kernel_rfl)]; exact laidMet_laidAll _ (by kernel_rfl) (by kernel_rfl))) ?_
  intro W base args ds gs before hval hW _ _ hL _
  have hL' : laidMet Tryd.prog Rows.listenFollowRow.laid W := by
    have h := hL
    rw [MakeChecks.laidMetH_plain _ _ _ (by kernel_rfl)] at h
    exact h
  refine law_calls (shapes := (argsT Tryd.prog Tryd.f14.params.toList).getD []) (bt := Tryd.f14.resultTypes.getD 0 0) (by kernel_rfl) (List.all_eq_true.1 (by kernel_rfl)) (by kernel_rfl) (by kernel_rfl) rfl ?_ okfol (by kernel_rfl) ?_ W base args ds gs before hval hW (kern_glob hL')
  · intro ds hds
    match ds, hds with
    | [d1, d2, d3], _ => rfl
  · intro Q h
    have e : (argsT Tryd.prog Tryd.f14.params.toList).getD [] = [(false, [.rows [.int .i64, .int .i64, .str]]), (true, [.cell .bool, .cell (.int .i64), .cell (.int .i64)]), (true, [.cell .bool, .cell (.int .i64), .cell (.int .i64)])] := by kernel_rfl
    rw [e] at h
    obtain ⟨p, hp, ab, aa, _, al, _, bb, ba, _, bl, _, hq⟩ := h
    exact ⟨_, hq, ⟨wfN_of hp, rfl⟩⟩

theorem ListenFollow_row : Rows.ListenFollowSaid :=
  OpenClaim.holds_of_wide 14 Tryd.f14 rfl rfl rfl rfl rfl rfl rfl ⟨rfl, rfl, rfl, rfl, rfl⟩ rfl rfl rfl rfl rfl listenFollow_named Tryd.func14 listenFollow_closed listenFollow_inst listenFollow_wrap
    (fun os started H enc _ => lifted14 os started H enc)
theorem ListenFollow_holds : Rows.ListenFollowCardSaid :=
  Claim7.holds_tied_plain_at .later [] [.data] true (true, "c73636dd90bb1235d6fec1f6f02343f1d38ce27153c58d0577484aa9e21c5f63") false ListenFollow_row (fun _ h => by cases h) listenFollow_wf (fun _ h => by cases h) listenFollow_row_tie rfl ⟨rfl, rfl⟩ listenFollow_main rfl
    (fun f fn hf hfn => by
      obtain rfl : f = 14 := Option.some.inj (listenFollow_named.symm.trans hf) |>.symm
      obtain rfl : fn = Tryd.f14 := (Option.some.inj (Tryd.func14.symm.trans hfn)).symm
      refine ⟨listenFollow_looks, fun j t ht => ?_⟩
      have hm : t ∈ Tryd.f14.params.toList := by simpa using Array.mem_of_getElem? ht
      have h := List.all_eq_true.1 listenFollow_plain t hm
      exact (show Tryd.prog.wantsStandIn t = false by simpa using h))
    listenFollow_goes
#print axioms ListenFollow_holds
end Go.Proofs.YtiflkochjfiegaaDoor
