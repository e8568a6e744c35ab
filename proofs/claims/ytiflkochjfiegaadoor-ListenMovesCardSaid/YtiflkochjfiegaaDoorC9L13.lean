/-
  ListenMoves: for every input the law returns true, and its arguments read as before; the package's table is tied to the text.
  Conditions: those of the given card (the table lacquer/listen.kernels holds what the text lays).
-/
import Derived.Test.YtiflkochjfiegaaDoorC9MC
import Derived.Test.YtiflkochjfiegaaDoorC9K
import Derived.Test.YtiflkochjfiegaaDoorEvOpen2
import Derived.Test.YtiflkochjfiegaaDoorC9L13f
import Derived.Lay
set_option linter.unusedVariables false
set_option linter.unusedSimpArgs false
set_option linter.unusedSectionVars false
namespace Go.Proofs.YtiflkochjfiegaaDoor
open Go Go.RowKit Go.ChangeShapes Go.WideShapes Go.Ev

set_option maxRecDepth 100000 in
theorem lifted13 (os : Os) (started : os.Started) (H : Type) (enc : TypeId × Value → H) :
    ReturnsInHanded {} Tryd.checked os 13 .any (fun w args => (Rows.listenMovesSpec.pre enc Tryd.prog Tryd.f13 [] false w args ∧ laidMetH Tryd.prog Rows.listenMovesRow.laid w) ∧ sizedMet enc Tryd.prog Tryd.f13 (OpenSpec.ofChange Rows.listenMovesSpec) false w args)
      (Rows.listenMovesSpec.post enc Tryd.prog Tryd.f13 false true false false) := by
  refine returnsInHanded_of_change_and (C := Tryd.checked) (X := fun w _ => laidMetH Tryd.prog Rows.listenMovesRow.laid w) (fun _ _ _ hh h => h.of_heap hh) (by kernel_rfl) started (by kernel_rfl) Tryd.func13
    (ChangeSpec.witness_shaped (enc := enc) (C := Tryd.checked) (os := os) (X := fun w _ => laidMetH Tryd.prog Rows.listenMovesRow.laid w) false (World.laidAll Tryd.prog os Rows.listenMovesRow.laid) #[.slice none 0 0, .slice none 0 0] 8 (World.laidAll_os _ _ _)
      (World.shaped_of_ZipB (by kernel_rfl) (by kernel_rfl)) (by kernel_rfl) (by kernel_rfl) (by kernel_rfl)
      (by rw [MakeChecks.laidMetH_plain _ _ _ (by kernel_rfl)]; exact laidMet_laidAll _ (by kernel_rfl) (by kernel_rfl))) ?_
  intro W base args ds gs before hval hW _ _ hL _
  have hL' : laidMet Tryd.prog Rows.listenMovesRow.laid W := by
    have h := hL
    rw [MakeChecks.laidMetH_plain _ _ _ (by kernel_rfl)] at h
    exact h
  refine law_calls (shapes := (argsT Tryd.prog Tryd.f13.params.toList).getD []) (bt := Tryd.f13.resultTypes.getD 0 0) (by kernel_rfl) (List.all_eq_true.1 (by kernel_rfl)) (by kernel_rfl) (by kernel_rfl) rfl ?_ oklmv (by kernel_rfl) ?_ W base args ds gs before hval hW (kern_glob hL')
  · intro ds hds
    match ds, hds with
    | [d1, d2], _ => rfl
  · intro Q h
    have e : (argsT Tryd.prog Tryd.f13.params.toList).getD [] = [(false, [.rows [.int .i64, .int .i64, .str]]), (false, [.rows [.bool, .int .i64, .int .i64]])] := by kernel_rfl
    rw [e] at h
    obtain ⟨p, hp, q, hq9, hq⟩ := h
    exact ⟨_, hq, ⟨⟨wfN_of hp, wfE_of hq9⟩, rfl⟩⟩

theorem ListenMoves_row : Rows.ListenMovesSaid :=
  OpenClaim.holds_of_wide 13 Tryd.f13 rfl rfl rfl rfl rfl rfl rfl ⟨rfl, rfl, rfl, rfl, rfl⟩ rfl rfl rfl rfl rfl listenMoves_named Tryd.func13 listenMoves_closed listenMoves_inst listenMoves_wrap
    (fun os started H enc _ => lifted13 os started H enc)
theorem ListenMoves_holds : Rows.ListenMovesCardSaid :=
  Claim7.holds_tied_plain_at .later [] [.data] true (true, "c73636dd90bb1235d6fec1f6f02343f1d38ce27153c58d0577484aa9e21c5f63") false ListenMoves_row (fun _ h => by cases h) listenMoves_wf (fun _ h => by cases h) listenMoves_row_tie rfl ⟨rfl, rfl⟩ listenMoves_main rfl
    (fun f fn hf hfn => by
      obtain rfl : f = 13 := Option.some.inj (listenMoves_named.symm.trans hf) |>.symm
      obtain rfl : fn = Tryd.f13 := (Option.some.inj (Tryd.func13.symm.trans hfn)).symm
      refine ⟨listenMoves_looks, fun j t ht => ?_⟩
      have hm : t ∈ Tryd.f13.params.toList := by simpa using Array.mem_of_getElem? ht
      have h := List.all_eq_true.1 listenMoves_plain t hm
      exact (show Tryd.prog.wantsStandIn t = false by simpa using h))
    listenMoves_goes
#print axioms ListenMoves_holds
end Go.Proofs.YtiflkochjfiegaaDoor
