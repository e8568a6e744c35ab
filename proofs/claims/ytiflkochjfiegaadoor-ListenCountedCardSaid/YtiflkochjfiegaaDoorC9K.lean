/-
  Chapter 9: what the condition on the package's table gives: its cells.
-/
import Derived.Test.YtiflkochjfiegaaDoorC9A
import Derived.Test.YtiflkochjfiegaaDoorEvOpen2
import Derived.OpenShut
import Derived.Handed
import Derived.FnData
import Derived.MakeChecks
import Derived.KernelRfl
set_option linter.unusedVariables false
set_option linter.unusedSimpArgs false
set_option linter.unusedSectionVars false
namespace Go.Ev
open Go Go.Proofs Go.RowKit

theorem trod_float {H : Type} {enc : TypeId × Value → H} {P : Program} {w : World} {base : Nat} {spare : Nat → Bool} {held : Bool} {fuel : Nat} {t : TypeId} {cs : List Value} {x : DataW H × List MemPlace} {k : FloatKind}
    (ht : P.underlying t = some (.float k)) (h : DataW.trod enc P w base spare held fuel t cs = some x) : ∃ b, cs = [.float k b] ∧ x = (.lit (.float k b), []) := by
  cases fuel with
  | zero => simp [DataW.trod] at h
  | succ n =>
    unfold DataW.trod at h
    rw [ht] at h
    split at h <;> simp_all
theorem trod_four {P : Program} {w : World} {fuel : Nat} {t e : TypeId} {cs : List Value} {p : List MemPlace} {k : FloatKind} {d0 d1 d2 d3 : Nat}
    (hu : P.underlying t = some (.array 4 e)) (he : P.underlying e = some (.float k)) (hc : P.cellsOf e = 1) (hct : P.cellsOf t = 4)
    (h : DataW.trod (fun _ => ()) P w 0 (fun _ => true) false fuel t cs = some (.agg [.lit (.float k d0), .lit (.float k d1), .lit (.float k d2), .lit (.float k d3)], p)) :
    cs = [.float k d0, .float k d1, .float k d2, .float k d3] := by
  obtain ⟨xs, m, _, ex, hlen, hl, hel⟩ := DataW.trod_array hu h
  rw [hct] at hlen
  match cs, hlen with
  | [a, b, c, d], _ =>
    match xs, hl with
    | [x0, x1, x2, x3], _ =>
      have e3 := (DataW.agg.inj (Prod.mk.inj ex).1)
      simp only [List.map_cons, List.map_nil, List.cons.injEq, and_true] at e3
      have k0 := hel 0 (by omega); have k1 := hel 1 (by omega); have k2 := hel 2 (by omega); have k3 := hel 3 (by omega)
      rw [hc] at k0 k1 k2 k3
      obtain ⟨z0, a0, b0⟩ := trod_float he k0
      obtain ⟨z1, a1, b1⟩ := trod_float he k1
      obtain ⟨z2, a2, b2⟩ := trod_float he k2
      obtain ⟨z3, a3, b3⟩ := trod_float he k3
      simp_all
theorem trod_twelve {P : Program} {w : World} {fuel : Nat} {t t4 e : TypeId} {cs : List Value} {p : List MemPlace} {k : FloatKind} {d0 d1 d2 d3 d4 d5 d6 d7 d8 d9 d10 d11 : Nat}
    (hu : P.underlying t = some (.array 3 t4)) (hu4 : P.underlying t4 = some (.array 4 e)) (he : P.underlying e = some (.float k)) (hc : P.cellsOf e = 1) (hct4 : P.cellsOf t4 = 4) (hct : P.cellsOf t = 12)
    (h : DataW.trod (fun _ => ()) P w 0 (fun _ => true) false fuel t cs = some (.agg [.agg [.lit (.float k d0), .lit (.float k d1), .lit (.float k d2), .lit (.float k d3)],
      .agg [.lit (.float k d4), .lit (.float k d5), .lit (.float k d6), .lit (.float k d7)], .agg [.lit (.float k d8), .lit (.float k d9), .lit (.float k d10), .lit (.float k d11)]], p)) :
    cs = [.float k d0, .float k d1, .float k d2, .float k d3, .float k d4, .float k d5, .float k d6, .float k d7, .float k d8, .float k d9, .float k d10, .float k d11] := by
  obtain ⟨xs, m, _, ex, hlen, hl, hel⟩ := DataW.trod_array hu h
  rw [hct] at hlen
  match cs, hlen with
  | [c0, c1, c2, c3, c4, c5, c6, c7, c8, c9, c10, c11], _ =>
    match xs, hl with
    | [(y0, q0), (y1, q1), (y2, q2)], _ =>
      have e3 := (DataW.agg.inj (Prod.mk.inj ex).1)
      simp only [List.map_cons, List.map_nil, List.cons.injEq, and_true] at e3
      obtain ⟨rfl, rfl, rfl⟩ := e3
      have k0 := hel 0 (by omega); have k1 := hel 1 (by omega); have k2 := hel 2 (by omega)
      rw [hct4] at k0 k1 k2
      have a0 := trod_four hu4 he hc hct4 k0
      have a1 := trod_four hu4 he hc hct4 k1
      have a2 := trod_four hu4 he hc hct4 k2
      simp only [Nat.zero_mul, Nat.one_mul, Nat.reduceMul, List.drop_zero, List.drop_succ_cons, List.take_succ_cons, List.take_zero, List.cons.injEq, and_true] at a0 a1 a2
      simp_all
theorem kern_glob {w : World} (h : laidMet Tryd.prog [("lacquer/listen.kernels", .agg [.agg [.lit (.float .f32 3235905536), .lit (.float .f32 1121058816), .lit (.float .f32 1108082688), .lit (.float .f32 3231711232)], .agg [.lit (.float .f32 3238002688), .lit (.float .f32 1116733440), .lit (.float .f32 1116733440), .lit (.float .f32 3238002688)], .agg [.lit (.float .f32 3231711232), .lit (.float .f32 1108082688), .lit (.float .f32 1121058816), .lit (.float .f32 3235905536)]])] w) :
    GlobOK (Mut (fun _ => False) [] []) w := by
  obtain ⟨ps, ⟨g, t, cs, fuel, p, q, hg, ht, hv, hd, _, _⟩, _, _⟩ := h
  obtain rfl := Option.some.inj ((show Tryd.prog.globalNamed "lacquer/listen.kernels" = some 0 by kernel_rfl).symm.trans hg)
  obtain rfl := Option.some.inj ((show (Tryd.prog.globals[0]?).map (·.type) = some 202 by kernel_rfl).symm.trans ht)
  have hcs := trod_twelve (t4 := 201) (e := 188) (by kernel_rfl) (by kernel_rfl) (by kernel_rfl) (by kernel_rfl) (by kernel_rfl) (by kernel_rfl) hd
  have hcell : ∀ j, w.cell? ⟨0, j, none⟩ = cs.toList[j]? := fun j => by rw [World.var?_cell hg hv j, Array.getElem?_toList]
  rw [hcs] at hcell
  intro g l hl
  have hgl : g = 0 ∧ l = [.flt .f32 3235905536, .flt .f32 1121058816, .flt .f32 1108082688, .flt .f32 3231711232, .flt .f32 3238002688, .flt .f32 1116733440, .flt .f32 1116733440, .flt .f32 3238002688, .flt .f32 3231711232, .flt .f32 1108082688, .flt .f32 1121058816, .flt .f32 3235905536] := by
    cases g with
    | zero => exact ⟨rfl, (Option.some.inj hl).symm⟩
    | succ n => cases hl
  obtain ⟨rfl, rfl⟩ := hgl
  refine ⟨?_, ?_, ?_⟩
  · have h0 := hcell 0
    exact cell_lt (a := ⟨0, 0, none⟩) h0
  · rintro (h | ⟨id, _, _, _, h, _⟩)
    · exact h
    · simp at h
  · intro j sv hj
    rw [hcell j]
    match j, hj with
    | 0, hj => cases hj; exact ⟨_, rfl, rfl⟩
    | 1, hj => cases hj; exact ⟨_, rfl, rfl⟩
    | 2, hj => cases hj; exact ⟨_, rfl, rfl⟩
    | 3, hj => cases hj; exact ⟨_, rfl, rfl⟩
    | 4, hj => cases hj; exact ⟨_, rfl, rfl⟩
    | 5, hj => cases hj; exact ⟨_, rfl, rfl⟩
    | 6, hj => cases hj; exact ⟨_, rfl, rfl⟩
    | 7, hj => cases hj; exact ⟨_, rfl, rfl⟩
    | 8, hj => cases hj; exact ⟨_, rfl, rfl⟩
    | 9, hj => cases hj; exact ⟨_, rfl, rfl⟩
    | 10, hj => cases hj; exact ⟨_, rfl, rfl⟩
    | 11, hj => cases hj; exact ⟨_, rfl, rfl⟩
    | n + 12, hj => simp at hj
end Go.Ev
