/-
  Part of the proof of a law.
-/
import Derived.Test.YtiflkochjfiegaaDoorC9A
import Derived.Test.YtiflkochjfiegaaDoorEvOpen2
import Derived.Test.YtiflkochjfiegaaDoorEvShaped
import Derived.Test.YtiflkochjfiegaaDoorEvTab
import Derived.OpenShut
import Derived.Handed
import Derived.FnData
import Derived.MakeChecks
import Derived.KernelRfl
import Derived.Lib.ItoaNum
set_option linter.unusedVariables false
set_option linter.unusedSimpArgs false
set_option linter.unusedSectionVars false
/-
  Chapter 9: what the condition on the package's tables, and the world's shape, give: their cells.
-/
namespace Go.Ev
open Go Go.Proofs Go.RowKit
theorem trod_float {H : Type} {enc : TypeId × Value → H} {P : Program} {w : World} {base : Nat} {spare : Nat → Bool} {held : Bool} {fuel : Nat} {t : TypeId} {cs : List Value} {x : DataW H × List MemPlace} {k : FloatKind}
    (ht : P.underlying t = some (.float k)) (h : DataW.trod enc P w base spare held fuel t cs = some x) : ∃ b, cs = [.float k b] ∧ x = (.lit (.float k b), []) := by
  cases fuel with
  | zero => simp [DataW.trod] at h
  | succ n =>
    unfold DataW.trod at h
    rw [ht] at h
    split at h <;> simp_all
theorem trod_four {P : Program} {w : World} {fuel : Nat} {t e : TypeId} {cs : List Value} {p : List MemPlace} {k : FloatKind} {d0 d1 d2 d3 : Nat}
    (hu : P.underlying t = some (.array 4 e)) (he : P.underlying e = some (.float k)) (hc : P.cellsOf e = 1) (hct : P.cellsOf t = 4)
    (h : DataW.trod (fun _ => ()) P w 0 (fun _ => true) false fuel t cs = some (.agg [.lit (.float k d0), .lit (.float k d1), .lit (.float k d2), .lit (.float k d3)], p)) :
    cs = [.float k d0, .float k d1, .float k d2, .float k d3] := by
  obtain ⟨xs, m, _, ex, hlen, hl, hel⟩ := DataW.trod_array hu h
  rw [hct] at hlen
  match cs, hlen with
  | [a, b, c, d], _ =>
    match xs, hl with
    | [x0, x1, x2, x3], _ =>
      have e3 := (DataW.agg.inj (Prod.mk.inj ex).1)
      simp only [List.map_cons, List.map_nil, List.cons.injEq, and_true] at e3
      have k0 := hel 0 (by omega); have k1 := hel 1 (by omega); have k2 := hel 2 (by omega); have k3 := hel 3 (by omega)
      rw [hc] at k0 k1 k2 k3
      obtain ⟨z0, a0, b0⟩ := trod_float he k0
      obtain ⟨z1, a1, b1⟩ := trod_float he k1
      obtain ⟨z2, a2, b2⟩ := trod_float he k2
      obtain ⟨z3, a3, b3⟩ := trod_float he k3
      simp_all
theorem trod_twelve {P : Program} {w : World} {fuel : Nat} {t t4 e : TypeId} {cs : List Value} {p : List MemPlace} {k : FloatKind} {d0 d1 d2 d3 d4 d5 d6 d7 d8 d9 d10 d11 : Nat}
    (hu : P.underlying t = some (.array 3 t4)) (hu4 : P.underlying t4 = some (.array 4 e)) (he : P.underlying e = some (.float k)) (hc : P.cellsOf e = 1) (hct4 : P.cellsOf t4 = 4) (hct : P.cellsOf t = 12)
    (h : DataW.trod (fun _ => ()) P w 0 (fun _ => true) false fuel t cs = some (.agg [.agg [.lit (.float k d0), .lit (.float k d1), .lit (.float k d2), .lit (.float k d3)],
      .agg [.lit (.float k d4), .lit (.float k d5), .lit (.float k d6), .lit (.float k d7)], .agg [.lit (.float k d8), .lit (.float k d9), .lit (.float k d10), .lit (.float k d11)]], p)) :
    cs = [.float k d0, .float k d1, .float k d2, .float k d3, .float k d4, .float k d5, .float k d6, .float k d7, .float k d8, .float k d9, .float k d10, .float k d11] := by
  obtain ⟨xs, m, _, ex, hlen, hl, hel⟩ := DataW.trod_array hu h
  rw [hct] at hlen
  match cs, hlen with
  | [c0, c1, c2, c3, c4, c5, c6, c7, c8, c9, c10, c11], _ =>
    match xs, hl with
    | [(y0, q0), (y1, q1), (y2, q2)], _ =>
      have e3 := (DataW.agg.inj (Prod.mk.inj ex).1)
      simp only [List.map_cons, List.map_nil, List.cons.injEq, and_true] at e3
      obtain ⟨rfl, rfl, rfl⟩ := e3
      have k0 := hel 0 (by omega); have k1 := hel 1 (by omega); have k2 := hel 2 (by omega)
      rw [hct4] at k0 k1 k2
      have a0 := trod_four hu4 he hc hct4 k0
      have a1 := trod_four hu4 he hc hct4 k1
      have a2 := trod_four hu4 he hc hct4 k2
      simp only [Nat.zero_mul, Nat.one_mul, Nat.reduceMul, List.drop_zero, List.drop_succ_cons, List.take_succ_cons, List.take_zero, List.cons.injEq, and_true] at a0 a1 a2
      simp_all
theorem laid_tail {P : Program} {x : String × DataW Unit} {r : List (String × DataW Unit)} {w : World} (h : laidMet P (x :: r) w) : laidMet P r w := by
  obtain ⟨ps, ⟨g, t, cs, fuel, p, q, hg, ht, hv, hd, hr, rfl⟩, hn, hc⟩ := h
  exact ⟨q, hr, (List.nodup_append.1 hn).2.1, fun b off hb => hc b off (List.mem_append_right _ hb)⟩
theorem var_block {P : Program} {w : World} {name : String} {g : Nat} {cs : Array Value} (hg : P.globalNamed name = some g) (h : w.var? P name = some cs) : ∃ t fr, w.heap[g]? = some (.cells cs t fr) := by
  unfold World.var? at h
  rw [hg] at h
  change (match w.heap[g]? with | some (.cells cs _ _) => some cs | _ => none) = some cs at h
  split at h
  · rename_i c t fr hh
    cases h
    exact ⟨t, fr, hh⟩
  · cases h
theorem all2_tab (k : IntKind) : ∀ zs : List Int, All2 plainDen (zs.map (SV.int k)) (zs.map fun z => Value.int k z)
  | [] => trivial
  | z :: zs => ⟨rfl, all2_tab k zs⟩
theorem glob_block {w : World} {g : Nat} {l : List SV} {arr : Array Value} {t : TypeId} {fr : Nat × Nat} (h : w.heap[g]? = some (.cells arr t fr)) (hl : All2 plainDen l arr.toList) :
    g < w.heap.size ∧ ¬ Mut (fun _ => False) [] [] g ∧ ∀ (j : Nat) (sv : SV), l[j]? = some sv → (∃ u, w.cell? ⟨g, j, none⟩ = some u ∧ plainDen sv u) ∧ ∃ arr t fr, w.heap[g]? = some (.cells arr t fr) ∧ arr.size = l.length := by
  refine ⟨(Array.getElem?_eq_some_iff.1 h).1, ?_, fun j sv hj => ⟨?_, arr, t, fr, h, by rw [hl.length]; simp⟩⟩
  · rintro (h | ⟨id, _, _, _, h, _⟩)
    · exact h
    · simp at h
  · obtain ⟨u, hu, hd⟩ := hl.get hj
    exact ⟨u, by rw [cell_of_cells h]; simpa using hu, hd⟩
theorem glob_int {w : World} {g : Nat} {m : Int} {t : TypeId} {fr : Nat × Nat} (h : w.heap[g]? = some (.cells #[.int .i64 m] t fr)) :
    g < w.heap.size ∧ ¬ Mut (fun _ => False) [] [] g ∧ ∀ (j : Nat) (sv : SV), [SV.any][j]? = some sv → (∃ u, w.cell? ⟨g, j, none⟩ = some u ∧ plainDen sv u) ∧ ∃ arr t fr, w.heap[g]? = some (.cells arr t fr) ∧ arr.size = [SV.any].length :=
  glob_block h ⟨⟨m, rfl⟩, trivial⟩
theorem maxlen_glob {w : World} (hs : w.ShapedOpen Tryd.prog) : ∃ m t fr, w.heap[1]? = some (.cells #[.int .i64 m] t fr) := by
  obtain ⟨m, fr, h⟩ := block_of_shapedOpen_int (P := Tryd.prog) (g := 1) (t := 3) (zero := #[.int .i64 0]) (k := .i64) hs (by decide +kernel) (by kernel_rfl) rfl (by kernel_rfl) (by kernel_rfl) (by kernel_rfl)
  exact ⟨m, 3, fr, h⟩
theorem str_glob {w : World} {a b : String × DataW Unit} (h : laidMet Tryd.prog [a, b, ("internal/strconv.uint64pow10", Lib.tabData .u64 Lib.pow10Tab), ("lacquer/listen.kernels", .agg [.agg [.lit (.float .f32 3235905536), .lit (.float .f32 1121058816), .lit (.float .f32 1108082688), .lit (.float .f32 3231711232)], .agg [.lit (.float .f32 3238002688), .lit (.float .f32 1116733440), .lit (.float .f32 1116733440), .lit (.float .f32 3238002688)], .agg [.lit (.float .f32 3231711232), .lit (.float .f32 1108082688), .lit (.float .f32 1121058816), .lit (.float .f32 3235905536)]])] w) (hs : w.ShapedOpen Tryd.prog) :
    GlobOK (Mut (fun _ => False) [] []) w := by
  have h2 := laid_tail (laid_tail h)
  have htab := Lib.tabIs_of_head (g := 2) (t := 219) (e := 210) (n := 20) (by kernel_rfl) (by kernel_rfl) (by kernel_rfl) (by kernel_rfl) (by kernel_rfl) (by kernel_rfl) h2
  obtain ⟨ps, ⟨g, t, cs, fuel, p, q, hg, ht, hv, hd, _, _⟩, _, _⟩ := laid_tail h2
  obtain rfl := Option.some.inj ((show Tryd.prog.globalNamed "lacquer/listen.kernels" = some 0 by kernel_rfl).symm.trans hg)
  obtain rfl := Option.some.inj ((show (Tryd.prog.globals[0]?).map (·.type) = some 202 by kernel_rfl).symm.trans ht)
  have hcs := trod_twelve (t4 := 201) (e := 188) (by kernel_rfl) (by kernel_rfl) (by kernel_rfl) (by kernel_rfl) (by kernel_rfl) (by kernel_rfl) hd
  obtain ⟨t0, fr0, hb0⟩ := var_block hg hv
  obtain ⟨t2, fr2, hb2⟩ := var_block (show Tryd.prog.globalNamed "internal/strconv.uint64pow10" = some 2 by kernel_rfl) htab
  obtain ⟨m, t1, fr1, hb1⟩ := maxlen_glob hs
  have k0 := glob_block hb0 (l := [.flt .f32 3235905536, .flt .f32 1121058816, .flt .f32 1108082688, .flt .f32 3231711232, .flt .f32 3238002688, .flt .f32 1116733440, .flt .f32 1116733440, .flt .f32 3238002688, .flt .f32 3231711232, .flt .f32 1108082688, .flt .f32 1121058816, .flt .f32 3235905536]) (by
    rw [hcs]
    exact ⟨rfl, rfl, rfl, rfl, rfl, rfl, rfl, rfl, rfl, rfl, rfl, rfl, trivial⟩)
  have k2 := glob_block hb2 (all2_tab .u64 Lib.pow10Tab)
  intro g l hl
  match g, hl with
  | 0, hl => cases hl; exact k0
  | 1, hl => cases hl; exact glob_int hb1
  | 2, hl => cases hl; exact k2
  | n + 3, hl => cases hl
end Go.Ev
