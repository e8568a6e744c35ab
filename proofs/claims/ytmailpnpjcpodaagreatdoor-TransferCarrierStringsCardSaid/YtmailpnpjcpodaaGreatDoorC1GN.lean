/-
  Part of the proof of a law.
-/
import Derived.Test.YtmailpnpjcpodaaGreatDoorC1A
import Derived.Test.YtmailpnpjcpodaaGreatDoorEvOpen2
import Derived.Test.YtmailpnpjcpodaaGreatDoorEvShaped
import Derived.Test.YtmailpnpjcpodaaGreatDoorEvTab
import Derived.OpenShut
import Derived.Handed
import Derived.FnData
import Derived.MakeChecks
import Derived.KernelRfl
import Derived.Stop.LaidErr
import Derived.Lib.ItoaNum
set_option linter.unusedVariables false
set_option linter.unusedSimpArgs false
set_option linter.unusedSectionVars false
/-
  Chapter 1: conditions on tables: one cell after the other.
-/
namespace Go.Ev
open Go Go.Proofs Go.RowKit
theorem laid_tail {P : Program} {x : String × DataW Unit} {r : List (String × DataW Unit)} {w : World} (h : laidMet P (x :: r) w) : laidMet P r w := by
  obtain ⟨ps, ⟨g, t, cs, fuel, p, q, hg, ht, hv, hd, hr, rfl⟩, hn, hc⟩ := h
  exact ⟨q, hr, (List.nodup_append.1 hn).2.1, fun b off hb => hc b off (List.mem_append_right _ hb)⟩
theorem var_block {P : Program} {w : World} {name : String} {g : Nat} {cs : Array Value} (hg : P.globalNamed name = some g) (h : w.var? P name = some cs) : ∃ t fr, w.heap[g]? = some (.cells cs t fr) := by
  unfold World.var? at h
  rw [hg] at h
  change (match w.heap[g]? with | some (.cells cs _ _) => some cs | _ => none) = some cs at h
  split at h
  · rename_i c t fr hh
    cases h
    exact ⟨t, fr, hh⟩
  · cases h
theorem all2_tab (k : IntKind) : ∀ zs : List Int, All2 plainDen (zs.map (SV.int k)) (zs.map fun z => Value.int k z)
  | [] => trivial
  | z :: zs => ⟨rfl, all2_tab k zs⟩
theorem glob_block {w : World} {g : Nat} {l : List SV} {arr : Array Value} {t : TypeId} {fr : Nat × Nat} (h : w.heap[g]? = some (.cells arr t fr)) (hl : All2 plainDen l arr.toList) :
    g < w.heap.size ∧ ¬ Mut (fun _ => False) [] [] g ∧ ∀ (j : Nat) (sv : SV), l[j]? = some sv → (∃ u, w.cell? ⟨g, j, none⟩ = some u ∧ plainDen sv u) ∧ ∃ arr t fr, w.heap[g]? = some (.cells arr t fr) ∧ arr.size = l.length := by
  refine ⟨(Array.getElem?_eq_some_iff.1 h).1, ?_, fun j sv hj => ⟨?_, arr, t, fr, h, by rw [hl.length]; simp⟩⟩
  · rintro (h | ⟨id, _, _, _, h, _⟩)
    · exact h
    · simp at h
  · obtain ⟨u, hu, hd⟩ := hl.get hj
    exact ⟨u, by rw [cell_of_cells h]; simpa using hu, hd⟩
theorem glob_int {w : World} {g : Nat} {m : Int} {t : TypeId} {fr : Nat × Nat} (h : w.heap[g]? = some (.cells #[.int .i64 m] t fr)) :
    g < w.heap.size ∧ ¬ Mut (fun _ => False) [] [] g ∧ ∀ (j : Nat) (sv : SV), [SV.any][j]? = some sv → (∃ u, w.cell? ⟨g, j, none⟩ = some u ∧ plainDen sv u) ∧ ∃ arr t fr, w.heap[g]? = some (.cells arr t fr) ∧ arr.size = [SV.any].length :=
  glob_block h ⟨⟨m, rfl⟩, trivial⟩
theorem maxlen_glob {w : World} (hs : w.ShapedOpen Tryz.prog) : ∃ m t fr, w.heap[1]? = some (.cells #[.int .i64 m] t fr) := by
  obtain ⟨m, fr, h⟩ := block_of_shapedOpen_int (P := Tryz.prog) (g := 1) (t := 3) (zero := #[.int .i64 0]) (k := .i64) hs (by decide +kernel) (by kernel_rfl) rfl (by kernel_rfl) (by kernel_rfl) (by kernel_rfl)
  exact ⟨m, 3, fr, h⟩
theorem row_err (u : TypeId) (h : Tryz.prog.typeName? 3 u = some "*errors.errorString") : u = 224 :=
  typeName_ptr_named (nm := "errors.errorString") (by rw [show "*" ++ "errors.errorString" = "*errors.errorString" by decide]; kernel_rfl) (by kernel_rfl) (by decide) u (by rw [show "*" ++ "errors.errorString" = "*errors.errorString" by decide]; exact h)
theorem err_glob {w : World} {n : String} {g : Nat} {text : List UInt8} {r : List (String × DataW Unit)}
    (hg : Tryz.prog.globalNamed n = some g) (ht : (Tryz.prog.globals[g]?).map (·.type) = some 152)
    (h : laidMet Tryz.prog ((n, .iface "*errors.errorString" (.ptr (.agg [.lit (.string text)]))) :: r) w) : ∃ a t fr, w.heap[g]? = some (.cells #[.iface 224 (.pointer (some a))] t fr) := by
  obtain ⟨a, s, hv, _⟩ := laid_sentinel h hg ht Tryz.underlying152 row_err Tryz.underlying224 Tryz.underlying226 rfl rfl Tryz.underlying9 (by kernel_rfl) (by kernel_rfl)
  obtain ⟨t, fr, hb⟩ := var_block hg hv
  exact ⟨a, t, fr, hb⟩
theorem all2_ifc (u : TypeId) (v : Value) : All2 plainDen [SV.ifc false] [Value.iface u v] := ⟨.inr ⟨rfl, _, _, rfl⟩, trivial⟩
end Go.Ev

/-
  Chapter 1: what the condition on the tables, and the world's shape, give: their cells (strings of carriers).
-/
namespace Go.Ev
open Go Go.Proofs Go.RowKit
theorem bytes_of {s : ByteArray} {l : List UInt8} (h : s.data.toList = l) : s = ⟨l.toArray⟩ := by
  subst h
  cases s; rfl
theorem trod_three {P : Program} {w : World} {fuel : Nat} {t e : TypeId} {cs : List Value} {p : List MemPlace} {a b c : List UInt8}
    (hu : P.underlying t = some (.array 3 e)) (he : P.underlying e = some .string) (hc : P.cellsOf e = 1) (hct : P.cellsOf t = 3)
    (h : DataW.trod (fun _ => ()) P w 0 (fun _ => true) false fuel t cs = some (.agg [.lit (.string a), .lit (.string b), .lit (.string c)], p)) :
    cs = [.string ⟨a.toArray⟩, .string ⟨b.toArray⟩, .string ⟨c.toArray⟩] := by
  obtain ⟨xs, m, _, ex, hlen, hl, hel⟩ := DataW.trod_array hu h
  rw [hct] at hlen
  match cs, hlen with
  | [v0, v1, v2], _ =>
    match xs, hl with
    | [x0, x1, x2], _ =>
      have e3 := (DataW.agg.inj (Prod.mk.inj ex).1)
      simp only [List.map_cons, List.map_nil, List.cons.injEq, and_true] at e3
      have k0 := hel 0 (by omega); have k1 := hel 1 (by omega); have k2 := hel 2 (by omega)
      rw [hc] at k0 k1 k2
      obtain ⟨z0, a0, b0, _⟩ := DataW.trod_string he k0
      obtain ⟨z1, a1, b1, _⟩ := DataW.trod_string he k1
      obtain ⟨z2, a2, b2, _⟩ := DataW.trod_string he k2
      simp only [Nat.zero_mul, Nat.one_mul, Nat.reduceMul, List.drop_zero, List.drop_succ_cons, List.take_succ_cons, List.take_zero, List.cons.injEq, and_true, List.getElem_cons_zero, List.getElem_cons_succ] at a0 a1 a2 b0 b1 b2
      obtain ⟨e0, e1, e2⟩ := e3
      rw [b0] at e0
      rw [b1] at e1
      rw [b2] at e2
      have q0 : z0.data.toList = a := by simpa using e0.symm
      have q1 : z1.data.toList = b := by simpa using e1.symm
      have q2 : z2.data.toList = c := by simpa using e2.symm
      rw [a0, a1, a2, bytes_of q0, bytes_of q1, bytes_of q2]
theorem all2_str3 (a b c : List UInt8) : All2 plainDen [SV.str a, SV.str b, SV.str c] [Value.string ⟨a.toArray⟩, Value.string ⟨b.toArray⟩, Value.string ⟨c.toArray⟩] := ⟨rfl, rfl, rfl, trivial⟩
theorem words_block {w : World} {r : List (String × DataW Unit)}
    (h : laidMet Tryz.prog (("lacquer/transfer.carrierWords", .agg [.lit (.string [100, 105, 115, 99]), .lit (.string [99, 121, 108, 105, 110, 100, 101, 114]), .lit (.string [116, 97, 112, 101])]) :: r) w) :
    ∃ arr t fr, w.heap[0]? = some (.cells arr t fr) ∧ arr.toList = [.string ⟨([100, 105, 115, 99] : List UInt8).toArray⟩, .string ⟨([99, 121, 108, 105, 110, 100, 101, 114] : List UInt8).toArray⟩, .string ⟨([116, 97, 112, 101] : List UInt8).toArray⟩] := by
  obtain ⟨ps, ⟨g, t, cs, fuel, p, q, hg, ht, hv, hd, _, _⟩, _, _⟩ := h
  obtain rfl := Option.some.inj ((show Tryz.prog.globalNamed "lacquer/transfer.carrierWords" = some 0 by kernel_rfl).symm.trans hg)
  obtain ⟨t2, fr, hb⟩ := var_block hg hv
  obtain rfl := Option.some.inj ((show (Tryz.prog.globals[0]?).map (·.type) = some 95 by kernel_rfl).symm.trans ht)
  have hcs := trod_three (e := 9) (by kernel_rfl) (by kernel_rfl) (by kernel_rfl) (by kernel_rfl) hd
  exact ⟨cs, t2, fr, hb, hcs⟩
theorem car_glob {w : World} {a b c : String × DataW Unit} {t1 t2 : List UInt8} {r : List (String × DataW Unit)}
    (h : laidMet Tryz.prog (a :: b :: ("internal/strconv.uint64pow10", Lib.tabData .u64 Lib.pow10Tab) :: c :: ("strconv.ErrRange", .iface "*errors.errorString" (.ptr (.agg [.lit (.string t1)]))) :: ("strconv.ErrSyntax", .iface "*errors.errorString" (.ptr (.agg [.lit (.string t2)]))) :: ("lacquer/transfer.carrierWords", .agg [.lit (.string [100, 105, 115, 99]), .lit (.string [99, 121, 108, 105, 110, 100, 101, 114]), .lit (.string [116, 97, 112, 101])]) :: r) w) (hs : w.ShapedOpen Tryz.prog) :
    GlobOK (Mut (fun _ => False) [] []) w := by
  have h2 := laid_tail (laid_tail h)
  have h4 := laid_tail (laid_tail h2)
  have h5 := laid_tail h4
  have h6 := laid_tail h5
  have htab := Lib.tabIs_of_head (g := 2) (t := 208) (e := 179) (n := 20) (by kernel_rfl) (by kernel_rfl) (by kernel_rfl) (by kernel_rfl) (by kernel_rfl) (by kernel_rfl) h2
  obtain ⟨t2, fr2, hb2⟩ := var_block (show Tryz.prog.globalNamed "internal/strconv.uint64pow10" = some 2 by kernel_rfl) htab
  obtain ⟨m, t1, fr1, hb1⟩ := maxlen_glob hs
  obtain ⟨a4, t4, fr4, hb4⟩ := err_glob (g := 4) (by kernel_rfl) (by kernel_rfl) h4
  obtain ⟨a3, t3, fr3, hb3⟩ := err_glob (g := 3) (by kernel_rfl) (by kernel_rfl) h5
  obtain ⟨arr, t0, fr0, hb0, he0⟩ := words_block h6
  have k0 := glob_block (l := [SV.str [100, 105, 115, 99], SV.str [99, 121, 108, 105, 110, 100, 101, 114], SV.str [116, 97, 112, 101]]) hb0 (by rw [he0]; exact all2_str3 _ _ _)
  have k2 := glob_block hb2 (all2_tab .u64 Lib.pow10Tab)
  have k3 := glob_block (l := [SV.ifc false]) hb3 (all2_ifc _ _)
  have k4 := glob_block (l := [SV.ifc false]) hb4 (all2_ifc _ _)
  intro g l hl
  match g, hl with
  | 0, hl => cases hl; exact k0
  | 1, hl => cases hl; exact glob_int hb1
  | 2, hl => cases hl; exact k2
  | 3, hl => cases hl; exact k3
  | 4, hl => cases hl; exact k4
  | n + 5, hl => cases hl
end Go.Ev
