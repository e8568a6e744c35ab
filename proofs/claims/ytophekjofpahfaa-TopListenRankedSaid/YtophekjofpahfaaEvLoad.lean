/-
  Part of the proof of a law.
-/
import Derived.Test.YtophekjofpahfaaEvCode
set_option linter.unusedVariables false
set_option linter.unusedSimpArgs false
set_option linter.unusedSectionVars false
/-
  Soundness, first part: what is read at a pointer.
-/
namespace Go.Ev
open Go Go.RowKit
variable [Glob]
structure HeapOk (F : Nat → Prop) (ρ : List (Nat × Nat)) (σ : List Blk) (w : World) : Prop where
  len : ρ.length = σ.length
  live : ∀ (id : Nat) (b : Blk) (g n : Nat), σ[id]? = some b → ρ[id]? = some (g, n) → b.live = true → DenBlk w (Mut F ρ σ) ρ g b ∧ b.count = n ∧ g < w.heap.size
  lt : ∀ (id : Nat) (b : Blk) (g n k : Nat), σ[id]? = some b → ρ[id]? = some (g, n) → b.live = true → b.owns g k → k < w.heap.size
  inj' : ∀ (i j : Nat) (b b' : Blk) (g g' n n' k : Nat), σ[i]? = some b → σ[j]? = some b' → b.live = true → b'.live = true → ρ[i]? = some (g, n) → ρ[j]? = some (g', n') → b.owns g k → b'.owns g' k → i = j
  glob : GlobOK (Mut F ρ σ) w
theorem HeapOk.inj {F : Nat → Prop} {ρ : List (Nat × Nat)} {σ : List Blk} {w : World} (H : HeapOk F ρ σ w) (i j : Nat) (b b' : Blk) (g n n' : Nat) (h1 : σ[i]? = some b) (h2 : σ[j]? = some b') (h3 : b.live = true) (h4 : b'.live = true) (h5 : ρ[i]? = some (g, n)) (h6 : ρ[j]? = some (g, n')) : i = j :=
  H.inj' i j b b' g g n n' g h1 h2 h3 h4 h5 h6 (b.owns_self g) (b'.owns_self g)
theorem LMut.solid {ρ : List (Nat × Nat)} {σ : List Blk} {id g n : Nat} {b : Blk} (h1 : σ[id]? = some b) (h2 : b.live = true) (h3 : ρ[id]? = some (g, n)) : LMut ρ σ g := ⟨id, b, n, g, h1, h2, h3, b.owns_self g⟩
theorem exists_list {α : Type} {p : Nat → α → Prop} : ∀ (n : Nat), (∀ o, o < n → ∃ u, p o u) → ∃ vs : List α, vs.length = n ∧ ∀ o u, vs[o]? = some u → p o u
  | 0, _ => ⟨[], rfl, fun o u h => by simp at h⟩
  | n + 1, H => by
    obtain ⟨vs, hl, hv⟩ := exists_list n fun o ho => H o (by omega)
    obtain ⟨u, hu⟩ := H n (by omega)
    refine ⟨vs ++ [u], by simp [hl], fun o v hv' => ?_⟩
    rcases Nat.lt_or_ge o vs.length with h | h
    · rw [List.getElem?_append_left h] at hv'; exact hv o v hv'
    · rw [List.getElem?_append_right h] at hv'
      have : o = n := by
        rcases Nat.lt_or_ge (o - vs.length) 1 with h1 | h1
        · omega
        · rw [List.getElem?_eq_none (by simpa using h1)] at hv'; cases hv'
      subst this
      rw [hl, Nat.sub_self] at hv'
      simp at hv'
      exact hv' ▸ hu
section
variable {F : Nat → Prop} {w : World} {m : Nat → Prop} {ρ : List (Nat × Nat)}
theorem DenS_mk {ck : CK} {d : D} {u : Value} (h : DenC w m ck d u) : DenS w m ρ (mk ck d) u := by
  cases ck with
  | int k => exact h
  | bool => exact h
  | str => exact h
  | sints k =>
    obtain ⟨a, cap, h1, h2, h3, h4⟩ := h
    refine ⟨a, cap, h1, h2, h3, ?_⟩
    rcases h4 with h4 | ⟨ad, h5, h6, h7, h8⟩
    · exact .inl (by simp [Row.count, h4])
    · exact .inr ⟨ad, h5, h6, h7, fun i x hx => h8 i x hx⟩
  | smat k wd =>
    obtain ⟨a, cap, h1, h2, h3, h4⟩ := h
    refine ⟨a, cap, h1, h2, h3, ?_⟩
    rcases h4 with h4 | ⟨ad, h5, h6, h7, h8⟩
    · exact .inl (by simp [Row.count, h4])
    · exact .inr ⟨ad, h5, h6, h7, fun i x hx => h8 i x hx⟩
theorem Row.sv_sound {get : Nat → Option Value} {r : Row} {i c : Nat} (hr : RowCells w m get r) (hh : r.has i c = true) :
    ∃ sv u, r.sv i c = some sv ∧ get (i * r.width + c) = some u ∧ DenS w m ρ sv u := by
  cases r with
  | ints k xs =>
    simp only [Row.has, decide_eq_true_eq] at hh
    refine ⟨_, _, rfl, ?_, rfl⟩
    simp only [Row.width, Nat.mul_one]
    rw [hr (i + c) xs[i + c] (List.getElem?_eq_getElem hh)]
    simp [List.getD, List.getElem?_eq_getElem hh]
  | mat k wd xss =>
    simp only [Row.has, Bool.and_eq_true, decide_eq_true_eq] at hh
    refine ⟨_, _, rfl, ?_, rfl⟩
    have := hr i xss[i] (List.getElem?_eq_getElem hh.2) c hh.1
    simp only [Row.width]
    rw [this]
    simp [List.getD, List.getElem?_eq_getElem hh.2]
  | recs cks xss =>
    simp only [Row.has, Bool.and_eq_true, decide_eq_true_eq] at hh
    obtain ⟨u, hu, hd⟩ := hr i xss[i] (List.getElem?_eq_getElem hh.2) c cks[c] (List.getElem?_eq_getElem hh.1)
    refine ⟨mk cks[c] ((xss.getD i []).getD c (.int 0)), u, by simp [Row.sv, List.getElem?_eq_getElem hh.1], by simpa [Row.width] using hu, ?_⟩
    have : xss.getD i [] = xss[i] := by simp [List.getD, List.getElem?_eq_getElem hh.2]
    rw [this]
    exact DenS_mk hd
theorem Row.has_of_hasN {r : Row} {i c n o : Nat} (h : r.hasN i c n = true) (ho : o < n) : r.has i (c + o) = true := by
  cases n with
  | zero => omega
  | succ n =>
    simp only [Row.hasN] at h
    cases r with
    | ints k xs => simp only [Row.has, decide_eq_true_eq] at *; omega
    | mat k wd xss => simp only [Row.has, Bool.and_eq_true, decide_eq_true_eq] at *; exact ⟨by omega, h.2⟩
    | recs cks xss => simp only [Row.has, Bool.and_eq_true, decide_eq_true_eq] at *; exact ⟨by omega, h.2⟩
theorem Row.svs_get {r : Row} {i c n : Nat} {l : List SV} (h : r.svs i c n = some l) : l.length = n ∧ ∀ o, o < n → ∀ sv, r.sv i (c + o) = some sv → l[o]? = some sv := by
  cases r with
  | ints k xs =>
    simp only [Row.svs, Option.some.injEq] at h
    subst h
    refine ⟨by simp, fun o ho sv hs => ?_⟩
    simp only [Row.sv, Option.some.injEq] at hs
    simp only [List.getElem?_map, List.getElem?_range ho, Option.map_some]
    rw [hs]
  | mat k wd xss =>
    simp only [Row.svs, Option.some.injEq] at h
    subst h
    refine ⟨by simp, fun o ho sv hs => ?_⟩
    simp only [Row.sv, Option.some.injEq] at hs
    simp only [List.getElem?_map, List.getElem?_range ho, Option.map_some]
    rw [hs]
  | recs cks xss =>
    simp only [Row.svs] at h
    split at h
    · simp only [Option.some.injEq] at h
      subst h
      refine ⟨by simp, fun o ho sv hs => ?_⟩
      simp [List.getElem?_range ho, hs]
    · cases h
theorem Row.svs_sound {get : Nat → Option Value} {r : Row} {i c n : Nat} {l : List SV} (hr : RowCells w m get r) (h : r.svs i c n = some l) (hh : r.hasN i c n = true) :
    ∃ vs : List Value, vs.length = n ∧ (∀ o u, vs[o]? = some u → get (i * r.width + c + o) = some u) ∧ All2 (DenS w m ρ) l vs := by
  obtain ⟨hl, hg⟩ := Row.svs_get h
  have H : ∀ o, o < n → ∃ u, get (i * r.width + c + o) = some u ∧ ∃ sv, l[o]? = some sv ∧ DenS w m ρ sv u := by
    intro o ho
    obtain ⟨sv, u, h1, h2, h3⟩ := Row.sv_sound (ρ := ρ) (c := c + o) hr (Row.has_of_hasN hh ho)
    exact ⟨u, by rw [← h2, Nat.add_assoc], sv, hg o ho sv h1, h3⟩
  obtain ⟨vs, hvl, hvs⟩ := exists_list n H
  refine ⟨vs, hvl, fun o u hu => (hvs o u hu).1, All2.mk (by omega) fun i a b ha hb => ?_⟩
  obtain ⟨_, sv, hs, hd⟩ := hvs i b hb
  rw [ha] at hs
  cases hs
  exact hd
end
section
variable {F : Nat → Prop} {w : World} {ρ : List (Nat × Nat)} {σ : List Blk}
theorem loadSVs_sound (H : HeapOk F ρ σ w) {p : SV} {n : Nat} {l : List SV} {u : Value} (h : loadSVs σ p n = some (true, l)) (hp : DenS w (Mut F ρ σ) ρ p u) :
    ∃ ad, u = .pointer (some ad) ∧ ∃ vs : List Value, vs.length = n ∧ (∀ o v, vs[o]? = some v → w.cell? (ad.add o) = some v) ∧ All2 (DenS w (Mut F ρ σ) ρ) l vs := by
  cases p with
  | ptr id wd i c =>
    obtain ⟨g, x, hg, rfl⟩ := hp
    refine ⟨_, rfl, ?_⟩
    have hadd : ∀ o, (⟨g, i * wd + c, none⟩ : Addr).add o = ⟨g, i * wd + c + o, none⟩ := by
      intro o; unfold Addr.add; split
      · rename_i h0; subst h0; rfl
      · rfl
    simp only [loadSVs] at h
    split at h
    · rename_i ls hb
      split at h
      · rename_i hw
        subst hw
        split at h
        · rename_i hle
          simp only [Option.some.injEq, Prod.mk.injEq, true_and] at h
          subst h
          obtain ⟨⟨arr, t, ha, hc⟩, _, _⟩ := H.live id _ g x hb hg rfl
          have HH : ∀ o, o < n → ∃ v, arr[i + c + o]? = some v ∧ ∃ sv, ls[i + c + o]? = some sv ∧ DenS w (Mut F ρ σ) ρ sv v := by
            intro o ho
            have hlt : i + c + o < ls.length := by omega
            obtain ⟨v, hv, hd⟩ := hc (i + c + o) ls[i + c + o] (List.getElem?_eq_getElem hlt)
            exact ⟨v, hv, _, List.getElem?_eq_getElem hlt, hd⟩
          obtain ⟨vs, hvl, hvs⟩ := exists_list n HH
          refine ⟨vs, hvl, fun o v hv => ?_, All2.mk (by simp; omega) fun o a b ha' hb' => ?_⟩
          · rw [hadd, cell_of_row w g _ arr t (0, 0) ha]
            simpa using (hvs o v hv).1
          · obtain ⟨_, sv, hs, hd⟩ := hvs o b hb'
            have ho : o < n := by rw [← hvl]; exact (List.getElem?_eq_some_iff.1 hb').1
            rw [List.getElem?_take_of_lt ho, List.getElem?_drop, hs] at ha'
            cases ha'
            exact hd
        · cases h
      · cases h
    · rename_i t r hb
      split at h
      · rename_i hw
        subst hw
        cases hsv : r.svs i c n with
        | none => rw [hsv] at h; simp at h
        | some l' =>
          rw [hsv] at h
          simp only [Option.map_some, Option.some.injEq, Prod.mk.injEq] at h
          obtain ⟨h1, rfl⟩ := h
          obtain ⟨⟨arr, ha, hc⟩, _, _⟩ := H.live id _ g x hb hg rfl
          obtain ⟨vs, hvl, hvs, hd⟩ := Row.svs_sound (ρ := ρ) hc hsv h1
          refine ⟨vs, hvl, fun o v hv => ?_, hd⟩
          rw [hadd, cell_of_row w g _ arr t (0, 0) ha]
          exact hvs o v hv
      · cases h
    · cases h
  | dptr r i c =>
    obtain ⟨ad, rfl, hb, hm, hc⟩ := hp
    refine ⟨_, rfl, ?_⟩
    simp only [loadSVs] at h
    cases hsv : r.svs i c n with
    | none => rw [hsv] at h; simp at h
    | some l' =>
      rw [hsv] at h
      simp only [Option.map_some, Option.some.injEq, Prod.mk.injEq] at h
      obtain ⟨h1, rfl⟩ := h
      obtain ⟨vs, hvl, hvs, hd⟩ := Row.svs_sound (ρ := ρ) hc hsv h1
      refine ⟨vs, hvl, fun o v hv => ?_, hd⟩
      rw [add_add]
      exact hvs o v hv
  | glb g c =>
    cases hp
    refine ⟨_, rfl, ?_⟩
    simp only [loadSVs] at h
    split at h
    · rename_i ls hg
      split at h
      · rename_i hle
        simp only [Option.some.injEq, Prod.mk.injEq, true_and] at h
        subst h
        obtain ⟨_, _, hc⟩ := H.glob g ls hg
        have HH : ∀ o, o < n → ∃ v, w.cell? ⟨g, c + o, none⟩ = some v ∧ ∃ sv, ls[c + o]? = some sv ∧ plainDen sv v := by
          intro o ho
          have hlt : c + o < ls.length := by omega
          obtain ⟨⟨v, hv, hd⟩, _⟩ := hc (c + o) ls[c + o] (List.getElem?_eq_getElem hlt)
          exact ⟨v, hv, _, List.getElem?_eq_getElem hlt, hd⟩
        obtain ⟨vs, hvl, hvs⟩ := exists_list n HH
        refine ⟨vs, hvl, fun o v hv => ?_, All2.mk (by simp; omega) fun o a b ha' hb' => ?_⟩
        · have hadd : (⟨g, c, none⟩ : Addr).add o = ⟨g, c + o, none⟩ := by
            unfold Addr.add; split
            · rename_i h0; subst h0; rfl
            · rfl
          rw [hadd]
          exact (hvs o v hv).1
        · obtain ⟨_, sv, hs, hd⟩ := hvs o b hb'
          have ho : o < n := by rw [← hvl]; exact (List.getElem?_eq_some_iff.1 hb').1
          rw [List.getElem?_take_of_lt ho, List.getElem?_drop, hs] at ha'
          cases ha'
          exact hd.den
      · cases h
    · cases h
  | _ => simp [loadSVs] at h
end
end Go.Ev
