/-
  Part of the proof of a law.
-/
import Derived.Test.YtophekjofpahfaaEvNew
set_option linter.unusedVariables false
set_option linter.unusedSimpArgs false
set_option linter.unusedSectionVars false
/-
  Soundness, sixth part: stores; 'make'.
-/
namespace Go.Ev
open Go Go.RowKit
variable [Glob]
def splice (arr : Array Value) (off : Nat) (vs : List Value) : Array Value := (arr.toList.take off ++ vs ++ arr.toList.drop (off + vs.length)).toArray
theorem splice_size {arr : Array Value} {off : Nat} {vs : List Value} (h : off + vs.length ≤ arr.size) : (splice arr off vs).size = arr.size := by
  simp [splice]; omega
theorem splice_in {arr : Array Value} {off : Nat} {vs : List Value} (h : off + vs.length ≤ arr.size) {j : Nat} (h2 : j < vs.length) : (splice arr off vs)[off + j]? = vs[j]? := by
  simp only [splice, List.getElem?_toArray, List.append_assoc]
  rw [List.getElem?_append_right (by simp; omega), List.getElem?_append_left (by simp; omega)]
  congr 1
  simp; omega
theorem splice_out {arr : Array Value} {off : Nat} {vs : List Value} (h : off + vs.length ≤ arr.size) {j : Nat} (h2 : j < off ∨ off + vs.length ≤ j) : (splice arr off vs)[j]? = arr[j]? := by
  simp only [splice, List.getElem?_toArray, List.append_assoc]
  rcases h2 with h2 | h2
  · rw [List.getElem?_append_left (by simp; omega), List.getElem?_take_of_lt h2]; simp
  · rw [List.getElem?_append_right (by simp; omega), List.getElem?_append_right (by simp; omega), List.getElem?_drop]
    simp only [List.length_take, Array.length_toList, Array.getElem?_toList]
    congr 1
    omega
section
variable {F : Nat → Prop} {P : Program} {w : World} {m : Nat → Prop} {ρ : List (Nat × Nat)}
theorem setN_sound {b b' : Blk} {wd i c g : Nat} {l : List SV} {vs : List Value} (h : b.setN P wd i c l = some (true, b')) (hb : DenBlk w m ρ g b) (hl : All2 (DenS w m ρ) l vs) :
    b.live = true ∧ b'.live = true ∧ b'.count = b.count ∧ ∃ arr t, w.heap[g]? = some (.cells arr t (0, 0)) ∧ i * wd + c + vs.length ≤ arr.size ∧
      ∀ (w' : World) (m' : Nat → Prop), w'.heap[g]? = some (.cells (splice arr (i * wd + c) vs) t (0, 0)) → Keep m m' w w' → DenBlk w' m' ρ g b' := by
  have hlen := hl.length
  unfold Blk.setN at h
  split at h
  · rename_i ls
    split at h
    · rename_i hwd
      subst hwd
      split at h
      · rename_i hle
        simp only [Option.some.injEq, Prod.mk.injEq, true_and] at h
        subst h
        obtain ⟨arr, t, ha, hc⟩ := hb
        have hsz : ls.length ≤ arr.size := by
          rcases Nat.eq_zero_or_pos ls.length with h0 | h0
          · omega
          · obtain ⟨u, hu, _⟩ := hc (ls.length - 1) _ (List.getElem?_eq_getElem (by omega))
            have := (Array.getElem?_eq_some_iff.1 hu).1
            omega
        have hfit : i * 1 + c + vs.length ≤ arr.size := by omega
        refine ⟨rfl, rfl, by simp [Blk.count]; omega, arr, t, ha, hfit, fun w' m' hg K => ⟨_, t, hg, fun j sv hj => ?_⟩⟩
        rw [List.append_assoc] at hj
        rcases Nat.lt_or_ge j (i + c) with h1 | h1
        · rw [List.getElem?_append_left (by simp; omega), List.getElem?_take_of_lt h1] at hj
          obtain ⟨u, hu, hd⟩ := hc j sv hj
          exact ⟨u, by rw [splice_out hfit (.inl (by omega))]; exact hu, hd.keep K fun _ _ h => h⟩
        · rw [List.getElem?_append_right (by simp; omega)] at hj
          have e : j - (ls.take (i + c)).length = j - (i + c) := by simp; omega
          rw [e] at hj
          rcases Nat.lt_or_ge (j - (i + c)) l.length with h2 | h2
          · rw [List.getElem?_append_left h2] at hj
            obtain ⟨u, hu, hd⟩ := hl.get hj
            refine ⟨u, ?_, hd.keep K fun _ _ h => h⟩
            have := splice_in hfit (j := j - (i + c)) (by omega)
            rw [← hu, ← this]
            congr 1; omega
          · rw [List.getElem?_append_right h2, List.getElem?_drop] at hj
            rw [show i + c + l.length + (j - (i + c) - l.length) = j from by omega] at hj
            obtain ⟨u, hu, hd⟩ := hc j sv hj
            exact ⟨u, by rw [splice_out hfit (.inr (by omega))]; exact hu, hd.keep K fun _ _ h => h⟩
      · cases h
    · cases h
  · rename_i t k xs
    split at h
    · rename_i hwd
      subst hwd
      split at h
      · rename_i ys hys
        obtain ⟨h1, h2⟩ := asInts_sound hys hl
        obtain ⟨arr, ha, hc⟩ := hb
        have hsz : xs.length ≤ arr.size := by
          rcases Nat.eq_zero_or_pos xs.length with h0 | h0
          · omega
          · have := hc (xs.length - 1) _ (List.getElem?_eq_getElem (by omega))
            have := (Array.getElem?_eq_some_iff.1 this).1
            omega
        split at h
        · rename_i y
          simp at h
          obtain ⟨h3, rfl⟩ := h
          have hv1 : vs.length = 1 := by simp [h2]
          have hfit : i * 1 + c + vs.length ≤ arr.size := by omega
          refine ⟨rfl, rfl, by simp [Blk.count, Row.count], arr, t, ha, hfit, fun w' m' hg K => ⟨_, hg, fun j x hj => ?_⟩⟩
          dsimp only
          by_cases hji : j = i + c
          · subst hji
            rw [List.getElem?_set_self h3] at hj
            cases hj
            have := splice_in hfit (j := 0) (by omega)
            rw [show i * 1 + c + 0 = i + c from by omega] at this
            rw [this, h2]
            rfl
          · rw [List.getElem?_set_ne (fun e => hji e.symm)] at hj
            rw [splice_out hfit (by omega)]
            exact hc j x hj
        · split at h
          case isFalse =>
            simp at h
            obtain ⟨h3, rfl⟩ := h
            have hvl : vs.length = ys.length := by simp [h2]
            have hfit : i * 1 + c + vs.length ≤ arr.size := by omega
            refine ⟨rfl, rfl, by simp only [Blk.count, Row.count, List.length_append, List.length_take, List.length_drop]; omega, arr, t, ha, hfit, fun w' m' hg K => ⟨_, hg, fun j x hj => ?_⟩⟩
            dsimp only
            rcases Nat.lt_or_ge j (i + c) with h4 | h4
            · rw [List.getElem?_append_left (by simp; omega), List.getElem?_take_of_lt h4] at hj
              rw [splice_out hfit (.inl (by omega))]
              exact hc j x hj
            · rw [List.getElem?_append_right (by simp; omega)] at hj
              have e : j - (xs.take (i + c)).length = j - (i + c) := by simp; omega
              rw [e] at hj
              rcases Nat.lt_or_ge (j - (i + c)) ys.length with h5 | h5
              · rw [List.getElem?_append_left h5] at hj
                have := splice_in hfit (j := j - (i + c)) (by omega)
                rw [show i * 1 + c + (j - (i + c)) = j from by omega] at this
                rw [this, h2]
                simp [hj]
              · rw [List.getElem?_append_right h5, List.getElem?_drop] at hj
                rw [show i + c + ys.length + (j - (i + c) - ys.length) = j from by omega] at hj
                rw [splice_out hfit (.inr (by omega))]
                exact hc j x hj
          split at h
          · rename_i hic
            simp at h
            obtain ⟨h3, rfl⟩ := h
            have hfit : i * 1 + c + vs.length ≤ arr.size := by omega
            refine ⟨rfl, rfl, by simp [Blk.count, Row.count, h3], arr, t, ha, hfit, fun w' m' hg K => ⟨_, hg, fun j x hj => ?_⟩⟩
            dsimp only
            have hjl := (List.getElem?_eq_some_iff.1 hj).1
            have := splice_in hfit (j := j) (by omega)
            rw [show i * 1 + c + j = j from by omega] at this
            rw [this, h2]
            simp [hj]
          · cases h
      · cases h
    · cases h
  · rename_i t k wd' xss
    split at h
    · rename_i hwd
      subst hwd
      split at h
      · rename_i ys hys
        obtain ⟨h1, h2⟩ := asInts_sound hys hl
        obtain ⟨arr, ha, hc⟩ := hb
        have hmul : ∀ a b : Nat, a < b → a * wd + wd ≤ b * wd := fun a b hab => by
          have : (a + 1) * wd ≤ b * wd := Nat.mul_le_mul_right _ hab
          rw [Nat.add_mul] at this; omega
        have hsz : 0 < wd → xss.length * wd ≤ arr.size := by
          intro hw0
          rcases Nat.eq_zero_or_pos xss.length with h0 | h0
          · rw [h0]; omega
          · have := hc (xss.length - 1) _ (List.getElem?_eq_getElem (by omega)) (wd - 1) (by omega)
            have := (Array.getElem?_eq_some_iff.1 this).1
            have e : xss.length * wd = (xss.length - 1) * wd + wd := by
              rw [← Nat.succ_mul]; congr 1; omega
            omega
        split at h
        · rename_i hcw
          simp at h
          obtain ⟨h3, rfl⟩ := h
          obtain ⟨hyw, hc0⟩ := hcw
          subst hc0
          have hvl : vs.length = wd := by omega
          have hfit : i * wd + 0 + vs.length ≤ arr.size := by
            rcases Nat.eq_zero_or_pos wd with h0 | h0
            · subst h0; omega
            · have := hmul i xss.length h3
              have := hsz h0
              omega
          refine ⟨rfl, rfl, by simp [Blk.count, Row.count], arr, t, ha, hfit, fun w' m' hg K => ⟨_, hg, fun j zs hj d hd => ?_⟩⟩
          dsimp only
          by_cases hji : j = i
          · subst hji
            rw [List.getElem?_set_self h3] at hj
            cases hj
            have := splice_in hfit (j := d) (by omega)
            rw [show j * wd + 0 + d = j * wd + d from by omega] at this
            rw [this, h2]
            simp [List.getD, List.getElem?_eq_getElem (show d < ys.length by omega)]
          · rw [List.getElem?_set_ne (fun e => hji e.symm)] at hj
            rw [splice_out hfit]
            · exact hc j zs hj d hd
            · rcases Nat.lt_or_gt_of_ne hji with h4 | h4
              · left; have := hmul j i h4; omega
              · right; have := hmul i j h4; omega
        · split at h
          · rename_i y
            simp at h
            obtain ⟨⟨⟨h3, h4⟩, h5⟩, rfl⟩ := h
            have hv1 : vs.length = 1 := by simp [h2]
            have hfit : i * wd + c + vs.length ≤ arr.size := by
              have := hmul i xss.length h4
              have := hsz (by omega)
              omega
            refine ⟨rfl, rfl, by simp [Blk.count, Row.count], arr, t, ha, hfit, fun w' m' hg K => ⟨_, hg, fun j zs hj d hd => ?_⟩⟩
            dsimp only
            have hold := hc i _ (List.getElem?_eq_getElem h4) d hd
            dsimp only at hold
            have hgd : xss[i]?.getD [] = xss[i] := by simp [List.getElem?_eq_getElem h4]
            by_cases hji : j = i
            · subst hji
              rw [List.getElem?_set_self h4] at hj
              cases hj
              by_cases hdc : d = c
              · subst hdc
                have := splice_in hfit (j := 0) (by omega)
                rw [Nat.add_zero] at this
                rw [this, h2]
                simp [List.getD, h5, h3]
              · rw [splice_out hfit (by omega), hold]
                simp [List.getD, List.getElem?_set_ne (fun e => hdc e.symm), hgd]
            · rw [List.getElem?_set_ne (fun e => hji e.symm)] at hj
              rw [splice_out hfit]
              · exact hc j zs hj d hd
              · rcases Nat.lt_or_gt_of_ne hji with h6 | h6
                · left; have := hmul j i h6; omega
                · right; have := hmul i j h6; omega
          · cases h
      · cases h
    · cases h
  · cases h
end
section
variable {F : Nat → Prop} {E : Env} {w0 w : World} {m0 : Nat → Prop} {ρ0 ρ : List (Nat × Nat)} {s : St}
theorem evStore_sound (I : Inv F w0 m0 ρ0 ρ s.σ w) {t : TypeId} {p : SV} {x : AV} {vp vx : Value} {l : List SV} {sz : Nat} {σ' : List Blk} {k : AV → List Blk → Prop}
    (hp : DenS w (Mut F ρ s.σ) ρ p vp) (hx : Den w (Mut F ρ s.σ) ρ x vx) (hl : x.cells = some l) (hs : sizeT E.P t = some sz) (hlen : l.length = sz) (h : storeSVs E.P s.σ p l = some (true, σ')) (hk : k .any σ') :
    ∃ w', (Instr.storeAt t vp vx).run E.P w = .ok () w' ∧ Done F w0 m0 ρ0 ρ s.σ w False k undef w' := by
  have hcells := Den_agg_cells hl hx
  unfold storeSVs at h
  split at h
  · rename_i id wd i c
    obtain ⟨g, n, hg, rfl⟩ := hp
    split at h
    · rename_i b hb
      cases hset : b.setN E.P wd i c l with
      | none => rw [hset] at h; simp at h
      | some q =>
        obtain ⟨h', b'⟩ := q
        rw [hset] at h
        simp at h
        obtain ⟨rfl, rfl⟩ := h
        have hlive : b.live = true := by
          cases b with
          | dead => simp [Blk.setN] at hset
          | _ => rfl
        obtain ⟨hd, hcnt, hlt⟩ := I.heap.live id b g n hb hg hlive
        obtain ⟨_, hl', hc', arr, t', ha, hfit, hden⟩ := setN_sound hset hd hcells
        obtain ⟨K, hI⟩ := wrote (w' := w.setRow g (splice arr (i * wd + c) vx.cells.toList)) I hb hlive hg (fun k hk => setRow_other w g k _ hk) (by simp) (by
          unfold World.shape?; rw [setRow_heap w g arr _ t' (0, 0) ha, ha]; simp [splice_size hfit]) rfl rfl rfl hl' (setN_solid hset).1 (setN_solid hset).2
        refine ⟨w.setRow g (splice arr (i * wd + c) vx.cells.toList), ?_, .any, _, ρ, hk, hI (hden _ _ (setRow_heap w g arr _ t' (0, 0) ha) K) (by rw [hc', hcnt]), ⟨[], by simp⟩, K, trivial, False.elim⟩
        have h1 : ∀ v ∈ vx.cells.toList, v.oneCell' = true := by
          intro v hv
          obtain ⟨j, hj⟩ := List.getElem?_of_mem hv
          have hjl : j < l.length := by rw [hcells.length]; exact (List.getElem?_eq_some_iff.1 hj).1
          obtain ⟨u, hu, hd⟩ := hcells.get (List.getElem?_eq_getElem hjl)
          rw [hj] at hu
          cases hu
          exact hd.one
        have hst := run_storeCells_at E.P g (i * wd + c) t' vx.cells.toList 0 arr w ha (by simpa using hfit) h1
        have hvs : vx.cells.size = sz := by have := hcells.length; simp at this; omega
        simp only [Nat.add_zero] at hst
        simp [Instr.storeAt, Instr.sureAddr, storeVar, run_sizeOf' hs, hvs, hst, splice]
    · cases h
  · cases h
end
end Go.Ev
