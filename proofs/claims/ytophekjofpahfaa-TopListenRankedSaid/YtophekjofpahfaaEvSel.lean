/-
  Part of the proof of a law.
-/
import Derived.Test.YtophekjofpahfaaEvDraw
import Derived.LoopNIn
set_option linter.unusedVariables false
set_option linter.unusedSimpArgs false
set_option linter.unusedSectionVars false
/-
  Soundness, thirteenth part: blocks that stay.
-/
namespace Go.Ev
open Go Go.RowKit
variable [Glob]
def toExit : Ex → Exit
  | .normal => .normal
  | .exit i => .exit i
  | .ret => .ret
theorem reach_front {σ : List Blk} : ∀ (n : Nat) (todo acc : List Nat), ∃ r, reach σ n todo acc = acc ++ r
  | 0, todo, acc => ⟨[], by simp [reach]⟩
  | n + 1, [], acc => ⟨[], by simp [reach]⟩
  | n + 1, id :: todo, acc => by
    simp only [reach]
    split
    · exact reach_front n todo acc
    · split
      · obtain ⟨r, h⟩ := reach_front (σ := σ) n _ (acc ++ [id])
        exact ⟨[id] ++ r, by rw [h, List.append_assoc]⟩
      · exact reach_front n todo acc
section
variable {F : Nat → Prop} {E : Env} {w0 w : World} {m0 : Nat → Prop} {ρ0 ρ : List (Nat × Nat)} {σ : List Blk} {s : St} {a : Act}
theorem Inv.sel (I : Inv F w0 m0 ρ0 ρ σ w) (ids : List Nat) : ∃ ρ', Inv F w0 m0 ρ0 ρ' (selB σ (stay ρ0.length σ ids)) w ∧ (∀ i j, pos (stay ρ0.length σ ids) i = some j → ∀ g, ρ[i]? = some g → ρ'[j]? = some g) ∧
    (∀ b, b < w.heap.size → Mut F ρ' (selB σ (stay ρ0.length σ ids)) b → Mut F ρ σ b) := by
  obtain ⟨r, hr⟩ := I.pre
  have hlen := I.heap.len
  have hm : ρ0.length ≤ σ.length := by rw [← hlen, hr]; simp
  obtain ⟨hnd, hlt⟩ : (stay ρ0.length σ ids).Nodup ∧ ∀ i ∈ stay ρ0.length σ ids, i < σ.length := reach_ok 64 _ _ List.nodup_range (fun i hi => by simp at hi; omega)
  obtain ⟨r', hfront⟩ : ∃ r', stay ρ0.length σ ids = List.range ρ0.length ++ r' := reach_front 64 _ _
  generalize stay ρ0.length σ ids = L at *
  have hget : ∀ (j i : Nat) (g : Nat × Nat), L[j]? = some i → (ρ[i]? = some g ↔ (L.map fun i => ρ.getD i (0, 0))[j]? = some g) := by
    intro j i g hj
    have hi := hlt i (List.mem_of_getElem? hj)
    rw [List.getElem?_map, hj]
    simp only [Option.map_some, Option.some.injEq]
    rw [List.getElem?_eq_getElem (by omega)]
    simp [List.getD, List.getElem?_eq_getElem (show i < ρ.length by omega)]
  have hf : ∀ i j, pos L i = some j → ∀ g, ρ[i]? = some g → (L.map fun i => ρ.getD i (0, 0))[j]? = some g := fun i j hp g hg => (hget j i g (pos_get hp)).1 hg
  have hσL : ∀ (j : Nat) (b : Blk), (selB σ L)[j]? = some b → ∃ i b', L[j]? = some i ∧ σ[i]? = some b' ∧ b = mapIdsB (pos L) b' := by
    intro j b hb
    unfold selB at hb
    rw [List.getElem?_map] at hb
    cases hj : L[j]? with
    | none => rw [hj] at hb; simp at hb
    | some i =>
      rw [hj] at hb
      simp at hb
      have hi := hlt i (List.mem_of_getElem? hj)
      refine ⟨i, σ[i], rfl, List.getElem?_eq_getElem hi, ?_⟩
      rw [← hb]
      simp [List.getElem?_eq_getElem hi]
  have lm : ∀ b, LMut (L.map fun i => ρ.getD i (0, 0)) (selB σ L) b → LMut ρ σ b := by
    rintro b ⟨j, b1, n, g, h1, h2, h3, h6⟩
    obtain ⟨i, b', h4, h5, rfl⟩ := hσL j b1 h1
    exact ⟨i, b', n, g, h5, by rw [← (mapIdsB_count (f := pos L) b').2]; exact h2, (hget j i _ h4).2 h3, (mapIdsB_owns b').1 h6⟩
  have hmm : ∀ b, b < w.heap.size → Mut F (L.map fun i => ρ.getD i (0, 0)) (selB σ L) b → Mut F ρ σ b := by
    rintro b _ (h | h)
    · exact .inl h
    · exact .inr (lm b h)
  refine ⟨L.map fun i => ρ.getD i (0, 0), {
    heap := ⟨by simp [selB], ?_, ?_, ?_, I.heap.glob.keep (Keep.same hmm)⟩
    pre := ?_
    os := I.os
    tape := I.tape
    output := I.output
    size := I.size
    blk := I.blk
    shape := I.shape
    fresh := fun g hg => I.fresh g (lm g hg)
    foreign := I.foreign
    apart := fun g hg => I.apart g (lm g hg) }, hf, hmm⟩
  · intro j b g n hb hg hl
    obtain ⟨i, b', h4, h5, rfl⟩ := hσL j b hb
    have hl' : b'.live = true := by rw [← (mapIdsB_count (f := pos L) b').2]; exact hl
    obtain ⟨h6, h7, h8⟩ := I.heap.live i b' g n h5 ((hget j i _ h4).2 hg) hl'
    exact ⟨DenBlk_re hf (.inr hmm) h6, by rw [(mapIdsB_count b').1, h7], h8⟩
  · intro j b g n k hb hg hl hk
    obtain ⟨i, b', h4, h5, rfl⟩ := hσL j b hb
    have hl' : b'.live = true := by rw [← (mapIdsB_count (f := pos L) b').2]; exact hl
    exact I.heap.lt i b' g n k h5 ((hget j i _ h4).2 hg) hl' ((mapIdsB_owns b').1 hk)
  · intro j j' b b' g g' n n' k hb hb' hl hl' hg hg' hk hk'
    obtain ⟨i, c, h4, h5, rfl⟩ := hσL j b hb
    obtain ⟨i', c', h4', h5', rfl⟩ := hσL j' b' hb'
    have e := I.heap.inj' i i' c c' g g' n n' k h5 h5' (by rw [← (mapIdsB_count (f := pos L) c).2]; exact hl) (by rw [← (mapIdsB_count (f := pos L) c').2]; exact hl') ((hget j i _ h4).2 hg) ((hget j' i' _ h4').2 hg') ((mapIdsB_owns c).1 hk) ((mapIdsB_owns c').1 hk')
    subst e
    have hjl := (List.getElem?_eq_some_iff.1 h4).1
    exact (List.getElem?_inj hjl hnd).1 (h4.trans h4'.symm)
  · refine ⟨r'.map fun i => ρ.getD i (0, 0), ?_⟩
    rw [hfront, List.map_append]
    congr 1
    refine List.ext_getElem? fun i => ?_
    rw [List.getElem?_map]
    rcases Nat.lt_or_ge i ρ0.length with h | h
    · rw [List.getElem?_range h, List.getElem?_eq_getElem h]
      simp only [Option.map_some, Option.some.injEq]
      rw [hr, List.getD_eq_getElem?_getD, List.getElem?_append_left h, List.getElem?_eq_getElem h]
      rfl
    · rw [List.getElem?_eq_none (by simpa using h), List.getElem?_eq_none h]
      rfl
theorem Inv.head (I : Inv F w0 m0 ρ0 ρ s.σ w) (S : Slots (Mut F ρ s.σ) ρ s.t a w) (hm : ρ0.length = E.m) (hn : s.t.length = E.n) (live : List Nat) :
    ∃ ρ', Inv F w0 m0 ρ0 ρ' (headB E.m live s) w ∧ Slots (Mut F ρ' (headB E.m live s)) ρ' (spread E.n live (headV E.m live s) (headB E.m live s)).t a w ∧ ∀ b, LMut ρ' (headB E.m live s) b → LMut ρ s.σ b := by
  obtain ⟨ρ', I', hf, hmm⟩ := I.sel ((liveV live s).flatMap idsA)
  rw [hm] at I' hf hmm
  refine ⟨ρ', I', ⟨by simp [spread, ← S.len, hn], fun i v hv => ?_⟩, fun b hb => ?_⟩
  · simp only [spread, List.getElem?_map] at hv
    rcases Nat.lt_or_ge i E.n with hi | hi
    · rw [List.getElem?_range hi] at hv
      simp only [Option.map_some, Option.some.injEq] at hv
      obtain ⟨u, h1, h2⟩ := S.get i _ (List.getElem?_eq_getElem (by omega))
      refine ⟨u, h1, ?_⟩
      split at hv
      · rename_i j hj
        have hj' := pos_get hj
        have : (headV E.m live s)[j]? = some (mapIdsA (pos (headL E.m live s)) (s.t[i]'(by omega))) := by
          unfold headV liveV
          rw [List.getElem?_map, List.getElem?_map, hj']
          simp [List.getElem?_eq_getElem (show i < s.t.length by omega)]
        rw [List.getD_eq_getElem?_getD, this] at hv
        simp only [Option.getD_some] at hv
        subst hv
        exact Den_re hf (.inr hmm) h2
      · subst hv
        trivial
    · rw [List.getElem?_eq_none (by simpa using hi)] at hv
      cases hv
  · have hlt : b < w.heap.size := by
      obtain ⟨id, c, n, g, h1, h2, h3, h4⟩ := hb
      exact I'.heap.lt id c g n b h1 h3 h2 h4
    exact (hmm b hlt (.inr hb)).resolve_left (I'.apart b hb)
theorem Rel.head {X : XS} (R : Rel X F w0 m0 ρ0 s a w) (hm : ρ0.length = E.m) (hn : s.t.length = E.n) (live : List Nat) : Rel X F w0 m0 ρ0 (spread E.n live (headV E.m live s) (headB E.m live s)) a w := by
  obtain ⟨ρ, I, S, hd⟩ := R
  obtain ⟨ρ', I', S', _⟩ := I.head S hm hn live
  exact ⟨ρ', I', S', hd⟩
theorem Inv.kill (I : Inv F w0 m0 ρ0 ρ σ w) (L : List Nat) :
    Inv (fun b => F b ∨ (LMut ρ σ b ∧ ¬ LMut ρ (killAll L σ) b)) w0 m0 ρ0 ρ (killAll L σ) w ∧ ∀ b, Mut (fun b => F b ∨ (LMut ρ σ b ∧ ¬ LMut ρ (killAll L σ) b)) ρ (killAll L σ) b → Mut F ρ σ b := by
  have hLM : ∀ b, LMut ρ (killAll L σ) b → LMut ρ σ b := by
    rintro b ⟨id, c, n, g, h1, h2, h3, h4⟩
    exact ⟨id, c, n, g, (killAll_live _ _ h1 h2).1, h2, h3, h4⟩
  have hM : ∀ b, Mut (fun b => F b ∨ (LMut ρ σ b ∧ ¬ LMut ρ (killAll L σ) b)) ρ (killAll L σ) b → Mut F ρ σ b := by
    rintro b ((h | h) | h)
    · exact .inl h
    · exact .inr h.1
    · exact .inr (hLM b h)
  refine ⟨{ I with
    heap := ⟨by rw [killAll_length]; exact I.heap.len, fun id b g n h1 h2 h3 => ?_, fun id b g n k h1 h2 h3 h4 => I.heap.lt id b g n k (killAll_live _ _ h1 h3).1 h2 h3 h4,
      fun i j b b' g g' n n' k h1 h2 h3 h4 h5 h6 h7 h8 => I.heap.inj' i j b b' g g' n n' k (killAll_live _ _ h1 h3).1 (killAll_live _ _ h2 h4).1 h3 h4 h5 h6 h7 h8, I.heap.glob.keep (Keep.same fun b _ hb => hM b hb)⟩
    fresh := fun g hg => I.fresh g (hLM g hg)
    foreign := ?_
    apart := ?_ }, hM⟩
  · obtain ⟨a1, a2, a3⟩ := I.heap.live id b g n (killAll_live _ _ h1 h3).1 h2 h3
    exact ⟨a1.keep (Keep.same fun b _ hb => hM b hb) (fun _ _ h => h) fun _ _ => rfl, a2, a3⟩
  · rintro b (h | ⟨⟨id, c, n, g, h1, h2, h3, h4⟩, _⟩)
    · exact I.foreign b h
    · exact I.heap.lt id c g n b h1 h3 h2 h4
  · rintro g hg (h | h)
    · exact I.apart g (hLM g hg) h
    · exact h.2 hg
theorem Slots.anti {m m' : Nat → Prop} {t : List AV} (h : ∀ b, b < w.heap.size → m' b → m b) (S : Slots m ρ t a w) : Slots m' ρ t a w := S.keep (Keep.same h) fun _ _ h => h
theorem HeapOk.anti {F' : Nat → Prop} (h : ∀ b, b < w.heap.size → Mut F' ρ σ b → Mut F ρ σ b) (H : HeapOk F ρ σ w) : HeapOk F' ρ σ w :=
  ⟨H.len, fun id b g n h1 h2 h3 => by
    obtain ⟨a1, a2, a3⟩ := H.live id b g n h1 h2 h3
    exact ⟨a1.keep (Keep.same h) (fun _ _ h => h) fun _ _ => rfl, a2, a3⟩, H.lt, H.inj', H.glob.keep (Keep.same h)⟩
theorem LMut.lt (H : HeapOk F ρ σ w) {b : Nat} (h : LMut ρ σ b) : b < w.heap.size := by
  obtain ⟨id, c, n, g, h1, h2, h3, h4⟩ := h
  exact H.lt id c g n b h1 h3 h2 h4
end
end Go.Ev
