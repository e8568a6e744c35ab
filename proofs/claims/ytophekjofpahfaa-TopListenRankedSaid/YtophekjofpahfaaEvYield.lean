/-
  Part of the proof of a law.
-/
import Derived.Test.YtophekjofpahfaaEvCall
import Derived.RangeFuncRecord
set_option linter.unusedVariables false
set_option linter.unusedSimpArgs false
set_option linter.unusedSectionVars false
/-
  Soundness: a call of 'yield'.
-/
namespace Go.Ev
open Go Go.RowKit
variable [Glob]
theorem mapIds_none {s : SV} (f : Nat → Option Nat) (h : idsS s = []) : mapIds f s = s := by
  cases s <;> simp_all [idsS, mapIds, mapOpt]
theorem mapIds_nones (f : Nat → Option Nat) : ∀ {l : List SV}, l.flatMap idsS = [] → l.map (mapIds f) = l
  | [], _ => rfl
  | s :: l, h => by
    simp only [List.flatMap_cons, List.append_eq_nil_iff] at h
    rw [List.map_cons, mapIds_none f h.1, mapIds_nones f h.2]
theorem mapIdsT_none {s : TV} (f : Nat → Option Nat) (h : idsT s = []) : mapIdsT f s = s := by
  cases s with
  | one s => simp only [mapIdsT, mapIds_none f (show idsS s = [] from h)]
  | agg l => simp only [mapIdsT, mapIds_nones f (show l.flatMap idsS = [] from h)]
theorem mapIdsT_nones (f : Nat → Option Nat) : ∀ {l : List TV}, l.flatMap idsT = [] → l.map (mapIdsT f) = l
  | [], _ => rfl
  | s :: l, h => by
    simp only [List.flatMap_cons, List.append_eq_nil_iff] at h
    rw [List.map_cons, mapIdsT_none f h.1, mapIdsT_nones f h.2]
theorem mapIdsA_none {a : AV} (f : Nat → Option Nat) (h : idsA a = []) : mapIdsA f a = a := by
  cases a with
  | any => rfl
  | one s => simp only [mapIdsA, mapIds_none f (show idsS s = [] from h)]
  | agg l => simp only [mapIdsA, mapIds_nones f (show l.flatMap idsS = [] from h)]
  | tup l => simp only [mapIdsA, mapIdsT_nones f (show l.flatMap idsT = [] from h)]
theorem mapIdsA_nones (f : Nat → Option Nat) : ∀ {l : List AV}, l.flatMap idsA = [] → l.map (mapIdsA f) = l
  | [], _ => rfl
  | s :: l, h => by
    simp only [List.flatMap_cons, List.append_eq_nil_iff] at h
    rw [List.map_cons, mapIdsA_none f h.1, mapIdsA_nones f h.2]
theorem killAll_other : ∀ (V : List Nat) (σ : List Blk) {i : Nat}, i ∉ V → (killAll V σ)[i]? = σ[i]?
  | [], _, _, _ => rfl
  | j :: V, σ, i, h => by
    simp only [List.mem_cons, not_or] at h
    simp only [killAll]
    rw [killAll_other V _ h.2, List.getElem?_set_ne (fun e => h.1 e.symm)]
theorem solidAt_get {σ : List Blk} {i : Nat} (h : solidAt σ i = true) : ∃ b, σ[i]? = some b ∧ b.live = true ∧ b.solid := by
  unfold solidAt at h
  split at h
  · rename_i l hl; exact ⟨_, hl, rfl, trivial⟩
  · rename_i t r hl; exact ⟨_, hl, rfl, trivial⟩
  · cases h
section
variable {F : Nat → Prop} {E : Env} {w0 w : World} {m0 : Nat → Prop} {ρ0 ρ : List (Nat × Nat)} {s : St}
theorem evYield_sound (I : Inv F w0 m0 ρ0 ρ s.σ w) {id : Nat} {ts : List TypeId} {args : List AV} {vals : List Value} {k : AV → List Blk → Prop} (h : evYield E s id ts args k) (ha : All2 (Den w (Mut F ρ s.σ) ρ) args vals)
    {g x : Nat} (hg : ρ[id]? = some (g, x)) :
    ∃ fn tmps assign body, (Instr.yield g vals.toArray).run E.P w = .ok (.round g fn tmps assign body) w ∧ ∀ n, RoundIn Fence.wide n E.P g fn tmps assign body w fun e w' => ∃ v, e = .returned v ∧ Done F w0 m0 ρ0 ρ s.σ w False k v w' := by
  unfold evYield at h
  split at h
  case h_2 => exact h.elim
  rename_i P J D L c args' hσ hview
  split at h
  case isFalse => exact h.elim
  rename_i hV
  obtain ⟨rfl, rfl, hL, hk⟩ := cond_pos h
  clear h
  simp only [Bool.and_eq_true, List.isEmpty_iff] at hV
  obtain ⟨hids, hV⟩ := hV
  generalize hVdef : args.flatMap (idsVA s.σ) = V at *
  have hVs : ∀ i ∈ V, ∃ b, s.σ[i]? = some b ∧ b.live = true ∧ b.solid := fun i hi => solidAt_get (List.all_eq_true.1 hV i hi)
  have hidV : id ∉ V := fun hi => by
    obtain ⟨b, h1, _, h2⟩ := hVs id hi
    rw [hσ] at h1
    cases h1
    exact h2
  obtain ⟨⟨hJ, hpro⟩, hcnt, hglt⟩ := I.heap.live id _ g x hσ hg rfl
  generalize hσ1 : killAll V s.σ = σ1 at *
  have h1len : σ1.length = s.σ.length := by rw [← hσ1]; exact killAll_length _ _
  have h1get : ∀ (i : Nat) (b : Blk), σ1[i]? = some b → b.live = true → s.σ[i]? = some b ∧ i ∉ V := fun i b h1 h2 => by
    rw [← hσ1] at h1
    exact killAll_live _ _ h1 h2
  have h1id : σ1[id]? = some (.ghost E.P J D (some L)) := by rw [← hσ1, killAll_other _ _ hidV, hσ]
  have h1LM : ∀ k, LMut ρ σ1 k → LMut ρ s.σ k := by
    rintro k ⟨i, b, n, g', h1, h2, h3, h4⟩
    exact ⟨i, b, n, g', (h1get i b h1 h2).1, h2, h3, h4⟩
  have h1M : ∀ k, Mut F ρ σ1 k → Mut F ρ s.σ k := fun k hk => hk.imp_right (h1LM k)
  have hMlt : ∀ k, Mut F ρ σ1 k → k < w.heap.size := by
    rintro k (h | ⟨i, b, n, g', h1, h2, h3, h4⟩)
    · exact I.foreign k h
    · exact I.heap.lt i b g' n k (h1get i b h1 h2).1 h3 h2 h4
  have hown : ∀ k, k = g ∨ D k → LMut ρ σ1 k := fun k hk => ⟨id, _, x, g, h1id, rfl, hg, hk⟩
  have hA : All2 (Den w (Mut F ρ σ1) []) args' vals := by
    have := viewAs_sound (f := fun _ => none) (ρL := []) I.heap (fun _ _ h => by cases h) (m' := Mut F ρ σ1) (fun b _ hb => h1M b hb) (ts := ts) (l := args) (l' := args') (vs := vals) (by
      rw [hVdef]
      rintro i hi g' n hr (h | ⟨j, b, n', g2, h1, h2, h3, h4⟩)
      · obtain ⟨b, hb, hbl, _⟩ := hVs i hi
        exact I.apart g' (.solid hb hbl hr) h
      · obtain ⟨b', hb, hbl, _⟩ := hVs i hi
        obtain ⟨h5, h6⟩ := h1get j b h1 h2
        exact h6 ((I.heap.inj' i j b' b g' g2 n n' g' hb h5 hbl h2 hr h3 (b'.owns_self g') h4) ▸ hi)) hview ha
    rwa [mapIdsA_nones _ hids] at this
  have hJ1 : J (Mut F ρ σ1) D (some (args' :: L.tail)) w := by
    rw [← hL]
    exact hpro.keep _ _ _ _ w w hJ (Keep.same fun b _ hb => h1M b hb) fun _ _ => rfl
  obtain ⟨fn, tmps, assign, body, hrun, hround⟩ := hpro.round (Mut F ρ σ1) D args' L.tail w vals hJ1 hMlt (fun k hk => .inr (hown k hk)) hA
  refine ⟨fn, tmps, assign, body, hrun, fun n => (hround n).mono ?_⟩
  rintro e w' ⟨c, D', rfl, hJ', hD', hsz, hblk, hsh, hos, ht, ho⟩
  refine ⟨_, rfl, .one (.bool c), σ1.set id (.ghost E.P J D' (if c then some L.tail else none)), ρ, ?_, ?_, ⟨[], by simp⟩, ?_, rfl, False.elim⟩
  · cases c
    · exact (hk D').2
    · exact (hk D').1
  all_goals
    have hidl : id < σ1.length := (List.getElem?_eq_some_iff.1 h1id).1
    have hset : ∀ (i : Nat) (b : Blk), (σ1.set id (.ghost E.P J D' (if c then some L.tail else none)))[i]? = some b → (i = id ∧ b = .ghost E.P J D' (if c then some L.tail else none)) ∨ (i ≠ id ∧ σ1[i]? = some b) := by
      intro i b h
      by_cases hi : i = id
      · subst hi
        rw [List.getElem?_set_self hidl] at h
        cases h
        exact .inl ⟨rfl, rfl⟩
      · rw [List.getElem?_set_ne (fun e => hi e.symm)] at h
        exact .inr ⟨hi, h⟩
    have hLM : ∀ k, LMut ρ (σ1.set id (.ghost E.P J D' (if c then some L.tail else none))) k → (LMut ρ σ1 k ∧ ¬ (k = g ∨ D k)) ∨ k = g ∨ D' k := by
      rintro k ⟨i, b, n, g', h1, h2, h3, h4⟩
      rcases hset i b h1 with ⟨rfl, rfl⟩ | ⟨hi, h1⟩
      · rw [hg] at h3; cases h3
        exact .inr h4
      · refine .inl ⟨⟨i, b, n, g', h1, h2, h3, h4⟩, fun hk => ?_⟩
        exact hi (I.heap.inj' i id b _ g' g n x k (h1get i b h1 h2).1 hσ h2 rfl h3 hg h4 hk)
    have hLM2 : ∀ k, LMut ρ (σ1.set id (.ghost E.P J D' (if c then some L.tail else none))) k → LMut ρ σ1 k ∨ w.heap.size ≤ k := by
      intro k hk
      rcases hLM k hk with ⟨h, _⟩ | rfl | h
      · exact .inl h
      · exact .inl (hown _ (.inl rfl))
      · rcases Nat.lt_or_ge k w.heap.size with hlt | hge
        · exact .inl (hown _ (.inr ((hD' k h).1 hlt)))
        · exact .inr hge
    have K : Keep (Mut F ρ s.σ) (Mut F ρ (σ1.set id (.ghost E.P J D' (if c then some L.tail else none)))) w w' := by
      refine ⟨hsz, fun b hb hm => hblk b hb fun hk => hm (.inr (h1LM b (hown b hk))), ?_, hsh⟩
      rintro b hb (h | h)
      · exact .inl h
      · rcases hLM2 b h with h | h
        · exact .inr (h1LM b h)
        · omega
  · refine ⟨⟨by rw [List.length_set, h1len, I.heap.len], ?_, ?_, ?_, I.heap.glob.keep K⟩, I.pre, hos.trans I.os, ht.trans I.tape, ho.trans I.output, Nat.le_trans I.size hsz, ?_, ?_, ?_, fun b hb => Nat.lt_of_lt_of_le (I.foreign b hb) hsz, ?_⟩
    · intro i b g' n h1 h3 h2
      rcases hset i b h1 with ⟨rfl, rfl⟩ | ⟨hi, h1⟩
      · rw [hg] at h3; cases h3
        refine ⟨⟨hpro.keep _ _ _ _ w' w' hJ' (Keep.same ?_) fun _ _ => rfl, hpro⟩, hcnt, by omega⟩
        rintro b _ (h | h)
        · refine .inl ⟨.inl h, fun hk => I.apart b (h1LM b (hown b hk)) h⟩
        · exact (hLM b h).imp_left fun h => ⟨.inr h.1, h.2⟩
      · obtain ⟨h5, _⟩ := h1get i b h1 h2
        obtain ⟨h6, h7, h8⟩ := I.heap.live i b g' n h5 h3 h2
        refine ⟨h6.keep K (fun _ _ h => h) fun k hk => hblk k (I.heap.lt i b g' n k h5 h3 h2 hk) fun hk' => ?_, h7, by omega⟩
        exact hi (I.heap.inj' i id b _ g' g n x k h5 hσ h2 rfl h3 hg hk hk')
    · intro i b g' n k h1 h3 h2 hk
      rcases hset i b h1 with ⟨rfl, rfl⟩ | ⟨hi, h1⟩
      · rw [hg] at h3; cases h3
        rcases hk with rfl | hk
        · omega
        · exact (hD' k hk).2
      · have := I.heap.lt i b g' n k (h1get i b h1 h2).1 h3 h2 hk
        omega
    · intro i j bi bj g1 g2 n n' k hi hj hli hlj hri hrj hki hkj
      have one : ∀ (i : Nat) (b : Blk) (g' n : Nat), i ≠ id → σ1[i]? = some b → b.live = true → ρ[i]? = some (g', n) → b.owns g' k → (k = g ∨ D' k) → False := by
        intro i b g' n hne h1 h2 h3 h4 h5
        obtain ⟨h6, _⟩ := h1get i b h1 h2
        have hlt := I.heap.lt i b g' n k h6 h3 h2 h4
        exact hne (I.heap.inj' i id b _ g' g n x k h6 hσ h2 rfl h3 hg h4 (h5.imp_right fun h => (hD' k h).1 hlt))
      rcases hset i bi hi with ⟨rfl, rfl⟩ | ⟨hnei, hi'⟩ <;> rcases hset j bj hj with ⟨rfl, rfl⟩ | ⟨hnej, hj'⟩
      · rfl
      · rw [hg] at hri; cases hri
        exact (one j bj g2 n' hnej hj' hlj hrj hkj hki).elim
      · rw [hg] at hrj; cases hrj
        exact (one i bi g1 n hnei hi' hli hri hki hkj).elim
      · exact I.heap.inj' i j bi bj g1 g2 n n' k (h1get i bi hi' hli).1 (h1get j bj hj' hlj).1 hli hlj hri hrj hki hkj
    · intro b hb hm
      rw [hblk b (Nat.lt_of_lt_of_le hb I.size), I.blk b hb hm]
      intro hk
      rcases I.fresh b (h1LM b (hown b hk)) with h | h
      · omega
      · exact hm h
    · intro b hb
      rw [hsh b (Nat.lt_of_lt_of_le hb I.size), I.shape b hb]
    · intro k hk
      rcases hLM2 k hk with h | h
      · exact I.fresh k (h1LM k h)
      · exact .inl (Nat.le_trans I.size h)
    · intro k hk hF
      rcases hLM2 k hk with h | h
      · exact I.apart k (h1LM k h) hF
      · have := I.foreign k hF
        omega
  · exact K
end
end Go.Ev
