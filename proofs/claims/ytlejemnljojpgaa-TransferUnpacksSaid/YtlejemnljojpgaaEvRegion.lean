/-
  Soundness, tenth part: slots; regions in the order of the text.
-/
import Derived.Test.YtlejemnljojpgaaEvRun
namespace Go.Ev
open Go Go.RowKit

structure Slots (m : Nat → Prop) (ρ : List (Nat × Nat)) (t : List AV) (a : Act) (w : World) : Prop where
  len : t.length = a.tmps.size
  get : ∀ (i : Nat) (v : AV), t[i]? = some v → ∃ u, a.tmps[i]? = some u ∧ Den w m ρ v u

/-- The abstract state of a call and the machine's. -/
def Rel (F : Nat → Prop) (w0 : World) (m0 : Nat → Prop) (ρ0 : List (Nat × Nat)) (s : St) (a : Act) (w : World) : Prop :=
  ∃ ρ, Inv F w0 m0 ρ0 ρ s.σ w ∧ Slots (Mut F ρ s.σ) ρ s.t a w ∧ a.defers = []

section
variable {F : Nat → Prop} {E : Env} {w0 w w' : World} {m m' m0 : Nat → Prop} {ρ0 ρ ρ' : List (Nat × Nat)} {s : St} {t : List AV} {a : Act}

theorem Slots.keep (h : Slots m ρ t a w) (K : Keep m m' w w') (hρ : ∀ (id : Nat) (g : Nat × Nat), ρ[id]? = some g → ρ'[id]? = some g) : Slots m' ρ' t a w' :=
  ⟨h.len, fun i v hv => by
    obtain ⟨u, h1, h2⟩ := h.get i v hv
    exact ⟨u, h1, h2.keep K hρ⟩⟩

theorem Slots.put (h : Slots m ρ t a w) {d : Option Tmp} {v : AV} {u : Value} (hd : Den w m ρ v u) : Slots m ρ (setT t d v) (a.put d u) w := by
  cases d with
  | none => exact h
  | some d =>
    refine ⟨by simp [setT, Act.put, h.len], fun i x hx => ?_⟩
    simp only [setT] at hx
    simp only [Act.put]
    by_cases hi : i = d
    · subst hi
      have hl : i < t.length := by
        have := (List.getElem?_eq_some_iff.1 hx).1
        simpa using this
      rw [List.getElem?_set_self hl] at hx
      cases hx
      refine ⟨u, ?_, hd⟩
      rw [Array.getElem?_setIfInBounds_self_of_lt (by rw [← h.len]; exact hl)]
    · rw [List.getElem?_set_ne (fun e => hi e.symm)] at hx
      obtain ⟨y, h1, h2⟩ := h.get i x hx
      exact ⟨y, by rw [Array.getElem?_setIfInBounds_ne (fun e => hi e.symm)]; exact h1, h2⟩

theorem Slots.setB (h : Slots m ρ t a w) {d : Tmp} {b : Bool} (hb : a.tmps[d]? = some (.bool b)) : Slots m ρ (t.set d (.one (.bool b))) a w := by
  refine ⟨by simp [h.len], fun i x hx => ?_⟩
  by_cases hi : i = d
  · subst hi
    have hl : i < t.length := by
      have := (List.getElem?_eq_some_iff.1 hx).1
      simpa using this
    rw [List.getElem?_set_self hl] at hx
    cases hx
    exact ⟨_, hb, rfl⟩
  · rw [List.getElem?_set_ne (fun e => hi e.symm)] at hx
    exact h.get i x hx

theorem slot_bool (h : Slots m ρ t a w) {d : Tmp} {b : Bool} (hd : t.getD d .any = .one (.bool b)) : a.tmps[d]? = some (.bool b) := by
  cases ht : t[d]? with
  | none => simp [List.getD, ht] at hd
  | some v =>
    obtain ⟨u, h1, h2⟩ := h.get d v ht
    simp only [List.getD, ht, Option.getD_some] at hd
    subst hd
    cases h2
    exact h1

theorem ops_den (h : Slots m ρ s.t a w) (x : Operand) : Den w m ρ (s.ov x) (a.eval x) := ov_sound h.get x

theorem evDo_sound (hS : ∀ f S, E.specs f = some S → SpecOK E.P f S) {o : Oper} {k : St → Prop} (h : evDo E o s k) (R : Rel F w0 m0 ρ0 s a w) {next : Act → World → Prop} {Q : Exit → Act → World → Prop}
    (hnext : ∀ s' a' w', k s' → Rel F w0 m0 ρ0 s' a' w' → next a' w') : o.wp E.P a w next Q := by
  obtain ⟨ρ, I, L, hd⟩ := R
  unfold evDo at h
  split at h
  · split at h
    case h_2 => exact h.elim
    rename_i c v hv
    obtain ⟨rfl, hk⟩ := cond_pos h
    obtain ⟨u, h1, h2⟩ := evM_sound I.heap hv (f := a.eval) fun x _ => ops_den L x
    unfold Oper.wp
    rw [h1]
    refine hnext _ _ _ hk ⟨ρ, I, L.put h2, ?_⟩
    cases o.dst <;> exact hd
  · split at h
    · rename_i c v hv
      obtain ⟨rfl, hk⟩ := cond_pos h
      obtain ⟨u, h1, h2⟩ := evM_sound I.heap hv (f := a.eval) fun x _ => ops_den L x
      unfold Oper.wp
      rw [h1]
      refine hnext _ _ _ hk ⟨ρ, I, L.put h2, ?_⟩
      cases o.dst <;> exact hd
    · refine evN_sound hS I h (fun x _ => ops_den L x) ?_
      rintro u w' ⟨v, σ', ρ', hk, I', ⟨r, rfl⟩, K, hden, _⟩
      refine hnext _ _ _ hk ⟨ρ ++ r, I', (L.keep K fun _ _ h => getElem?_append_some h).put hden, ?_⟩
      cases o.dst <;> exact hd

theorem evOper_sound (hS : ∀ f S, E.specs f = some S → SpecOK E.P f S) {ops : Array Oper} {i : Nat} {o : Oper} (hi : ops[i]? = some o) {k : St → Prop} (h : evOper E ops o s k) (R : Rel F w0 m0 ρ0 s a w) {next : Act → World → Prop} {Q : Exit → Act → World → Prop}
    (hnext : ∀ s' a' w', k s' → Rel F w0 m0 ρ0 s' a' w' → next a' w') : wpOp E.P ops Q i next a w := by
  unfold wpOp
  rw [hi]
  dsimp only
  unfold evOper at h
  split at h
  · rename_i hg
    rw [if_pos (by simp [Region.wanted, hg])]
    exact .inl (evDo_sound hS h R hnext)
  · rename_i j want hg
    split at h
    case h_2 => exact h.elim
    rename_i d hd
    have skip : ∀ {s : St}, Rel F w0 m0 ρ0 s a w → k ⟨setT s.t o.dst skipV, s.σ⟩ → next (a.put o.dst undef) w := by
      rintro s ⟨ρ, I, L, hdf⟩ hk
      refine hnext _ _ _ hk ⟨ρ, I, L.put ⟨[], rfl, trivial⟩, ?_⟩
      cases o.dst <;> exact hdf
    split at h
    case h_3 => exact h.elim
    case h_2 ht =>
      obtain ⟨ρ, I, L, hdf⟩ := R
      have ht' : s.t[d]? = some (.tup []) := by
        cases hx : s.t[d]? with
        | none => simp [List.getD, hx] at ht
        | some v => simp [List.getD, hx] at ht; rw [ht]
      obtain ⟨u, h1, vs, h2, h3⟩ := L.get d _ ht'
      have h4 : vs = [] := by
        cases vs with
        | nil => rfl
        | cons a l => exact h3.elim
      subst h4
      have hy : yielded ops a.tmps j = none := by
        unfold yielded
        rw [hd]
        simp [h1, h2]
      rw [if_neg (by simp [Region.wanted, hg, hy])]
      exact skip ⟨ρ, I, L, hdf⟩ h
    rename_i b hb
    obtain ⟨ρ, I, L, hdf⟩ := R
    have hslot := slot_bool L hb
    have hy : yielded ops a.tmps j = some b := by
      unfold yielded
      rw [hd]
      simp [hslot]
    have Rb : Rel F w0 m0 ρ0 (setB s d b) a w := ⟨ρ, I, L.setB hslot, hdf⟩
    have hw : Region.wanted o (yielded ops a.tmps) = (b == want) := by
      simp [Region.wanted, hg, hy]
    rw [hw]
    cases want <;> cases b <;> dsimp only at h
    · exact .inl (evDo_sound hS h Rb hnext)
    · exact skip Rb h
    · exact skip Rb h
    · exact .inl (evDo_sound hS h Rb hnext)

theorem evOps_sound (hS : ∀ f S, E.specs f = some S → SpecOK E.P f S) {ops : Array Oper} {Q : Exit → Act → World → Prop} {k : St → Prop} (hQ : ∀ s' a' w', k s' → Rel F w0 m0 ρ0 s' a' w' → Q .normal a' w') :
    ∀ (l : List Oper) (j : Nat) (s : St) (a : Act) (w : World), (∀ i, i < l.length → l[i]? = ops[j + i]?) → evOps E ops l s k → Rel F w0 m0 ρ0 s a w → wpOps E.P ops Q (List.range' j l.length) a w
  | [], j, s, a, w, _, h, R => hQ s a w h R
  | o :: l, j, s, a, w, hl, h, R => by
    simp only [List.length_cons, List.range'_succ]
    rw [wpOps_cons]
    have h0 := hl 0 (by simp)
    simp only [List.getElem?_cons_zero, Nat.add_zero] at h0
    refine evOper_sound hS h0.symm h R fun s' a' w' hk R' => ?_
    refine evOps_sound hS hQ l (j + 1) s' a' w' (fun i hi => ?_) hk R'
    have := hl (i + 1) (by simp; omega)
    rw [List.getElem?_cons_succ] at this
    rw [this]
    congr 1
    omega
end
end Go.Ev
