/-
  Part of the proof of a law.
-/
import Derived.Test.YtophekjofpahfaaEvKit2
set_option linter.unusedVariables false
set_option linter.unusedSimpArgs false
set_option linter.unusedSectionVars false
/-
  Results that are only read: a contract whose results are own rows gives one whose results are plain data.
-/
namespace Go.Ev
open Go
variable [Glob]
def frzS (σ : List Blk) : SV → SV → Prop
  | .own id wd, s' => ∃ t r, σ[id]? = some (.row t r) ∧ wd = r.width ∧ s' = .data r
  | .sub id wd i n, s' => ∃ t r, σ[id]? = some (.row t r) ∧ wd = r.width ∧ i + n ≤ r.count ∧ s' = .data (r.part i n)
  | .nil, s' => s' = .nil ∨ ∃ r, r.count = 0 ∧ s' = .data r
  | .data r, s' => s' = .data r
  | .int k n, s' => s' = .int k n
  | .bool b, s' => s' = .bool b
  | .str s, s' => s' = .str s
  | .flt k b, s' => s' = .flt k b
  | _, _ => False
def frzT (σ : List Blk) : TV → TV → Prop
  | .one s, .one s' => frzS σ s s'
  | .agg l, .agg l' => All2 (frzS σ) l l'
  | _, _ => False
def frzA (σ : List Blk) : AV → AV → Prop
  | .one s, .one s' => frzS σ s s'
  | .agg l, .agg l' => All2 (frzS σ) l l'
  | .tup l, .tup l' => All2 (frzT σ) l l'
  | _, _ => False
section
variable {F : Nat → Prop} {ρ : List (Nat × Nat)} {σ : List Blk} {w : World}
theorem lmut_nil {b : Nat} (h : LMut [] [] b) : False := by
  obtain ⟨id, c, n, g, h1, _⟩ := h
  simp at h1
theorem frzS_den (H : HeapOk F ρ σ w) (ap : ∀ g, LMut ρ σ g → ¬ F g) {s s' : SV} {u : Value} (h : frzS σ s s') (hd : DenS w (Mut F ρ σ) ρ s u) : DenS w (Mut F [] []) [] s' u := by
  have hmm : ∀ b, Mut F [] [] b → Mut F ρ σ b := fun b hb => hb.elim .inl fun hb => (lmut_nil hb).elim
  cases s with
  | own id wd =>
    obtain ⟨t, r, h1, h2, rfl⟩ := h
    obtain ⟨a, cap, e1, e2, e3, e4⟩ := viewRow_sound (P := default) (e := 0) H (r := r) (s := .own id wd) (by simp only [viewRow, h1]; rw [if_pos h2]) hd
    refine ⟨a, cap, e1, e2, e3, e4.imp_right ?_⟩
    rintro ⟨ad, h5, h6, h7, h8⟩
    refine ⟨ad, h5, h7, fun hm => ?_, h6.keep (Keep.same fun b _ hb => hmm b hb)⟩
    obtain ⟨i, n, hi, hρ⟩ := h8 (hmm _ hm)
    simp only [idsS, List.mem_singleton] at hi
    subst hi
    exact ap _ (LMut.solid h1 rfl hρ) (hm.resolve_right lmut_nil)
  | sub id wd i n =>
    obtain ⟨t, r, h1, h2, h3, rfl⟩ := h
    obtain ⟨a, cap, e1, e2, e3, e4⟩ := viewRow_sound (P := default) (e := 0) H (r := r.part i n) (s := .sub id wd i n) (by simp only [viewRow, h1]; rw [if_pos h2, decide_eq_true h3]) hd
    refine ⟨a, cap, e1, e2, e3, e4.imp_right ?_⟩
    rintro ⟨ad, h5, h6, h7, h8⟩
    refine ⟨ad, h5, h7, fun hm => ?_, h6.keep (Keep.same fun b _ hb => hmm b hb)⟩
    obtain ⟨i', n', hi, hρ⟩ := h8 (hmm _ hm)
    simp only [idsS, List.mem_singleton] at hi
    subst hi
    exact ap _ (LMut.solid h1 rfl hρ) (hm.resolve_right lmut_nil)
  | nil =>
    rcases h with rfl | ⟨r, hr, rfl⟩
    · exact hd
    · exact ⟨none, 0, by rw [hr]; exact hd, by omega, Nat.zero_le _, .inl hr⟩
  | data r =>
    cases h
    obtain ⟨a, cap, e1, e2, e3, e4⟩ := hd
    refine ⟨a, cap, e1, e2, e3, e4.imp_right ?_⟩
    rintro ⟨ad, h5, h6, h7, h8⟩
    exact ⟨ad, h5, h6, fun hm => h7 (hmm _ hm), h8.keep (Keep.same fun b _ hb => hmm b hb)⟩
  | int k n => cases h; exact hd
  | bool b => cases h; exact hd
  | str s => cases h; exact hd
  | flt k b => cases h; exact hd
  | _ => exact h.elim
theorem All2.frz {α β γ : Type} {R : α → β → Prop} {S : α → γ → Prop} {T : γ → β → Prop} (H : ∀ a c b, S a c → R a b → T c b) : ∀ {l : List α} {m : List γ} {k : List β}, All2 S l m → All2 R l k → All2 T m k
  | [], [], [], _, _ => trivial
  | [], [], _ :: _, _, h => h.elim
  | [], _ :: _, _, h, _ => h.elim
  | _ :: _, [], _, h, _ => h.elim
  | _ :: _, _ :: _, [], _, h => h.elim
  | _ :: _, _ :: _, _ :: _, h, h' => ⟨H _ _ _ h.1 h'.1, All2.frz H h.2 h'.2⟩
theorem frzA_den (H : HeapOk F ρ σ w) (ap : ∀ g, LMut ρ σ g → ¬ F g) {a a' : AV} {u : Value} (h : frzA σ a a') (hd : Den w (Mut F ρ σ) ρ a u) : Den w (Mut F [] []) [] a' u := by
  have hS : ∀ a c b, frzS σ a c → DenS w (Mut F ρ σ) ρ a b → DenS w (Mut F [] []) [] c b := fun a c b h hd => frzS_den H ap h hd
  have hT : ∀ a c b, frzT σ a c → DenT w (Mut F ρ σ) ρ a b → DenT w (Mut F [] []) [] c b := by
    intro a c b h hd
    cases a with
    | one s => cases c with
      | one s' => exact hS _ _ _ h hd
      | agg l => exact h.elim
    | agg l => cases c with
      | one s' => exact h.elim
      | agg l' =>
        obtain ⟨vs, e, hl⟩ := hd
        exact ⟨vs, e, All2.frz hS h hl⟩
  cases a with
  | any => exact h.elim
  | one s => cases a' with
    | one s' => exact hS _ _ _ h hd
    | _ => exact h.elim
  | agg l => cases a' with
    | agg l' =>
      obtain ⟨vs, e, hl⟩ := hd
      exact ⟨vs, e, All2.frz hS h hl⟩
    | _ => exact h.elim
  | tup l => cases a' with
    | tup l' =>
      obtain ⟨vs, e, hl⟩ := hd
      exact ⟨vs, e, All2.frz hT h hl⟩
    | _ => exact h.elim
end
theorem SpecOK.froze {P : Program} {f : FuncId} {S S1 : Spec} (h1 : SpecOK P f S1) (h : ∀ args σ K, S args σ K → σ = [] ∧ S1 args [] fun a σ' => ∃ a', frzA σ' a a' ∧ K a' []) : SpecOK P f S := by
  refine ⟨h1.body, fun args σ K hK F ρ vals w H hF ha => ?_⟩
  obtain ⟨rfl, hS⟩ := h args σ K hK
  have hρ : ρ = [] := List.length_eq_zero_iff.1 H.len
  subst hρ
  refine (h1.sound args [] _ hS F [] vals w H hF ha).mono ?_
  rintro e w' ⟨v, a, σ', ρ', h2, ⟨a', h3, h4⟩, I, hk, hd⟩
  have hmm : ∀ b, Mut F [] [] b → Mut F ρ' σ' b := fun b hb => hb.elim .inl fun hb => (lmut_nil hb).elim
  refine ⟨v, a', [], [], h2, h4, ?_, ⟨hk.size, hk.blk, fun _ _ h => h, hk.shape⟩, frzA_den I.heap I.apart h3 hd⟩
  exact { heap := ⟨rfl, fun id b g n h => by simp at h, fun id b g n k h => by simp at h, fun i j b b' g g' n n' k h => by simp at h, I.heap.glob.keep (Keep.same fun b _ hb => hmm b hb)⟩,
          pre := ⟨[], rfl⟩, os := I.os, tape := I.tape, output := I.output, size := I.size, blk := I.blk, shape := I.shape, fresh := fun g hg => (lmut_nil hg).elim, foreign := I.foreign, apart := fun g hg => (lmut_nil hg).elim }
end Go.Ev
