/-
  Part of the proof of a law.
-/
import Derived.Test.YtophekjofpahfaaEvM
import Derived.Laws.CopyRow
import Derived.Laws.Tables
import Derived.Laws.Append
set_option linter.unusedVariables false
set_option linter.unusedSimpArgs false
set_option linter.unusedSectionVars false
/-
  Soundness, fourth part: how the blocks of a call stand in a world; a new block; a store.
-/
namespace Go.Ev
open Go Go.RowKit
variable [Glob]
structure Inv (F : Nat → Prop) (w0 : World) (m0 : Nat → Prop) (ρ0 ρ : List (Nat × Nat)) (σ : List Blk) (w : World) : Prop where
  heap : HeapOk F ρ σ w
  pre : ∃ r, ρ = ρ0 ++ r
  os : w.os = w0.os
  tape : w.tape = w0.tape
  output : w.output = w0.output
  size : w0.heap.size ≤ w.heap.size
  blk : ∀ b, b < w0.heap.size → ¬ m0 b → w.heap[b]? = w0.heap[b]?
  shape : ∀ b, b < w0.heap.size → w.shape? b = w0.shape? b
  fresh : ∀ g, LMut ρ σ g → w0.heap.size ≤ g ∨ m0 g
  foreign : ∀ b, F b → b < w.heap.size
  apart : ∀ g, LMut ρ σ g → ¬ F g
theorem newBlk_solid (P : Program) (t : TypeId) (l : List SV) : (newBlk P t l).solid := by
  unfold newBlk
  repeat' split
  all_goals trivial
theorem rowOf_solid {P : Program} {e : TypeId} {els : List (List SV)} {cel : Bool} {b : Blk} (h : rowOf P e els cel = some b) : b.solid := by
  unfold rowOf at h
  split at h
  · cases h; trivial
  split at h
  · cases hx : asInts _ els.flatten <;> rw [hx] at h <;> cases h; trivial
  · split at h
    · cases hx : mapOpt (asInts _) els <;> rw [hx] at h <;> cases h; trivial
    · cases h
  · split at h
    · cases hx : mapOpt (toDs _) els <;> rw [hx] at h <;> cases h; trivial
    · cases h
  · cases h; trivial
theorem setN_solid {P : Program} {b b' : Blk} {wd i c : Nat} {l : List SV} {h : Bool} (hs : b.setN P wd i c l = some (h, b')) : b.solid ∧ b'.solid := by
  refine ⟨?_, ?_⟩
  · cases b with
    | ghost => simp [Blk.setN] at hs
    | iter => simp [Blk.setN] at hs
    | _ => trivial
  · unfold Blk.setN at hs
    repeat' split at hs
    all_goals first | (cases hs; done) | (simp only [Option.some.injEq, Prod.mk.injEq] at hs; obtain ⟨_, rfl⟩ := hs; trivial)
theorem copyTo_solid {b b' : Blk} {wd i n : Nat} {k : IntKind} {ys : List Int} {h : Bool} (hs : b.copyTo wd i n k ys = some (h, b')) : b.solid ∧ b'.solid := by
  refine ⟨?_, ?_⟩
  · cases b with
    | ghost => simp [Blk.copyTo] at hs
    | iter => simp [Blk.copyTo] at hs
    | _ => trivial
  · unfold Blk.copyTo at hs
    split at hs
    · split at hs
      · simp only [Option.some.injEq, Prod.mk.injEq] at hs; obtain ⟨_, rfl⟩ := hs; trivial
      · cases hs
    · split at hs
      · cases hx : overC k ys 0 _ <;> rw [hx] at hs <;> cases hs; trivial
      · cases hs
    · cases hs
theorem getElem?_append_some {α : Type} {l r : List α} {i : Nat} {a : α} (h : l[i]? = some a) : (l ++ r)[i]? = some a := by
  rw [List.getElem?_append_left (List.getElem?_eq_some_iff.1 h).1]; exact h
section
variable {F : Nat → Prop} {w0 w w' : World} {m0 : Nat → Prop} {ρ0 ρ : List (Nat × Nat)} {σ : List Blk}
theorem getElem?_snoc {α : Type} {l : List α} {b a : α} {i : Nat} (h : (l ++ [b])[i]? = some a) : l[i]? = some a ∨ (i = l.length ∧ b = a) := by
  rcases Nat.lt_or_ge i l.length with hl | hl
  · rw [List.getElem?_append_left hl] at h; exact .inl h
  · rw [List.getElem?_append_right hl] at h
    cases hi : i - l.length with
    | zero => rw [hi] at h; simp at h; exact .inr ⟨by omega, h⟩
    | succ n => rw [hi] at h; simp at h
theorem Inv.other (I : Inv F w0 m0 ρ0 ρ σ w) {o : Obj} (hw : w'.heap = w.heap.push o) (hos : w'.os = w.os) (ht : w'.tape = w.tape) (ho : w'.output = w.output) :
    Keep (Mut F ρ σ) (Mut F ρ σ) w w' ∧ Inv F w0 m0 ρ0 ρ σ w' := by
  have hold : ∀ k, k < w.heap.size → w'.heap[k]? = w.heap[k]? := by
    intro k hk
    rw [hw, Array.getElem?_push, if_neg (by omega)]
  have K : Keep (Mut F ρ σ) (Mut F ρ σ) w w' := ⟨by rw [hw]; simp, fun k hk _ => hold k hk, fun _ _ h => h, fun k hk => by simp only [World.shape?, hold k hk]⟩
  have hup : ∀ k, k < w.heap.size → k < w'.heap.size := fun k hk => Nat.lt_of_lt_of_le hk K.size
  refine ⟨K, ⟨I.heap.len, ?_, fun i b g n k h1 h2 h3 h4 => hup k (I.heap.lt i b g n k h1 h2 h3 h4), I.heap.inj', I.heap.glob.keep K⟩, I.pre, by rw [hos, I.os], by rw [ht, I.tape], by rw [ho, I.output], by rw [hw]; have := I.size; simp; omega, ?_, ?_, I.fresh, fun b hb => hup b (I.foreign b hb), I.apart⟩
  · intro id c g x hc hr hl
    obtain ⟨hd, hn, hg⟩ := I.heap.live id c g x hc hr hl
    exact ⟨hd.keep K (fun _ _ h => h) fun k hk => hold k (I.heap.lt id c g x k hc hr hl hk), hn, hup g hg⟩
  · intro b hb hm
    rw [hold b (Nat.lt_of_lt_of_le hb I.size), I.blk b hb hm]
  · intro b hb
    rw [K.shape b (Nat.lt_of_lt_of_le hb I.size), I.shape b hb]
theorem grow {σ1 : List Blk} (I : Inv F w0 m0 ρ0 ρ σ w) (h1 : σ1.length = σ.length) (h2 : ∀ (i : Nat) (b : Blk), σ1[i]? = some b → b.live = true → σ[i]? = some b)
    {o : Obj} (hw : w'.heap = w.heap.push o) (hos : w'.os = w.os) (ht : w'.tape = w.tape) (ho : w'.output = w.output) {b : Blk} {n : Nat} (hs : b.solid) :
    Keep (Mut F ρ σ) (Mut F (ρ ++ [(w.heap.size, n)]) (σ1 ++ [b])) w w' ∧
    (DenBlk w' (Mut F (ρ ++ [(w.heap.size, n)]) (σ1 ++ [b])) (ρ ++ [(w.heap.size, n)]) w.heap.size b → b.count = n → Inv F w0 m0 ρ0 (ρ ++ [(w.heap.size, n)]) (σ1 ++ [b]) w') := by
  have hlen := I.heap.len
  have hold : ∀ k, k < w.heap.size → w'.heap[k]? = w.heap[k]? := by
    intro k hk
    rw [hw, Array.getElem?_push, if_neg (by omega)]
  have hup : ∀ k, k < w.heap.size → k < w'.heap.size := fun k hk => by rw [hw]; simp; omega
  -- what is live behind it
  have hset : ∀ (i : Nat) (c : Blk) (g x : Nat), (σ1 ++ [b])[i]? = some c → c.live = true → (ρ ++ [(w.heap.size, n)])[i]? = some (g, x) →
      (i < σ.length ∧ σ[i]? = some c ∧ ρ[i]? = some (g, x)) ∨ (i = σ.length ∧ c = b ∧ g = w.heap.size ∧ x = n) := by
    intro i c g x hc hl hr
    rcases getElem?_snoc hr with hr | ⟨e1, e2⟩
    · rcases getElem?_snoc hc with hc | ⟨e, _⟩
      · exact .inl ⟨by have := (List.getElem?_eq_some_iff.1 hr).1; omega, h2 i c hc hl, hr⟩
      · have := (List.getElem?_eq_some_iff.1 hr).1
        omega
    · simp only [Prod.mk.injEq] at e2
      rcases getElem?_snoc hc with hc | ⟨_, e⟩
      · have := (List.getElem?_eq_some_iff.1 hc).1
        omega
      · exact .inr ⟨by omega, e.symm, e2.1.symm, e2.2.symm⟩
  have hLM : ∀ k, LMut (ρ ++ [(w.heap.size, n)]) (σ1 ++ [b]) k → LMut ρ σ k ∨ k = w.heap.size := by
    rintro k ⟨id, c, x, g, hc, hl, hr, ho⟩
    rcases hset id c g x hc hl hr with ⟨_, h3, h4⟩ | ⟨_, rfl, rfl, _⟩
    · exact .inl ⟨id, c, x, g, h3, hl, h4, ho⟩
    · exact .inr (Blk.owns_solid hs ho)
  have K : Keep (Mut F ρ σ) (Mut F (ρ ++ [(w.heap.size, n)]) (σ1 ++ [b])) w w' := by
    refine ⟨by rw [hw]; simp, fun k hk _ => hold k hk, ?_, fun k hk => by simp only [World.shape?, hold k hk]⟩
    rintro k hk (hF | h)
    · exact .inl hF
    · rcases hLM k h with h | h
      · exact .inr h
      · omega
  refine ⟨K, fun hd hc => ?_⟩
  refine ⟨⟨by simp [hlen, h1], ?_, ?_, ?_, I.heap.glob.keep K⟩, ?_, by rw [hos, I.os], by rw [ht, I.tape], by rw [ho, I.output], by rw [hw]; have := I.size; simp; omega, ?_, ?_, ?_, fun b hb => hup b (I.foreign b hb), ?_⟩
  · intro id c g x hc' hr hl
    rcases hset id c g x hc' hl hr with ⟨_, h3, h4⟩ | ⟨_, rfl, rfl, rfl⟩
    · obtain ⟨hd', hn, hg⟩ := I.heap.live id c g x h3 h4 hl
      exact ⟨hd'.keep K (fun id g h => getElem?_append_some h) fun k hk => hold k (I.heap.lt id c g x k h3 h4 hl hk), hn, hup g hg⟩
    · exact ⟨hd, hc, by rw [hw]; simp⟩
  · intro id c g x k hc' hr hl hk
    rcases hset id c g x hc' hl hr with ⟨_, h3, h4⟩ | ⟨_, rfl, rfl, rfl⟩
    · exact hup k (I.heap.lt id c g x k h3 h4 hl hk)
    · rw [Blk.owns_solid hs hk, hw]; simp
  · intro i j bi bj g g' x y k hi hj hli hlj hri hrj hki hkj
    rcases hset i bi g x hi hli hri with ⟨_, h3, h4⟩ | ⟨e1, rfl, rfl, rfl⟩ <;> rcases hset j bj g' y hj hlj hrj with ⟨_, h5, h6⟩ | ⟨e2, rfl, rfl, rfl⟩
    · exact I.heap.inj' i j bi bj g g' x y k h3 h5 hli hlj h4 h6 hki hkj
    · have := I.heap.lt i bi g x k h3 h4 hli hki
      have := Blk.owns_solid hs hkj
      omega
    · have := I.heap.lt j bj g' y k h5 h6 hlj hkj
      have := Blk.owns_solid hs hki
      omega
    · omega
  · obtain ⟨r, hr⟩ := I.pre
    exact ⟨r ++ [(w.heap.size, n)], by rw [hr, List.append_assoc]⟩
  · intro k hk hne
    rw [hold k (Nat.lt_of_lt_of_le hk I.size), I.blk k hk hne]
  · intro k hk
    rw [← I.shape k hk]
    simp only [World.shape?, hold k (Nat.lt_of_lt_of_le hk I.size)]
  · intro g hg
    rcases hLM g hg with h | h
    · exact I.fresh g h
    · have := I.size
      exact .inl (by omega)
  · intro g hg hF
    rcases hLM g hg with h | h
    · exact I.apart g h hF
    · have := I.foreign g hF
      omega
theorem wrote (I : Inv F w0 m0 ρ0 ρ σ w) {id : Nat} {b b' : Blk} {g n : Nat} (hb : σ[id]? = some b) (hl : b.live = true) (hr : ρ[id]? = some (g, n))
    (hold : ∀ k, k ≠ g → w'.heap[k]? = w.heap[k]?) (hsz : w'.heap.size = w.heap.size) (hsh : w'.shape? g = w.shape? g) (hos : w'.os = w.os) (ht : w'.tape = w.tape) (ho : w'.output = w.output)
    (hl' : b'.live = true) (hs : b.solid) (hs' : b'.solid) :
    Keep (Mut F ρ σ) (Mut F ρ (σ.set id b')) w w' ∧ (DenBlk w' (Mut F ρ (σ.set id b')) ρ g b' → b'.count = n → Inv F w0 m0 ρ0 ρ (σ.set id b') w') := by
  have hmg' : LMut ρ σ g := .solid hb hl hr
  have hmg : Mut F ρ σ g := .inr hmg'
  have hset : ∀ (i : Nat) (c : Blk), (σ.set id b')[i]? = some c → (i = id ∧ c = b') ∨ (i ≠ id ∧ σ[i]? = some c) := by
    intro i c h
    by_cases hi : i = id
    · subst hi
      rw [List.getElem?_set_self (List.getElem?_eq_some_iff.1 hb).1] at h
      cases h
      exact .inl ⟨rfl, rfl⟩
    · rw [List.getElem?_set_ne (fun e => hi e.symm)] at h
      exact .inr ⟨hi, h⟩
  have hLM : ∀ k, LMut ρ (σ.set id b') k → LMut ρ σ k := by
    rintro k ⟨i, c, x, g', hc, hlc, hrc, ho⟩
    rcases hset i c hc with ⟨rfl, rfl⟩ | ⟨_, hc⟩
    · rw [hr] at hrc; cases hrc
      rw [Blk.owns_solid hs' ho]; exact hmg'
    · exact ⟨i, c, x, g', hc, hlc, hrc, ho⟩
  have K : Keep (Mut F ρ σ) (Mut F ρ (σ.set id b')) w w' := by
    refine ⟨by omega, fun k hk hm => hold k fun e => hm (e ▸ hmg), ?_, fun k hk => ?_⟩
    · rintro k hk (hF | h)
      · exact .inl hF
      · exact .inr (hLM k h)
    · by_cases hk' : k = g
      · subst hk'; exact hsh
      · simp only [World.shape?, hold k hk']
  refine ⟨K, fun hd hc => ?_⟩
  have hgs : g < w.heap.size := (I.heap.live id b g n hb hr hl).2.2
  have hno : ∀ (i : Nat) (c : Blk) (g' x k : Nat), i ≠ id → σ[i]? = some c → c.live = true → ρ[i]? = some (g', x) → c.owns g' k → k ≠ g := fun i c g' x k hi h1 h2 h3 h4 e =>
    hi (I.heap.inj' i id c b g' g x n k h1 hb h2 hl h3 hr h4 (.inl e))
  refine ⟨⟨by simp [I.heap.len], ?_, ?_, ?_, I.heap.glob.keep K⟩, I.pre, by rw [hos, I.os], by rw [ht, I.tape], by rw [ho, I.output], by have := I.size; omega, ?_, ?_, fun g hg => I.fresh g (hLM g hg), fun b hb => by have := I.foreign b hb; omega, fun g hg => I.apart g (hLM g hg)⟩
  · intro i c g' x hc' hr' hlc
    rcases hset i c hc' with ⟨rfl, rfl⟩ | ⟨hne, hc'⟩
    · rw [hr] at hr'; cases hr'
      exact ⟨hd, hc, by omega⟩
    · obtain ⟨hd', hn, hg'⟩ := I.heap.live i c g' x hc' hr' hlc
      exact ⟨hd'.keep K (fun _ _ h => h) fun k hk => hold k (hno i c g' x k hne hc' hlc hr' hk), hn, by omega⟩
  · intro i c g' x k hc' hr' hlc hk
    rcases hset i c hc' with ⟨rfl, rfl⟩ | ⟨hne, hc'⟩
    · rw [hr] at hr'; cases hr'
      rw [Blk.owns_solid hs' hk]; omega
    · have := I.heap.lt i c g' x k hc' hr' hlc hk
      omega
  · intro i j bi bj g1 g2 x y k hi hj hli hlj hri hrj hki hkj
    rcases hset i bi hi with ⟨rfl, rfl⟩ | ⟨hnei, hi'⟩ <;> rcases hset j bj hj with ⟨rfl, rfl⟩ | ⟨hnej, hj'⟩
    · rfl
    · rw [hr] at hri; cases hri
      exact absurd (Blk.owns_solid hs' hki) (hno j bj g2 y k hnej hj' hlj hrj hkj)
    · rw [hr] at hrj; cases hrj
      exact absurd (Blk.owns_solid hs' hkj) (hno i bi g1 x k hnei hi' hli hri hki)
    · exact I.heap.inj' i j bi bj g1 g2 x y k hi' hj' hli hlj hri hrj hki hkj
  · intro k hk hne
    by_cases hkg : k = g
    · subst hkg
      rcases I.fresh k hmg' with h | h
      · omega
      · exact absurd h hne
    · rw [hold k hkg, I.blk k hk hne]
  · intro k hk
    rw [← I.shape k hk]
    by_cases hkg : k = g
    · subst hkg; exact hsh
    · simp only [World.shape?, hold k hkg]
theorem reuse (I : Inv F w0 m0 ρ0 ρ σ w) {id : Nat} {b b' : Blk} {g n n' : Nat} (hb : σ[id]? = some b) (hl : b.live = true) (hr : ρ[id]? = some (g, n))
    (hold : ∀ k, k ≠ g → w'.heap[k]? = w.heap[k]?) (hsz : w'.heap.size = w.heap.size) (hsh : w'.shape? g = w.shape? g) (hos : w'.os = w.os) (ht : w'.tape = w.tape) (ho : w'.output = w.output) (hs' : b'.solid) :
    Keep (Mut F ρ σ) (Mut F (ρ ++ [(g, n')]) (σ.set id .dead ++ [b'])) w w' ∧
    (DenBlk w' (Mut F (ρ ++ [(g, n')]) (σ.set id .dead ++ [b'])) (ρ ++ [(g, n')]) g b' → b'.count = n' → Inv F w0 m0 ρ0 (ρ ++ [(g, n')]) (σ.set id .dead ++ [b']) w') := by
  have hlen := I.heap.len
  have hgs : g < w.heap.size := (I.heap.live id b g n hb hr hl).2.2
  have hmg' : LMut ρ σ g := .solid hb hl hr
  have hmg : Mut F ρ σ g := .inr hmg'
  -- what is live behind it
  have hset : ∀ (i : Nat) (c : Blk) (g' x : Nat), (σ.set id .dead ++ [b'])[i]? = some c → c.live = true → (ρ ++ [(g, n')])[i]? = some (g', x) →
      (i ≠ id ∧ σ[i]? = some c ∧ ρ[i]? = some (g', x)) ∨ (i = σ.length ∧ c = b' ∧ g' = g ∧ x = n') := by
    intro i c g' x hc hlc hrc
    rcases getElem?_snoc hc with hc | ⟨e1, e2⟩
    · have hil := (List.getElem?_eq_some_iff.1 hc).1
      simp only [List.length_set] at hil
      rcases getElem?_snoc hrc with hrc | ⟨e, _⟩
      · by_cases hi : i = id
        · subst hi
          rw [List.getElem?_set_self hil] at hc
          cases hc
          simp [Blk.live] at hlc
        · rw [List.getElem?_set_ne (fun e => hi e.symm)] at hc
          exact .inl ⟨hi, hc, hrc⟩
      · omega
    · simp only [List.length_set] at e1
      rcases getElem?_snoc hrc with hrc | ⟨e, e3⟩
      · have := (List.getElem?_eq_some_iff.1 hrc).1
        omega
      · simp only [Prod.mk.injEq] at e3
        exact .inr ⟨e1, e2.symm, e3.1.symm, e3.2.symm⟩
  have hLM : ∀ k, LMut (ρ ++ [(g, n')]) (σ.set id .dead ++ [b']) k → LMut ρ σ k := by
    rintro k ⟨i, c, x, g', hc, hlc, hrc, ho⟩
    rcases hset i c g' x hc hlc hrc with ⟨_, h1, h2⟩ | ⟨_, rfl, rfl, _⟩
    · exact ⟨i, c, x, g', h1, hlc, h2, ho⟩
    · rw [Blk.owns_solid hs' ho]; exact hmg'
  have hno : ∀ (i : Nat) (c : Blk) (g' x k : Nat), i ≠ id → σ[i]? = some c → c.live = true → ρ[i]? = some (g', x) → c.owns g' k → k ≠ g := fun i c g' x k hi h1 h2 h3 h4 e =>
    hi (I.heap.inj' i id c b g' g x n k h1 hb h2 hl h3 hr h4 (.inl e))
  have K : Keep (Mut F ρ σ) (Mut F (ρ ++ [(g, n')]) (σ.set id .dead ++ [b'])) w w' := by
    refine ⟨by omega, fun k hk hm => hold k fun e => hm (e ▸ hmg), ?_, fun k hk => ?_⟩
    · rintro k hk (hF | h)
      · exact .inl hF
      · exact .inr (hLM k h)
    · by_cases hk' : k = g
      · subst hk'; exact hsh
      · simp only [World.shape?, hold k hk']
  refine ⟨K, fun hd hc => ?_⟩
  refine ⟨⟨by simp [hlen], ?_, ?_, ?_, I.heap.glob.keep K⟩, ?_, by rw [hos, I.os], by rw [ht, I.tape], by rw [ho, I.output], by have := I.size; omega, ?_, ?_, fun g hg => I.fresh g (hLM g hg), fun b hb => by have := I.foreign b hb; omega, fun g hg => I.apart g (hLM g hg)⟩
  · intro i c g' x hc' hr' hlc
    rcases hset i c g' x hc' hlc hr' with ⟨hne, h1, h2⟩ | ⟨_, rfl, rfl, rfl⟩
    · obtain ⟨hd', hn, hg'⟩ := I.heap.live i c g' x h1 h2 hlc
      exact ⟨hd'.keep K (fun _ _ h => getElem?_append_some h) fun k hk => hold k (hno i c g' x k hne h1 hlc h2 hk), hn, by omega⟩
    · exact ⟨hd, hc, by omega⟩
  · intro i c g' x k hc' hr' hlc hk
    rcases hset i c g' x hc' hlc hr' with ⟨hne, h1, h2⟩ | ⟨_, rfl, rfl, rfl⟩
    · have := I.heap.lt i c g' x k h1 h2 hlc hk
      omega
    · rw [Blk.owns_solid hs' hk]; omega
  · intro i j bi bj g1 g2 x y k hi hj hli hlj hri hrj hki hkj
    rcases hset i bi g1 x hi hli hri with ⟨hnei, h1, h2⟩ | ⟨e1, rfl, rfl, _⟩ <;> rcases hset j bj g2 y hj hlj hrj with ⟨hnej, h4, h5⟩ | ⟨e2, rfl, rfl, _⟩
    · exact I.heap.inj' i j bi bj g1 g2 x y k h1 h4 hli hlj h2 h5 hki hkj
    · exact absurd (Blk.owns_solid hs' hkj) (hno i bi g1 x k hnei h1 hli h2 hki)
    · exact absurd (Blk.owns_solid hs' hki) (hno j bj g2 y k hnej h4 hlj h5 hkj)
    · omega
  · obtain ⟨r, hr'⟩ := I.pre
    exact ⟨r ++ [(g, n')], by rw [hr', List.append_assoc]⟩
  · intro k hk hne
    by_cases hkg : k = g
    · subst hkg
      rcases I.fresh k hmg' with h | h
      · omega
      · exact absurd h hne
    · rw [hold k hkg, I.blk k hk hne]
  · intro k hk
    rw [← I.shape k hk]
    by_cases hkg : k = g
    · subst hkg; exact hsh
    · simp only [World.shape?, hold k hkg]
end
section
variable {F : Nat → Prop} {w : World} {m : Nat → Prop}
theorem RowCells.list {get : Nat → Option Value} : ∀ {r : Row}, RowCells w m get r → ∃ vs : List Value, vs.length = r.count * r.width ∧ ∀ (j : Nat) (v : Value), vs[j]? = some v → get j = some v ∧ v.oneCell' = true := by
  intro r h
  obtain ⟨vs, h1, h2⟩ := exists_list (p := fun j v => get j = some v ∧ v.oneCell' = true) (r.count * r.width) (by
    intro j hj
    cases r with
    | ints k xs =>
      simp only [Row.count, Row.width, Nat.mul_one] at hj
      exact ⟨_, h j _ (List.getElem?_eq_getElem hj), rfl⟩
    | mat k wd xss =>
      simp only [Row.count, Row.width] at hj
      have hw : 0 < wd := by rcases Nat.eq_zero_or_pos wd with h0 | h0; · subst h0; simp at hj
                             · exact h0
      have hi : j / wd < xss.length := by rw [Nat.div_lt_iff_lt_mul hw]; exact hj
      have := h (j / wd) _ (List.getElem?_eq_getElem hi) (j % wd) (Nat.mod_lt _ hw)
      rw [Nat.div_add_mod'] at this
      exact ⟨_, this, rfl⟩
    | recs cks xss =>
      simp only [Row.count, Row.width] at hj
      have hw : 0 < cks.length := by rcases Nat.eq_zero_or_pos cks.length with h0 | h0; · rw [h0] at hj; simp at hj
                                     · exact h0
      have hi : j / cks.length < xss.length := by rw [Nat.div_lt_iff_lt_mul hw]; exact hj
      obtain ⟨u, hu, hd⟩ := h (j / cks.length) _ (List.getElem?_eq_getElem hi) (j % cks.length) _ (List.getElem?_eq_getElem (Nat.mod_lt _ hw))
      rw [Nat.div_add_mod'] at hu
      exact ⟨u, hu, DenS.one (ρ := []) (DenS_mk hd)⟩)
  exact ⟨vs, h1, h2⟩
theorem RowCells.congrN {get get' : Nat → Option Value} {r : Row} (h : RowCells w m get r) (H : ∀ j, j < r.count * r.width → get' j = get j) : RowCells w m get' r := by
  cases r with
  | ints k xs =>
    simp only [Row.count, Row.width, Nat.mul_one] at H
    intro i x hx
    rw [H i (List.getElem?_eq_some_iff.1 hx).1]; exact h i x hx
  | mat k wd xss =>
    simp only [Row.count, Row.width] at H
    intro i xs hi c hc
    have : (i + 1) * wd ≤ xss.length * wd := Nat.mul_le_mul_right _ (List.getElem?_eq_some_iff.1 hi).1
    rw [Nat.add_mul] at this
    rw [H (i * wd + c) (by omega)]; exact h i xs hi c hc
  | recs cks xss =>
    simp only [Row.count, Row.width] at H
    intro i xs hi c ck hc
    have : (i + 1) * cks.length ≤ xss.length * cks.length := Nat.mul_le_mul_right _ (List.getElem?_eq_some_iff.1 hi).1
    rw [Nat.add_mul] at this
    have hcl := (List.getElem?_eq_some_iff.1 hc).1
    rw [H (i * cks.length + c) (by omega)]; exact h i xs hi c ck hc
theorem Row.app_count {r r' r2 : Row} (h : r.app r' = some r2) : r2.count = r.count + r'.count ∧ r2.width = r.width ∧ r'.width = r.width := by
  cases r <;> cases r' <;> simp only [Row.app] at h
  all_goals first | (cases h; done) | skip
  all_goals split at h
  all_goals first | (cases h; done) | skip
  · cases h; simp [Row.count, Row.width]
  · rename_i he; cases h; simp [Row.count, Row.width, he.2]
  · rename_i he; cases h; simp [Row.count, Row.width, he]
theorem RowCells.app {get get1 get2 : Nat → Option Value} {r r' r2 : Row} (h : r.app r' = some r2) (h1 : RowCells w m get1 r) (h2 : RowCells w m get2 r')
    (e1 : ∀ j, j < r.count * r.width → get j = get1 j) (e2 : ∀ j, j < r'.count * r.width → get (r.count * r.width + j) = get2 j) : RowCells w m get r2 := by
  cases r <;> cases r' <;> simp only [Row.app] at h
  all_goals first | (cases h; done) | skip
  all_goals split at h
  all_goals first | (cases h; done) | skip
  · rename_i k xs k' ys hk
    subst hk
    cases h
    simp only [Row.count, Row.width, Nat.mul_one] at e1 e2
    intro i x hx
    rcases Nat.lt_or_ge i xs.length with hl | hl
    · rw [List.getElem?_append_left hl] at hx
      rw [e1 i hl]; exact h1 i x hx
    · rw [List.getElem?_append_right hl] at hx
      have hlt := (List.getElem?_eq_some_iff.1 hx).1
      have := e2 (i - xs.length) hlt
      rw [show xs.length + (i - xs.length) = i from by omega] at this
      rw [this]; exact h2 _ x hx
  · rename_i k wd xs k' wd' ys hk
    obtain ⟨rfl, rfl⟩ := hk
    cases h
    simp only [Row.count, Row.width] at e1 e2
    intro i x hx c hc
    rcases Nat.lt_or_ge i xs.length with hl | hl
    · rw [List.getElem?_append_left hl] at hx
      rw [e1 (i * wd' + c) (by
        have : (i + 1) * wd' ≤ xs.length * wd' := Nat.mul_le_mul_right _ hl
        rw [Nat.add_mul] at this; omega)]
      exact h1 i x hx c hc
    · rw [List.getElem?_append_right hl] at hx
      have hlt := (List.getElem?_eq_some_iff.1 hx).1
      have := e2 ((i - xs.length) * wd' + c) (by
        have : (i - xs.length + 1) * wd' ≤ ys.length * wd' := Nat.mul_le_mul_right _ hlt
        rw [Nat.add_mul] at this; omega)
      rw [show xs.length * wd' + ((i - xs.length) * wd' + c) = i * wd' + c from by rw [← Nat.add_assoc, ← Nat.add_mul]; congr 2; omega] at this
      rw [this]; exact h2 _ x hx c hc
  · rename_i cks xs cks' ys hk
    subst hk
    cases h
    simp only [Row.count, Row.width] at e1 e2
    intro i x hx c ck hc
    have hcl := (List.getElem?_eq_some_iff.1 hc).1
    rcases Nat.lt_or_ge i xs.length with hl | hl
    · rw [List.getElem?_append_left hl] at hx
      rw [e1 (i * cks'.length + c) (by
        have : (i + 1) * cks'.length ≤ xs.length * cks'.length := Nat.mul_le_mul_right _ hl
        rw [Nat.add_mul] at this; omega)]
      exact h1 i x hx c ck hc
    · rw [List.getElem?_append_right hl] at hx
      have hlt := (List.getElem?_eq_some_iff.1 hx).1
      have := e2 ((i - xs.length) * cks'.length + c) (by
        have : (i - xs.length + 1) * cks'.length ≤ ys.length * cks'.length := Nat.mul_le_mul_right _ hlt
        rw [Nat.add_mul] at this; omega)
      rw [show xs.length * cks'.length + ((i - xs.length) * cks'.length + c) = i * cks'.length + c from by rw [← Nat.add_assoc, ← Nat.add_mul]; congr 2; omega] at this
      rw [this]; exact h2 _ x hx c ck hc
end
end Go.Ev
