/-
  Chapter 1: plain facts about blocks of a signal, in any order, put together.
-/
import Derived.Test.YtlejemnljojpgaaC1AA
set_option linter.unusedVariables false
set_option linter.unusedSimpArgs false
set_option linter.unusedSectionVars false
namespace Go.Ev
open Go Go.Proofs
attribute [local irreducible] evFn evBody evRound
set_option maxRecDepth 20000
set_option linter.unusedVariables false
set_option linter.unusedSimpArgs false

/-- A block of the signal. -/
def rowI (ch c : Int) (cs : List (List Int)) (i : Nat) : List Int := blkRow (c + i) ch (cs.getD i [])
theorem blkRows_get (ch : Int) : ∀ (cs : List (List Int)) (c : Int) (i : Nat), i < cs.length → (blkRows ch c cs)[i]? = some (rowI ch c cs i)
  | [], _, i, h => by simp at h
  | p :: cs, c, 0, _ => by simp [blkRows, rowI]
  | p :: cs, c, i + 1, h => by
    have := blkRows_get ch cs (c + 1) i (by simpa using h)
    simp only [blkRows, List.getElem?_cons_succ, this, rowI, List.getD_cons_succ]
    rw [show c + 1 + (i : Int) = c + ((i + 1 : Nat) : Int) by omega]
theorem blkRows_mem {ch c : Int} {cs : List (List Int)} {a : List Int} (h : a ∈ blkRows ch c cs) : ∃ i, i < cs.length ∧ a = rowI ch c cs i := by
  obtain ⟨i, hi⟩ := List.getElem?_of_mem h
  have hl := (List.getElem?_eq_some_iff.1 hi).1
  rw [(blkRows_len ch cs c).1] at hl
  rw [blkRows_get ch cs c i hl] at hi
  exact ⟨i, hl, (Option.some.inj hi).symm⟩
theorem rowI_mem {ch c : Int} {cs : List (List Int)} {i : Nat} (h : i < cs.length) : rowI ch c cs i ∈ blkRows ch c cs := List.mem_of_getElem? (blkRows_get ch cs c i h)
theorem rowI_cnt (ch c : Int) (cs : List (List Int)) (i : Nat) : cnt (rowI ch c cs i) = c + i := rfl
theorem rowI_ch (ch c : Int) (cs : List (List Int)) (i : Nat) : (rowI ch c cs i).getD 1 0 = ch := rfl
theorem rowI_sam (ch c : Int) (cs : List (List Int)) (i : Nat) : samX (rowI ch c cs i) = pad8 (cs.getD i []) := rfl
theorem rowI_sum (ch c : Int) (cs : List (List Int)) (i : Nat) : sumB (rowI ch c cs i) = true := beq_self_eq_true _
theorem rowI_len (ch c : Int) (cs : List (List Int)) (i : Nat) : len11 (rowI ch c cs i) = true := rfl
theorem rowI_inj {ch c : Int} {cs : List (List Int)} {i j : Nat} (h : rowI ch c cs i = rowI ch c cs j) : i = j := by
  have := congrArg cnt h
  rw [rowI_cnt, rowI_cnt] at this
  omega
/-- Which of the blocks are new: all, each once. -/
theorem news_mem {Q : List Int → Prop} (hQ : ∀ a b, Q a → Q b → sameK a b = true → b = a) (hs : ∀ a, Q a → sumB a = true) : ∀ (A N : List (List Int)), (∀ a ∈ N, Q a) → (∀ a ∈ A, Q a) → ∀ x, x ∈ newsF N A ↔ x ∈ N ∨ x ∈ A
  | [], N, _, _, x => by simp [newsF]
  | a :: A, N, hN, hA, x => by
    have ha := hA a (by simp)
    have e : nxG N a = N ∧ a ∈ N ∨ nxG N a = N ++ [a] := by
      unfold nxG kdG
      rw [hs a ha]
      cases hf : N.find? (sameK a) with
      | none => exact .inr rfl
      | some y =>
        have hy := List.mem_of_find?_eq_some hf
        have := hQ a y ha (hN y hy) (List.find?_some hf)
        subst this
        refine .inl ⟨?_, hy⟩
        simp
    rw [newsF]
    rcases e with ⟨e, hm⟩ | e
    · rw [e, news_mem hQ hs A N hN (fun b hb => hA b (by simp [hb]))]
      simp only [List.mem_cons]
      constructor
      · rintro (h | h)
        · exact .inl h
        · exact .inr (.inr h)
      · rintro (h | rfl | h)
        · exact .inl h
        · exact .inl hm
        · exact .inr h
    · rw [e, news_mem hQ hs A (N ++ [a]) (fun b hb => by
        rcases List.mem_append.1 hb with hb | hb
        · exact hN b hb
        · simp at hb; rw [hb]; exact ha) (fun b hb => hA b (by simp [hb]))]
      simp only [List.mem_append, List.mem_cons, List.not_mem_nil, or_false]
      exact or_assoc
/-- What is so of a signal that was cut. -/
structure Cut (x : List Int) (ch c : Int) (cs : List (List Int)) (n : Nat) : Prop where
  ecs : cs = chunkC x n
  en : n = countN x
  len : cs.length = n
  lo : 1 ≤ n
  hi : n ≤ 13
  xl : x.length ≤ 8 * n
  hch : 0 ≤ ch ∧ ch ≤ 3
  hc : 0 ≤ c ∧ c + n ≤ 65536
  sam : ∀ p ∈ cs, p.all sampleG = true
theorem cut_of {x : List Int} {ch c : Int} (h : cutE x ch c = 0) (h0 : 1 ≤ x.length) (h1 : x.length ≤ 100) : Cut x ch c (chunkC x (countN x)) (countN x) := by
  obtain ⟨e1, e2, e3, e4, e5⟩ := cutE_ok h
  obtain ⟨f1, f2⟩ := chunk_facts x.length x (by omega)
  exact ⟨rfl, rfl, f1, by unfold countN; omega, by unfold countN; omega, by unfold countN; omega, e3, ⟨e4, e5⟩, fun p hp => (f2 e2 p hp).1⟩
section
variable {x : List Int} {ch c : Int} {cs : List (List Int)} {n : Nat}
theorem Cut.con (C : Cut x ch c cs n) {i : Nat} (hi : i < n) : conB (rowI ch c cs i) = true := by
  have hp : (cs.getD i []).all sampleG = true := by
    rw [List.getD_eq_getElem?_getD, List.getElem?_eq_getElem (by rw [C.len]; exact hi)]
    exact C.sam _ (List.getElem_mem _)
  have := cut_content (c := c + i) C.hch (by have := C.hc; omega) hp
  unfold conB
  rw [rowI_sam]
  exact this
theorem Cut.own (C : Cut x ch c cs n) {A : List (List Int)} (hA : ∀ a ∈ A, ∃ i, i < n ∧ a = rowI ch c cs i) (y : List Int) : y ∈ ownB A ch ↔ y ∈ A := by
  unfold ownB chB
  rw [List.mem_filter, news_mem (Q := fun a => ∃ i, i < n ∧ a = rowI ch c cs i) (fun a b ⟨i, _, ha⟩ ⟨j, _, hb⟩ hk => by
    subst ha; subst hb
    unfold sameK at hk
    simp only [Bool.and_eq_true, beq_iff_eq] at hk
    have : c + (j : Int) = c + (i : Int) := hk.2
    rw [show j = i by omega]) (fun a ⟨i, _, ha⟩ => by subst ha; exact rowI_sum ch c cs i) A [] (fun a ha => by simp at ha) hA]
  constructor
  · rintro ⟨h | h, _⟩
    · simp at h
    · exact h
  · intro h
    obtain ⟨i, _, rfl⟩ := hA y h
    exact ⟨.inr h, by rw [rowI_ch]; simp⟩
/-- The blocks that are there, and what their stream is made of. -/
theorem Cut.there (C : Cut x ch c cs n) {A : List (List Int)} (hA : ∀ a ∈ A, ∃ i, i < n ∧ a = rowI ch c cs i) (hl : A.length ≤ 40) (f : Nat → Bool) (h1 : ∀ i, i < n → f i = true → rowI ch c cs i ∈ A) (h2 : ∀ i, i < n → f i = false → rowI ch c cs i ∉ A) (f0 : f 0 = true) (fn : f (n - 1) = true) :
    okBs A ∧ A.all conB = true ∧ rcE A ch = 0 ∧ cmin (ownB A ch) = c ∧ cmax (ownB A ch) = c + n - 1 ∧ ∀ i, i < n → lkO (ownB A ch) (c + i) = bif f i then some (pad8 (cs.getD i [])) else none := by
  have hlo := C.lo
  have hhi := C.hi
  have hok : okBs A := ⟨by omega, List.all_eq_true.2 fun a ha => by obtain ⟨i, _, rfl⟩ := hA a ha; exact rowI_len ch c cs i⟩
  have hcon : A.all conB = true := List.all_eq_true.2 fun a ha => by obtain ⟨i, hi, rfl⟩ := hA a ha; exact C.con hi
  have hown := C.own hA
  have m0 : rowI ch c cs 0 ∈ ownB A ch := (hown _).2 (h1 0 (by omega) f0)
  have mn : rowI ch c cs (n - 1) ∈ ownB A ch := (hown _).2 (h1 (n - 1) (by omega) fn)
  have hne : ownB A ch ≠ [] := by intro e; rw [e] at m0; simp at m0
  have hmin : cmin (ownB A ch) = c := by
    have a := cmin_le m0
    rw [rowI_cnt] at a
    obtain ⟨y, hy, ey⟩ := cmin_mem hne
    obtain ⟨i, hi, rfl⟩ := hA y ((hown y).1 hy)
    rw [rowI_cnt] at ey
    omega
  have hmax : cmax (ownB A ch) = c + n - 1 := by
    have a := le_cmax mn
    rw [rowI_cnt] at a
    obtain ⟨y, hy, ey⟩ := cmax_mem hne
    obtain ⟨i, hi, rfl⟩ := hA y ((hown y).1 hy)
    rw [rowI_cnt] at ey
    omega
  refine ⟨hok, hcon, ?_, hmin, hmax, fun i hi => ?_⟩
  · unfold rcE
    have hb : bsE A = 0 := by unfold bsE; rw [decide_eq_true (by omega), hcon]; rfl
    have hw : withinG ch 0 3 = true := by
      have := C.hch
      unfold withinG
      simp only [this, decide_true, Bool.and_self]
    rw [hb, hw]
    show spanE (ownB A ch) = 0
    unfold spanE
    have he : (ownB A ch).isEmpty = false := by
      cases ho : ownB A ch with
      | nil => exact absurd ho hne
      | cons _ _ => rfl
    rw [he, hmin, hmax, decide_eq_true (by omega)]; rfl
  · unfold lkO
    have key : ∀ y ∈ ownB A ch, (cnt y == c + i) = true → y = rowI ch c cs i := by
      intro y hy hc
      obtain ⟨j, hj, rfl⟩ := hA y ((hown y).1 hy)
      rw [rowI_cnt] at hc
      have := beq_iff_eq.1 hc
      rw [show j = i by omega]
    cases hf : f i with
    | true =>
      have hm : rowI ch c cs i ∈ ownB A ch := (hown _).2 (h1 i hi hf)
      cases ho : (ownB A ch).find? (fun y => cnt y == c + i) with
      | none =>
        have := List.find?_eq_none.1 ho _ hm
        rw [rowI_cnt] at this
        simp at this
      | some y =>
        have := key y (List.mem_of_find?_eq_some ho) (List.find?_some (p := fun y => cnt y == c + (i : Int)) ho)
        subst this
        rfl
    | false =>
      have hm : rowI ch c cs i ∉ ownB A ch := fun h => h2 i hi hf ((hown _).1 h)
      cases ho : (ownB A ch).find? (fun y => cnt y == c + i) with
      | none => rfl
      | some y =>
        have := key y (List.mem_of_find?_eq_some ho) (List.find?_some (p := fun y => cnt y == c + (i : Int)) ho)
        subst this
        exact absurd (List.mem_of_find?_eq_some ho) hm
end
/-! Streams. -/
theorem strG_sam (lk : Int → Option (List Int)) : ∀ (k : Nat) (c : Int) (p : List Int × List (List Int)) (g : Nat → List Int), (∀ i, i < k → (lk (c + i)).getD zer8 = g i) → (strG lk k c p).1 = p.1 ++ (List.range k).flatMap g
  | 0, _, p, g, _ => by simp [strG]
  | k + 1, c, p, g, h => by
    rw [strG, strG_sam lk k (c + 1) _ (fun i => g (i + 1)) (fun i hi => by
      have := h (i + 1) (by omega)
      rw [← this, show c + 1 + (i : Int) = c + ((i + 1 : Nat) : Int) by omega])]
    have h0 := h 0 (by omega)
    simp only [Int.natCast_zero, Int.add_zero] at h0
    rw [h0, List.range_succ_eq_map, List.flatMap_cons, List.append_assoc]
    congr 2
    rw [List.flatMap_map]
theorem strG_gap (lk : Int → Option (List Int)) : ∀ (k : Nat) (c : Int) (p : List Int × List (List Int)), (∀ i, i < k → (lk (c + i)).isSome = true) → (strG lk k c p).2 = p.2
  | 0, _, p, _ => rfl
  | k + 1, c, p, h => by
    have h0 := h 0 (by omega)
    simp only [Int.natCast_zero, Int.add_zero] at h0
    rw [strG, strG_gap lk k (c + 1) _ (fun i hi => by
      have := h (i + 1) (by omega)
      rw [show c + 1 + (i : Int) = c + ((i + 1 : Nat) : Int) by omega]
      exact this), h0]; rfl
theorem strG_add (lk : Int → Option (List Int)) : ∀ (a b : Nat) (c : Int) (p : List Int × List (List Int)), strG lk (a + b) c p = strG lk b (c + a) (strG lk a c p)
  | 0, b, c, p => by simp [strG]
  | a + 1, b, c, p => by
    rw [show a + 1 + b = (a + b) + 1 by omega, strG, strG_add lk a b (c + 1), strG]
    rw [show c + 1 + (a : Int) = c + ((a + 1 : Nat) : Int) by omega]
theorem misG_none (lk : Int → Option (List Int)) : ∀ (k : Nat) (c : Int), (∀ i, i < k → (lk (c + i)).isSome = true) → misG lk k c = []
  | 0, _, _ => rfl
  | k + 1, c, h => by
    have h0 := h 0 (by omega)
    simp only [Int.natCast_zero, Int.add_zero] at h0
    rw [misG, h0, cond_true, misG_none lk k (c + 1) (fun i hi => by
      have := h (i + 1) (by omega)
      rw [show c + 1 + (i : Int) = c + ((i + 1 : Nat) : Int) by omega]
      exact this)]
theorem range_flatMap (g : List Int → List Int) : ∀ l : List (List Int), (List.range l.length).flatMap (fun i => g (l.getD i [])) = l.flatMap g
  | [] => rfl
  | x :: l => by
    rw [List.length_cons, List.range_succ_eq_map, List.flatMap_cons, List.flatMap_map, List.flatMap_cons]
    congr 1
    exact range_flatMap g l
theorem pad8_of {p : List Int} (h : p.length = 8) : pad8 p = p := by
  match p, h with
  | [_, _, _, _, _, _, _, _], _ => rfl
theorem pad8_short {p : List Int} (h : p.length ≤ 8) : pad8 p = p ++ List.replicate (8 - p.length) 0 := by
  match p, h with
  | [], _ => rfl
  | [_], _ => rfl
  | [_, _], _ => rfl
  | [_, _, _], _ => rfl
  | [_, _, _, _], _ => rfl
  | [_, _, _, _, _], _ => rfl
  | [_, _, _, _, _, _], _ => rfl
  | [_, _, _, _, _, _, _], _ => rfl
  | [_, _, _, _, _, _, _, _], _ => rfl
theorem chunk_pad : ∀ (m : Nat) (x : List Int), x.length ≤ 8 * m → (chunkC x m).flatMap pad8 = padR x m
  | 0, x, h => by
    have : x = [] := List.length_eq_zero_iff.1 (by omega)
    subst this; rfl
  | m + 1, x, h => by
    rw [chunkC, List.flatMap_cons, chunk_pad m (x.drop 8) (by rw [List.length_drop]; omega)]
    unfold padR
    by_cases hx : 8 ≤ x.length
    · rw [pad8_of (by rw [List.length_take]; omega), ← List.append_assoc, List.take_append_drop, List.length_drop]
      congr 2
      omega
    · rw [List.take_of_length_le (by omega), pad8_short (by omega), List.drop_eq_nil_of_le (by omega), List.append_assoc]
      congr 1
      simp only [List.nil_append, List.length_nil, Nat.sub_zero, List.replicate_append_replicate]
      congr 1
      omega
theorem flat_len {g : Nat → List Int} (hg : ∀ i, (g i).length = 8) : ∀ n, ((List.range n).flatMap g).length = 8 * n
  | 0 => rfl
  | n + 1 => by
    rw [List.range_succ, List.flatMap_append, List.length_append, flat_len hg n]
    simp [hg]; omega
theorem flat_get : ∀ (n : Nat) (g : Nat → List Int), (∀ i, (g i).length = 8) → ∀ i k, i < n → k < 8 → ((List.range n).flatMap g).getD (8 * i + k) 0 = (g i).getD k 0
  | 0, _, _, i, _, h, _ => by omega
  | n + 1, g, hg, 0, k, _, hk => by
    rw [List.range_succ_eq_map, List.flatMap_cons, Nat.mul_zero, Nat.zero_add, List.getD_eq_getElem?_getD, List.getElem?_append_left (by rw [hg]; exact hk), ← List.getD_eq_getElem?_getD]
  | n + 1, g, hg, i + 1, k, hi, hk => by
    have ih := flat_get n (fun i => g (i + 1)) (fun i => hg (i + 1)) i k (by omega) hk
    rw [List.range_succ_eq_map, List.flatMap_cons, List.flatMap_map, List.getD_eq_getElem?_getD, List.getElem?_append_right (by rw [hg]; omega), hg, show 8 * (i + 1) + k - 8 = 8 * i + k by omega, ← List.getD_eq_getElem?_getD]
    exact ih
section
variable {x : List Int} {ch c : Int} {cs : List (List Int)} {n : Nat}
theorem Cut.pad (C : Cut x ch c cs n) : (List.range n).flatMap (fun i => pad8 (cs.getD i [])) = padR x n := by
  have := range_flatMap pad8 cs
  rw [C.len] at this
  rw [this, C.ecs, chunk_pad n x C.xl]
theorem pad8_len (p : List Int) : (pad8 p).length = 8 := rfl
/-- All blocks are there. -/
theorem Cut.whole (C : Cut x ch c cs n) {A : List (List Int)} (hA : ∀ a ∈ A, ∃ i, i < n ∧ a = rowI ch c cs i) (hl : A.length ≤ 40) (h1 : ∀ i, i < n → rowI ch c cs i ∈ A) :
    okBs A ∧ rcE A ch = 0 ∧ stA A ch = c ∧ stS A ch = padR x n ∧ stP A ch = [] ∧ msM A ch = [] := by
  have hlo := C.lo
  obtain ⟨t1, t2, t3, t4, t5, t6⟩ := C.there hA hl (fun _ => true) (fun i hi _ => h1 i hi) (fun i _ h => by cases h) rfl rfl
  have hsome : ∀ i, i < n → (lkO (ownB A ch) (c + i)).isSome = true := fun i hi => by rw [t6 i hi]; rfl
  have en : (cmax (ownB A ch) - cmin (ownB A ch) + 1).toNat = n := by rw [t4, t5]; omega
  refine ⟨t1, t3, ?_, ?_, ?_, ?_⟩
  · unfold stA; rw [t3]; exact t4
  · unfold stS strO
    rw [t3, en, t4]
    show (strG (lkO (ownB A ch)) n c ([], [])).1 = _
    rw [strG_sam _ n c ([], []) (fun i => pad8 (cs.getD i [])) (fun i hi => by rw [t6 i hi]; rfl), List.nil_append, C.pad]
  · unfold stP strO
    rw [t3, en, t4]
    exact strG_gap _ n c ([], []) hsome
  · unfold msM misO
    rw [t3, en, t4]
    exact misG_none _ n c hsome
/-- One block is lost. -/
theorem Cut.lost (C : Cut x ch c cs n) {A : List (List Int)} {q : Nat} (hq : 1 ≤ q ∧ q ≤ n - 2 ∧ 3 ≤ n) (hA : ∀ a ∈ A, ∃ i, i < n ∧ a = rowI ch c cs i) (hl : A.length ≤ 40) (h1 : ∀ i, i < n → i ≠ q → rowI ch c cs i ∈ A) (h2 : rowI ch c cs q ∉ A) :
    okBs A ∧ A ≠ [] ∧ rcE A ch = 0 ∧ (stS A ch).length = 8 * n ∧ stP A ch = [[8 * (q : Int), 8 * (q : Int) + 7]] ∧ ∀ j, j < 8 * n → chkT (stS A ch) (padR x n) q j = true := by
  have hlo := C.lo
  obtain ⟨t1, t2, t3, t4, t5, t6⟩ := C.there hA hl (fun i => !(i == q)) (fun i hi h => h1 i hi (by simpa using h)) (fun i hi h => by
    have : i = q := by simpa using h
    subst this; exact h2) (by simp; omega) (by simp; omega)
  have en : (cmax (ownB A ch) - cmin (ownB A ch) + 1).toNat = n := by rw [t4, t5]; omega
  have hS : stS A ch = (List.range n).flatMap fun i => bif i == q then zer8 else pad8 (cs.getD i []) := by
    unfold stS strO
    rw [t3, en, t4]
    show (strG (lkO (ownB A ch)) n c ([], [])).1 = _
    rw [strG_sam _ n c ([], []) (fun i => bif i == q then zer8 else pad8 (cs.getD i [])) (fun i hi => by
      rw [t6 i hi]
      cases i == q <;> rfl), List.nil_append]
  have hg : ∀ i, (bif i == q then zer8 else pad8 (cs.getD i [])).length = 8 := fun i => by cases i == q <;> rfl
  refine ⟨t1, ?_, t3, by rw [hS, flat_len hg], ?_, fun j hj => ?_⟩
  · intro e
    have := h1 0 (by omega) (by omega)
    rw [e] at this
    simp at this
  · unfold stP strO
    rw [t3, en, t4]
    show (strG (lkO (ownB A ch)) n c ([], [])).2 = _
    have e : n = q + (1 + (n - q - 1)) := by omega
    rw [e, strG_add, strG_add]
    have hS1 : (strG (lkO (ownB A ch)) q c ([], [])).1.length = 8 * q := by
      rw [strG_len _ (smp_len (ownB A ch))]; simp
    have hG1 : (strG (lkO (ownB A ch)) q c ([], [])).2 = [] := strG_gap _ q c ([], []) (fun i hi => by
      rw [t6 i (by omega)]
      have : (i == q) = false := by simp; omega
      rw [this]; rfl)
    rw [strG_gap]
    · show (strG (lkO (ownB A ch)) 1 (c + q) _).2 = _
      rw [strG, strG, t6 q (by omega), beq_self_eq_true, hG1, hS1]
      show gapG [] ((8 * q : Nat) : Int) = _
      unfold gapG
      simp
    · intro i hi
      rw [show c + (q : Int) + ((1 : Nat) : Int) + (i : Int) = c + ((q + 1 + i : Nat) : Int) by omega, t6 (q + 1 + i) (by omega)]
      have : (q + 1 + i == q) = false := by simp; omega
      rw [this]; rfl
  · unfold chkT
    rw [beq_iff_eq, hS, ← C.pad]
    have hj' : j = 8 * (j / 8) + j % 8 := by omega
    rw [hj', flat_get n _ hg (j / 8) (j % 8) (by omega) (by omega), flat_get n _ (fun i => rfl) (j / 8) (j % 8) (by omega) (by omega), ← hj']
    cases hc : j / 8 == q with
    | true =>
      have hc' := beq_iff_eq.1 hc
      have hw : withinG (j : Int) (8 * (q : Int)) (8 * (q : Int) + 7) = true := by
        unfold withinG
        simp only [Bool.and_eq_true, decide_eq_true_eq]
        omega
      rw [hw]
      have h8 : j % 8 < 8 := by omega
      show zer8.getD (j % 8) 0 = 0
      unfold zer8
      match j % 8, h8 with
      | 0, _ => rfl
      | 1, _ => rfl
      | 2, _ => rfl
      | 3, _ => rfl
      | 4, _ => rfl
      | 5, _ => rfl
      | 6, _ => rfl
      | 7, _ => rfl
    | false =>
      have hc' := beq_eq_false_iff_ne.1 hc
      have hw : withinG (j : Int) (8 * (q : Int)) (8 * (q : Int) + 7) = false := by
        unfold withinG
        rw [Bool.and_eq_false_iff]
        simp only [decide_eq_false_iff_not]
        omega
      rw [hw]; rfl
end
end Go.Ev
