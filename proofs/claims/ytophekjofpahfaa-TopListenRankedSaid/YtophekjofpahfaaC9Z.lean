/-
  Part of the proof of a law.
-/
import Derived.Test.YtophekjofpahfaaC9F
set_option linter.unusedVariables false
set_option linter.unusedSimpArgs false
set_option linter.unusedSectionVars false
/-
  Chapter 9, plain facts: orders of items, which one is the best, and the sums of disagreements.
-/
namespace Go.Ev
open Go Go.Proofs
attribute [local irreducible] evFn evBody evRound
set_option maxRecDepth 20000
def befG : List Int → List Int → Bool
  | x :: a, y :: b => bif x == y then befG a b else decide (x < y)
  | [], _ :: _ => true
  | _, [] => false
theorem befG_app : ∀ (l a b : List Int), befG (l ++ a) (l ++ b) = befG a b
  | [], _, _ => rfl
  | x :: l, a, b => by
    show (bif x == x then befG (l ++ a) (l ++ b) else decide (x < x)) = _
    rw [beq_self_eq_true, cond_true, befG_app l a b]
theorem befG_lt {l a b : List Int} {x y : Int} (h : x < y) : befG (l ++ x :: a) (l ++ y :: b) = true := by
  rw [befG_app]
  show (bif x == y then befG a b else decide (x < y)) = true
  rw [beq_eq_false_iff_ne.2 (show x ≠ y by omega), cond_false, decide_eq_true h]
theorem befG_asymm : ∀ {a b : List Int}, befG a b = true → befG b a = false
  | [], [], h => by simp [befG] at h
  | [], _ :: _, _ => rfl
  | _ :: _, [], h => by simp [befG] at h
  | x :: a, y :: b, h => by
    simp only [befG] at h ⊢
    by_cases e : x = y
    · subst e
      rw [beq_self_eq_true, cond_true] at h ⊢
      exact befG_asymm h
    · rw [beq_eq_false_iff_ne.2 e, cond_false] at h
      rw [beq_eq_false_iff_ne.2 (fun h => e h.symm), cond_false]
      have := of_decide_eq_true h
      exact decide_eq_false (by omega)
theorem befG_irrefl (a : List Int) : befG a a = false := by
  cases h : befG a a with
  | false => rfl
  | true => exact absurd h (by rw [befG_asymm h]; decide)
theorem mem_upTo {c : Nat} {i : Int} : i ∈ upTo c ↔ 0 ≤ i ∧ i < (c : Int) := by
  unfold upTo
  simp only [List.mem_map, List.mem_range]
  constructor
  · rintro ⟨k, hk, rfl⟩
    exact ⟨Int.natCast_nonneg k, Int.ofNat_lt.2 hk⟩
  · rintro ⟨h1, h2⟩
    exact ⟨i.toNat, by omega, by show (i.toNat : Int) = i; omega⟩
theorem upTo_lt (c : Nat) : (upTo c).Pairwise (· < ·) := by
  unfold upTo
  rw [List.pairwise_map]
  exact List.Pairwise.imp (fun h => Int.ofNat_lt.2 h) List.pairwise_lt_range
theorem extG_form {c : Nat} : ∀ (n : Nat) (l o : List Int), o ∈ extG c n l → ∃ s, o = l ++ s ∧ s.length = n ∧ ∀ x ∈ s, 0 ≤ x ∧ x < (c : Int)
  | 0, l, o, h => by
    simp only [extG, List.mem_singleton] at h
    exact ⟨[], by simp [h], rfl, fun x hx => by simp at hx⟩
  | n + 1, l, o, h => by
    simp only [extG, List.mem_flatMap] at h
    obtain ⟨i, hi, h⟩ := h
    cases hm : memB i l with
    | true => rw [hm] at h; simp at h
    | false =>
      rw [hm, cond_false] at h
      obtain ⟨s, rfl, hs, hr⟩ := extG_form n _ o h
      refine ⟨i :: s, by simp, by simp [hs], fun x hx => ?_⟩
      rcases List.mem_cons.1 hx with rfl | hx
      · exact mem_upTo.1 hi
      · exact hr x hx
theorem extG_sorted {c : Nat} : ∀ (n : Nat) (l : List Int), (extG c n l).Pairwise fun a b => befG a b = true
  | 0, l => by simp [extG]
  | n + 1, l => by
    simp only [extG]
    rw [List.pairwise_flatMap]
    refine ⟨fun i _ => ?_, (upTo_lt c).imp fun {i k} hik a ha b hb => ?_⟩
    · cases memB i l with
      | true => exact List.Pairwise.nil
      | false => exact extG_sorted n _
    · cases h1 : memB i l with
      | true => rw [h1] at ha; simp at ha
      | false =>
        cases h2 : memB k l with
        | true => rw [h2] at hb; simp at hb
        | false =>
          rw [h1, cond_false] at ha
          rw [h2, cond_false] at hb
          obtain ⟨s, rfl, _⟩ := extG_form n _ _ ha
          obtain ⟨s', rfl, _⟩ := extG_form n _ _ hb
          rw [List.append_assoc, List.append_assoc]
          exact befG_lt hik
theorem memB_mem {v : Int} {l : List Int} : memB v l = true ↔ v ∈ l := by
  unfold memB
  rw [List.any_eq_true]
  constructor
  · rintro ⟨x, hx, h⟩
    rw [eq_of_beq h]; exact hx
  · intro h
    exact ⟨v, h, beq_self_eq_true v⟩
theorem memB_not {v : Int} {l : List Int} : memB v l = false ↔ v ∉ l := by
  rw [← memB_mem]
  cases memB v l <;> simp
theorem extG_mem {c : Nat} : ∀ (s l : List Int), (∀ x ∈ s, 0 ≤ x ∧ x < (c : Int)) → s.Nodup → (∀ x ∈ s, x ∉ l) → l ++ s ∈ extG c s.length l
  | [], l, _, _, _ => by simp [extG]
  | x :: s, l, h1, h2, h3 => by
    simp only [List.length_cons, extG, List.mem_flatMap]
    rw [List.nodup_cons] at h2
    refine ⟨x, mem_upTo.2 (h1 x (by simp)), ?_⟩
    rw [memB_not.2 (h3 x (by simp)), cond_false, show l ++ x :: s = (l ++ [x]) ++ s by simp]
    refine extG_mem s (l ++ [x]) (fun y hy => h1 y (by simp [hy])) h2.2 fun y hy => ?_
    rw [List.mem_append, List.mem_singleton]
    rintro (h | h)
    · exact h3 y (by simp [hy]) h
    · subst h; exact h2.1 hy
theorem extG_nodup {c : Nat} : ∀ (n : Nat) (l o : List Int), l.Nodup → o ∈ extG c n l → o.Nodup
  | 0, l, o, hl, h => by
    simp only [extG, List.mem_singleton] at h
    rw [h]; exact hl
  | n + 1, l, o, hl, h => by
    simp only [extG, List.mem_flatMap] at h
    obtain ⟨i, hi, h⟩ := h
    cases hm : memB i l with
    | true => rw [hm] at h; simp at h
    | false =>
      rw [hm, cond_false] at h
      refine extG_nodup n _ o ?_ h
      rw [List.nodup_append]
      refine ⟨hl, by simp, fun a ha b hb => ?_⟩
      rw [List.mem_singleton] at hb
      subst hb
      intro e
      subst e
      exact memB_not.1 hm ha
def isOrd (c : Nat) (o : List Int) : Prop := o.length = c ∧ (∀ x ∈ o, 0 ≤ x ∧ x < (c : Int)) ∧ o.Nodup
theorem mem_allO {c : Nat} {o : List Int} : o ∈ allO c ↔ isOrd c o := by
  unfold allO isOrd
  rw [Int.toNat_natCast]
  constructor
  · intro h
    obtain ⟨s, rfl, h1, h2⟩ := extG_form c [] o h
    exact ⟨h1, h2, extG_nodup c [] _ List.nodup_nil h⟩
  · rintro ⟨h1, h2, h3⟩
    have := extG_mem o [] h2 h3 (fun x _ => by simp)
    rw [h1] at this
    exact this
theorem bestF_split (p : List (List D)) : ∀ (os : List (List Int)) (b : List Int) (l : Int), 0 ≤ l → l = disG p b → (∀ o ∈ os, 0 ≤ disG p o) →
    (bestF p b l os).2 = disG p (bestF p b l os).1 ∧ (((bestF p b l os).1 = b ∧ ∀ o ∈ os, l ≤ disG p o) ∨
      ∃ pre suf, os = pre ++ (bestF p b l os).1 :: suf ∧ (bestF p b l os).2 < l ∧ (∀ o ∈ pre, (bestF p b l os).2 < disG p o) ∧ ∀ o ∈ suf, (bestF p b l os).2 ≤ disG p o)
  | [], b, l, _, hl, _ => ⟨hl, .inl ⟨rfl, fun o h => by simp at h⟩⟩
  | o :: os, b, l, h0, hl, hn => by
    simp only [bestF]
    rw [decide_eq_false (show ¬ l < 0 by omega), Bool.false_or]
    by_cases hd : disG p o < l
    · rw [decide_eq_true hd, cond_true]
      obtain ⟨h1, h2⟩ := bestF_split p os o (disG p o) (hn o (by simp)) rfl fun x hx => hn x (by simp [hx])
      refine ⟨h1, .inr ?_⟩
      rcases h2 with ⟨h2, h3⟩ | ⟨pre, suf, h2, h3, h4, h5⟩
      · rw [h1, h2]
        exact ⟨[], os, rfl, hd, fun x hx => by simp at hx, h3⟩
      · refine ⟨o :: pre, suf, by rw [List.cons_append, ← h2], by omega, fun x hx => ?_, h5⟩
        rcases List.mem_cons.1 hx with rfl | hx
        · exact h3
        · exact h4 x hx
    · rw [decide_eq_false hd, cond_false]
      obtain ⟨h1, h2⟩ := bestF_split p os b l h0 hl fun x hx => hn x (by simp [hx])
      refine ⟨h1, ?_⟩
      rcases h2 with ⟨h2, h3⟩ | ⟨pre, suf, h2, h3, h4, h5⟩
      · refine .inl ⟨h2, fun x hx => ?_⟩
        rcases List.mem_cons.1 hx with rfl | hx
        · omega
        · exact h3 x hx
      · refine .inr ⟨o :: pre, suf, by rw [List.cons_append, ← h2], h3, fun x hx => ?_, h5⟩
        rcases List.mem_cons.1 hx with rfl | hx
        · omega
        · exact h4 x hx
theorem bestG_best {p : List (List D)} (hn : ∀ o, isOrd p.length o → 0 ≤ disG p o) (h0 : isOrd p.length ((allO p.length).getD 0 [])) :
    isOrd p.length (bestG p).1 ∧ (bestG p).2 = disG p (bestG p).1 ∧ ∀ o, isOrd p.length o → (bestG p).2 ≤ disG p o ∧ (disG p o = (bestG p).2 → befG o (bestG p).1 = false) := by
  have hs := extG_sorted (c := p.length) p.length []
  have he : extG p.length p.length [] = allO p.length := by unfold allO; rw [Int.toNat_natCast]
  rw [he] at hs
  unfold bestG
  cases hA : allO (p.length : Int) with
  | nil =>
    have : ((allO p.length).getD 0 []) ∈ allO p.length := mem_allO.2 h0
    rw [hA] at this
    simp at this
  | cons o0 os =>
    rw [hA] at hs
    have hmem : ∀ o, o ∈ o0 :: os ↔ isOrd p.length o := fun o => by rw [← hA]; exact mem_allO
    have e : bestF p [] (-1) (o0 :: os) = bestF p o0 (disG p o0) os := rfl
    rw [e]
    obtain ⟨h1, h2⟩ := bestF_split p os o0 (disG p o0) (hn o0 ((hmem _).1 (by simp))) rfl fun x hx => hn x ((hmem _).1 (by simp [hx]))
    generalize bestF p o0 (disG p o0) os = r at *
    obtain ⟨b, d⟩ := r
    simp only at h1 h2 ⊢
    rcases h2 with ⟨rfl, h3⟩ | ⟨pre, suf, h3, h4, h5, h6⟩
    · refine ⟨(hmem _).1 (by simp), h1, fun o ho => ?_⟩
      rcases List.mem_cons.1 ((hmem o).2 ho) with rfl | ho'
      · exact ⟨by omega, fun _ => befG_irrefl _⟩
      · refine ⟨by rw [h1]; exact h3 o ho', fun _ => befG_asymm ?_⟩
        exact (List.pairwise_cons.1 hs).1 o ho'
    · have hb : b ∈ o0 :: os := by rw [h3]; simp
      refine ⟨(hmem _).1 hb, h1, fun o ho => ?_⟩
      rcases List.mem_cons.1 ((hmem o).2 ho) with rfl | ho'
      · exact ⟨by omega, fun h => by omega⟩
      · rw [h3, List.mem_append, List.mem_cons] at ho'
        rcases ho' with ho' | rfl | ho'
        · have := h5 o ho'
          exact ⟨by omega, fun h => by omega⟩
        · exact ⟨by omega, fun _ => befG_irrefl _⟩
        · refine ⟨h6 o ho', fun _ => befG_asymm ?_⟩
          have := (List.pairwise_cons.1 hs).2
          rw [h3, List.pairwise_append] at this
          exact (List.pairwise_cons.1 this.2.1).1 o ho'
def celP (p : List (List D)) (j i : Int) : Int := (rowD p j.toNat).getD i.toNat 0
def rowS (f : Int → Int → Int) (j : Int) : List Int → Int
  | [] => 0
  | i :: l => f j i + rowS f j l
def colS (f : Int → Int → Int) (x : Int) : List Int → Int
  | [] => 0
  | y :: l => f y x + colS f x l
def triL (f : Int → Int → Int) : List Int → List Int → Int
  | _, [] => 0
  | pre, j :: l => rowS f j pre + triL f (pre ++ [j]) l
def triR (f : Int → Int → Int) : List Int → Int
  | [] => 0
  | x :: l => colS f x l + triR f l
theorem disI_row (p : List (List D)) (j : Int) : ∀ l, disI (rowD p j.toNat) l = rowS (celP p) j l
  | [] => rfl
  | i :: l => by simp only [disI, rowS]; rw [disI_row p j l]; rfl
theorem disF_L (p : List (List D)) (o : List Int) : ∀ (l : List Int) (i : Nat), o.drop i = l → disF p o i l = triL (celP p) (o.take i) l
  | [], i, _ => rfl
  | j :: l, i, h => by
    have hi : i < o.length := by
      rcases Nat.lt_or_ge i o.length with h' | h'
      · exact h'
      · rw [List.drop_eq_nil_of_le h'] at h; cases h
    have hd : o.drop i = o[i] :: o.drop (i + 1) := List.drop_eq_getElem_cons hi
    rw [hd] at h
    obtain ⟨rfl, h2⟩ := List.cons.inj h
    simp only [disF, triL]
    rw [disF_L p o l (i + 1) h2, disI_row, List.take_succ_eq_append_getElem hi]
def colP (f : Int → Int → Int) (l : List Int) : List Int → Int
  | [] => 0
  | x :: pre => colS f x l + colP f l pre
theorem colP_nil (f : Int → Int → Int) : ∀ pre, colP f [] pre = 0
  | [] => rfl
  | x :: pre => by simp only [colP, colS]; rw [colP_nil f pre]; rfl
theorem colP_cons (f : Int → Int → Int) (j : Int) (l : List Int) : ∀ pre, colP f (j :: l) pre = rowS f j pre + colP f l pre
  | [] => rfl
  | x :: pre => by simp only [colP, colS, rowS]; rw [colP_cons f j l pre]; omega
theorem colP_app (f : Int → Int → Int) (l : List Int) (j : Int) : ∀ pre, colP f l (pre ++ [j]) = colP f l pre + colS f j l
  | [] => by simp [colP]
  | x :: pre => by simp only [List.cons_append, colP]; rw [colP_app f l j pre]; omega
theorem triL_col (f : Int → Int → Int) : ∀ (l pre : List Int), triL f pre l = colP f l pre + triR f l
  | [], pre => by rw [colP_nil]; rfl
  | j :: l, pre => by
    simp only [triL, triR]
    rw [triL_col f l (pre ++ [j]), colP_app, colP_cons]
    omega
theorem tri_eq (f : Int → Int → Int) (l : List Int) : triL f [] l = triR f l := by
  rw [triL_col]
  simp [colP]
theorem dis_r (p : List (List D)) (o : List Int) : disG p o = triR (celP p) o := by
  unfold disG
  rw [disF_L p o o 0 rfl, List.take_zero, tri_eq]
theorem colS_perm (f : Int → Int → Int) (x : Int) {a b : List Int} (h : a.Perm b) : colS f x a = colS f x b := by
  induction h with
  | nil => rfl
  | cons y _ ih => simp only [colS]; rw [ih]
  | swap y z l => simp only [colS]; omega
  | trans _ _ h1 h2 => rw [h1, h2]
theorem triR_perm {f : Int → Int → Int} (hf : ∀ x y, f x y = f y x) {a b : List Int} (h : a.Perm b) : triR f a = triR f b := by
  induction h with
  | nil => rfl
  | cons y hp ih => simp only [triR]; rw [ih, colS_perm f y hp]
  | swap y z l => simp only [triR, colS]; rw [hf y z]; omega
  | trans _ _ h1 h2 => rw [h1, h2]
theorem colS_le {f g : Int → Int → Int} {P : Int → Prop} (h : ∀ x y, P x → P y → f x y ≤ g x y) {x : Int} (hx : P x) : ∀ {l : List Int}, (∀ y ∈ l, P y) → colS f x l ≤ colS g x l
  | [], _ => Int.le_refl _
  | y :: l, hl => by
    have h1 := h y x (hl y (by simp)) hx
    have h2 := colS_le h hx (l := l) fun z hz => hl z (by simp [hz])
    simp only [colS]; omega
theorem triR_le {f g : Int → Int → Int} {P : Int → Prop} (h : ∀ x y, P x → P y → f x y ≤ g x y) : ∀ {l : List Int}, (∀ y ∈ l, P y) → triR f l ≤ triR g l
  | [], _ => Int.le_refl _
  | y :: l, hl => by
    have h1 := colS_le h (hl y (by simp)) (l := l) fun z hz => hl z (by simp [hz])
    have h2 := triR_le h (l := l) fun z hz => hl z (by simp [hz])
    simp only [triR]; omega
def minP (p : List (List D)) (j i : Int) : Int := if celP p i j < celP p j i then celP p i j else celP p j i
theorem minP_comm (p : List (List D)) (x y : Int) : minP p x y = minP p y x := by unfold minP; split <;> split <;> omega
theorem minP_le (p : List (List D)) (x y : Int) : minP p x y ≤ celP p x y := by unfold minP; split <;> omega
def bndG (p : List (List D)) : Int := triR (minP p) (upTo p.length)
theorem ord_all : ∀ c : Nat, c ≤ 6 → ((allO c).all fun o => (upTo c).all fun i => memB i o) = true := by decide +kernel
theorem upTo_nodup (c : Nat) : (upTo c).Nodup := (upTo_lt c).imp fun h => by omega
theorem isOrd_perm {c : Nat} (hc : c ≤ 6) {o : List Int} (h : isOrd c o) : o.Perm (upTo c) := by
  have hm := mem_allO.2 h
  have ha := List.all_eq_true.1 (ord_all c hc) o hm
  rw [List.all_eq_true] at ha
  rw [List.perm_ext_iff_of_nodup h.2.2 (upTo_nodup c)]
  intro x
  constructor
  · intro hx; exact mem_upTo.2 (h.2.1 x hx)
  · intro hx; exact memB_mem.1 (ha x hx)
theorem bnd_le {p : List (List D)} (hc : p.length ≤ 6) {o : List Int} (h : isOrd p.length o) : bndG p ≤ disG p o := by
  unfold bndG
  rw [dis_r, ← triR_perm (minP_comm p) (isOrd_perm hc h)]
  exact triR_le (P := fun _ => True) (fun x y _ _ => minP_le p x y) fun _ _ => trivial
end Go.Ev
