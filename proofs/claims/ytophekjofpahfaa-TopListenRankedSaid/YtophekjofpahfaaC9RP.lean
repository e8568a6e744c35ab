/-
  Part of the proof of a law.
-/
import Derived.Test.YtophekjofpahfaaC9RA
import Derived.Test.YtophekjofpahfaaC9R
set_option linter.unusedVariables false
set_option linter.unusedSimpArgs false
set_option linter.unusedSectionVars false
/-
  Chapter 9: listeners' orders are counted: plain facts.
-/
namespace Go.Ev
open Go Go.Proofs
set_option maxRecDepth 20000
set_option linter.unusedVariables false
set_option linter.unusedSimpArgs false
theorem beq_ff' {a b : Int} (h : a ≠ b) : (a == b) = false := beq_eq_false_iff_ne.2 h
theorem bne_tt' {a b : Int} (h : a ≠ b) : (a != b) = true := by rw [bne, beq_ff' h]; rfl
theorem ordF_ok {c : Int} : ∀ {l pre : List Int}, (∀ x ∈ l, 0 ≤ x ∧ x < c) → l.Nodup → (∀ x ∈ l, x ∉ pre) → ordF c pre l = 0
  | [], _, _, _, _ => rfl
  | x :: l, pre, h1, h2, h3 => by
    rw [List.nodup_cons] at h2
    have hx := h1 x (by simp)
    have hw : withinG x 0 (c - 1) = true := by
      unfold withinG
      rw [decide_eq_true hx.1, decide_eq_true (show x ≤ c - 1 by omega)]; rfl
    simp only [ordF]
    rw [hw, memB_not.2 (h3 x (by simp)), cond_true, cond_false]
    refine ordF_ok (fun y hy => h1 y (by simp [hy])) h2.2 fun y hy => ?_
    rw [List.mem_append, List.mem_singleton]
    rintro (h | h)
    · exact h3 y (by simp [hy]) h
    · subst h; exact h2.1 hy
theorem ord_ordE {c : Nat} {o : List Int} (h : isOrd c o) : ordE c o = 0 := by
  unfold ordE
  rw [show ((o.length : Int) != (c : Int)) = false by rw [h.1]; exact bne_self_eq_false _, cond_false]
  exact ordF_ok h.2.1 h.2.2 fun x _ => by simp
theorem best_facts {p : List (List D)} (h : prefE p = 0) : isOrd p.length (bsO p) ∧ bsN p = disG p (bsO p) ∧ bsO p = (bestG p).1 ∧ ∀ o, isOrd p.length o → bsN p ≤ disG p o ∧ (disG p o = bsN p → befG o (bsO p) = false) := by
  have hp := prefE_zero h
  obtain ⟨a1, _⟩ := allO_ok p.length hp.1
  have h0 : isOrd p.length ((allO p.length).getD 0 []) := by
    refine mem_allO.1 (getD_mem ?_)
    cases hA : allO (p.length : Int) with
    | nil => rw [hA] at a1; simp at a1
    | cons a l => simp
  obtain ⟨b1, b2, b3⟩ := bestG_best (fun o ho => disG_nn hp (isOrd_ok hp.1 ho)) h0
  have e1 : bsO p = (bestG p).1 := by unfold bsO; rw [h]; rfl
  have e2 : bsN p = (bestG p).2 := by unfold bsN; rw [h]; rfl
  rw [e1, e2]
  exact ⟨b1, b2, rfl, b3⟩
def cntI1 (v : Int) : List Int → Int
  | [] => 0
  | x :: r => (if v = x then 1 else 0) + cntI1 v r
def prI (u v : Int) : List Int → Int
  | [] => 0
  | x :: r => (if u = x then cntI1 v r else 0) + prI u v r
def prK (u v : Int) : List (List D) → Int
  | [] => 0
  | d :: r => prI u v (rowI d) + prK u v r
def celA (A : List (List Int)) (u v : Int) : Int := (A.getD u.toNat []).getD v.toNat 0
def sqA (n : Nat) (A : List (List Int)) : Prop := A.length = n ∧ ∀ r ∈ A, r.length = n
theorem getD_set_same {α : Type} {l : List α} {i : Nat} {v d : α} (h : i < l.length) : (l.set i v).getD i d = v := by
  rw [List.getD, List.getElem?_set_self h]; rfl
theorem getD_set_ne {α : Type} {l : List α} {i j : Nat} {v d : α} (h : i ≠ j) : (l.set i v).getD j d = l.getD j d := by
  rw [List.getD, List.getElem?_set_ne h]; rfl
theorem sq_row {n : Nat} {A : List (List Int)} (h : sqA n A) {u : Int} (h0 : 0 ≤ u) (h1 : u < n) : (A.getD u.toNat []).length = n := h.2 _ (getD_mem (d := []) (by rw [h.1]; omega))
theorem sq_inc {n : Nat} {A : List (List Int)} (h : sqA n A) {a b : Int} (h0 : 0 ≤ a) (h1 : a < n) : sqA n (incA A a b) := by
  refine ⟨by unfold incA; rw [List.length_set]; exact h.1, fun r hr => ?_⟩
  unfold incA at hr
  rcases List.mem_or_eq_of_mem_set hr with hr | rfl
  · exact h.2 r hr
  · rw [List.length_set]; exact sq_row h h0 h1
theorem cel_inc {n : Nat} {A : List (List Int)} (h : sqA n A) {a b u v : Int} (a0 : 0 ≤ a) (a1 : a < n) (b0 : 0 ≤ b) (b1 : b < n) (u0 : 0 ≤ u) (v0 : 0 ≤ v) :
    celA (incA A a b) u v = celA A u v + (if u = a ∧ v = b then 1 else 0) := by
  unfold celA incA
  by_cases hu : u = a
  · subst hu
    rw [getD_set_same (by rw [h.1]; omega)]
    by_cases hv : v = b
    · subst hv
      rw [getD_set_same (by rw [sq_row h a0 a1]; omega), if_pos ⟨rfl, rfl⟩]
    · rw [getD_set_ne (by omega), if_neg (fun e => hv e.2), Int.add_zero]
  · rw [getD_set_ne (by omega), if_neg (fun e => hu e.1), Int.add_zero]
theorem cnt_j {n : Nat} {x : Int} (x0 : 0 ≤ x) (x1 : x < n) : ∀ (r : List Int) (A : List (List Int)), sqA n A → (∀ y ∈ r, 0 ≤ y ∧ y < (n : Int)) → sqA n (cntJ A x r) ∧ ∀ u v : Int, 0 ≤ u → 0 ≤ v → celA (cntJ A x r) u v = celA A u v + (if u = x then cntI1 v r else 0)
  | [], A, h, _ => ⟨h, fun u v _ _ => by simp only [cntJ, cntI1]; split <;> omega⟩
  | y :: r, A, h, hr => by
    obtain ⟨y0, y1⟩ := hr y (by simp)
    obtain ⟨i1, i2⟩ := cnt_j x0 x1 r (incA A x y) (sq_inc h x0 x1) fun z hz => hr z (by simp [hz])
    refine ⟨i1, fun u v u0 v0 => ?_⟩
    simp only [cntJ]
    rw [i2 u v u0 v0, cel_inc h x0 x1 y0 y1 u0 v0]
    simp only [cntI1]
    by_cases hu : u = x
    · rw [if_pos hu, if_pos hu]
      by_cases hv : v = y
      · rw [if_pos ⟨hu, hv⟩, if_pos hv]; omega
      · rw [if_neg (fun e => hv e.2), if_neg hv]; omega
    · rw [if_neg hu, if_neg hu, if_neg (fun e => hu e.1)]; omega
theorem cnt_i {n : Nat} : ∀ (r : List Int) (A : List (List Int)), sqA n A → (∀ y ∈ r, 0 ≤ y ∧ y < (n : Int)) → sqA n (cntI A r) ∧ ∀ u v : Int, 0 ≤ u → 0 ≤ v → celA (cntI A r) u v = celA A u v + prI u v r
  | [], A, h, _ => ⟨h, fun u v _ _ => by simp only [cntI, prI]; omega⟩
  | x :: r, A, h, hr => by
    obtain ⟨x0, x1⟩ := hr x (by simp)
    obtain ⟨j1, j2⟩ := cnt_j x0 x1 r A h fun z hz => hr z (by simp [hz])
    obtain ⟨i1, i2⟩ := cnt_i r (cntJ A x r) j1 fun z hz => hr z (by simp [hz])
    refine ⟨i1, fun u v u0 v0 => ?_⟩
    simp only [cntI, prI]
    rw [i2 u v u0 v0, j2 u v u0 v0]; omega
theorem cnt_k {n : Nat} : ∀ (l : List (List D)) (A : List (List Int)), sqA n A → (∀ d ∈ l, isOrd n (rowI d)) → sqA n (cntK A l) ∧ ∀ u v : Int, 0 ≤ u → 0 ≤ v → celA (cntK A l) u v = celA A u v + prK u v l
  | [], A, h, _ => ⟨h, fun u v _ _ => by simp only [cntK, prK]; omega⟩
  | d :: l, A, h, hl => by
    obtain ⟨j1, j2⟩ := cnt_i (rowI d) A h (hl d (by simp)).2.1
    obtain ⟨i1, i2⟩ := cnt_k l (cntI A (rowI d)) j1 fun z hz => hl z (by simp [hz])
    refine ⟨i1, fun u v u0 v0 => ?_⟩
    simp only [cntK, prK]
    rw [i2 u v u0 v0, j2 u v u0 v0]; omega
theorem cnt1_nn (v : Int) : ∀ r : List Int, 0 ≤ cntI1 v r
  | [] => Int.le_refl _
  | x :: r => by
    have := cnt1_nn v r
    simp only [cntI1]; split <;> omega
theorem cnt1_not {v : Int} : ∀ {r : List Int}, v ∉ r → cntI1 v r = 0
  | [], _ => rfl
  | x :: r, h => by
    rw [List.mem_cons, not_or] at h
    simp only [cntI1]
    rw [if_neg h.1, cnt1_not h.2]; rfl
theorem cnt1_nodup {v : Int} : ∀ {r : List Int}, r.Nodup → cntI1 v r = bif memB v r then 1 else 0
  | [], _ => rfl
  | x :: r, h => by
    rw [List.nodup_cons] at h
    simp only [cntI1]
    by_cases hv : v = x
    · subst hv
      rw [if_pos rfl, cnt1_not h.1]
      have : memB v (v :: r) = true := memB_mem.2 (by simp)
      rw [this]; rfl
    · rw [if_neg hv, cnt1_nodup h.2, Int.zero_add]
      have : memB v (x :: r) = memB v r := by
        cases hm : memB v r with
        | true => exact memB_mem.2 (by simp [memB_mem.1 hm])
        | false => exact memB_not.2 (by simp [hv, memB_not.1 hm])
      rw [this]
theorem cnt1_le {v : Int} {r : List Int} (h : r.Nodup) : cntI1 v r ≤ 1 := by
  rw [cnt1_nodup h]
  cases memB v r <;> decide
theorem pr_nn (u v : Int) : ∀ r : List Int, 0 ≤ prI u v r
  | [] => Int.le_refl _
  | x :: r => by
    have := pr_nn u v r
    have := cnt1_nn v r
    simp only [prI]; split <;> omega
theorem pr_not {u v : Int} : ∀ {r : List Int}, u ∉ r → prI u v r = 0
  | [], _ => rfl
  | x :: r, h => by
    rw [List.mem_cons, not_or] at h
    simp only [prI]
    rw [if_neg h.1, pr_not h.2]; rfl
theorem pr_le {u v : Int} : ∀ {r : List Int}, r.Nodup → prI u v r ≤ 1
  | [], _ => Int.le_of_lt (show (0 : Int) < 1 by decide)
  | x :: r, h => by
    rw [List.nodup_cons] at h
    simp only [prI]
    by_cases hu : u = x
    · subst hu
      rw [if_pos rfl, pr_not h.1]
      have := cnt1_le (v := v) h.2
      omega
    · rw [if_neg hu]
      have := pr_le (u := u) (v := v) h.2
      omega
theorem pr_diag {u : Int} : ∀ {r : List Int}, r.Nodup → prI u u r = 0
  | [], _ => rfl
  | x :: r, h => by
    rw [List.nodup_cons] at h
    simp only [prI]
    rw [pr_diag h.2]
    by_cases hu : u = x
    · subst hu; rw [if_pos rfl, cnt1_not h.1]; rfl
    · rw [if_neg hu]; rfl
theorem ag_pr {x y : Int} (hxy : x ≠ y) : ∀ {L : List Int}, L.Nodup → agA x y L = prI y x L
  | [], _ => rfl
  | z :: r, h => by
    rw [List.nodup_cons] at h
    simp only [agA, prI]
    rw [ag_pr hxy h.2]
    by_cases hz : y = z
    · subst hz
      rw [if_pos rfl, cnt1_nodup h.2]
      have : memB x (y :: r) = memB x r := by
        cases hm : memB x r with
        | true => exact memB_mem.2 (by simp [memB_mem.1 hm])
        | false => exact memB_not.2 (by simp [hxy, memB_not.1 hm])
      rw [this, beq_self_eq_true, Bool.true_and]
    · rw [if_neg hz, show (z == y) = false from beq_eq_false_iff_ne.2 (fun e => hz e.symm)]; rfl
theorem agJ_col {L : List Int} (hL : L.Nodup) {x : Int} : ∀ {r : List Int}, x ∉ r → agJ L x r = colS (fun u v => prI u v L) x r
  | [], _ => rfl
  | y :: r, h => by
    rw [List.mem_cons, not_or] at h
    simp only [agJ, colS]
    rw [ag_pr h.1 hL, agJ_col hL h.2]
theorem agI_tri {L : List Int} (hL : L.Nodup) : ∀ {q : List Int}, q.Nodup → agI L q = triR (fun u v => prI u v L) q
  | [], _ => rfl
  | x :: r, h => by
    rw [List.nodup_cons] at h
    simp only [agI, triR]
    rw [agJ_col hL h.1, agI_tri hL h.2]
theorem colS_add (f g : Int → Int → Int) (x : Int) : ∀ l : List Int, colS (fun u v => f u v + g u v) x l = colS f x l + colS g x l
  | [] => rfl
  | y :: l => by
    simp only [colS]
    rw [colS_add f g x l]; omega
theorem triR_add (f g : Int → Int → Int) : ∀ l : List Int, triR (fun u v => f u v + g u v) l = triR f l + triR g l
  | [] => rfl
  | x :: l => by
    simp only [triR]
    rw [colS_add, triR_add f g l]; omega
theorem colS_zero (x : Int) : ∀ l : List Int, colS (fun _ _ => 0) x l = 0
  | [] => rfl
  | y :: l => by simp only [colS]; rw [colS_zero x l]; rfl
theorem triR_zero : ∀ l : List Int, triR (fun _ _ => 0) l = 0
  | [] => rfl
  | x :: l => by simp only [triR]; rw [colS_zero, triR_zero l]; rfl
theorem agK_tri {q : List Int} (hq : q.Nodup) : ∀ {l : List (List D)}, (∀ d ∈ l, (rowI d).Nodup) → agK q l = triR (fun u v => prK u v l) q
  | [], _ => (triR_zero q).symm
  | d :: l, h => by
    simp only [agK, prK]
    rw [triR_add, agI_tri (h d (by simp)) hq, agK_tri hq fun z hz => h z (by simp [hz])]
theorem triR_eq {f g : Int → Int → Int} {P : Int → Prop} (h : ∀ x y, P x → P y → f x y = g x y) {l : List Int} (hl : ∀ y ∈ l, P y) : triR f l = triR g l :=
  Int.le_antisymm (triR_le (fun x y hx hy => Int.le_of_eq (h x y hx hy)) hl) (triR_le (fun x y hx hy => Int.le_of_eq (h x y hx hy).symm) hl)
theorem prK_bound {u v : Int} : ∀ {l : List (List D)}, (∀ d ∈ l, (rowI d).Nodup) → 0 ≤ prK u v l ∧ prK u v l ≤ l.length
  | [], _ => by simp [prK]
  | d :: l, h => by
    have h1 := prK_bound (u := u) (v := v) fun z hz => h z (List.mem_cons_of_mem d hz)
    have h2 := pr_nn u v (rowI d)
    have h3 := pr_le (u := u) (v := v) (h d (by simp))
    simp only [prK, List.length_cons]; omega
theorem prK_diag {u : Int} : ∀ {l : List (List D)}, (∀ d ∈ l, (rowI d).Nodup) → prK u u l = 0
  | [], _ => rfl
  | d :: l, h => by
    simp only [prK]
    rw [prK_diag fun z hz => h z (List.mem_cons_of_mem d hz), pr_diag (h d (by simp))]; rfl
def rowsD (A : List (List Int)) : List (List D) := A.map fun r => [D.ints r]
theorem rowsD_at (A : List (List Int)) (i : Nat) : rowD (rowsD A) i = A.getD i [] := by
  unfold rowD rowsD
  by_cases h : i < A.length
  · rw [List.getD, List.getElem?_map, List.getElem?_eq_getElem h, List.getD, List.getElem?_eq_getElem h]; rfl
  · rw [List.getD, List.getElem?_map, List.getElem?_eq_none (by omega), List.getD, List.getElem?_eq_none (by omega)]; rfl
theorem celP_rows (A : List (List Int)) (u v : Int) : celP (rowsD A) u v = celA A u v := by
  unfold celP celA
  rw [rowsD_at]
theorem rowE_ok {i : Int} : ∀ {l : List Int} {j : Int}, (∀ k : Nat, k < l.length → 0 ≤ l.getD k 0 ∧ l.getD k 0 ≤ 1000 ∧ (i = j + k → l.getD k 0 = 0)) → rowE i j l = 0
  | [], _, _ => rfl
  | n :: l, j, h => by
    obtain ⟨h0, h1, h2⟩ := h 0 (by simp)
    simp only [List.getD_cons_zero] at h0 h1 h2
    have hc : cellE i j n = 0 := by
      unfold cellE withinG
      rw [decide_eq_true h0, decide_eq_true h1]
      by_cases hij : i = j
      · have : n = 0 := h2 (by omega)
        subst this
        rw [hij, bne_self_eq_false]; rfl
      · rw [bne_tt' hij]; rfl
    simp only [rowE]
    rw [hc]
    refine rowE_ok (i := i) fun k hk => ?_
    have := h (k + 1) (by simpa using hk)
    simp only [List.getD_cons_succ] at this
    exact ⟨this.1, this.2.1, fun e => this.2.2 (by omega)⟩
theorem rowsE_ok : ∀ {p : List (List D)} {i : Int}, (∀ k : Nat, k < p.length → rowE (i + k) 0 (rowD p k) = 0) → rowsE i p = 0
  | [], _, _ => rfl
  | d :: p, i, h => by
    have h0 := h 0 (by simp)
    rw [show i + ((0 : Nat) : Int) = i by omega] at h0
    have h0' : rowE i 0 (rowI d) = 0 := h0
    simp only [rowsE]
    rw [h0']
    refine rowsE_ok fun k hk => ?_
    have := h (k + 1) (by simpa using hk)
    rw [show i + ((k + 1 : Nat) : Int) = i + 1 + (k : Int) by omega] at this
    exact this
theorem pref_ok {n : Nat} (hn : n ≤ 6) {A : List (List Int)} (h : sqA n A) (hr : ∀ u v : Int, 0 ≤ u → u < n → 0 ≤ v → v < n → 0 ≤ celA A u v ∧ celA A u v ≤ 1000) (hd : ∀ u : Int, 0 ≤ u → u < n → celA A u u = 0) : prefE (rowsD A) = 0 := by
  have hl : (rowsD A).length = n := by unfold rowsD; rw [List.length_map]; exact h.1
  have ha : anySh ((rowsD A).length : Int) (rowsD A) = false := by
    unfold anySh
    rw [List.any_eq_false]
    intro d hd
    unfold rowsD at hd
    obtain ⟨r, hr, rfl⟩ := List.mem_map.1 hd
    have : (rowI [D.ints r]).length = n := h.2 r hr
    rw [this, hl]; simp
  have hh : headE (rowsD A) = 0 := by
    unfold headE
    rw [ha, decide_eq_true (show ((rowsD A).length : Int) ≤ 6 by rw [hl]; omega)]; rfl
  unfold prefE
  rw [hh]
  refine rowsE_ok fun k hk => ?_
  rw [rowsD_at, Int.zero_add]
  rw [hl] at hk
  have e : ((k : Int)).toNat = k := by omega
  have hlen := sq_row h (u := (k : Int)) (by omega) (by omega)
  rw [e] at hlen
  refine rowE_ok fun j hj => ?_
  rw [hlen] at hj
  have hc : celA A (k : Int) (j : Int) = (A.getD k []).getD j 0 := rfl
  have h1 := hr (k : Int) (j : Int) (by omega) (by omega) (by omega) (by omega)
  rw [hc] at h1
  refine ⟨h1.1, h1.2, fun ej => ?_⟩
  have : (k : Int) = j := by omega
  have h2 := hd (k : Int) (by omega) (by omega)
  rw [show celA A (k : Int) (k : Int) = celA A (k : Int) (j : Int) by rw [this], hc] at h2
  exact h2
theorem colS_nn {f : Int → Int → Int} (h : ∀ u v, 0 ≤ f u v) (x : Int) : ∀ l : List Int, 0 ≤ colS f x l
  | [] => Int.le_refl _
  | y :: l => by
    have := colS_nn h x l
    have := h y x
    simp only [colS]; omega
theorem triR_nn {f : Int → Int → Int} (h : ∀ u v, 0 ≤ f u v) : ∀ l : List Int, 0 ≤ triR f l
  | [] => Int.le_refl _
  | x :: l => by
    have := triR_nn h l
    have := colS_nn h x l
    simp only [triR]; omega
theorem colS_mem {f : Int → Int → Int} (h : ∀ u v, 0 ≤ f u v) {x y : Int} : ∀ {l : List Int}, y ∈ l → f y x ≤ colS f x l
  | z :: l, hy => by
    have h2 := colS_nn h x l
    simp only [colS]
    rcases List.mem_cons.1 hy with rfl | hy
    · omega
    · have := colS_mem h (x := x) hy
      have := h z x
      omega
theorem agree_one : ∀ {o q : List Int}, o.Perm q → q.Nodup → triR (fun u v => prI u v q) o = 0 → o = q
  | [], q, hp, _, _ => (List.nil_perm.1 hp).symm
  | x :: r, [], hp, _, _ => by simp at hp
  | x :: r, y :: s, hp, hn, h => by
    have hnn : ∀ u v : Int, 0 ≤ (fun u v => prI u v (y :: s)) u v := fun u v => pr_nn u v _
    simp only [triR] at h
    have t1 := triR_nn hnn r
    have t2 := colS_nn hnn x r
    rw [List.nodup_cons] at hn
    have hxy : x = y := by
      refine Classical.byContradiction fun hxy => ?_
      have hy : y ∈ r := by
        have : y ∈ x :: r := hp.mem_iff.2 (by simp)
        rcases List.mem_cons.1 this with e | e
        · exact absurd e.symm hxy
        · exact e
      have hx : x ∈ s := by
        have : x ∈ y :: s := hp.mem_iff.1 (by simp)
        rcases List.mem_cons.1 this with e | e
        · exact absurd e hxy
        · exact e
      have h3 := colS_mem hnn (x := x) hy
      have h4 : prI y x (y :: s) = 1 := by
        simp only [prI]
        rw [if_pos trivial, cnt1_nodup hn.2, memB_mem.2 hx, pr_not hn.1]; rfl
      rw [h4] at h3
      omega
    subst hxy
    have hp2 : r.Perm s := (List.perm_cons x).1 hp
    have hr : triR (fun u v => prI u v s) r ≤ triR (fun u v => prI u v (x :: s)) r := triR_le (P := fun _ => True) (fun u v _ _ => by
      have := cnt1_nn v s
      simp only [prI]; split <;> omega) fun _ _ => trivial
    have hz := triR_nn (fun u v => pr_nn u v s) r
    rw [agree_one hp2 hn.2 (by omega)]
theorem tri_self : ∀ {q : List Int}, q.Nodup → triR (fun u v => prI u v q) q = 0
  | [], _ => rfl
  | x :: s, hn => by
    rw [List.nodup_cons] at hn
    have h1 : triR (fun u v => prI u v (x :: s)) s = triR (fun u v => prI u v s) s := triR_eq (P := fun z => z ∈ s) (fun u v hu _ => by
      simp only [prI]
      rw [if_neg (fun e => hn.1 (by rw [← e]; exact hu)), Int.zero_add]) fun _ h => h
    have h2 : colS (fun u v => prI u v (x :: s)) x s = 0 := by
      have : ∀ l : List Int, (∀ y ∈ l, y ∈ s) → colS (fun u v => prI u v (x :: s)) x l = 0 := by
        intro l
        induction l with
        | nil => intro _; rfl
        | cons y l ih =>
          intro hl
          have hy := hl y (by simp)
          simp only [colS]
          rw [ih fun z hz => hl z (by simp [hz]), prI, if_neg (fun e => hn.1 (by rw [← e]; exact hy)), Int.zero_add, Int.add_zero]
          -- x stands before y: not behind it
          have : ∀ w : List Int, x ∉ w → prI y x w = 0 := by
            intro w
            induction w with
            | nil => intro _; rfl
            | cons z w ih2 =>
              intro hx
              rw [List.mem_cons, not_or] at hx
              simp only [prI]
              rw [ih2 hx.2, cnt1_not hx.2]; split <;> rfl
          exact this s hn.1
      exact this s fun _ h => h
    simp only [triR]
    rw [h2, h1, tri_self hn.2]; rfl
theorem rank_facts {n : Nat} (hn : n ≤ 5) {Z : List (List Int)} (hZ : sqA n Z) (h0 : ∀ u v : Int, celA Z u v = 0) {l : List (List D)} (hl : ∀ d ∈ l, isOrd n (rowI d)) (h9 : l.length ≤ 9) :
    prefE (rowsD (cntK Z l)) = 0 ∧ ordE n (bsO (rowsD (cntK Z l))) = 0 ∧ bsN (rowsD (cntK Z l)) = agK (bsO (rowsD (cntK Z l))) l ∧ bdV (rowsD (cntK Z l)) ≤ bsN (rowsD (cntK Z l)) ∧
    (∀ o, ordE n o = 0 → bsN (rowsD (cntK Z l)) ≤ agK o l) ∧ (1 ≤ l.length → sameAll (rowD l 0) l = true → bsN (rowsD (cntK Z l)) = 0 ∧ bdV (rowsD (cntK Z l)) = 0 ∧ bsO (rowsD (cntK Z l)) = rowD l 0) := by
  obtain ⟨k1, k2⟩ := cnt_k l Z hZ hl
  generalize hA : cntK Z l = A at k1 k2 ⊢
  have hnd : ∀ d ∈ l, (rowI d).Nodup := fun d hd => (hl d hd).2.2
  have hcel : ∀ u v : Int, 0 ≤ u → 0 ≤ v → celA A u v = prK u v l := fun u v hu hv => by rw [k2 u v hu hv, h0]; omega
  have hpE : prefE (rowsD A) = 0 := pref_ok (by omega) k1 (fun u v u0 _ v0 _ => by
    rw [hcel u v u0 v0]
    have := prK_bound (u := u) (v := v) hnd
    omega) fun u u0 _ => by rw [hcel u u u0 u0, prK_diag hnd]
  have hlen : (rowsD A).length = n := by unfold rowsD; rw [List.length_map]; exact k1.1
  obtain ⟨b1, b2, _, b3⟩ := best_facts hpE
  rw [hlen] at b1 b3
  have hdis : ∀ o, isOrd n o → disG (rowsD A) o = agK o l := fun o ho => by
    rw [dis_r, agK_tri ho.2.2 hnd]
    exact triR_eq (P := fun x => 0 ≤ x) (fun x y hx hy => by rw [celP_rows, hcel x y hx hy]) fun y hy => (ho.2.1 y hy).1
  have hbd : bdV (rowsD A) = bndG (rowsD A) := by unfold bdV; rw [hpE]; rfl
  have hle := bnd_le (p := rowsD A) (by rw [hlen]; omega) (o := bsO (rowsD A)) (by rw [hlen]; exact b1)
  refine ⟨hpE, ord_ordE b1, by rw [b2, hdis _ b1], by rw [hbd, b2]; exact hle, fun o ho => ?_, fun h1 hs => ?_⟩
  · have := (b3 o (ordE_ord ho)).1
    rw [hdis o (ordE_ord ho)] at this
    exact this
  · have hs' : ∀ d ∈ l, rowI d = rowD l 0 := fun d hd => by
      have := List.all_eq_true.1 hs d hd
      exact eq_of_beq this
    obtain ⟨d0, r0, rfl⟩ : ∃ d0 r0, l = d0 :: r0 := by
      cases l with
      | nil => simp at h1
      | cons a b => exact ⟨a, b, rfl⟩
    have hq : rowD (d0 :: r0) 0 = rowI d0 := rfl
    rw [hq] at hs' ⊢
    have hord := hl d0 (by simp)
    have hz : ∀ r : List (List D), (∀ d ∈ r, rowI d = rowI d0) → agK (rowI d0) r = 0 := by
      intro r
      induction r with
      | nil => intro _; rfl
      | cons d r ih =>
        intro h
        simp only [agK]
        rw [ih fun z hz => h z (by simp [hz]), h d (by simp), agI_tri hord.2.2 hord.2.2, tri_self hord.2.2]; rfl
    have hag := hz (d0 :: r0) hs'
    have hb0 := (b3 (rowI d0) hord).1
    rw [hdis _ hord, hag] at hb0
    have hbn : agK (bsO (rowsD A)) (d0 :: r0) = triR (fun u v => prK u v (d0 :: r0)) (bsO (rowsD A)) := agK_tri b1.2.2 hnd
    have hge := triR_nn (fun u v => (prK_bound (u := u) (v := v) hnd).1) (bsO (rowsD A))
    have e0 : bsN (rowsD A) = 0 := by
      rw [b2, hdis _ b1, hbn] at hb0 ⊢
      omega
    have ht0 : triR (fun u v => prK u v (d0 :: r0)) (bsO (rowsD A)) = 0 := by
      rw [← hbn, ← hdis _ b1, ← b2]; exact e0
    have hone : triR (fun u v => prI u v (rowI d0)) (bsO (rowsD A)) = 0 := by
      have h1 : triR (fun u v => prI u v (rowI d0)) (bsO (rowsD A)) ≤ triR (fun u v => prK u v (d0 :: r0)) (bsO (rowsD A)) := triR_le (P := fun _ => True) (fun u v _ _ => by
        have := (prK_bound (u := u) (v := v) fun z hz => hnd z (List.mem_cons_of_mem d0 hz)).1
        simp only [prK]; omega) fun _ _ => trivial
      have h2 := triR_nn (fun u v => pr_nn u v (rowI d0)) (bsO (rowsD A))
      omega
    have hperm : (bsO (rowsD A)).Perm (rowI d0) := (isOrd_perm (by omega) b1).trans (isOrd_perm (by omega) hord).symm
    have hmin : 0 ≤ bndG (rowsD A) := by
      unfold bndG
      have h1 : triR (fun _ _ => 0) (upTo (rowsD A).length) ≤ triR (minP (rowsD A)) (upTo (rowsD A).length) := triR_le (P := fun x => 0 ≤ x) (fun x y hx hy => by
        unfold minP
        rw [celP_rows, celP_rows, hcel _ _ hx hy, hcel _ _ hy hx]
        have a1 := (prK_bound (u := x) (v := y) hnd).1
        have a2 := (prK_bound (u := y) (v := x) hnd).1
        split <;> omega) fun y hy => (mem_upTo.1 hy).1
      rw [triR_zero] at h1
      exact h1
    refine ⟨e0, ?_, agree_one hperm hord.2.2 hone⟩
    rw [hbd]
    rw [b2] at e0
    omega
end Go.Ev
