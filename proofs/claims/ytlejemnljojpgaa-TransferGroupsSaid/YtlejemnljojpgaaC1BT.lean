/-
  Chapter 1, plain: the pivots of factors of increasing indices are not 0.
-/
import Derived.Test.YtlejemnljojpgaaC1BB
import Derived.Test.YtlejemnljojpgaaC1BD
set_option linter.unusedVariables false
set_option linter.unusedSimpArgs false
set_option linter.unusedSectionVars false
namespace Go.Ev.Pl
open Go Go.Proofs Go.Ev
set_option maxRecDepth 20000
set_option linter.unusedVariables false
set_option linter.unusedSimpArgs false
def fN (n : Nat) (k : Nat → Bool) : Bool := match n with | 0 => k 0 | m + 1 => k (m + 1)
theorem fN_eq (n : Nat) (k : Nat → Bool) : fN n k = k n := by cases n <;> rfl
def fL : List Nat → (List Nat → Bool) → Bool
  | [], k => k []
  | x :: l, k => fN x fun y => fL l fun m => k (y :: m)
theorem fL_eq : ∀ (l : List Nat) (k : List Nat → Bool), fL l k = k l
  | [], _ => rfl
  | x :: l, k => by show fN x _ = _; rw [fN_eq, fL_eq l]
def fM : List (List Nat) → (List (List Nat) → Bool) → Bool
  | [], k => k []
  | x :: l, k => fL x fun y => fM l fun m => k (y :: m)
theorem fM_eq : ∀ (l : List (List Nat)) (k : List (List Nat) → Bool), fM l k = k l
  | [], _ => rfl
  | x :: l, k => by show fL x _ = _; rw [fL_eq, fM_eq l]
def invN (a : Nat) : Nat → Nat → (Nat → Bool) → Bool
  | 0, out, k => k out
  | c + 1, out, k => fN ((out * out % 65537) * a % 65537) fun o => invN a c o k
def scN (R : List Nat) (s : Nat) : List Nat := R.map fun x => x * s % 65537
def elN : List Nat → List Nat → Nat → List Nat
  | p :: P, r :: R, b => (r + (65537 - b * p % 65537)) % 65537 :: elN P R b
  | _, _, _ => []
def othN (P : List Nat) (c : Nat) : Nat → List (List Nat) → List (List Nat)
  | _, [] => []
  | r, R :: l => (bif r == c then P else elN P R (R.getD c 0)) :: othN P c (r + 1) l
def pivN : Nat → Nat → List (List Nat) → Bool
  | 0, _, _ => true
  | f + 1, c, rows => fN ((rows.getD c []).getD c 0) fun p => bif p == 0 then false else invN p 16 1 fun s => fL (scN (rows.getD c []) s) fun P => fM (othN P c 0 rows) fun rows' => pivN f (c + 1) rows'
def tabN : List Nat := [0, 1, 32769, 21846, 49153, 26215, 10923, 18725, 57345, 7282, 45876, 5958, 38230, 15124, 42131, 30584]
def incN (k : List Nat → Bool) : Nat → Nat → Nat → List Nat → Bool
  | _, _, 0, acc => k acc
  | _, 0, _ + 1, _ => true
  | a, m + 1, n + 1, acc => incN k (a + 1) m n (acc ++ [a]) && incN k (a + 1) m (n + 1) acc
def facN (L K : List Nat) : List (List Nat) := K.map fun j => L.map fun i => tabN.getD (4 + i - j) 0
def chkN (n : Nat) : Bool := incN (fun L => fL L fun L => incN (fun K => fL K fun K => fM (facN L K) fun M => pivN n 0 M) 0 4 n []) 0 12 n []
theorem chk1 : chkN 1 = true := by decide +kernel
theorem chk2 : chkN 2 = true := by decide +kernel
theorem chk3 : chkN 3 = true := by decide +kernel
theorem chk4 : chkN 4 = true := by decide +kernel
def toR (R : List Nat) : List Int := R.map fun (x : Nat) => (x : Int)
def toM (M : List (List Nat)) : List (List Int) := M.map toR
theorem getD_toR (R : List Nat) (i : Nat) : (toR R).getD i 0 = ((R.getD i 0 : Nat) : Int) := by
  unfold toR
  simp only [List.getD_eq_getElem?_getD, List.getElem?_map]
  cases R[i]? <;> rfl
theorem getD_toM (M : List (List Nat)) (i : Nat) : (toM M).getD i [] = toR (M.getD i []) := by
  unfold toM
  simp only [List.getD_eq_getElem?_getD, List.getElem?_map]
  cases M[i]? <;> rfl
theorem invN_eq (a : Nat) (k : Nat → Bool) : ∀ (c out : Nat), invN a c out k = k (refInvG (a : Int) c (out : Int)).toNat
  | 0, out => by unfold invN refInvG; rw [Int.toNat_natCast]
  | c + 1, out => by
    show fN _ _ = _
    rw [fN_eq, invN_eq a k c]
    have e : refInvG (a : Int) (c + 1) (out : Int) = refInvG (a : Int) c (((out : Int) * (out : Int)).tmod 65537 * (a : Int) |>.tmod 65537) := rfl
    rw [e]
    congr 3
theorem refInv_nn (a : Nat) : ∀ (c out : Nat), 0 ≤ refInvG (a : Int) c (out : Int)
  | 0, out => by unfold refInvG; omega
  | c + 1, out => by
    have := refInv_nn a c ((out * out % 65537) * a % 65537)
    unfold refInvG
    exact this
theorem sc_nat (R : List Nat) (s : Nat) : scR (toR R) (s : Int) = toR (scN R s) := by
  unfold scR toR scN
  rw [List.map_map, List.map_map]
  refine List.map_congr_left fun x _ => ?_
  show modG ((x : Int) * (s : Int)) = ((x * s % 65537 : Nat) : Int)
  rw [modG_emod]; omega
theorem el_nat : ∀ (P R : List Nat) (b : Nat), elR (toR P) (toR R) (b : Int) = toR (elN P R b)
  | [], _, _ => rfl
  | _ :: _, [], _ => rfl
  | p :: P, r :: R, b => by
    show modG ((r : Int) - modG ((b : Int) * (p : Int))) :: elR (toR P) (toR R) (b : Int) = (((r + (65537 - b * p % 65537)) % 65537 : Nat) : Int) :: toR (elN P R b)
    rw [el_nat P R b, modG_emod, modG_emod]
    congr 1
    have e : (b : Int) * (p : Int) = ((b * p : Nat) : Int) := by omega
    rw [e]
    generalize b * p = z
    omega
theorem oth_nat (P : List Nat) (c : Nat) : ∀ (l : List (List Nat)) (r : Nat), othN P c r l = (List.range l.length).map fun i => bif (r + i) == c then P else elN P (l.getD i []) ((l.getD i []).getD c 0)
  | [], _ => rfl
  | R :: l, r => by
    unfold othN
    rw [oth_nat P c l (r + 1), List.length_cons, List.range_succ_eq_map, List.map_cons, List.map_map]
    congr 1
    refine List.map_congr_left fun i _ => ?_
    show (bif (r + 1 + i) == c then P else _) = (bif (r + (i + 1)) == c then P else _)
    rw [show r + 1 + i = r + (i + 1) by omega]
    rfl
theorem stp_nat (c : Nat) (M : List (List Nat)) (s : Nat) (hs : invG ((M.getD c []).getD c 0 : Nat) = (s : Int)) : stp c (toM M) = toM (othN (scN (M.getD c []) s) c 0 M) := by
  unfold stp
  rw [oth_nat]
  unfold toM
  rw [List.length_map, List.map_map]
  refine List.map_congr_left fun i _ => ?_
  have e1 : ∀ i, (M.map toR).getD i [] = toR (M.getD i []) := getD_toM M
  rw [e1, e1, getD_toR, getD_toR, hs, sc_nat, el_nat]
  show _ = toR (bif (0 + i) == c then _ else _)
  rw [Nat.zero_add]
  cases (i == c) <;> rfl
theorem elN_lt : ∀ (P R : List Nat) (b : Nat), ∀ x ∈ elN P R b, x < 65537
  | [], _, _ => by intro x hx; cases hx
  | _ :: _, [], _ => by intro x hx; cases hx
  | p :: P, r :: R, b => by
    intro x hx
    unfold elN at hx
    rcases List.mem_cons.1 hx with h | h
    · rw [h]; exact Nat.mod_lt _ (by decide)
    · exact elN_lt P R b x h
theorem scN_lt (R : List Nat) (s : Nat) : ∀ x ∈ scN R s, x < 65537 := by
  intro x hx
  obtain ⟨y, _, rfl⟩ := List.mem_map.1 hx
  exact Nat.mod_lt _ (by decide)
theorem oth_lt (P : List Nat) (hP : ∀ x ∈ P, x < 65537) (c : Nat) : ∀ (l : List (List Nat)) (r : Nat), ∀ R ∈ othN P c r l, ∀ x ∈ R, x < 65537
  | [], _ => by intro R hR; cases hR
  | R0 :: l, r => by
    intro R hR
    unfold othN at hR
    rcases List.mem_cons.1 hR with h | h
    · rw [h]
      cases (r == c) with
      | true => exact hP
      | false => exact elN_lt P R0 _
    · exact oth_lt P hP c l (r + 1) R h
theorem getD_lt {M : List (List Nat)} (h : ∀ R ∈ M, ∀ x ∈ R, x < 65537) (i j : Nat) : (M.getD i []).getD j 0 < 65537 := by
  simp only [List.getD_eq_getElem?_getD]
  cases hi : M[i]? with
  | none => simp
  | some R =>
    simp only [Option.getD_some]
    cases hj : R[j]? with
    | none => simp
    | some x => exact h R (List.mem_of_getElem? hi) x (List.mem_of_getElem? hj)
theorem pivN_sound : ∀ (f c : Nat) (M : List (List Nat)), (∀ R ∈ M, ∀ x ∈ R, x < 65537) → pivN f c M = true → pivF f c (toM M)
  | 0, _, _, _, _ => trivial
  | f + 1, c, M, hM, h => by
    unfold pivN at h
    rw [fN_eq] at h
    have hlt := getD_lt hM c c
    cases hp : ((M.getD c []).getD c 0 == 0) with
    | true => rw [hp] at h; cases h
    | false =>
      rw [hp, cond_false, invN_eq, fL_eq, fM_eq] at h
      have hr : invG (((M.getD c []).getD c 0 : Nat) : Int) = refInvG (((M.getD c []).getD c 0 : Nat) : Int) 16 1 := (inv_ref ⟨by omega, by omega⟩).1
      have hn := refInv_nn ((M.getD c []).getD c 0) 16 1
      have hs : invG (((M.getD c []).getD c 0 : Nat) : Int) = (((refInvG (((M.getD c []).getD c 0 : Nat) : Int) 16 ((1 : Nat) : Int)).toNat : Nat) : Int) := by
        rw [hr, Int.toNat_of_nonneg hn]; rfl
      refine ⟨?_, ?_⟩
      · rw [getD_toM, getD_toR]
        have : (M.getD c []).getD c 0 ≠ 0 := by simpa using hp
        omega
      · rw [stp_nat c M _ hs]
        exact pivN_sound f (c + 1) _ (oth_lt _ (scN_lt _ _) c M 0) h
theorem take_getD {R : List Int} {n c : Nat} (h : c < n) : (R.take n).getD c 0 = R.getD c 0 := by
  simp only [List.getD_eq_getElem?_getD, List.getElem?_take, if_pos h]
theorem map_take_getD (rows : List (List Int)) (n i : Nat) : (rows.map (List.take n)).getD i [] = (rows.getD i []).take n := by
  simp only [List.getD_eq_getElem?_getD, List.getElem?_map]
  cases rows[i]? with
  | none => simp
  | some R => rfl
theorem scR_take (R : List Int) (s : Int) (n : Nat) : (scR R s).take n = scR (R.take n) s := by
  unfold scR; rw [List.map_take]
theorem elR_take : ∀ (P R : List Int) (b : Int) (n : Nat), (elR P R b).take n = elR (P.take n) (R.take n) b
  | _, _, _, 0 => by simp [elR]
  | [], _, _, n + 1 => rfl
  | _ :: _, [], _, n + 1 => rfl
  | p :: P, r :: R, b, n + 1 => by
    show modG _ :: (elR P R b).take n = modG _ :: elR (P.take n) (R.take n) b
    rw [elR_take P R b n]
theorem stp_take {n c : Nat} (h : c < n) (rows : List (List Int)) : (stp c rows).map (List.take n) = stp c (rows.map (List.take n)) := by
  unfold stp
  rw [List.map_map, List.length_map]
  refine List.map_congr_left fun i _ => ?_
  rw [map_take_getD, map_take_getD, take_getD h, take_getD h]
  show (bif i == c then _ else _ : List Int).take n = _
  cases (i == c) with
  | true => exact scR_take _ _ _
  | false => rw [cond_false, cond_false, elR_take, scR_take]
theorem pivF_take {n : Nat} : ∀ (f c : Nat) (rows : List (List Int)), c + f ≤ n → pivF f c (rows.map (List.take n)) → pivF f c rows
  | 0, _, _, _, _ => trivial
  | f + 1, c, rows, hc, h => by
    obtain ⟨h1, h2⟩ := h
    rw [map_take_getD, take_getD (by omega)] at h1
    rw [← stp_take (by omega)] at h2
    exact ⟨h1, pivF_take f (c + 1) _ (by omega) h2⟩
theorem inc_sound (k : List Nat → Bool) : ∀ (m a n : Nat) (acc : List Nat) (l : List Int), incN k a m n acc = true → lostF ((a : Int) + m) ((a : Int) - 1) l = 0 → l.length = n → ∃ ln : List Nat, l = toR ln ∧ (∀ x ∈ ln, x < a + m) ∧ k (acc ++ ln) = true
  | m, a, 0, acc, l, h, hl, hn => by
    refine ⟨[], ?_, by simp, ?_⟩
    · rw [List.length_eq_zero_iff.1 hn]; rfl
    · rw [List.append_nil]
      unfold incN at h
      exact h
  | 0, a, n + 1, acc, [], h, hl, hn => by simp at hn
  | 0, a, n + 1, acc, x :: l, h, hl, hn => by
    unfold lostF withinG at hl
    have : ((decide (0 ≤ x) && decide (x ≤ (a : Int) + (0 : Nat) - 1)) && decide (x > (a : Int) - 1)) = false := by
      rw [Bool.eq_false_iff]; intro hh; simp at hh; omega
    cases h1 : (decide (0 ≤ x) && decide (x ≤ (a : Int) + (0 : Nat) - 1)) with
    | false => rw [h1] at hl; simp at hl
    | true =>
      rw [h1, Bool.true_and] at this
      rw [h1, this] at hl; simp at hl
  | m + 1, a, n + 1, acc, [], h, hl, hn => by simp at hn
  | m + 1, a, n + 1, acc, x :: l, h, hl, hn => by
    unfold incN at h
    rw [Bool.and_eq_true] at h
    have eb : (a : Int) + ((m + 1 : Nat) : Int) = ((a + 1 : Nat) : Int) + (m : Int) := by omega
    rw [eb] at hl
    by_cases hx : x = (a : Int)
    · subst hx
      have hl2 : lostF (((a + 1 : Nat) : Int) + (m : Int)) (((a + 1 : Nat) : Int) - 1) l = 0 := by
        unfold lostF withinG at hl
        rw [decide_eq_true (by omega : (0 : Int) ≤ (a : Int)), decide_eq_true (by omega : (a : Int) ≤ ((a + 1 : Nat) : Int) + (m : Int) - 1), decide_eq_true (by omega : (a : Int) > (a : Int) - 1)] at hl
        have e2 : ((a + 1 : Nat) : Int) - 1 = (a : Int) := by omega
        rw [e2]; exact hl
      obtain ⟨ln, h1, h2, h3⟩ := inc_sound k m (a + 1) n (acc ++ [a]) l h.1 hl2 (by simpa using hn)
      refine ⟨a :: ln, by rw [h1]; rfl, ?_, ?_⟩
      · intro y hy
        rcases List.mem_cons.1 hy with e | e
        · omega
        · have := h2 y e; omega
      · rw [List.append_assoc] at h3; exact h3
    · have hl2 : lostF (((a + 1 : Nat) : Int) + (m : Int)) (((a + 1 : Nat) : Int) - 1) (x :: l) = 0 := by
        unfold lostF at hl ⊢
        cases hw : withinG x 0 (((a + 1 : Nat) : Int) + (m : Int) - 1) with
        | false => rw [hw] at hl; simp at hl
        | true =>
          rw [hw, cond_true] at hl
          rw [cond_true]
          cases hd : decide (x > (a : Int) - 1) with
          | false => rw [hd] at hl; simp at hl
          | true =>
            rw [hd, cond_true] at hl
            have : x > (a : Int) - 1 := of_decide_eq_true hd
            rw [decide_eq_true (by omega : x > ((a + 1 : Nat) : Int) - 1), cond_true]
            exact hl
      obtain ⟨ln, h1, h2, h3⟩ := inc_sound k m (a + 1) (n + 1) acc (x :: l) h.2 hl2 hn
      exact ⟨ln, h1, fun y hy => by have := h2 y hy; omega, h3⟩
theorem tab_ok : ∀ d : Fin 16, d.val ≠ 0 → refInvG ((d.val : Nat) : Int) 16 1 = ((tabN.getD d.val 0 : Nat) : Int) := by decide +kernel
theorem fac_tab {x y : Nat} (hx : x < 12) (hy : y < 4) : facG (x : Int) (y : Int) = ((tabN.getD (4 + x - y) 0 : Nat) : Int) := by
  unfold facG
  have e : (4 : Int) + (x : Int) - (y : Int) = ((4 + x - y : Nat) : Int) := by omega
  rw [e]
  have h := tab_ok ⟨4 + x - y, by omega⟩ (by show 4 + x - y ≠ 0; omega)
  rw [modG_small (by omega) (by omega), (inv_ref ⟨by omega, by omega⟩).1]
  exact h
theorem tab_lt (d : Nat) : tabN.getD d 0 < 65537 := by
  by_cases h : d < 16
  · have : ∀ d : Fin 16, tabN.getD d.val 0 < 65537 := by decide
    exact this ⟨d, h⟩
  · have : tabN.getD d 0 = 0 := by
      rw [List.getD_eq_getElem?_getD, List.getElem?_eq_none (by unfold tabN; simp; omega)]; rfl
    omega
theorem fac_rows {ln kn : List Nat} (hl : ∀ x ∈ ln, x < 12) (hk : ∀ y ∈ kn, y < 4) : (toR kn).map (facs (toR ln)) = toM (facN ln kn) := by
  unfold toM facN facs toR
  rw [List.map_map, List.map_map]
  refine List.map_congr_left fun y hy => ?_
  show (ln.map fun (x : Nat) => (x : Int)).map (fun i => facG i (y : Int)) = (ln.map fun i => tabN.getD (4 + i - y) 0).map (fun (x : Nat) => (x : Int))
  rw [List.map_map, List.map_map]
  refine List.map_congr_left fun x hx => ?_
  exact fac_tab (hl x hx) (hk y hy)
theorem piv_ok {n : Nat} {L K : List Int} {rows : List (List Int)} (hn : 1 ≤ n ∧ n ≤ 4) (hL : lostF 12 (-1) L = 0) (hK : lostF 4 (-1) K = 0) (lL : L.length = n) (lK : K.length = n) (hr : rows.map (List.take n) = K.map (facs L)) : pivF n 0 rows := by
  have hc : chkN n = true := by
    have : n = 1 ∨ n = 2 ∨ n = 3 ∨ n = 4 := by omega
    rcases this with rfl | rfl | rfl | rfl
    · exact chk1
    · exact chk2
    · exact chk3
    · exact chk4
  unfold chkN at hc
  obtain ⟨ln, e1, b1, h1⟩ := inc_sound _ 12 0 n [] L hc hL lL
  rw [fL_eq, List.nil_append] at h1
  obtain ⟨kn, e2, b2, h2⟩ := inc_sound _ 4 0 n [] K h1 hK lK
  rw [fL_eq, List.nil_append, fM_eq] at h2
  refine pivF_take (n := n) n 0 rows (by omega) ?_
  rw [hr, e1, e2, fac_rows (fun x hx => by have := b1 x hx; omega) (fun y hy => by have := b2 y hy; omega)]
  refine pivN_sound n 0 _ ?_ h2
  intro R hR x hx
  obtain ⟨y, _, rfl⟩ := List.mem_map.1 hR
  obtain ⟨z, _, rfl⟩ := List.mem_map.1 hx
  exact tab_lt _
end Go.Ev.Pl

namespace Go.Ev.Pl
open Go Go.Proofs Go.Ev
set_option maxRecDepth 20000
set_option linter.unusedVariables false
set_option linter.unusedSimpArgs false
theorem mod_cong {a b c d : Int} (h1 : a % 65537 = b % 65537) (h2 : c % 65537 = d % 65537) : (a + c) % 65537 = (b + d) % 65537 := by
  rw [Int.add_emod, h1, h2, ← Int.add_emod]
end Go.Ev.Pl

namespace Go.Ev.Pl
open Go Go.Proofs Go.Ev
set_option maxRecDepth 20000
set_option linter.unusedVariables false
set_option linter.unusedSimpArgs false
theorem lost_mem : ∀ {L : List Int} {c last : Int}, lostF c last L = 0 → ∀ x ∈ L, last < x ∧ 0 ≤ x ∧ x ≤ c - 1
  | [], _, _, _ => by intro x hx; cases hx
  | y :: L, c, last, h => by
    unfold lostF withinG at h
    cases h1 : (decide (0 ≤ y) && decide (y ≤ c - 1)) with
    | false => rw [h1] at h; simp at h
    | true =>
      rw [h1, cond_true] at h
      cases h2 : decide (y > last) with
      | false => rw [h2] at h; simp at h
      | true =>
        rw [h2, cond_true] at h
        have e2 := of_decide_eq_true h2
        rw [Bool.and_eq_true, decide_eq_true_eq, decide_eq_true_eq] at h1
        intro x hx
        rcases List.mem_cons.1 hx with e | e
        · subst e; exact ⟨e2, h1.1, h1.2⟩
        · obtain ⟨q1, q2, q3⟩ := lost_mem h x e
          exact ⟨by omega, q2, q3⟩
theorem lost_tail {L : List Int} {c last y : Int} (h : lostF c last (y :: L) = 0) : lostF c y L = 0 := by
  unfold lostF at h
  cases h1 : withinG y 0 (c - 1) with
  | false => rw [h1] at h; simp at h
  | true =>
    rw [h1, cond_true] at h
    cases h2 : decide (y > last) with
    | false => rw [h2] at h; simp at h
    | true => rw [h2, cond_true] at h; exact h
theorem memB_iff {v : Int} {l : List Int} : memB v l = true ↔ v ∈ l := by
  unfold memB
  rw [List.any_eq_true]
  constructor
  · rintro ⟨x, hx, e⟩
    rw [eq_of_beq e]; exact hx
  · intro h
    exact ⟨v, h, beq_self_eq_true v⟩
def sumP (ws : List Int) (j : Int) (a : Nat) : Int → List (List Int) → Int
  | _, [] => 0
  | i, xs :: l => (bif memB i ws then 0 else facG i j * (xs.getD a 0 + 32768)) + sumP ws j a (i + 1) l
theorem parR_sum (ws : List Int) (j : Int) (a : Nat) : ∀ (l : List (List Int)) (out i : Int), parR ws j a out i l % 65537 = (out + sumP ws j a i l) % 65537
  | [], out, i => by simp [parR, sumP]
  | xs :: l, out, i => by
    unfold parR sumP
    rw [parR_sum ws j a l]
    cases memB i ws with
    | true => simp
    | false =>
      rw [cond_false, cond_false, modG_emod, modG_emod, modG_emod]
      generalize facG i j = z
      generalize xs.getD a 0 + 32768 = y
      generalize sumP ws j a (i + 1) l = t
      rw [← Int.add_assoc]
      refine mod_cong ?_ rfl
      rw [Int.emod_emod]
      rw [Int.add_emod, Int.emod_emod, Int.mul_emod, Int.emod_emod, ← Int.mul_emod, ← Int.add_emod]
def sameOut (L : List Int) (O O' : List (List Int)) : Prop := O.length = O'.length ∧ ∀ k : Nat, memB (k : Int) L = false → O.getD k [] = O'.getD k []
theorem getD_set {O : List (List Int)} {i k : Nat} {x : List Int} (h : i < O.length) : (O.set i x).getD k [] = if k = i then x else O.getD k [] := by
  simp only [List.getD_eq_getElem?_getD, List.getElem?_set]
  by_cases e : i = k
  · subst e; simp [h]
  · rw [if_neg e, if_neg (fun q => e q.symm)]
theorem putF_len : ∀ (L V : List Int) (a : Nat) (O : List (List Int)), (putF O a L V).length = O.length
  | [], _, _, _ => by simp [putF]
  | _ :: _, [], _, _ => by simp [putF]
  | i :: L, v :: V, a, O => by unfold putF; rw [putF_len L V a, List.length_set]
theorem putF_out : ∀ (L V : List Int) (a : Nat) (O : List (List Int)), (∀ x ∈ L, 0 ≤ x ∧ x < O.length) → ∀ k : Nat, memB (k : Int) L = false → (putF O a L V).getD k [] = O.getD k []
  | [], _, _, _, _, _, _ => by simp [putF]
  | _ :: _, [], _, _, _, _, _ => by simp [putF]
  | i :: L, v :: V, a, O, hi, k, hk => by
    unfold putF
    have h0 := hi i (List.mem_cons_self ..)
    have hk2 : memB (k : Int) L = false ∧ (k : Int) ≠ i := by
      unfold memB at hk ⊢
      rw [List.any_cons, Bool.or_eq_false_iff] at hk
      exact ⟨hk.2, by simpa using hk.1⟩
    rw [putF_out L V a _ (fun x hx => by rw [List.length_set]; exact hi x (List.mem_cons_of_mem _ hx)) k hk2.1, getD_set (by omega), if_neg (by have := hk2.2; omega)]
theorem len8_set {x : List Int} (a : Nat) (v : Int) (h : len8 x = true) : len8 (x.set a v) = true := by unfold len8 at h ⊢; rw [List.length_set]; exact h
theorem putF_len8 : ∀ (L V : List Int) (a : Nat) (O : List (List Int)), O.all len8 = true → (∀ x ∈ L, 0 ≤ x ∧ x < O.length) → (putF O a L V).all len8 = true
  | [], _, _, _, h, _ => by simpa [putF] using h
  | _ :: _, [], _, _, h, _ => by simpa [putF] using h
  | i :: L, v :: V, a, O, h, hi => by
    unfold putF
    have h0 := hi i (List.mem_cons_self ..)
    refine putF_len8 L V a _ ?_ (fun x hx => by rw [List.length_set]; exact hi x (List.mem_cons_of_mem _ hx))
    rw [List.all_eq_true]
    intro x hx
    rcases List.mem_or_eq_of_mem_set hx with e | e
    · exact List.all_eq_true.1 h x e
    · rw [e]
      refine len8_set _ _ (List.all_eq_true.1 h _ ?_)
      rw [List.getD_eq_getElem?_getD, List.getElem?_eq_getElem (by omega)]
      exact List.getElem_mem _
theorem resF_out {D P : List (List Int)} {L K : List Int} : ∀ (f a : Nat) (O : List (List Int)), (∀ x ∈ L, 0 ≤ x ∧ x < O.length) → sameOut L (resF D P L K f a O) O
  | 0, _, _, _ => ⟨rfl, fun _ _ => rfl⟩
  | f + 1, a, O, hi => by
    have h := resF_out (D := D) (P := P) (L := L) (K := K) f (a + 1) (putF O a L (solV (eqsF D P L K a))) (fun x hx => by rw [putF_len]; exact hi x hx)
    exact ⟨by show (resF D P L K f (a + 1) _).length = _; rw [h.1, putF_len], fun k hk => by show (resF D P L K f (a + 1) _).getD k [] = _; rw [h.2 k hk, putF_out _ _ _ _ hi k hk]⟩
theorem resF_len8 {D P : List (List Int)} {L K : List Int} : ∀ (f a : Nat) (O : List (List Int)), O.all len8 = true → (∀ x ∈ L, 0 ≤ x ∧ x < O.length) → (resF D P L K f a O).all len8 = true
  | 0, _, _, h, _ => h
  | f + 1, a, O, h, hi => resF_len8 f (a + 1) _ (putF_len8 _ _ _ _ h hi) (fun x hx => by rw [putF_len]; exact hi x hx)
theorem row_len {O : List (List Int)} (h : O.all len8 = true) {k : Nat} (hk : k < O.length) : (O.getD k []).length = 8 := by
  have := List.all_eq_true.1 h (O.getD k []) (by rw [List.getD_eq_getElem?_getD, List.getElem?_eq_getElem hk]; exact List.getElem_mem hk)
  simpa [len8] using this
theorem lost_take {L : List Int} : ∀ {c last : Int} (n : Nat), lostF c last L = 0 → lostF c last (L.take n) = 0 := by
  induction L with
  | nil => intro c last n _; simp [lostF]
  | cons y L ih =>
    intro c last n h
    cases n with
    | zero => simp [lostF]
    | succ n =>
      have ht := lost_tail h
      obtain ⟨h1, h2, h3⟩ := lost_mem h y (List.mem_cons_self ..)
      show lostF c last (y :: L.take n) = 0
      unfold lostF withinG
      rw [decide_eq_true h2, decide_eq_true h3, decide_eq_true (show y > last from h1)]
      exact ih n ht
theorem lost_wider {L : List Int} : ∀ {c c' last : Int}, c ≤ c' → lostF c last L = 0 → lostF c' last L = 0 := by
  induction L with
  | nil => intro c c' last _ _; rfl
  | cons y L ih =>
    intro c c' last hc h
    have ht := lost_tail h
    obtain ⟨h1, h2, h3⟩ := lost_mem h y (List.mem_cons_self ..)
    unfold lostF withinG
    rw [decide_eq_true h2, decide_eq_true (show y ≤ c' - 1 by omega), decide_eq_true (show y > last from h1)]
    exact ih hc ht
end Go.Ev.Pl
