/-
  Part of the proof of a law.
-/
import Derived.Test.YtophekjofpahfaaC9V
import Derived.Test.YtophekjofpahfaaC9M
import Derived.Test.YtophekjofpahfaaC9Z
import Derived.KernelRfl
set_option linter.unusedVariables false
set_option linter.unusedSimpArgs false
set_option linter.unusedSectionVars false
/-
  Chapter 9, contracts: rankings, the reference and the errors.
-/
namespace Go.Ev
open Go Go.Proofs
set_option maxRecDepth 20000
def okL (p : List (List D)) : Prop := p.length ≤ 1000000000 ∧ ∀ d ∈ p, d = [.ints (rowI d)] ∧ (rowI d).length ≤ 1000000000000
def clL : LSpec := fun vs σ k => match vs, σ with
  | [.one (.data (.recs [.sints .i64] p)), .one .nil, .one (.int .i64 i)], [] => (okL p ∧ i = 0) ∧ bif p.isEmpty then k (.exit 0) [.one .nil] [] else k (.exit 0) [.one (.own 0 1)] [.row 23 (.recs [.sints .i64] p)]
  | [.one (.data (.recs [.sints .i64] p)), .one (.own 0 1), .one (.int .i64 i)], [.row 23 (.recs [.sints .i64] q)] => (okL p ∧ 0 ≤ i ∧ i ≤ p.length ∧ q = p.take i.toNat) ∧ k (.exit 0) [.one (.own 0 1)] [.row 23 (.recs [.sints .i64] p)]
  | _, _ => False
def clS : Spec := fun args σ K => match args, σ with
  | [.one (.data (.recs [.sints .i64] p))], [] => okL p ∧ bif p.isEmpty then K (.one .nil) [] else K (.one (.own 0 1)) [.row 23 (.recs [.sints .i64] p)]
  | _, _ => False
def ordF (c : Int) : List Int → List Int → Int
  | _, [] => 0
  | pre, x :: l => bif withinG x 0 (c - 1) then (bif memB x pre then 25 else ordF c (pre ++ [x]) l) else 6
def ordE (c : Int) (o : List Int) : Int := bif (o.length : Int) != c then 10 else ordF c [] o
def bdA : LSpec := fun vs σ k => match vs, σ with
  | [.one (.data (.recs [.sints .i64] p)), .one (.int .i64 s), .one (.int .i64 n), .one (.int .i64 i)], [] => (okP p ∧ n = p.length ∧ 0 ≤ i ∧ i ≤ n ∧ 0 ≤ s ∧ s ≤ 6000 * i) ∧ k (.exit 0) [.one (.int .i64 (s + triL (minP p) (upTo i.toNat) ((upTo p.length).drop i.toNat)))] []
  | _, _ => False
def bdB : LSpec := fun vs σ k => match vs, σ with
  | [.one (.data (.recs [.sints .i64] p)), .one (.int .i64 s), .one (.int .i64 i), .one (.int .i64 n), .one (.int .i64 g), .one (.int .i64 m), .one (.int .i64 j)], [] => (okP p ∧ n = p.length ∧ m = i ∧ 0 ≤ i ∧ i < n ∧ 0 ≤ j ∧ j ≤ i ∧ 0 ≤ s ∧ s ≤ 6000 * i + 1000 * j) ∧
    k (.exit 2) [.one (.data (.recs [.sints .i64] p)), .one (.int .i64 (s + rowS (minP p) i ((upTo i.toNat).drop j.toNat))), .one (.int .i64 n), .one (.int .i64 g)] []
  | _, _ => False
def bdV (p : List (List D)) : Int := bif prefE p == 0 then bndG p else 0
def bdS : Spec := fun args σ K => match args, σ with
  | [.one (.data (.recs [.sints .i64] p))], [] => p.length ≤ 1000000000 ∧ K (.tup [.one (.int .i64 (bdV p)), .one (.int .i64 (prefE p))]) []
  | _, _ => False
noncomputable abbrev Ecls : Env := envOf Try.prog [(17, copyDS)] [(3, .spec [0, 3, 4] [3] clL)] 20 0
noncomputable abbrev Ebnd : Env := envOf Try.prog [(14, prefS)] [(6, .spec [0, 5, 14, 15] [5] bdA), (9, .spec [0, 5, 6, 14, 15, 18, 19] [0, 5, 14, 15] bdB)] 42 0
end Go.Ev

namespace Go.Ev
open Go Go.Proofs
set_option maxRecDepth 100000
theorem exclsl0a (p : List (List D)) (i : Int) (K : Ex → List AV → List Blk → Prop) : evBody Ecls (lb Try.f8 0) [0, 3, 4] [3] [.one (.data (.recs [.sints .i64] p)), .one .nil, .one (.int .i64 i)] [] K = ( bif decide (i < (↑p.length : Int)) then bif decide (0 ≤ i) && decide (i < (↑p.length : Int)) then bif decide (0 < 1) && decide (i.toNat < p.length) then ((p.getD i.toNat []).getD 0 (D.int 0)).toInts.length ≤ 1000000000000 ∧ K .normal [.one (.data (Row.recs [CK.sints .i64] p)), .one (.own 0 1), .one (.int .i64 (IntKind.i64.wrap (i + 1)))] [Blk.row 23 (Row.recs [CK.sints .i64] [[D.ints ((p.getD i.toNat []).getD 0 (D.int 0)).toInts]])] else False else False else K (.exit 0) [.one .nil] []) := by kernel_rfl
theorem exclsl0b (p : List (List D)) (i : Int) (q : List (List D)) (K : Ex → List AV → List Blk → Prop) : evBody Ecls (lb Try.f8 0) [0, 3, 4] [3] [.one (.data (.recs [.sints .i64] p)), .one (.own 0 1), .one (.int .i64 i)] [.row 23 (.recs [.sints .i64] q)] K = ( bif decide (i < (↑p.length : Int)) then bif decide (0 ≤ i) && decide (i < (↑p.length : Int)) then bif decide (0 < 1) && decide (i.toNat < p.length) then ((p.getD i.toNat []).getD 0 (D.int 0)).toInts.length ≤ 1000000000000 ∧ bif decide ((q ++ [[D.ints ((p.getD i.toNat []).getD 0 (D.int 0)).toInts]]).length * 24 ≤ 140737488355328 ∧ (q ++ [[D.ints ((p.getD i.toNat []).getD 0 (D.int 0)).toInts]]).length ≤ 140737488355328) then K .normal [.one (.data (Row.recs [CK.sints .i64] p)), .one (.own 0 1), .one (.int .i64 (IntKind.i64.wrap (i + 1)))] [Blk.row 23 (Row.recs [CK.sints .i64] (q ++ [[D.ints ((p.getD i.toNat []).getD 0 (D.int 0)).toInts]]))] else False else False else False else K (.exit 0) [.one (.own 0 1)] [Blk.row 23 (Row.recs [CK.sints .i64] q)]) := by kernel_rfl
theorem exbnd (p : List (List D)) (K : AV → List Blk → Prop) : evFn Ebnd Try.f9 [.one (.data (.recs [.sints .i64] p))] [] K = ( p.length ≤ 1000000000 ∧ bif prefE p != 0 then K (AV.tup [.one (.int .i64 0), .one (.int .i64 (prefE p))]) [] else (okP p ∧ (↑p.length : Int) = (↑p.length : Int) ∧ (0 :Int) ≤ (0 :Int) ∧ 0 ≤ (↑p.length : Int) ∧ (0 :Int) ≤ (0 :Int) ∧ (0 :Int) ≤ (0 :Int)) ∧ K (AV.tup [.one (.int .i64 (0 + triL (minP p) (upTo 0) (upTo p.length))), .one (.int .i64 0)]) []) := by kernel_rfl
theorem exbndl0a (p : List (List D)) (s n i : Int) (K : Ex → List AV → List Blk → Prop) : evBody Ebnd (lb Try.f9 0) [0, 5, 14, 15] [5] [.one (.data (.recs [.sints .i64] p)), .one (.int .i64 s), .one (.int .i64 n), .one (.int .i64 i)] [] K = ( bif decide (i < n) then (okP p ∧ n = (↑p.length : Int) ∧ i = i ∧ 0 ≤ i ∧ i < n ∧ (0 :Int) ≤ (0 :Int) ∧ 0 ≤ i ∧ 0 ≤ s ∧ s ≤ 6000 * i + 0) ∧ K .normal [.one (.data (Row.recs [CK.sints .i64] p)), .one (.int .i64 (s + rowS (minP p) i (upTo i.toNat))), .one (.int .i64 n), .one (.int .i64 (IntKind.i64.wrap (i + 1)))] [] else K (.exit 0) [.one (.int .i64 s)] []) := by kernel_rfl
theorem exbndl1a (p : List (List D)) (s i n g m j : Int) (K : Ex → List AV → List Blk → Prop) : evBody Ebnd (lb Try.f9 1) [0, 5, 6, 14, 15, 18, 19] [0, 5, 14, 15] [.one (.data (.recs [.sints .i64] p)), .one (.int .i64 s), .one (.int .i64 i), .one (.int .i64 n), .one (.int .i64 g), .one (.int .i64 m), .one (.int .i64 j)] [] K = ( bif decide (j < m) then bif decide (0 ≤ i) && decide (i < (↑p.length : Int)) then bif decide (0 < 1) && decide (i.toNat < p.length) then bif decide (0 ≤ j) && decide (j < (↑((p.getD i.toNat []).getD 0 (D.int 0)).toInts.length : Int)) then bif decide (j.toNat + 0 < ((p.getD i.toNat []).getD 0 (D.int 0)).toInts.length) then bif decide (0 ≤ j) && decide (j < (↑p.length : Int)) then bif decide (0 < 1) && decide (j.toNat < p.length) then bif decide (0 ≤ i) && decide (i < (↑((p.getD j.toNat []).getD 0 (D.int 0)).toInts.length : Int)) then bif decide (i.toNat + 0 < ((p.getD j.toNat []).getD 0 (D.int 0)).toInts.length) then K .normal [.one (.data (Row.recs [CK.sints .i64] p)), .one (.int .i64 (IntKind.i64.wrap (s + if ((p.getD j.toNat []).getD 0 (D.int 0)).toInts.getD (i.toNat + 0) 0 < ((p.getD i.toNat []).getD 0 (D.int 0)).toInts.getD (j.toNat + 0) 0 then ((p.getD j.toNat []).getD 0 (D.int 0)).toInts.getD (i.toNat + 0) 0 else ((p.getD i.toNat []).getD 0 (D.int 0)).toInts.getD (j.toNat + 0) 0))), .one (.int .i64 i), .one (.int .i64 n), .one (.int .i64 g), .one (.int .i64 m), .one (.int .i64 (IntKind.i64.wrap (j + 1)))] [] else False else False else False else False else False else False else False else False else K (.exit 2) [.one (.data (Row.recs [CK.sints .i64] p)), .one (.int .i64 s), .one (.int .i64 n), .one (.int .i64 g)] []) := by kernel_rfl
end Go.Ev

/-
  Chapter 9: rankings, the reference and the errors: the contracts are kept.
-/
namespace Go.Ev
open Go Go.Proofs
attribute [local irreducible] evFn evBody evRound
set_option maxRecDepth 20000
theorem getD_mem {α : Type} {l : List α} {i : Nat} {d : α} (h : i < l.length) : l.getD i d ∈ l := by rw [getD_of_lt h]; exact List.getElem_mem h
theorem take_step {α : Type} {l : List α} {i : Nat} (d : α) (h : i < l.length) : l.take (i + 1) = l.take i ++ [l.getD i d] := by rw [getD_of_lt h, List.take_succ_eq_append_getElem h]
theorem clstep {p : List (List D)} (hp : okL p) {i : Nat} (h : i < p.length) : p.take i ++ [[D.ints (rowD p i)]] = p.take (i + 1) ∧ (rowD p i).length ≤ 1000000000000 := by
  obtain ⟨e1, e2⟩ := hp.2 _ (getD_mem (d := []) h)
  rw [take_step [] h]
  exact ⟨by congr 2; exact e1.symm, e2⟩
theorem lokcls_0 : LoopOK Ecls (lb Try.f8 0) [0, 3, 4] [3] clL := by
  refine loopOK (.cons okcopyD .nil) (noInner (by kernel_rfl)) (fun vs σ => match vs, σ with
    | [.one (.data (.recs [.sints .i64] p)), .one .nil, .one (.int .i64 i)], [] => (p.length - i).toNat
    | [.one (.data (.recs [.sints .i64] p)), .one (.own 0 1), .one (.int .i64 i)], [.row 23 (.recs [.sints .i64] _)] => (p.length - i).toNat
    | _, _ => 0) fun vs σ k h => ?_
  unfold clL at h
  split at h
  rotate_right
  · exact h.elim
  · rename_i p i
    rw [exclsl0a p i _]
    obtain ⟨⟨hp, rfl⟩, h⟩ := h
    by_cases hi : 0 < p.length
    · have he : p.isEmpty = false := by cases p with | nil => simp at hi | cons a l => rfl
      rw [he] at h
      obtain ⟨c1, c2⟩ := clstep hp hi
      have w2 : IntKind.i64.wrap ((0 : Int) + 1) = 0 + 1 := by decide
      rw [w2, decide_eq_true (show (0 : Int) < (p.length : Int) by omega), decide_eq_true (show (0 : Int).toNat < p.length from hi), decide_eq_true (show (0 : Int) ≤ 0 by decide)]
      exact ⟨c2, ⟨⟨hp, by decide, by omega, c1⟩, h⟩, by show ((p.length : Int) - (0 + 1)).toNat < ((p.length : Int) - 0).toNat; omega⟩
    · have he : p.isEmpty = true := by cases p with | nil => rfl | cons a l => simp at hi
      rw [he] at h
      rw [decide_eq_false (show ¬ (0 : Int) < (p.length : Int) by omega)]
      exact h
  · rename_i p i q
    rw [exclsl0b p i q _]
    obtain ⟨⟨hp, h0, h1, rfl⟩, h⟩ := h
    by_cases hi : i < (p.length : Int)
    · obtain ⟨c1, c2⟩ := clstep hp (show i.toNat < p.length by omega)
      have hp1 := hp.1
      have w2 : IntKind.i64.wrap (i + 1) = i + 1 := wrap_id (by omega) (by omega)
      rw [w2, decide_eq_true hi, decide_eq_true (show i.toNat < p.length by omega), decide_eq_true h0]
      have hlen : (p.take i.toNat ++ [[D.ints (rowD p i.toNat)]]).length = i.toNat + 1 := by rw [c1, List.length_take]; omega
      refine ⟨c2, cond_in (decide_eq_true ?_) ⟨⟨⟨hp, by omega, by omega, by rw [show (i + 1).toNat = i.toNat + 1 by omega]; exact c1⟩, h⟩, by show ((p.length : Int) - (i + 1)).toNat < ((p.length : Int) - i).toNat; omega⟩⟩
      show (p.take i.toNat ++ [[D.ints (rowD p i.toNat)]]).length * 24 ≤ _ ∧ (p.take i.toNat ++ [[D.ints (rowD p i.toNat)]]).length ≤ _
      rw [hlen]
      omega
    · rw [decide_eq_false hi]
      rw [List.take_of_length_le (by omega)]
      exact h
theorem ordF_step {c : Int} {o : List Int} {i : Nat} (h : i < o.length) : ordF c (o.take i) (o.drop i) =
    bif withinG (o.getD i 0) 0 (c - 1) then (bif memB (o.getD i 0) (o.take i) then 25 else ordF c (o.take (i + 1)) (o.drop (i + 1))) else 6 := by
  rw [take_step 0 h]
  conv => lhs; rw [drop_step 0 h]
  rfl
theorem ordF_zero {c : Int} : ∀ (l pre : List Int), ordF c pre l = 0 → (∀ x ∈ l, 0 ≤ x ∧ x < c) ∧ l.Nodup ∧ ∀ x ∈ l, x ∉ pre
  | [], pre, _ => ⟨fun x h => by simp at h, List.nodup_nil, fun x h => by simp at h⟩
  | x :: l, pre, h => by
    simp only [ordF] at h
    cases hw : withinG x 0 (c - 1) with
    | false => rw [hw] at h; simp at h
    | true =>
      rw [hw, cond_true] at h
      cases hm : memB x pre with
      | true => rw [hm] at h; simp at h
      | false =>
        rw [hm, cond_false] at h
        obtain ⟨h1, h2, h3⟩ := ordF_zero l (pre ++ [x]) h
        unfold withinG at hw
        simp only [Bool.and_eq_true, decide_eq_true_eq] at hw
        refine ⟨fun y hy => ?_, List.nodup_cons.2 ⟨fun hx => h3 x hx (by simp), h2⟩, fun y hy => ?_⟩
        · rcases List.mem_cons.1 hy with rfl | hy
          · omega
          · exact h1 y hy
        · rcases List.mem_cons.1 hy with rfl | hy
          · exact memB_not.1 hm
          · exact fun hp => h3 y hy (by simp [hp])
theorem ordE_ord {c : Nat} {o : List Int} (h : ordE c o = 0) : isOrd c o := by
  unfold ordE at h
  by_cases hl : (o.length : Int) = (c : Int)
  · rw [show ((o.length : Int) != (c : Int)) = false by rw [hl]; exact bne_self_eq_false _, cond_false] at h
    obtain ⟨h1, h2, _⟩ := ordF_zero o [] h
    exact ⟨by omega, h1, h2⟩
  · rw [show ((o.length : Int) != (c : Int)) = true by rw [bne, beq_eq_false_iff_ne.2 hl]; rfl] at h
    simp at h
theorem isOrd_ok {p : List (List D)} (hp : p.length ≤ 6) {o : List Int} (h : isOrd p.length o) : okO p o := ⟨by have := h.1; omega, h.2.1⟩
theorem celP_range {p : List (List D)} (hp : okP p) {j i : Int} (h0 : 0 ≤ j) (h1 : j < p.length) : 0 ≤ celP p j i ∧ celP p j i ≤ 1000 := by
  obtain ⟨_, h⟩ := okP_row hp h0 h1
  exact getD_range (by decide) h i.toNat
theorem colS_range {p : List (List D)} (hp : okP p) (x : Int) : ∀ {l : List Int}, (∀ j ∈ l, 0 ≤ j ∧ j < (p.length : Int)) → 0 ≤ colS (celP p) x l ∧ colS (celP p) x l ≤ 1000 * l.length
  | [], _ => ⟨Int.le_refl _, by simp [colS]⟩
  | y :: l, h => by
    have h1 := celP_range hp (j := y) (i := x) (h y (by simp)).1 (h y (by simp)).2
    have h2 := colS_range hp x (l := l) fun j hj => h j (by simp [hj])
    simp only [colS, List.length_cons]
    omega
theorem upTo_length (c : Nat) : (upTo c).length = c := by simp [upTo]
theorem upTo_succ (c : Nat) : upTo (c + 1) = upTo c ++ [(c : Int)] := by
  unfold upTo
  rw [List.range_succ, List.map_append]
  rfl
theorem upTo_drop {c i : Nat} (h : i < c) : (upTo c).drop i = (i : Int) :: (upTo c).drop (i + 1) := by
  rw [drop_step 0 (show i < (upTo c).length by rw [upTo_length]; exact h), upTo_get h]
theorem minP_range {p : List (List D)} (hp : okP p) {j i : Int} (h0 : 0 ≤ j) (h1 : j < p.length) (h2 : 0 ≤ i) (h3 : i < p.length) : 0 ≤ minP p j i ∧ minP p j i ≤ 1000 := by
  have a := celP_range hp (j := j) (i := i) h0 h1
  have b := celP_range hp (j := i) (i := j) h2 h3
  unfold minP
  split <;> omega
theorem rowS_range {p : List (List D)} (hp : okP p) {x : Int} (h0 : 0 ≤ x) (h1 : x < p.length) : ∀ {l : List Int}, (∀ j ∈ l, 0 ≤ j ∧ j < (p.length : Int)) → 0 ≤ rowS (minP p) x l ∧ rowS (minP p) x l ≤ 1000 * l.length
  | [], _ => ⟨Int.le_refl _, by simp [rowS]⟩
  | y :: l, h => by
    have a := minP_range hp (j := x) (i := y) h0 h1 (h y (by simp)).1 (h y (by simp)).2
    have b := rowS_range hp h0 h1 (l := l) fun j hj => h j (by simp [hj])
    simp only [rowS, List.length_cons]
    omega
theorem lokbnd_1 : LoopOK Ebnd (lb Try.f9 1) [0, 5, 6, 14, 15, 18, 19] [0, 5, 14, 15] bdB := by
  refine loopOK (.cons okprf .nil) (noInner (by kernel_rfl)) (fun vs σ => match vs, σ with
    | [.one (.data (.recs [.sints .i64] _)), .one (.int .i64 _), .one (.int .i64 _), .one (.int .i64 _), .one (.int .i64 _), .one (.int .i64 m), .one (.int .i64 j)], [] => (m - j).toNat
    | _, _ => 0) fun vs σ k h => ?_
  unfold bdB at h
  split at h
  rotate_right
  · exact h.elim
  · rename_i p s i n g m j
    rw [exbndl1a p s i n g m j _]
    obtain ⟨⟨hp, rfl, rfl, h0, h1, h2, h3, h4, h5⟩, h⟩ := h
    have hp6 := hp.1
    by_cases hj : j < m
    · have w2 : IntKind.i64.wrap (j + 1) = j + 1 := wrap_id (by omega) (by omega)
      obtain ⟨r1, _⟩ := okP_row hp h0 h1
      obtain ⟨r2, _⟩ := okP_row hp h2 (show j < (p.length : Int) by omega)
      have mr := minP_range hp (j := m) (i := j) h0 h1 h2 (by omega)
      have er1 : ((p.getD m.toNat []).getD (0 : Nat) (D.int 0)).toInts = rowD p m.toNat := rfl
      have er2 : ((p.getD j.toNat []).getD (0 : Nat) (D.int 0)).toInts = rowD p j.toNat := rfl
      have ec : (if (rowD p j.toNat).getD m.toNat 0 < (rowD p m.toNat).getD j.toNat 0 then (rowD p j.toNat).getD m.toNat 0 else (rowD p m.toNat).getD j.toNat 0) = minP p m j := rfl
      have w3 : IntKind.i64.wrap (s + minP p m j) = s + minP p m j := wrap_id (by omega) (by omega)
      simp only [Nat.add_zero, er1, er2, ec]
      rw [w2, w3, decide_eq_true hj, decide_eq_true h0, decide_eq_true h1, decide_eq_true (show m.toNat < p.length by omega), decide_eq_true h2, decide_eq_true (show j < ((rowD p m.toNat).length : Int) by rw [r1]; omega),
        decide_eq_true (show j.toNat < (rowD p m.toNat).length by rw [r1]; omega), decide_eq_true (show j < (p.length : Int) by omega), decide_eq_true (show j.toNat < p.length by omega), decide_eq_true (show m < ((rowD p j.toNat).length : Int) by rw [r2]; omega),
        decide_eq_true (show m.toNat < (rowD p j.toNat).length by rw [r2]; omega)]
      rw [upTo_drop (show j.toNat < m.toNat by omega), show ((j.toNat : Nat) : Int) = j by omega, show j.toNat + 1 = (j + 1).toNat by omega] at h
      simp only [rowS] at h
      rw [← Int.add_assoc] at h
      exact ⟨⟨⟨hp, rfl, rfl, h0, h1, by omega, by omega, by omega, by omega⟩, h⟩, by show (m - (j + 1)).toNat < (m - j).toNat; omega⟩
    · rw [decide_eq_false hj]
      rw [List.drop_eq_nil_of_le (by rw [upTo_length]; omega)] at h
      simp only [rowS, Int.add_zero] at h
      exact h
theorem lokbnd_0 : LoopOK Ebnd (lb Try.f9 0) [0, 5, 14, 15] [5] bdA := by
  refine loopOK (.cons okprf .nil) (fun b' hb => by
    have hl : loopsOf (lb Try.f9 0) = [lb Try.f9 1] := by kernel_rfl
    rw [hl] at hb
    simp only [List.mem_cons, List.not_mem_nil, or_false] at hb
    subst hb
    exact loopHyp_of (key := 9) (by kernel_rfl) rfl lokbnd_1) (fun vs σ => match vs, σ with
    | [.one (.data (.recs [.sints .i64] _)), .one (.int .i64 _), .one (.int .i64 n), .one (.int .i64 i)], [] => (n - i).toNat
    | _, _ => 0) fun vs σ k h => ?_
  unfold bdA at h
  split at h
  rotate_right
  · exact h.elim
  · rename_i p s n i
    rw [exbndl0a p s n i _]
    obtain ⟨⟨hp, rfl, h0, h1, h4, h5⟩, h⟩ := h
    have hp6 := hp.1
    by_cases hi : i < (p.length : Int)
    · have w2 : IntKind.i64.wrap (i + 1) = i + 1 := wrap_id (by omega) (by omega)
      rw [w2, decide_eq_true hi]
      have cr := rowS_range hp h0 hi (l := upTo i.toNat) fun j hj => by have := mem_upTo.1 hj; omega
      rw [upTo_length] at cr
      rw [upTo_drop (show i.toNat < p.length by omega), show ((i.toNat : Nat) : Int) = i by omega] at h
      simp only [triL] at h
      have eu : upTo i.toNat ++ [i] = upTo (i + 1).toNat := by
        rw [show (i + 1).toNat = i.toNat + 1 by omega, upTo_succ, show ((i.toNat : Nat) : Int) = i by omega]
      rw [eu, show i.toNat + 1 = (i + 1).toNat by omega, ← Int.add_assoc] at h
      exact ⟨⟨hp, rfl, by rfl, h0, hi, by decide, h0, by omega, by omega⟩, ⟨⟨hp, rfl, by omega, by omega, by omega, by omega⟩, h⟩, by show ((p.length : Int) - (i + 1)).toNat < ((p.length : Int) - i).toNat; omega⟩
    · rw [decide_eq_false hi]
      rw [List.drop_eq_nil_of_le (by rw [upTo_length]; omega)] at h
      simp only [triL, Int.add_zero] at h
      exact h
theorem okbnd : SpecOK Try.prog 9 bdS := by
  refine specOK (n := 42) (m := 0) (lps := [(6, .spec [0, 5, 14, 15] [5] bdA), (9, .spec [0, 5, 6, 14, 15, 18, 19] [0, 5, 14, 15] bdB)]) (.cons okprf .nil) Try.func9 (by kernel_rfl) (by kernel_rfl) (theLoops (n := 2) (by kernel_rfl) fun i hi => ?_) fun args σ K h => ?_
  · match i, hi with
    | 0, _ => exact loopHyp_of (key := 6) (by kernel_rfl) rfl lokbnd_0
    | 1, _ => exact loopHyp_of (key := 9) (by kernel_rfl) rfl lokbnd_1
  unfold bdS at h
  split at h
  rotate_right
  · exact h.elim
  rename_i p
  rw [exbnd p K]
  obtain ⟨h1, h⟩ := h
  refine ⟨h1, ?_⟩
  unfold bdV at h
  by_cases hd : prefE p = 0
  · have hp := prefE_zero hd
    rw [hd] at h ⊢
    unfold bndG at h
    rw [← tri_eq] at h
    refine ⟨⟨hp, rfl, by decide, by omega, by decide, by decide⟩, ?_⟩
    rw [Int.zero_add]
    exact h
  · have c1 : (prefE p == 0) = false := beq_eq_false_iff_ne.2 hd
    rw [c1] at h
    rw [show (prefE p != 0) = true by rw [bne, c1]; rfl]
    exact h
end Go.Ev
