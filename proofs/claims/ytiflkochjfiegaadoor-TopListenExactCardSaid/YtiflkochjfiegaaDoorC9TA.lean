/-
  Part of the proof of a law.
-/
import Derived.Test.YtiflkochjfiegaaDoorC9V
import Derived.KernelRfl
import Derived.Test.YtiflkochjfiegaaDoorC9C
import Derived.Test.YtiflkochjfiegaaDoorCFlt
import Derived.Laws.FloatBits
import Derived.Test.YtiflkochjfiegaaDoorC9F
set_option linter.unusedVariables false
set_option linter.unusedSimpArgs false
set_option linter.unusedSectionVars false
/-
  Chapter 9, contracts: tests, outcomes, chances.
-/
namespace Go.Ev
open Go Go.Proofs
set_option maxRecDepth 20000
def teE (t u l : Int) : Int := bif withinG t 1 29 && (withinG u 1 t && withinG l 1 t) then 0 else 2
def teS : Spec := fun args σ K => match args, σ with
  | [.agg [.int .i64 t, .int .i64 u, .int .i64 l]], [] => K (.one (.int .i64 (teE t u l))) []
  | _, _ => False
def enK (u l d : Int) : Int := bif decide (d ≥ u) then 0 else (bif decide (-d ≥ l) then 1 else 2)
def enB (t u l i d : Int) : Bool := bif decide (d ≥ u) then true else (bif decide (-d ≥ l) then true else i == t)
def edS : Spec := fun args σ K => match args, σ with
  | [.agg [.int .i64 t, .int .i64 u, .int .i64 l], .one (.int .i64 i), .one (.int .i64 d)], [] => (-1000000 ≤ d ∧ d ≤ 1000000) ∧ K (.tup [.one (.int .i64 (enK u l d)), .one (.bool (enB t u l i d))]) []
  | _, _ => False
def boB (x : List D) : Bool := (x.getD 0 (.int 0)).toBool
def ouG (t u l : Int) : Int → Int → List (List D) → Int × Int × Int
  | _, _, [] => (0, 0, 14)
  | d, i, x :: r => bif enB t u l (i + 1) (bif boB x then d + 1 else d - 1) then (enK u l (bif boB x then d + 1 else d - 1), i + 1, 0) else ouG t u l (bif boB x then d + 1 else d - 1) (i + 1) r
def outL : LSpec := fun vs σ k => match vs, σ with
  | [.one (.ptr 0 1 0 0), .one (.ptr 1 1 0 0), .one (.int .i64 d), .one (.data (.recs [.bool] r)), .one (.int .i64 n), .one (.int .i64 i)], [.cells [.int .i64 t, .int .i64 u, .int .i64 l], .cells [.int .i64 0, .int .i64 0]] =>
    (r.length ≤ 1000 ∧ 0 ≤ i ∧ n = r.length ∧ i ≤ n ∧ -1000 ≤ d - (n - i) ∧ d + (n - i) ≤ 1000) ∧
    bif (ouG t u l d i (r.drop i.toNat)).2.2 == 0 then k .ret [.one (.ptr 0 1 0 0), .one (.int .i64 0)] [.cells [.int .i64 (ouG t u l d i (r.drop i.toNat)).1, .int .i64 (ouG t u l d i (r.drop i.toNat)).2.1]] else k (.exit 0) [.one (.ptr 0 1 0 0), .any] [.cells [.int .i64 0, .int .i64 0]]
  | _, _ => False
def ouE (t u l : Int) (r : List (List D)) : Int := bif teE t u l == 0 then (bif decide ((r.length : Int) ≤ 200) then (ouG t u l 0 0 r).2.2 else 8) else teE t u l
def outS : Spec := fun args σ K => match args, σ with
  | [.agg [.int .i64 t, .int .i64 u, .int .i64 l], .one (.data (.recs [.bool] r))], [] => r.length ≤ 1000 ∧ K (.tup [.agg [.int .i64 (bif ouE t u l r == 0 then (ouG t u l 0 0 r).1 else 0), .int .i64 (bif ouE t u l r == 0 then (ouG t u l 0 0 r).2.1 else 0)], .one (.int .i64 (ouE t u l r))]) []
  | _, _ => False
def cnt (u l k : Int) : Nat → Int → Int
  | 0, d => bif decide (d ≥ u) then (bif k == 0 then 1 else 0) else (bif decide (-d ≥ l) then (bif k == 1 then 1 else 0) else (bif k == 2 then 1 else 0))
  | m + 1, d => bif decide (d ≥ u) then (bif k == 0 then 2 ^ (m + 1) else 0) else (bif decide (-d ≥ l) then (bif k == 1 then 2 ^ (m + 1) else 0) else cnt u l k m (d + 1) + cnt u l k m (d - 1))
def kyI (x : List Int × List Int) : Int := x.1.getD 0 0
def vaI (x : List Int × List Int) : Int := x.2.getD 0 0
def smM (f : Int → Int) : List (List Int × List Int) → Int
  | [] => 0
  | x :: M => vaI x * f (kyI x) + smM f M
def okM (u l : Int) (M : List (List Int × List Int)) : Prop := ∀ x ∈ M, -l < kyI x ∧ kyI x < u ∧ 0 ≤ vaI x
def frN (n d : Int) : Int := wi (n.tdiv (gcdG n d))
def frD (n d : Int) : Int := wi (d.tdiv (gcdG n d))
noncomputable abbrev Etet : Env := envOf Tryd.prog [(103, withinS), (104, unlessS)] [] 21 0
noncomputable abbrev Etre : Env := envOf Tryd.prog [(30, withinS)] [] 23 0
noncomputable abbrev Eend2 : Env := envOf Tryd.prog [] [] 23 0
noncomputable abbrev Eout : Env := envOf Tryd.prog [(77, teS), (104, unlessS), (98, firstS), (129, edS)] [(6, .spec [2, 4, 7, 24, 25, 26] [4, 5] outL)] 51 0
end Go.Ev

namespace Go.Ev
open Go Go.Proofs
set_option maxRecDepth 100000
theorem extet (t u l : Int) (K : AV → List Blk → Prop) : evFn Etet Tryd.f77 [.agg [.int .i64 t, .int .i64 u, .int .i64 l]] [] K = ( bif decide (1 ≤ t) && decide (t ≤ 29) then bif decide (1 ≤ u) && decide (u ≤ t) then K (.one (.int .i64 (bif decide (1 ≤ l) && decide (l ≤ t) then (0 :Int) else (2 :Int)))) [] else K (.one (.int .i64 2)) [] else K (.one (.int .i64 2)) []) := by kernel_rfl
theorem extre (t u l : Int) (K : AV → List Blk → Prop) : evFn Etre Tryd.f76 [.agg [.int .i64 t, .int .i64 u, .int .i64 l]] [] K = ( bif !(decide (1 ≤ t) && decide (t ≤ 29)) then K (.one (.int .i64 2)) [] else bif !(decide (1 ≤ u) && decide (u ≤ t)) then K (.one (.int .i64 2)) [] else bif !(decide (1 ≤ l) && decide (l ≤ t)) then K (.one (.int .i64 2)) [] else K (.one (.int .i64 0)) []) := by kernel_rfl
theorem exend2 (t u l i d : Int) (K : AV → List Blk → Prop) : evFn Eend2 Tryd.f129 [.agg [.int .i64 t, .int .i64 u, .int .i64 l], .one (.int .i64 i), .one (.int .i64 d)] [] K = ( bif decide (d ≥ u) then K (AV.tup [.one (.int .i64 0), .one (.bool true)]) [] else bif decide (IntKind.i64.wrap (0 - d) ≥ l) then K (AV.tup [.one (.int .i64 1), .one (.bool true)]) [] else K (AV.tup [.one (.int .i64 2), .one (.bool (i == t))]) []) := by kernel_rfl
theorem exout (t u l : Int) (r : List (List D)) (K : AV → List Blk → Prop) : evFn Eout Tryd.f73 [.agg [.int .i64 t, .int .i64 u, .int .i64 l], .one (.data (.recs [.bool] r))] [] K = ( [teE t u l, bif decide ((↑r.length : Int) ≤ 200) then (0 :Int) else (8 :Int)].length ≤ 1000 ∧ bif firstE [teE t u l, bif decide ((↑r.length : Int) ≤ 200) then (0 :Int) else (8 :Int)] != 0 then K (AV.tup [TV.agg [SV.int .i64 0, SV.int .i64 0], .one (.int .i64 (firstE [teE t u l, bif decide ((↑r.length : Int) ≤ 200) then (0 :Int) else (8 :Int)]))]) [] else (r.length ≤ 1000 ∧ (0 :Int) ≤ (0 :Int) ∧ (↑r.length : Int) = (↑r.length : Int) ∧ 0 ≤ (↑r.length : Int) ∧ (-1000 :Int) ≤ (0 :Int) - ((↑r.length : Int) - 0) ∧ 0 + ((↑r.length : Int) - 0) ≤ 1000) ∧ bif (ouG t u l 0 0 r).snd.snd == 0 then K (AV.tup [TV.agg [SV.int .i64 (ouG t u l 0 0 r).fst, SV.int .i64 (ouG t u l 0 0 r).snd.fst], .one (.int .i64 0)]) [] else K (AV.tup [TV.agg [SV.int .i64 0, SV.int .i64 0], .one (.int .i64 14)]) []) := by kernel_rfl
theorem exoutl0a (d : Int) (r : List (List D)) (n i t u l : Int) (K : Ex → List AV → List Blk → Prop) : evBody Eout (lb Tryd.f73 0) [2, 4, 7, 24, 25, 26] [4, 5] [.one (.ptr 0 1 0 0), .one (.ptr 1 1 0 0), .one (.int .i64 d), .one (.data (.recs [.bool] r)), .one (.int .i64 n), .one (.int .i64 i)] [.cells [.int .i64 t, .int .i64 u, .int .i64 l], .cells [.int .i64 0, .int .i64 0]] K = ( bif decide (i < n) then bif decide (0 ≤ i) && decide (i < (↑r.length : Int)) then bif decide (0 < 1) && decide (i.toNat < r.length) then bif ((r.getD i.toNat []).getD 0 (D.int 0)).toBool then ((-1000000 : Int) ≤ IntKind.i64.wrap (d + 1) ∧ IntKind.i64.wrap (d + 1) ≤ 1000000) ∧ bif enB t u l (IntKind.i64.wrap (i + 1)) (IntKind.i64.wrap (d + 1)) then K .ret [.one (.ptr 0 1 0 0), .one (.int .i64 0)] [Blk.cells [SV.int .i64 (enK u l (IntKind.i64.wrap (d + 1))), SV.int .i64 (IntKind.i64.wrap (i + 1))]] else K .normal [.one (.ptr 0 1 0 0), .one (.ptr 1 1 0 0), .one (.int .i64 (IntKind.i64.wrap (d + 1))), .one (.data (Row.recs [CK.bool] r)), .one (.int .i64 n), .one (.int .i64 (IntKind.i64.wrap (i + 1)))] [Blk.cells [SV.int .i64 t, SV.int .i64 u, SV.int .i64 l], Blk.cells [SV.int .i64 0, SV.int .i64 0]] else ((-1000000 : Int) ≤ IntKind.i64.wrap (d - 1) ∧ IntKind.i64.wrap (d - 1) ≤ 1000000) ∧ bif enB t u l (IntKind.i64.wrap (i + 1)) (IntKind.i64.wrap (d - 1)) then K .ret [.one (.ptr 0 1 0 0), .one (.int .i64 0)] [Blk.cells [SV.int .i64 (enK u l (IntKind.i64.wrap (d - 1))), SV.int .i64 (IntKind.i64.wrap (i + 1))]] else K .normal [.one (.ptr 0 1 0 0), .one (.ptr 1 1 0 0), .one (.int .i64 (IntKind.i64.wrap (d - 1))), .one (.data (Row.recs [CK.bool] r)), .one (.int .i64 n), .one (.int .i64 (IntKind.i64.wrap (i + 1)))] [Blk.cells [SV.int .i64 t, SV.int .i64 u, SV.int .i64 l], Blk.cells [SV.int .i64 0, SV.int .i64 0]] else False else False else K (.exit 0) [.one (.ptr 0 1 0 0), AV.any] [Blk.cells [SV.int .i64 0, SV.int .i64 0]]) := by kernel_rfl
end Go.Ev

/-
  Chapter 9: tests, outcomes, chances: the contracts are kept.
-/
namespace Go.Ev
open Go Go.Proofs
attribute [local irreducible] evFn evBody evRound
set_option maxRecDepth 20000
theorem oktet : SpecOK Tryd.prog 77 teS := by
  refine specOK (n := 21) (m := 0) (lps := []) (.cons ok71 (.cons ok70 .nil)) Tryd.func77 (by kernel_rfl) (by kernel_rfl) (noLoops (by kernel_rfl)) fun args σ K h => ?_
  unfold teS at h
  split at h
  rotate_right
  · exact h.elim
  rename_i t u l
  rw [extet t u l K]
  unfold teE withinG at h
  generalize (decide ((1 : Int) ≤ t) && decide (t ≤ 29)) = x at *
  generalize (decide ((1 : Int) ≤ u) && decide (u ≤ t)) = y at *
  generalize (decide ((1 : Int) ≤ l) && decide (l ≤ t)) = z at *
  cases x <;> cases y <;> cases z <;> exact h
theorem oktre : SpecOK Tryd.prog 76 teS := by
  refine specOK (n := 23) (m := 0) (lps := []) (.cons ok25 .nil) Tryd.func76 (by kernel_rfl) (by kernel_rfl) (noLoops (by kernel_rfl)) fun args σ K h => ?_
  unfold teS at h
  split at h
  rotate_right
  · exact h.elim
  rename_i t u l
  rw [extre t u l K]
  unfold teE withinG at h
  generalize (decide ((1 : Int) ≤ t) && decide (t ≤ 29)) = x at *
  generalize (decide ((1 : Int) ≤ u) && decide (u ≤ t)) = y at *
  generalize (decide ((1 : Int) ≤ l) && decide (l ≤ t)) = z at *
  cases x <;> cases y <;> cases z <;> exact h
theorem okend2 : SpecOK Tryd.prog 129 edS := by
  refine specOK (n := 23) (m := 0) (lps := []) .nil Tryd.func129 (by kernel_rfl) (by kernel_rfl) (noLoops (by kernel_rfl)) fun args σ K h => ?_
  unfold edS at h
  split at h
  rotate_right
  · exact h.elim
  rename_i t u l i d
  rw [exend2 t u l i d K]
  obtain ⟨⟨h1, h2⟩, h⟩ := h
  rw [show IntKind.i64.wrap (0 - d) = -d by rw [wrap_id (by omega) (by omega)]; omega]
  unfold enK enB at h
  generalize decide (d ≥ u) = x at *
  generalize decide (-d ≥ l) = y at *
  cases x <;> cases y <;> exact h
theorem ouG_step {t u l d i : Int} {r : List (List D)} (hi : i.toNat < r.length) (h0 : 0 ≤ i) :
    ouG t u l d i (r.drop i.toNat) = bif enB t u l (i + 1) (bif boB (r.getD i.toNat []) then d + 1 else d - 1) then (enK u l (bif boB (r.getD i.toNat []) then d + 1 else d - 1), i + 1, 0) else ouG t u l (bif boB (r.getD i.toNat []) then d + 1 else d - 1) (i + 1) (r.drop (i + 1).toNat) := by
  rw [drop_step [] hi, show (i + 1).toNat = i.toNat + 1 by omega]
  rfl
theorem ouG_err (t u l : Int) : ∀ (r : List (List D)) (d i : Int), ((ouG t u l d i r).2.2 == 0) = false → ouG t u l d i r = (0, 0, 14)
  | [], _, _, _ => rfl
  | x :: r, d, i, h => by
    simp only [ouG] at h ⊢
    generalize (bif boB x then d + 1 else d - 1) = d' at *
    cases he : enB t u l (i + 1) d' with
    | true => rw [he] at h; exact absurd (show ((0 : Int) == 0) = false from h) (by decide)
    | false => rw [he, cond_false] at h; rw [cond_false]; exact ouG_err t u l r _ _ h
theorem lokout_0 : LoopOK Eout (lb Tryd.f73 0) [2, 4, 7, 24, 25, 26] [4, 5] outL := by
  refine loopOK (.cons oktet (.cons ok70 (.cons ok69 (.cons okend2 .nil)))) (noInner (by kernel_rfl)) (fun vs σ => match vs, σ with
    | [.one (.ptr 0 1 0 0), .one (.ptr 1 1 0 0), .one (.int .i64 _), .one (.data (.recs [.bool] _)), .one (.int .i64 n), .one (.int .i64 i)], [.cells [.int .i64 _, .int .i64 _, .int .i64 _], .cells [.int .i64 0, .int .i64 0]] => (n - i).toNat
    | _, _ => 0) fun vs σ k h => ?_
  unfold outL at h
  split at h
  rotate_right
  · exact h.elim
  · rename_i d r n i t u l
    rw [exoutl0a d r n i t u l _]
    obtain ⟨⟨h1, h2, rfl, h3, h4, h5⟩, h⟩ := h
    by_cases hi : i < (r.length : Int)
    · have hw : IntKind.i64.wrap (i + 1) = i + 1 := wrap_id (by omega) (by omega)
      have hw2 : IntKind.i64.wrap (d + 1) = d + 1 := wrap_id (by omega) (by omega)
      have hw3 : IntKind.i64.wrap (d - 1) = d - 1 := wrap_id (by omega) (by omega)
      have hi' : i.toNat < r.length := by omega
      have hmu : ((r.length : Int) - (i + 1)).toNat < ((r.length : Int) - i).toNat := by omega
      rw [ouG_step hi' h2] at h
      rw [decide_eq_true hi, decide_eq_true h2, decide_eq_true hi', hw, hw2, hw3]
      replace h : cond _ _ _ := h
      change cond (boB (r.getD i.toNat [])) _ _
      generalize boB (r.getD i.toNat []) = x at *
      cases x with
      | true =>
        refine And.intro ⟨by omega, by omega⟩ ?_
        simp only [cond_true] at h
        cases he : enB t u l (i + 1) (d + 1) with
        | true => rw [he] at h; exact h
        | false => rw [he] at h; exact ⟨⟨⟨h1, by omega, rfl, by omega, by omega, by omega⟩, h⟩, hmu⟩
      | false =>
        refine And.intro ⟨by omega, by omega⟩ ?_
        simp only [cond_false] at h
        cases he : enB t u l (i + 1) (d - 1) with
        | true => rw [he] at h; exact h
        | false => rw [he] at h; exact ⟨⟨⟨h1, by omega, rfl, by omega, by omega, by omega⟩, h⟩, hmu⟩
    · rw [decide_eq_false hi]
      rw [List.drop_eq_nil_of_le (show r.length ≤ i.toNat by omega)] at h
      exact h
theorem okout : SpecOK Tryd.prog 73 outS := by
  refine specOK (n := 51) (m := 0) (lps := [(6, .spec [2, 4, 7, 24, 25, 26] [4, 5] outL)]) (.cons oktet (.cons ok70 (.cons ok69 (.cons okend2 .nil)))) Tryd.func73 (by kernel_rfl) (by kernel_rfl) (theLoops (n := 1) (by kernel_rfl) fun i hi => ?_) fun args σ K h => ?_
  · match i, hi with
    | 0, _ => exact loopHyp_of (key := 6) (by kernel_rfl) rfl lokout_0
  unfold outS at h
  split at h
  rotate_right
  · exact h.elim
  rename_i t u l r
  rw [exout t u l r K]
  obtain ⟨h1, h⟩ := h
  refine And.intro ((by decide : (2 : Nat) ≤ 1000)) ?_
  have e : firstE [teE t u l, bif decide ((r.length : Int) ≤ 200) then 0 else 8] = bif teE t u l == 0 then (bif decide ((r.length : Int) ≤ 200) then 0 else 8) else teE t u l := by
    unfold firstE firstE firstE
    generalize teE t u l = a
    cases a == 0 <;> cases decide ((r.length : Int) ≤ 200) <;> rfl
  rw [e]
  unfold ouE at h
  by_cases h0 : teE t u l = 0
  · rw [h0] at h ⊢
    cases hd : decide ((r.length : Int) ≤ 200) with
    | false => rw [hd] at h; exact h
    | true =>
      rw [hd] at h
      refine And.intro ⟨h1, by decide, rfl, by omega, by omega, by omega⟩ ?_
      simp only [beq_self_eq_true, cond_true] at h
      cases hz : (ouG t u l 0 0 r).2.2 == 0 with
      | true => rw [hz, eq_of_beq hz] at h; exact h
      | false => rw [hz, ouG_err t u l r 0 0 hz] at h; exact h
  · rw [beq_ff h0] at h ⊢
    rw [cond_false] at h ⊢
    rw [beq_ff h0] at h
    rw [bne_tt h0]
    exact h
end Go.Ev

/-
  Chapter 9: chances: the contracts are kept.
-/
namespace Go.Ev
open Go Go.Proofs
attribute [local irreducible] evFn evBody evRound
set_option maxRecDepth 20000
theorem smM_aset (f : Int → Int) (d v : Int) : ∀ (X : List (List Int × List Int)), smM f (aset X [d] [(agetD X [d]).getD 0 0 + v]) = smM f X + v * f d
  | [] => by
    show (0 + v) * f d + 0 = 0 + v * f d
    rw [Int.zero_add, Int.zero_add, Int.add_zero]
  | x :: X => by
    cases hk : ([d] == x.1) with
    | true =>
      have e : [d] = x.1 := by simpa using hk
      have h1 : agetD (x :: X) [d] = x.2 := by simp only [agetD, aget, hk, cond_true, Option.getD_some]
      have h2 : kyI x = d := by unfold kyI; rw [← e]; rfl
      simp only [aset, hk, cond_true, h1, smM]
      show (x.2.getD 0 0 + v) * f d + smM f X = vaI x * f (kyI x) + smM f X + v * f d
      rw [h2, Int.add_mul]
      unfold vaI
      omega
    | false =>
      have h1 : agetD (x :: X) [d] = agetD X [d] := by simp only [agetD, aget, hk, cond_false]
      simp only [aset, hk, cond_false, h1, smM, smM_aset f d v X]
      omega
theorem okM_aset {u l d v : Int} (h1 : -l < d) (h2 : d < u) (h3 : 0 ≤ v) : ∀ {X : List (List Int × List Int)}, okM u l X → okM u l (aset X [d] [(agetD X [d]).getD 0 0 + v])
  | [], _ => by
    intro x hx
    simp only [aset, List.mem_singleton] at hx
    subst hx
    exact ⟨h1, h2, by show 0 ≤ 0 + v; omega⟩
  | y :: X, h => by
    have hy := h y (List.mem_cons_self ..)
    have hX : okM u l X := fun x hx => h x (List.mem_cons_of_mem _ hx)
    cases hk : ([d] == y.1) with
    | true =>
      have h1' : agetD (y :: X) [d] = y.2 := by simp only [agetD, aget, hk, cond_true, Option.getD_some]
      simp only [aset, hk, cond_true, h1']
      intro x hx
      rcases List.mem_cons.1 hx with rfl | hx
      · exact ⟨h1, h2, by show 0 ≤ vaI y + v; omega⟩
      · exact hX x hx
    | false =>
      have h1' : agetD (y :: X) [d] = agetD X [d] := by simp only [agetD, aget, hk, cond_false]
      simp only [aset, hk, cond_false, h1']
      intro x hx
      rcases List.mem_cons.1 hx with rfl | hx
      · exact hy
      · exact okM_aset h1 h2 h3 hX x hx
def stC (t u l i : Int) (m : Nat) (c : List Int) (d v : Int) : List Int := bif enB t u l i d then c.set (enK u l d).toNat (c.getD (enK u l d).toNat 0 + v * 2 ^ m) else c
def stX (t u l i : Int) (X : List (List Int × List Int)) (d v : Int) : List (List Int × List Int) := bif enB t u l i d then X else aset X [d] [(agetD X [d]).getD 0 0 + v]
structure Mid (t u l i : Int) (m : Nat) (c : List Int) (X : List (List Int × List Int)) (r : Int) : Prop where
  len : c.length = 3
  ok : okM u l X
  pos : ∀ j, j < 3 → 0 ≤ c.getD j 0
  tot : c.getD 0 0 + c.getD 1 0 + c.getD 2 0 + smM (fun _ => 2 ^ m) X + r = 2 ^ t.toNat
  last : i = t → X = []
theorem enK_range (u l d : Int) : 0 ≤ enK u l d ∧ enK u l d < 3 := by
  unfold enK
  cases decide (d ≥ u) <;> cases decide (-d ≥ l) <;> decide
theorem cnt_in {t u l i d : Int} (he : enB t u l i d = false) : -l < d ∧ d < u ∧ i ≠ t := by
  unfold enB at he
  by_cases h1 : d ≥ u
  · rw [decide_eq_true h1] at he; cases he
  · rw [decide_eq_false h1] at he
    by_cases h2 : -d ≥ l
    · rw [decide_eq_true h2] at he; cases he
    · rw [decide_eq_false h2] at he
      exact ⟨by omega, by omega, beq_eq_false_iff_ne.1 he⟩
theorem pow_pos (m : Nat) : (1 : Int) ≤ 2 ^ m := by
  have : (0 : Int) < 2 ^ m := Int.pow_pos (by decide)
  omega
theorem getD_set3 {c : List Int} (hl : c.length = 3) {a : Nat} (ha : a < 3) (y : Int) (j : Nat) (hj : j < 3) : (c.set a y).getD j 0 = if a = j then y else c.getD j 0 := by
  rw [List.getD, List.getElem?_set]
  by_cases h : a = j
  · subst h; rw [if_pos rfl, if_pos rfl, if_pos (by omega)]; rfl
  · rw [if_neg h, if_neg h]; rfl
theorem Mid.step {t u l i d v r : Int} {m : Nat} {c : List Int} {X : List (List Int × List Int)} (M : Mid t u l i m c X (v * 2 ^ m + r)) (hv : 0 ≤ v) : Mid t u l i m (stC t u l i m c d v) (stX t u l i X d v) r := by
  have hp := pow_pos m
  have hvm : 0 ≤ v * 2 ^ m := Int.mul_nonneg hv (by omega)
  have hK := enK_range u l d
  have hKn : (enK u l d).toNat < 3 := by omega
  unfold stC stX
  cases he : enB t u l i d with
  | true =>
    simp only [cond_true]
    have hg := getD_set3 M.len hKn (c.getD (enK u l d).toNat 0 + v * 2 ^ m)
    refine ⟨by rw [List.length_set]; exact M.len, M.ok, fun j hj => ?_, ?_, M.last⟩
    · rw [hg j hj]
      have := M.pos (enK u l d).toNat hKn
      have := M.pos j hj
      split <;> omega
    · rw [hg 0 (by decide), hg 1 (by decide), hg 2 (by decide)]
      have := M.tot
      rcases (show (enK u l d).toNat = 0 ∨ (enK u l d).toNat = 1 ∨ (enK u l d).toNat = 2 by omega) with e | e | e
      · rw [e, if_pos rfl, if_neg (by decide), if_neg (by decide)]; omega
      · rw [e, if_neg (by decide), if_pos rfl, if_neg (by decide)]; omega
      · rw [e, if_neg (by decide), if_neg (by decide), if_pos rfl]; omega
  | false =>
    simp only [cond_false]
    obtain ⟨i1, i2, i3⟩ := cnt_in he
    refine ⟨M.len, okM_aset i1 i2 hv M.ok, M.pos, ?_, fun h => absurd h i3⟩
    rw [smM_aset]
    have := M.tot
    omega
end Go.Ev
