/-
  Part of the proof of a law.
-/
import Derived.Test.YtiflkochjfiegaaDoorC9B
import Derived.KernelRfl
set_option linter.unusedVariables false
set_option linter.unusedSimpArgs false
set_option linter.unusedSectionVars false
/-
  Chapter 9, contracts: loudness.
-/
namespace Go.Ev
open Go Go.Proofs
set_option maxRecDepth 20000
def lowL : LSpec := fun vs σ k => match vs, σ with
  | [.one (.int .i64 n), .one (.int .i64 d), .one (.ptr 0 1 0 0), .one (.int .i64 a), .one (.int .i64 b)], [.cells [.int .i64 0, .int .i64 0]] => k (.exit 0) [.one (.int .i64 n), .one (.int .i64 d), .one (.ptr 0 1 0 0), .one (.int .i64 (gcdG a b))] [.cells [.int .i64 0, .int .i64 0]]
  | _, _ => False
def lowS : Spec := fun args σ K => match args, σ with
  | [.one (.int .i64 n), .one (.int .i64 d)], [] => gcdG n d ≠ 0 ∧ K (.agg [.int .i64 (wi (n.tdiv (gcdG n d))), .int .i64 (wi (d.tdiv (gcdG n d)))]) []
  | _, _ => False
def meE (len hop gate pct : Int) (x : List Int) : Int := firstE [bif meterG len hop gate pct then 0 else 2, sigE x]
def gbS : Spec := fun args σ K => match args, σ with
  | [.agg [.int .i64 len, .int .i64 hop, .int .i64 gate, .int .i64 pct], .one (.data (.ints .i64 x))], [] => x.length ≤ 1000000000 ∧
    bif meE len hop gate pct x == 0 then (bif (gatG len gate pct (enG len hop x 0)).isEmpty then K (.tup [.one .nil, .one (.int .i64 0)]) [] else K (.tup [.one (.own 0 1), .one (.int .i64 0)]) [.row 3 (.ints .i64 (gatG len gate pct (enG len hop x 0)))])
    else K (.tup [.one .nil, .one (.int .i64 (meE len hop gate pct x))]) []
  | _, _ => False
def sumI (bs : List Int) : List Int → Int
  | [] => 0
  | j :: l => bs.getD j.toNat 0 + sumI bs l
def okI (bs is : List Int) : Prop := okB bs ∧ is.length ≤ 200 ∧ ∀ j ∈ is, 0 ≤ j ∧ j < bs.length
def sumL : LSpec := fun vs σ k => match vs, σ with
  | [.one (.ptr 0 1 0 0), .one (.ptr 1 1 0 0), .one (.own 2 1), .one (.own 3 1), .one (.int .i64 s), .one (.own 3 1), .one (.int .i64 n), .one (.int .i64 i)], [.cells [.int .i64 len, .int .i64 hop, .int .i64 gate, .int .i64 pct], .cells [.int .i64 z0, .int .i64 z1], .row 3 (.ints .i64 bs), .row 3 (.ints .i64 is)] =>
    (okI bs is ∧ n = is.length ∧ 0 ≤ i ∧ i ≤ n ∧ 0 ≤ s ∧ s ≤ 53683814450 * i) ∧
    k (.exit 0) [.one (.ptr 0 1 0 0), .one (.ptr 1 1 0 0), .one (.own 2 1), .one (.int .i64 (s + sumI bs (is.drop i.toNat)))] [.cells [.int .i64 len, .int .i64 hop, .int .i64 gate, .int .i64 pct], .cells [.int .i64 z0, .int .i64 z1], .row 3 (.ints .i64 is)]
  | _, _ => False
def ldI (len hop gate pct : Int) (x : List Int) : List Int := gatG len gate pct (enG len hop x 0)
def ldN (len hop gate pct : Int) (x : List Int) : Int := sumI (enG len hop x 0) (ldI len hop gate pct x)
def ldD (len hop gate pct : Int) (x : List Int) : Int := (ldI len hop gate pct x).length * len
def loudS : Spec := fun args σ K => match args, σ with
  | [.agg [.int .i64 len, .int .i64 hop, .int .i64 gate, .int .i64 pct], .one (.data (.ints .i64 x))], [] => x.length ≤ 1000000000 ∧
    bif meE len hop gate pct x == 0 then (bif (ldI len hop gate pct x).isEmpty then K (.tup [.agg [.int .i64 0, .int .i64 0], .one (.int .i64 12)]) []
      else K (.tup [.agg [.int .i64 (wi ((ldN len hop gate pct x).tdiv (gcdG (ldN len hop gate pct x) (ldD len hop gate pct x)))), .int .i64 (wi ((ldD len hop gate pct x).tdiv (gcdG (ldN len hop gate pct x) (ldD len hop gate pct x))))], .one (.int .i64 0)]) [])
    else K (.tup [.agg [.int .i64 0, .int .i64 0], .one (.int .i64 (meE len hop gate pct x))]) []
  | _, _ => False
noncomputable abbrev Elow : Env := envOf Tryd.prog [] [(2, .spec [0, 1, 4, 5, 6] [0, 1, 4, 5] lowL)] 22 0
noncomputable abbrev Eloud : Env := envOf Tryd.prog [(25, meterS), (99, sigS), (98, firstS), (101, enS), (100, gatS), (102, lowS)] [(10, .spec [2, 4, 7, 8, 9, 33, 34, 35] [2, 4, 8, 9] sumL)] 58 0
end Go.Ev

namespace Go.Ev
open Go Go.Proofs
set_option maxRecDepth 100000
theorem exlow (n d : Int) (K : AV → List Blk → Prop) : evFn Elow Tryd.f102 [.one (.int .i64 n), .one (.int .i64 d)] [] K = ( bif !decide (gcdG n d = 0) then bif !decide (gcdG n d = 0) then K (AV.agg [SV.int .i64 (IntKind.i64.wrap (n.tdiv (gcdG n d))), SV.int .i64 (IntKind.i64.wrap (d.tdiv (gcdG n d)))]) [] else False else False) := by kernel_rfl
theorem exlowa (n d a b : Int) (K : Ex → List AV → List Blk → Prop) : evBody Elow (lb Tryd.f102 0) [0, 1, 4, 5, 6] [0, 1, 4, 5] [.one (.int .i64 n), .one (.int .i64 d), .one (.ptr 0 1 0 0), .one (.int .i64 a), .one (.int .i64 b)] [.cells [.int .i64 0, .int .i64 0]] K = ( bif b != 0 then bif !decide (b = 0) then K .normal [.one (.int .i64 n), .one (.int .i64 d), .one (.ptr 0 1 0 0), .one (.int .i64 b), .one (.int .i64 (a.tmod b))] [Blk.cells [SV.int .i64 0, SV.int .i64 0]] else False else K (.exit 0) [.one (.int .i64 n), .one (.int .i64 d), .one (.ptr 0 1 0 0), .one (.int .i64 a)] [Blk.cells [SV.int .i64 0, SV.int .i64 0]]) := by kernel_rfl
theorem exloud (len hop gate pct : Int) (x : List Int) (K : AV → List Blk → Prop) : evFn Eloud Tryd.f23 [.agg [.int .i64 len, .int .i64 hop, .int .i64 gate, .int .i64 pct], .one (.data (.ints .i64 x))] [] K = ( x.length ≤ 1000000000 ∧ [bif meterG len hop gate pct then (0 :Int) else (2 :Int), sigE x].length ≤ 1000 ∧ bif firstE [bif meterG len hop gate pct then (0 :Int) else (2 :Int), sigE x] != 0 then K (AV.tup [TV.agg [SV.int .i64 0, SV.int .i64 0], .one (.int .i64 (firstE [bif meterG len hop gate pct then (0 :Int) else (2 :Int), sigE x]))]) [] else (x.length ≤ 200 ∧ x.all sampleG = true ∧ 1 ≤ len ∧ len ≤ 50 ∧ 1 ≤ hop ∧ hop ≤ len) ∧ bif (enG len hop x 0).isEmpty then ((0 ≤ 200 ∧ ∀ (e : Int), e ∈ [] → 0 ≤ e ∧ e ≤ 53683814450) ∧ meterG len hop gate pct = true) ∧ K (AV.tup [TV.agg [SV.int .i64 0, SV.int .i64 0], .one (.int .i64 12)]) [] else (((enG len hop x 0).length ≤ 200 ∧ ∀ (e : Int), e ∈ enG len hop x 0 → 0 ≤ e ∧ e ≤ 53683814450) ∧ meterG len hop gate pct = true) ∧ bif (gatG len gate pct (enG len hop x 0)).isEmpty then K (AV.tup [TV.agg [SV.int .i64 0, SV.int .i64 0], .one (.int .i64 12)]) [] else bif (↑(gatG len gate pct (enG len hop x 0)).length : Int) == 0 then K (AV.tup [TV.agg [SV.int .i64 0, SV.int .i64 0], .one (.int .i64 12)]) [] else ((((enG len hop x 0).length ≤ 200 ∧ ∀ (e : Int), e ∈ enG len hop x 0 → 0 ≤ e ∧ e ≤ 53683814450) ∧ (gatG len gate pct (enG len hop x 0)).length ≤ 200 ∧ ∀ (j : Int), j ∈ gatG len gate pct (enG len hop x 0) → 0 ≤ j ∧ j < (↑(enG len hop x 0).length : Int)) ∧ (↑(gatG len gate pct (enG len hop x 0)).length : Int) = (↑(gatG len gate pct (enG len hop x 0)).length : Int) ∧ (0 :Int) ≤ (0 :Int) ∧ 0 ≤ (↑(gatG len gate pct (enG len hop x 0)).length : Int) ∧ (0 :Int) ≤ (0 :Int) ∧ (0 :Int) ≤ (0 :Int)) ∧ gcdG (0 + sumI (enG len hop x 0) (gatG len gate pct (enG len hop x 0))) (IntKind.i64.wrap ((↑(gatG len gate pct (enG len hop x 0)).length : Int) * len)) ≠ 0 ∧ bif decide (wi ((0 + sumI (enG len hop x 0) (gatG len gate pct (enG len hop x 0))).tdiv (gcdG (0 + sumI (enG len hop x 0) (gatG len gate pct (enG len hop x 0))) (IntKind.i64.wrap ((↑(gatG len gate pct (enG len hop x 0)).length : Int) * len)))) > 1000000000000000) then K (AV.tup [TV.agg [SV.int .i64 0, SV.int .i64 0], .one (.int .i64 8)]) [] else K (AV.tup [TV.agg [SV.int .i64 (wi ((0 + sumI (enG len hop x 0) (gatG len gate pct (enG len hop x 0))).tdiv (gcdG (0 + sumI (enG len hop x 0) (gatG len gate pct (enG len hop x 0))) (IntKind.i64.wrap ((↑(gatG len gate pct (enG len hop x 0)).length : Int) * len))))), SV.int .i64 (wi ((IntKind.i64.wrap ((↑(gatG len gate pct (enG len hop x 0)).length : Int) * len)).tdiv (gcdG (0 + sumI (enG len hop x 0) (gatG len gate pct (enG len hop x 0))) (IntKind.i64.wrap ((↑(gatG len gate pct (enG len hop x 0)).length : Int) * len)))))], .one (.int .i64 0)]) []) := by kernel_rfl
theorem exlouda (len hop gate pct z0 z1 s n i : Int) (bs is : List Int) (K : Ex → List AV → List Blk → Prop) : evBody Eloud (lb Tryd.f23 0) [2, 4, 7, 8, 9, 33, 34, 35] [2, 4, 8, 9] [.one (.ptr 0 1 0 0), .one (.ptr 1 1 0 0), .one (.own 2 1), .one (.own 3 1), .one (.int .i64 s), .one (.own 3 1), .one (.int .i64 n), .one (.int .i64 i)] [.cells [.int .i64 len, .int .i64 hop, .int .i64 gate, .int .i64 pct], .cells [.int .i64 z0, .int .i64 z1], .row 3 (.ints .i64 bs), .row 3 (.ints .i64 is)] K = ( bif decide (i < n) then bif decide (0 ≤ i) && decide (i < (↑is.length : Int)) then bif decide (i.toNat + 0 < is.length) then bif decide (0 ≤ is.getD (i.toNat + 0) 0) && decide (is.getD (i.toNat + 0) 0 < (↑bs.length : Int)) then bif decide ((is.getD (i.toNat + 0) 0).toNat + 0 < bs.length) then K .normal [.one (.ptr 0 1 0 0), .one (.ptr 1 1 0 0), .one (.own 2 1), .one (.own 3 1), .one (.int .i64 (IntKind.i64.wrap (s + bs.getD ((is.getD (i.toNat + 0) 0).toNat + 0) 0))), .one (.own 3 1), .one (.int .i64 n), .one (.int .i64 (IntKind.i64.wrap (i + 1)))] [Blk.cells [SV.int .i64 len, SV.int .i64 hop, SV.int .i64 gate, SV.int .i64 pct], Blk.cells [SV.int .i64 z0, SV.int .i64 z1], Blk.row 3 (Row.ints .i64 bs), Blk.row 3 (Row.ints .i64 is)] else False else False else False else False else K (.exit 0) [.one (.ptr 0 1 0 0), .one (.ptr 1 1 0 0), .one (.own 2 1), .one (.int .i64 s)] [Blk.cells [SV.int .i64 len, SV.int .i64 hop, SV.int .i64 gate, SV.int .i64 pct], Blk.cells [SV.int .i64 z0, SV.int .i64 z1], Blk.row 3 (Row.ints .i64 is)]) := by kernel_rfl
end Go.Ev

/-
  Chapter 9: the contracts of loudness are kept.
-/
namespace Go.Ev
open Go Go.Proofs
attribute [local irreducible] evFn evBody evRound
set_option maxRecDepth 20000
theorem gcdG_nn (a b : Int) (ha : 0 ≤ a) (hb : 0 ≤ b) : 0 ≤ gcdG a b := by
  induction hn : b.natAbs using Nat.strongRecOn generalizing a b with
  | ind n ih =>
    subst hn
    rw [gcdG]
    by_cases h : b = 0
    · rw [if_pos h]; exact ha
    · rw [if_neg h]
      exact ih _ (by rw [Int.natAbs_tmod]; exact Nat.mod_lt _ (by omega)) b _ hb (Int.tmod_nonneg b ha) rfl
theorem divG_gcdG {a b : Int} (ha : 0 ≤ a) (hb : 0 < b) (hb2 : b ≤ 9223372036854775807) : divG a b = gcdG a b ∧ 0 < gcdG a b ∧ gcdG a b ≤ b ∧ gcdG a b ∣ a ∧ gcdG a b ∣ b := by
  obtain ⟨h1, h2, h3, h4, h5⟩ := gcdG_pos (a := a) hb hb2
  have hn := gcdG_nn a b ha (by omega)
  have hg := natAbs_gcdG a b
  have e : sizeG (gcdG a b) = gcdG a b := by omega
  have : divG a b = sizeG (gcdG a b) := by unfold divG; rw [if_neg (by omega)]
  rw [this, e]
  rw [e] at h2 h3 h4 h5
  exact ⟨rfl, h2, h3, h5, h4⟩
theorem tdiv_le {a g : Int} (ha : 0 ≤ a) (hg : 0 < g) : 0 ≤ a.tdiv g ∧ a.tdiv g ≤ a := ⟨Int.tdiv_nonneg ha (by omega), Int.tdiv_le_self _ ha⟩
theorem firstE2 {a b : Int} (h : firstE [a, b] = 0) : a = 0 ∧ b = 0 := by
  simp only [firstE] at h
  by_cases ha : a = 0
  · subst ha
    by_cases hb : b = 0
    · exact ⟨rfl, hb⟩
    · rw [beq_eq_false_iff_ne.2 hb] at h
      exact absurd h hb
  · rw [beq_eq_false_iff_ne.2 ha] at h
    exact absurd h ha
theorem sigE_zero {x : List Int} (h : sigE x = 0) : x.length ≤ 200 ∧ x.all sampleG = true := by
  unfold sigE at h
  by_cases h1 : (x.length : Int) ≤ 200
  · rw [decide_eq_true h1, cond_true] at h
    cases h2 : x.all sampleG with
    | true => exact ⟨by omega, rfl⟩
    | false => rw [h2] at h; cases h
  · rw [decide_eq_false h1] at h; cases h
theorem meE_zero {len hop gate pct : Int} {x : List Int} (h : meE len hop gate pct x = 0) : meterG len hop gate pct = true ∧ sigE x = 0 := by
  obtain ⟨h1, h2⟩ := firstE2 h
  cases hm : meterG len hop gate pct with
  | true => exact ⟨rfl, h2⟩
  | false => rw [hm] at h1; cases h1
theorem okX_of {len hop gate pct : Int} {x : List Int} (h1 : meterG len hop gate pct = true) (h2 : sigE x = 0) : okX x len hop := by
  obtain ⟨a1, a2, a3, a4, _⟩ := meter_facts h1
  obtain ⟨b1, b2⟩ := sigE_zero h2
  exact ⟨b1, b2, a1, a2, a3, a4⟩
theorem sqs_range : ∀ {p : List Int}, p.all sampleG = true → 0 ≤ sqs p ∧ sqs p ≤ 1073676289 * p.length
  | [], _ => by simp [sqs]
  | a :: l, h => by
    simp only [List.all_cons, Bool.and_eq_true] at h
    obtain ⟨i1, i2⟩ := sqs_range h.2
    obtain ⟨s1, s2⟩ := sq_range (sample_range h.1)
    simp only [sqs, List.length_cons]
    omega
theorem enG_facts {x : List Int} {len hop : Int} (hx : x.all sampleG = true) (hl : 1 ≤ len) (hl2 : len ≤ 50) (hh : 1 ≤ hop) (n : Nat) : ∀ a : Int, 0 ≤ a → ((x.length : Int) + 1 - a).toNat = n → ((enG len hop x a).length ≤ ((x.length : Int) - a).toNat ∧ ∀ e ∈ enG len hop x a, 0 ≤ e ∧ e ≤ 53683814450) := by
  induction n using Nat.strongRecOn with
  | ind n ih =>
    intro a ha hn
    by_cases h : a + len ≤ x.length
    · rw [enG_yes h hh hl]
      obtain ⟨i1, i2⟩ := ih _ (by omega) (a + hop) (by omega) rfl
      obtain ⟨s1, s2⟩ := sqs_range (part_all hx a len)
      have hp : (partG x a len).length ≤ 50 := by unfold partG; rw [List.length_take]; omega
      refine ⟨by rw [List.length_cons]; omega, fun e he => ?_⟩
      rcases List.mem_cons.1 he with rfl | he
      · omega
      · exact i2 e he
    · rw [enG_no h]
      exact ⟨Nat.zero_le _, fun e he => absurd he (List.not_mem_nil)⟩
theorem okB_en {x : List Int} {len hop : Int} (h : okX x len hop) : okB (enG len hop x 0) := by
  obtain ⟨h1, h2, h3, h4, h5, h6⟩ := h
  obtain ⟨i1, i2⟩ := enG_facts h2 h3 h4 h5 _ 0 (by decide) rfl
  exact ⟨by omega, i2⟩
theorem gatI_facts {len gate pct c s : Int} : ∀ {l : List Int} {i : Int}, (gatI len gate pct c s i l).length ≤ l.length ∧ ∀ j ∈ gatI len gate pct c s i l, i ≤ j ∧ j < i + l.length
  | [], _ => ⟨Nat.le_refl _, fun j hj => absurd hj List.not_mem_nil⟩
  | e :: l, i => by
    obtain ⟨h1, h2⟩ := gatI_facts (len := len) (gate := gate) (pct := pct) (c := c) (s := s) (l := l) (i := i + 1)
    simp only [gatI, List.length_cons]
    cases keepG len gate pct c s e with
    | true =>
      refine ⟨by rw [cond_true, List.length_cons]; omega, fun j hj => ?_⟩
      rw [cond_true] at hj
      rcases List.mem_cons.1 hj with rfl | hj
      · omega
      · have := h2 j hj; omega
    | false =>
      refine ⟨by rw [cond_false]; omega, fun j hj => ?_⟩
      rw [cond_false] at hj
      have := h2 j hj; omega
theorem okI_ld {len hop gate pct : Int} {x : List Int} (h : okX x len hop) : okI (enG len hop x 0) (ldI len hop gate pct x) := by
  have hb := okB_en h
  obtain ⟨h1, h2⟩ := gatI_facts (len := len) (gate := gate) (pct := pct) (c := cntG len gate (enG len hop x 0)) (s := smG len gate (enG len hop x 0)) (l := enG len hop x 0) (i := 0)
  have hl := hb.1
  refine ⟨hb, Nat.le_trans h1 hl, fun j hj => ?_⟩
  have := h2 j hj
  omega
theorem ldI_nil {len hop gate pct : Int} {x : List Int} (h : (enG len hop x 0).isEmpty = true) : (ldI len hop gate pct x).isEmpty = true := by
  unfold ldI
  rw [List.isEmpty_iff.1 h]
  rfl
theorem sumI_range {bs : List Int} (h : okB bs) : ∀ (l : List Int), 0 ≤ sumI bs l ∧ sumI bs l ≤ 53683814450 * l.length
  | [] => by simp [sumI]
  | j :: l => by
    obtain ⟨i1, i2⟩ := sumI_range h l
    have := okB_get h j.toNat
    simp only [sumI, List.length_cons]
    omega
theorem ld_facts {len hop gate pct : Int} {x : List Int} (h : okX x len hop) (hn : (ldI len hop gate pct x).isEmpty = false) :
    0 ≤ ldN len hop gate pct x ∧ ldN len hop gate pct x ≤ 10736762890000 ∧ 1 ≤ ldD len hop gate pct x ∧ ldD len hop gate pct x ≤ 10000 := by
  obtain ⟨hb, hl, _⟩ := okI_ld (gate := gate) (pct := pct) h
  obtain ⟨i1, i2⟩ := sumI_range hb (ldI len hop gate pct x)
  obtain ⟨_, _, h3, h4, _, _⟩ := h
  have hpos : 1 ≤ (ldI len hop gate pct x).length := by
    cases hc : ldI len hop gate pct x with
    | nil => rw [hc] at hn; cases hn
    | cons => simp
  have m1 := Int.mul_le_mul (show ((ldI len hop gate pct x).length : Int) ≤ 200 by omega) h4 (by omega) (by decide : (0 : Int) ≤ 200)
  have m2 := Int.mul_le_mul (show (1 : Int) ≤ ((ldI len hop gate pct x).length : Int) by omega) h3 (by decide) (by omega)
  refine ⟨i1, by unfold ldN; omega, by unfold ldD; omega, by unfold ldD; omega⟩
theorem sumI_step {bs is : List Int} {i : Nat} (h : i < is.length) : sumI bs (is.drop i) = bs.getD (is.getD i 0).toNat 0 + sumI bs (is.drop (i + 1)) := by
  rw [drop_step 0 h]; rfl
theorem loklow : LoopOK Elow (lb Tryd.f102 0) [0, 1, 4, 5, 6] [0, 1, 4, 5] lowL := by
  refine loopOK .nil (noInner (by kernel_rfl)) (fun vs _ => match vs with
    | [_, _, _, _, .one (.int .i64 b)] => b.natAbs
    | _ => 0) fun vs σ k h => ?_
  unfold lowL at h
  split at h
  · rename_i n d a b
    rw [exlowa n d a b _]
    by_cases hb : b = 0
    · subst hb
      rw [gcdG] at h
      simpa using h
    · rw [gcdG, if_neg hb] at h
      simp only [bne, beq_eq_false_iff_ne.2 hb, hb, decide_false, Bool.not_false, cond_true]
      exact ⟨h, by rw [Int.natAbs_tmod]; exact Nat.mod_lt _ (by omega)⟩
  · exact h.elim
theorem oklow : SpecOK Tryd.prog 102 lowS := by
  refine specOK (n := 22) (m := 0) (lps := [(2, .spec [0, 1, 4, 5, 6] [0, 1, 4, 5] lowL)]) .nil Tryd.func102 (by kernel_rfl) (by kernel_rfl) (theLoops (n := 1) (by kernel_rfl) fun i hi => ?_) fun args σ K h => ?_
  · match i, hi with
    | 0, _ => exact loopHyp_of (key := 2) (by kernel_rfl) rfl loklow
  · unfold lowS at h
    split at h
    · rename_i n d
      rw [exlow n d K]
      obtain ⟨h1, h⟩ := h
      rw [decide_eq_false h1]
      exact h
    · exact h.elim
theorem lokloud : LoopOK Eloud (lb Tryd.f23 0) [2, 4, 7, 8, 9, 33, 34, 35] [2, 4, 8, 9] sumL := by
  refine loopOK (.cons okmet (.cons oksig (.cons ok69 (.cons oken (.cons okgat (.cons oklow .nil)))))) (noInner (by kernel_rfl)) (fun vs _ => match vs with
    | [_, _, _, _, _, _, .one (.int .i64 n), .one (.int .i64 i)] => (n - i).toNat
    | _ => 0) fun vs σ k h => ?_
  unfold sumL at h
  split at h
  · rename_i s n i len hop gate pct z0 z1 bs is
    rw [exlouda len hop gate pct z0 z1 s n i bs is _]
    obtain ⟨⟨hI, rfl, h1, h2, h3, h4⟩, h⟩ := h
    have hl := hI.2.1
    by_cases hi : i < is.length
    · have hi' : i.toNat < is.length := by omega
      have hj : is.getD i.toNat 0 ∈ is := by rw [getD_of_lt hi']; exact List.getElem_mem hi'
      obtain ⟨j1, j2⟩ := hI.2.2 _ hj
      have hb := okB_get hI.1 (is.getD i.toNat 0).toNat
      have hmu : ((is.length : Int) - (i + 1)).toNat < ((is.length : Int) - i).toNat := by omega
      have j3 : (is.getD i.toNat 0).toNat < bs.length := by omega
      rw [sumI_step hi'] at h
      simp only [Nat.add_zero]
      rw [wrap_id (n := s + bs.getD (is.getD i.toNat 0).toNat 0) (by omega) (by omega), wrap_id (n := i + 1) (by omega) (by omega)]
      simp only [hi, hi', h1, j1, j2, j3, decide_true, Bool.and_self, cond_true]
      refine ⟨⟨⟨hI, rfl, by omega, by omega, by omega, by omega⟩, ?_⟩, hmu⟩
      rw [show (i + 1).toNat = i.toNat + 1 by omega, Int.add_assoc]
      exact h
    · rw [List.drop_eq_nil_of_le (by omega)] at h
      simp only [sumI, Int.add_zero] at h
      simp only [hi, decide_false, cond_false]
      exact h
  · exact h.elim
theorem okloud : SpecOK Tryd.prog 23 loudS := by
  refine specOK (n := 58) (m := 0) (lps := [(10, .spec [2, 4, 7, 8, 9, 33, 34, 35] [2, 4, 8, 9] sumL)]) (.cons okmet (.cons oksig (.cons ok69 (.cons oken (.cons okgat (.cons oklow .nil)))))) Tryd.func23 (by kernel_rfl) (by kernel_rfl) (theLoops (n := 1) (by kernel_rfl) fun i hi => ?_) fun args σ K h => ?_
  · match i, hi with
    | 0, _ => exact loopHyp_of (key := 10) (by kernel_rfl) rfl lokloud
  · unfold loudS at h
    split at h
    · rename_i len hop gate pct x
      rw [exloud len hop gate pct x K]
      obtain ⟨h1, h⟩ := h
      refine ⟨h1, by simp, ?_⟩
      by_cases he : meE len hop gate pct x = 0
      · obtain ⟨hm, hs⟩ := meE_zero he
        have hX := okX_of hm hs
        rw [he] at h
        simp only [beq_self_eq_true, cond_true] at h
        have he' : firstE [bif meterG len hop gate pct then (0 : Int) else (2 : Int), sigE x] = 0 := he
        rw [he']
        simp only [bne_self_eq_false, cond_false]
        refine ⟨hX, ?_⟩
        cases hE : (enG len hop x 0).isEmpty with
        | true =>
          rw [ldI_nil hE, cond_true] at h
          rw [cond_true]
          exact ⟨⟨⟨by decide, fun e he => absurd he List.not_mem_nil⟩, hm⟩, h⟩
        | false =>
          rw [cond_false]
          refine ⟨⟨okB_en hX, hm⟩, ?_⟩
          cases hg : (ldI len hop gate pct x).isEmpty with
          | true =>
            have hg' : (gatG len gate pct (enG len hop x 0)).isEmpty = true := hg
            rw [hg, cond_true] at h
            rw [hg', cond_true]
            exact h
          | false =>
            have hg' : (gatG len gate pct (enG len hop x 0)).isEmpty = false := hg
            rw [hg, cond_false] at h
            rw [hg', cond_false]
            obtain ⟨n1, n2, d1, d2⟩ := ld_facts hX hg
            have hI := okI_ld (gate := gate) (pct := pct) hX
            have hlen : (((gatG len gate pct (enG len hop x 0)).length : Int) == 0) = false := by
              refine beq_eq_false_iff_ne.2 fun e => ?_
              cases hc : gatG len gate pct (enG len hop x 0) with
              | nil => rw [hc] at hg'; cases hg'
              | cons => rw [hc] at e; simp at e; omega
            rw [hlen, cond_false, Int.zero_add, wrap_id (n := ((gatG len gate pct (enG len hop x 0)).length : Int) * len) (by change -9223372036854775808 ≤ ldD len hop gate pct x; omega) (by change ldD len hop gate pct x < 9223372036854775808; omega)]
            obtain ⟨_, g1, g2, g3, g4⟩ := divG_gcdG (a := ldN len hop gate pct x) (b := ldD len hop gate pct x) n1 (by omega) (by omega)
            obtain ⟨q1, q2⟩ := tdiv_le n1 g1
            refine ⟨⟨hI, by first | rfl | trivial, by decide, by omega, by decide, by decide⟩, ?_, ?_⟩
            · change gcdG (ldN len hop gate pct x) (ldD len hop gate pct x) ≠ 0
              omega
            · have hw : decide (wi ((ldN len hop gate pct x).tdiv (gcdG (ldN len hop gate pct x) (ldD len hop gate pct x))) > 1000000000000000) = false := by
                rw [wi_id (by omega) (by omega)]
                exact decide_eq_false (by omega)
              change bif decide (wi ((ldN len hop gate pct x).tdiv (gcdG (ldN len hop gate pct x) (ldD len hop gate pct x))) > 1000000000000000) then _ else _
              rw [hw, cond_false]
              exact h
      · have e1 : (meE len hop gate pct x == 0) = false := beq_eq_false_iff_ne.2 he
        have e2 : (firstE [bif meterG len hop gate pct then (0 : Int) else (2 : Int), sigE x] != 0) = true := bne_iff_ne.2 (show ¬ meE len hop gate pct x = 0 from he)
        rw [e1, cond_false] at h
        rw [e2, cond_true]
        exact h
    · exact h.elim
end Go.Ev
