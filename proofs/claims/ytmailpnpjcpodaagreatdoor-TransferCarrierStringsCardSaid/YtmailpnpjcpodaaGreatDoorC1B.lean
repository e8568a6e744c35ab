/-
  Part of the proof of a law.
-/
import Derived.Test.YtmailpnpjcpodaaGreatDoorC1A
import Derived.KernelRfl
set_option linter.unusedVariables false
set_option linter.unusedSimpArgs false
set_option linter.unusedSectionVars false
/-
  Chapter 1, contracts: names, fractions, carriers.
-/
namespace Go.Ev
open Go Go.Proofs
set_option maxRecDepth 20000
def letterG (c : Int) : Bool := (decide (c ≥ 97) && decide (c ≤ 122)) || (decide (c ≥ 65) && decide (c ≤ 90))
def badG (i c : Int) : Bool := !letterG c && (i == 0 || (c != 45 && (decide (c < 48) || decide (c > 57))))
def charsG (i : Int) : List Int → Bool
  | [] => true
  | c :: l => !badG i c && charsG (i + 1) l
def bytesG (s : List UInt8) : List Int := s.map fun b => (b.toNat : Int)
def nameG (s : List UInt8) : Bool := (decide (1 ≤ s.length) && decide (s.length ≤ 12)) && charsG 0 (bytesG s)
def nameS : Spec := fun args σ K => match args, σ with
  | [.one (.str s)], [] => s.length ≤ 1000000 ∧ K (.one (.bool (nameG s))) []
  | _, _ => False
def nameL1 : LSpec := fun vs σ k => match vs, σ with
  | [.one (.str s), .one (.int .i64 i)], [] => (s.length ≤ 1000000 ∧ 0 ≤ i) ∧ bif charsG i ((bytesG s).drop i.toNat) then k (.exit 0) [.any] [] else k .ret [.one (.bool false)] []
  | _, _ => False
def nameL2 : LSpec := fun vs σ k => match vs, σ with
  | [.one (.str s), .one (.data (.ints .u8 l)), .one (.int .i64 n), .one (.int .i64 i)], [] => (l.length ≤ 1000000 ∧ 0 ≤ i ∧ n = l.length) ∧ bif charsG i (l.drop i.toNat) then k (.exit 0) [.one (.str s), .any] [] else k .ret [.one (.str s), .one (.bool false)] []
  | _, _ => False
noncomputable def E73 : Env := envOf Tryz.prog [] [(4, .spec [0, 3] [2] nameL1)] 55 0
noncomputable def E75 : Env := envOf Tryz.prog [] [(2, .spec [0, 7, 8, 9] [0, 2] nameL2)] 54 0
noncomputable def E25 : Env := envOf Tryz.prog [] [] 15 0
noncomputable def E137 : Env := envOf Tryz.prog [] [] 8 0
noncomputable def E126 : Env := envOf Tryz.prog [(99, sizeS)] [(1, .spec [0, 1] [0] gcdL)] 13 0
end Go.Ev

namespace Go.Ev
open Go Go.Proofs
set_option maxRecDepth 100000
theorem ex73 (s : List UInt8) (K : AV → List Blk → Prop) : evFn E73 Tryz.f54 [.one (.str s)] [] K = ( bif decide ((↑s.length : Int) < 1) then K (.one (.bool false)) [] else bif decide ((↑s.length : Int) > 12) then K (.one (.bool false)) [] else (s.length ≤ 1000000 ∧ (0 :Int) ≤ (0 :Int)) ∧ bif charsG 0 (List.drop 0 (bytesG s)) then K (.one (.bool true)) [] else K (.one (.bool false)) []) := by kernel_rfl
theorem ex73a (s : List UInt8) (i : Int) (K : Ex → List AV → List Blk → Prop) : evBody E73 (lb Tryz.f54 0) [0, 3] [2] [.one (.str s), .one (.int .i64 i)] [] K = ( bif decide (i < (↑s.length : Int)) then bif decide (0 ≤ i) && decide (i.toNat < s.length) then bif decide ((↑(s.getD i.toNat (0 : UInt8)).toNat : Int) ≥ 97) then bif decide ((↑(s.getD i.toNat (0 : UInt8)).toNat : Int) ≤ 122) then K .normal [.one (.str s), .one (.int .i64 (IntKind.i64.wrap (i + 1)))] [] else bif decide ((↑(s.getD i.toNat (0 : UInt8)).toNat : Int) ≥ 65) then bif !decide ((↑(s.getD i.toNat (0 : UInt8)).toNat : Int) ≤ 90) then bif i == 0 then K .ret [.one (.bool false)] [] else bif (↑(s.getD i.toNat (0 : UInt8)).toNat : Int) != 45 then bif decide ((↑(s.getD i.toNat (0 : UInt8)).toNat : Int) < 48) then K .ret [.one (.bool false)] [] else bif decide ((↑(s.getD i.toNat (0 : UInt8)).toNat : Int) > 57) then K .ret [.one (.bool false)] [] else K .normal [.one (.str s), .one (.int .i64 (IntKind.i64.wrap (i + 1)))] [] else K .normal [.one (.str s), .one (.int .i64 (IntKind.i64.wrap (i + 1)))] [] else K .normal [.one (.str s), .one (.int .i64 (IntKind.i64.wrap (i + 1)))] [] else bif i == 0 then K .ret [.one (.bool false)] [] else bif (↑(s.getD i.toNat (0 : UInt8)).toNat : Int) != 45 then bif decide ((↑(s.getD i.toNat (0 : UInt8)).toNat : Int) < 48) then K .ret [.one (.bool false)] [] else bif decide ((↑(s.getD i.toNat (0 : UInt8)).toNat : Int) > 57) then K .ret [.one (.bool false)] [] else K .normal [.one (.str s), .one (.int .i64 (IntKind.i64.wrap (i + 1)))] [] else K .normal [.one (.str s), .one (.int .i64 (IntKind.i64.wrap (i + 1)))] [] else bif decide ((↑(s.getD i.toNat (0 : UInt8)).toNat : Int) ≥ 65) then bif !decide ((↑(s.getD i.toNat (0 : UInt8)).toNat : Int) ≤ 90) then bif i == 0 then K .ret [.one (.bool false)] [] else bif (↑(s.getD i.toNat (0 : UInt8)).toNat : Int) != 45 then bif decide ((↑(s.getD i.toNat (0 : UInt8)).toNat : Int) < 48) then K .ret [.one (.bool false)] [] else bif decide ((↑(s.getD i.toNat (0 : UInt8)).toNat : Int) > 57) then K .ret [.one (.bool false)] [] else K .normal [.one (.str s), .one (.int .i64 (IntKind.i64.wrap (i + 1)))] [] else K .normal [.one (.str s), .one (.int .i64 (IntKind.i64.wrap (i + 1)))] [] else K .normal [.one (.str s), .one (.int .i64 (IntKind.i64.wrap (i + 1)))] [] else bif i == 0 then K .ret [.one (.bool false)] [] else bif (↑(s.getD i.toNat (0 : UInt8)).toNat : Int) != 45 then bif decide ((↑(s.getD i.toNat (0 : UInt8)).toNat : Int) < 48) then K .ret [.one (.bool false)] [] else bif decide ((↑(s.getD i.toNat (0 : UInt8)).toNat : Int) > 57) then K .ret [.one (.bool false)] [] else K .normal [.one (.str s), .one (.int .i64 (IntKind.i64.wrap (i + 1)))] [] else K .normal [.one (.str s), .one (.int .i64 (IntKind.i64.wrap (i + 1)))] [] else False else K (.exit 0) [AV.any] []) := by kernel_rfl
theorem ex75 (s : List UInt8) (K : AV → List Blk → Prop) : evFn E75 Tryz.f98 [.one (.str s)] [] K = ( bif decide (s.length ≤ 140737488355328) then ((List.map (fun b => (↑b.toNat : Int)) s).length ≤ 1000000 ∧ (0 :Int) ≤ (0 :Int) ∧ (↑(Row.ints IntKind.u8 (List.map (fun b => (↑b.toNat : Int)) s)).count : Int) = (↑(List.map (fun b => (↑b.toNat : Int)) s).length : Int)) ∧ bif charsG 0 (List.drop 0 (List.map (fun b => (↑b.toNat : Int)) s)) then bif !s == [] then K (.one (.bool (decide ((↑s.length : Int) ≤ 12)))) [] else K (.one (.bool false)) [] else K (.one (.bool false)) [] else False) := by kernel_rfl
theorem ex75a (s : List UInt8) (l : List Int) (n i : Int) (K : Ex → List AV → List Blk → Prop) : evBody E75 (lb Tryz.f98 0) [0, 7, 8, 9] [0, 2] [.one (.str s), .one (.data (.ints .u8 l)), .one (.int .i64 n), .one (.int .i64 i)] [] K = ( bif decide (i < n) then bif decide (0 ≤ i) && decide (i < (↑(Row.ints IntKind.u8 l).count : Int)) then bif (Row.ints IntKind.u8 l).hasN i.toNat 0 1 then bif decide (l.getD (i.toNat + (0 + nat_lit 0)) (0 :Int) ≥ (97 :Int)) then bif decide (l.getD (i.toNat + (0 + nat_lit 0)) (0 :Int) ≤ (122 :Int)) then K .normal [.one (.str s), .one (.data (Row.ints IntKind.u8 l)), .one (.int .i64 n), .one (.int .i64 (IntKind.i64.wrap (i + 1)))] [] else bif decide (l.getD (i.toNat + (0 + nat_lit 0)) (0 :Int) ≥ (65 :Int)) then bif !decide (l.getD (i.toNat + (0 + nat_lit 0)) (0 :Int) ≤ (90 :Int)) then bif i == 0 then K .ret [.one (.str s), .one (.bool false)] [] else bif l.getD (i.toNat + 0) (0 :Int) != (45 :Int) then bif decide (l.getD (i.toNat + (0 + nat_lit 0)) (0 :Int) < (48 :Int)) then K .ret [.one (.str s), .one (.bool false)] [] else bif decide (l.getD (i.toNat + (0 + nat_lit 0)) (0 :Int) > (57 :Int)) then K .ret [.one (.str s), .one (.bool false)] [] else K .normal [.one (.str s), .one (.data (Row.ints IntKind.u8 l)), .one (.int .i64 n), .one (.int .i64 (IntKind.i64.wrap (i + 1)))] [] else K .normal [.one (.str s), .one (.data (Row.ints IntKind.u8 l)), .one (.int .i64 n), .one (.int .i64 (IntKind.i64.wrap (i + 1)))] [] else K .normal [.one (.str s), .one (.data (Row.ints IntKind.u8 l)), .one (.int .i64 n), .one (.int .i64 (IntKind.i64.wrap (i + 1)))] [] else bif i == 0 then K .ret [.one (.str s), .one (.bool false)] [] else bif l.getD (i.toNat + 0) (0 :Int) != (45 :Int) then bif decide (l.getD (i.toNat + (0 + nat_lit 0)) (0 :Int) < (48 :Int)) then K .ret [.one (.str s), .one (.bool false)] [] else bif decide (l.getD (i.toNat + (0 + nat_lit 0)) (0 :Int) > (57 :Int)) then K .ret [.one (.str s), .one (.bool false)] [] else K .normal [.one (.str s), .one (.data (Row.ints IntKind.u8 l)), .one (.int .i64 n), .one (.int .i64 (IntKind.i64.wrap (i + 1)))] [] else K .normal [.one (.str s), .one (.data (Row.ints IntKind.u8 l)), .one (.int .i64 n), .one (.int .i64 (IntKind.i64.wrap (i + 1)))] [] else bif decide (l.getD (i.toNat + (0 + nat_lit 0)) (0 :Int) ≥ (65 :Int)) then bif !decide (l.getD (i.toNat + (0 + nat_lit 0)) (0 :Int) ≤ (90 :Int)) then bif i == 0 then K .ret [.one (.str s), .one (.bool false)] [] else bif l.getD (i.toNat + 0) (0 :Int) != (45 :Int) then bif decide (l.getD (i.toNat + (0 + nat_lit 0)) (0 :Int) < (48 :Int)) then K .ret [.one (.str s), .one (.bool false)] [] else bif decide (l.getD (i.toNat + (0 + nat_lit 0)) (0 :Int) > (57 :Int)) then K .ret [.one (.str s), .one (.bool false)] [] else K .normal [.one (.str s), .one (.data (Row.ints IntKind.u8 l)), .one (.int .i64 n), .one (.int .i64 (IntKind.i64.wrap (i + 1)))] [] else K .normal [.one (.str s), .one (.data (Row.ints IntKind.u8 l)), .one (.int .i64 n), .one (.int .i64 (IntKind.i64.wrap (i + 1)))] [] else K .normal [.one (.str s), .one (.data (Row.ints IntKind.u8 l)), .one (.int .i64 n), .one (.int .i64 (IntKind.i64.wrap (i + 1)))] [] else bif i == 0 then K .ret [.one (.str s), .one (.bool false)] [] else bif l.getD (i.toNat + 0) (0 :Int) != (45 :Int) then bif decide (l.getD (i.toNat + (0 + nat_lit 0)) (0 :Int) < (48 :Int)) then K .ret [.one (.str s), .one (.bool false)] [] else bif decide (l.getD (i.toNat + (0 + nat_lit 0)) (0 :Int) > (57 :Int)) then K .ret [.one (.str s), .one (.bool false)] [] else K .normal [.one (.str s), .one (.data (Row.ints IntKind.u8 l)), .one (.int .i64 n), .one (.int .i64 (IntKind.i64.wrap (i + 1)))] [] else K .normal [.one (.str s), .one (.data (Row.ints IntKind.u8 l)), .one (.int .i64 n), .one (.int .i64 (IntKind.i64.wrap (i + 1)))] [] else False else False else K (.exit 0) [.one (.str s), AV.any] []) := by kernel_rfl
theorem ex25 (n lo hi : Int) (K : AV → List Blk → Prop) : evFn E25 Tryz.f19 [.one (.int .i64 n), .one (.int .i64 lo), .one (.int .i64 hi)] [] K = ( bif decide (lo ≤ n) then K (.one (.bool (decide (n ≤ hi)))) [] else K (.one (.bool false)) []) := by kernel_rfl
theorem ex137 (a : Int) (K : AV → List Blk → Prop) : evFn E137 Tryz.f99 [.one (.int .i64 a)] [] K = ( K (.one (.int .i64 (if IntKind.i64.wrap (0 - a) > a then IntKind.i64.wrap (0 - a) else a))) []) := by kernel_rfl
theorem ex126 (a b : Int) (K : AV → List Blk → Prop) : evFn E126 Tryz.f100 [.one (.int .i64 a), .one (.int .i64 b)] [] K = ( K (.one (.int .i64 (sizeG (gcdG a b)))) []) := by kernel_rfl
theorem ex126a (a b : Int) (K : Ex → List AV → List Blk → Prop) : evBody E126 (lb Tryz.f100 0) [0, 1] [0] [.one (.int .i64 a), .one (.int .i64 b)] [] K = ( bif b != 0 then bif !decide (b = 0) then K .normal [.one (.int .i64 b), .one (.int .i64 (a.tmod b))] [] else False else K (.exit 0) [.one (.int .i64 a)] []) := by kernel_rfl
end Go.Ev

/-
  Chapter 1: the contracts of C1B are kept.
-/
namespace Go.Ev
open Go Go.Proofs
attribute [local irreducible] evFn evBody evRound
set_option maxRecDepth 20000
theorem charsG_step {l : List Int} {i : Int} (h0 : 0 ≤ i) (h : i < l.length) : charsG i (l.drop i.toNat) = (!badG i (l.getD i.toNat 0) && charsG (i + 1) (l.drop (i + 1).toNat)) := by
  rw [drop_step 0 (by omega), show (i + 1).toNat = i.toNat + 1 by omega]
  rfl
theorem bytesG_length {s : List UInt8} : (bytesG s).length = s.length := by simp [bytesG]
theorem bytesG_getD {s : List UInt8} {i : Nat} (h : i < s.length) : (bytesG s).getD i 0 = ((s.getD i 0).toNat : Int) := by
  simp [bytesG, List.getD, h]
theorem nameIf (b1 b2 b3 b4 b5 b6 b7 b8 : Bool) (A B : Prop) :
    (bif b1 then bif b2 then A else bif b3 then bif !b4 then bif b5 then B else bif b6 then bif b7 then B else bif b8 then B else A else A else A else bif b5 then B else bif b6 then bif b7 then B else bif b8 then B else A else A
      else bif b3 then bif !b4 then bif b5 then B else bif b6 then bif b7 then B else bif b8 then B else A else A else A else bif b5 then B else bif b6 then bif b7 then B else bif b8 then B else A else A) =
    (bif !((b1 && b2) || (b3 && b4)) && (b5 || (b6 && (b7 || b8))) then B else A) := by
  cases b1 <;> cases b2 <;> cases b3 <;> cases b4 <;> cases b5 <;> cases b6 <;> cases b7 <;> cases b8 <;> rfl
theorem ex73b (s : List UInt8) (i : Int) (K : Ex → List AV → List Blk → Prop) (h0 : 0 ≤ i) (hi : i < s.length) : evBody E73 (lb Tryz.f54 0) [0, 3] [2] [.one (.str s), .one (.int .i64 i)] [] K =
    (bif badG i ((s.getD i.toNat 0).toNat : Int) then K Ex.ret [.one (.bool false)] [] else K Ex.normal [.one (.str s), .one (.int .i64 (IntKind.i64.wrap (i + 1)))] []) := by
  have hi' : i.toNat < s.length := by omega
  rw [ex73a]
  simp only [hi, hi', h0, decide_true, Bool.and_self, cond_true]
  exact nameIf _ _ _ _ _ _ _ _ _ _
theorem lok73 : LoopOK E73 (lb Tryz.f54 0) [0, 3] [2] nameL1 := by
  refine loopOK AllOK.nil (noInner (by kernel_rfl)) (fun vs _ => match vs with
    | [.one (.str s), .one (.int .i64 i)] => s.length - i.toNat
    | _ => 0) fun vs σ k h => ?_
  unfold nameL1 at h
  split at h
  · rename_i s i
    obtain ⟨⟨h1, h2⟩, h⟩ := h
    by_cases hi : i < s.length
    · have hw : IntKind.i64.wrap (i + 1) = i + 1 := wrap_id (by omega) (by omega)
      refine (ex73b s i _ h2 hi).mpr ?_
      have hi' : i.toNat < s.length := by omega
      rw [charsG_step h2 (by rw [bytesG_length]; exact hi), bytesG_getD hi'] at h
      cases hb : badG i ((s.getD i.toNat 0).toNat : Int) with
      | true => rw [hb] at h; exact h
      | false =>
        rw [hb] at h
        rw [hw]
        exact ⟨⟨⟨h1, by omega⟩, h⟩, by dsimp only; omega⟩
    · refine (ex73a s i _).mpr ?_
      rw [List.drop_eq_nil_of_le (by rw [bytesG_length]; omega)] at h
      simp only [hi, decide_false, cond_false]
      exact h
  · exact h.elim
theorem ok73 : SpecOK Tryz.prog 54 nameS := by
  refine specOK (n := 55) (m := 0) (lps := [(4, .spec [0, 3] [2] nameL1)]) AllOK.nil Tryz.func54 (by kernel_rfl) (by kernel_rfl) (theLoops (n := 1) (by kernel_rfl) fun i hi => ?_) fun args σ K h => ?_
  · match i, hi with
    | 0, _ => exact loopHyp_of (key := 4) (by kernel_rfl) rfl lok73
  · unfold nameS at h
    split at h
    · rename_i s
      refine (ex73 s K).mpr ?_
      obtain ⟨h1, h⟩ := h
      unfold nameG at h
      by_cases a1 : s.length < 1
      · have e : decide (1 ≤ s.length) = false := decide_eq_false (by omega)
        have e' : decide ((s.length : Int) < 1) = true := decide_eq_true (by omega)
        rw [e] at h
        rw [e']
        exact h
      · have e : decide (1 ≤ s.length) = true := decide_eq_true (by omega)
        have e' : decide ((s.length : Int) < 1) = false := decide_eq_false (by omega)
        rw [e] at h
        rw [e']
        by_cases a2 : s.length ≤ 12
        · have f : decide (s.length ≤ 12) = true := decide_eq_true a2
          have f' : decide ((s.length : Int) > 12) = false := decide_eq_false (by omega)
          rw [f] at h
          rw [f']
          refine ⟨⟨h1, by omega⟩, ?_⟩
          simp only [List.drop_zero]
          cases hc : charsG 0 (bytesG s) <;> rw [hc] at h <;> exact h
        · have f : decide (s.length ≤ 12) = false := decide_eq_false a2
          have f' : decide ((s.length : Int) > 12) = true := decide_eq_true (by omega)
          rw [f] at h
          rw [f']
          exact h
    · exact h.elim
theorem ok25 : SpecOK Tryz.prog 19 withinS := by
  refine specOK (n := 15) (m := 0) (lps := []) AllOK.nil Tryz.func19 (by kernel_rfl) (by kernel_rfl) (noLoops (by kernel_rfl)) fun args σ K h => ?_
  unfold withinS at h
  split at h
  · rename_i n lo hi
    refine (ex25 n lo hi K).mpr ?_
    cases hd : decide (lo ≤ n) <;> simpa [hd] using h
  · exact h.elim
theorem ok137 : SpecOK Tryz.prog 99 sizeS := by
  refine specOK (n := 8) (m := 0) (lps := []) AllOK.nil Tryz.func99 (by kernel_rfl) (by kernel_rfl) (noLoops (by kernel_rfl)) fun args σ K h => ?_
  unfold sizeS at h
  split at h
  · exact (ex137 _ K).mpr h
  · exact h.elim
theorem lok126 : LoopOK E126 (lb Tryz.f100 0) [0, 1] [0] gcdL := by
  refine loopOK (.cons ok137 .nil) (noInner (by kernel_rfl)) (fun vs _ => match vs with
    | [_, .one (.int .i64 b)] => b.natAbs
    | _ => 0) fun vs σ k h => ?_
  unfold gcdL at h
  split at h
  · rename_i a b
    refine (ex126a a b _).mpr ?_
    by_cases hb : b = 0
    · subst hb
      rw [gcdG] at h
      simpa using h
    · rw [gcdG, if_neg hb] at h
      simp only [bne, beq_eq_false_iff_ne.2 hb, hb, decide_false, Bool.not_false, cond_true]
      exact ⟨h, by rw [Int.natAbs_tmod]; exact Nat.mod_lt _ (by omega)⟩
  · exact h.elim
theorem ok126 : SpecOK Tryz.prog 100 gcdS := by
  refine specOK (n := 13) (m := 0) (lps := [(1, .spec [0, 1] [0] gcdL)]) (.cons ok137 .nil) Tryz.func100 (by kernel_rfl) (by kernel_rfl) (theLoops (n := 1) (by kernel_rfl) fun i hi => ?_) fun args σ K h => ?_
  · match i, hi with
    | 0, _ => exact loopHyp_of (key := 1) (by kernel_rfl) rfl lok126
  · unfold gcdS at h
    split at h
    · exact (ex126 _ _ K).mpr h
    · exact h.elim
theorem ex75b (s : List UInt8) (l : List Int) (i : Int) (K : Ex → List AV → List Blk → Prop) (h0 : 0 ≤ i) (hi : i < l.length) : evBody E75 (lb Tryz.f98 0) [0, 7, 8, 9] [0, 2] [.one (.str s), .one (.data (.ints .u8 l)), .one (.int .i64 l.length), .one (.int .i64 i)] [] K =
    (bif badG i (l.getD i.toNat 0) then K Ex.ret [.one (.str s), .one (.bool false)] [] else K Ex.normal [.one (.str s), .one (.data (.ints .u8 l)), .one (.int .i64 l.length), .one (.int .i64 (IntKind.i64.wrap (i + 1)))] []) := by
  have hi' : i.toNat < l.length := by omega
  rw [ex75a]
  simp only [count_ints, hasN_one, has_ints, Nat.add_zero, hi, hi', h0, decide_true, Bool.and_self, cond_true]
  exact nameIf _ _ _ _ _ _ _ _ _ _
theorem lok75 : LoopOK E75 (lb Tryz.f98 0) [0, 7, 8, 9] [0, 2] nameL2 := by
  refine loopOK AllOK.nil (noInner (by kernel_rfl)) (fun vs _ => match vs with
    | [_, .one (.data (.ints .u8 l)), _, .one (.int .i64 i)] => l.length - i.toNat
    | _ => 0) fun vs σ k h => ?_
  unfold nameL2 at h
  split at h
  · rename_i s l n i
    obtain ⟨⟨h1, h2, rfl⟩, h⟩ := h
    by_cases hi : i < l.length
    · have hw : IntKind.i64.wrap (i + 1) = i + 1 := wrap_id (by omega) (by omega)
      refine (ex75b s l i _ h2 hi).mpr ?_
      rw [charsG_step h2 hi] at h
      cases hb : badG i (l.getD i.toNat 0) with
      | true => rw [hb] at h; exact h
      | false =>
        rw [hb] at h
        rw [hw]
        exact ⟨⟨⟨h1, by omega, rfl⟩, h⟩, by dsimp only; omega⟩
    · refine (ex75a s l _ i _).mpr ?_
      rw [List.drop_eq_nil_of_le (by omega)] at h
      simp only [hi, decide_false, cond_false]
      exact h
  · exact h.elim
theorem ok75 : SpecOK Tryz.prog 98 nameS := by
  refine specOK (n := 54) (m := 0) (lps := [(2, .spec [0, 7, 8, 9] [0, 2] nameL2)]) AllOK.nil Tryz.func98 (by kernel_rfl) (by kernel_rfl) (theLoops (n := 1) (by kernel_rfl) fun i hi => ?_) fun args σ K h => ?_
  · match i, hi with
    | 0, _ => exact loopHyp_of (key := 2) (by kernel_rfl) rfl lok75
  · unfold nameS at h
    split at h
    · rename_i s
      refine (ex75 s K).mpr ?_
      obtain ⟨h1, h⟩ := h
      have e0 : decide (s.length ≤ 140737488355328) = true := decide_eq_true (by omega)
      rw [e0]
      refine ⟨⟨by simpa using h1, by omega, by simp [count_ints]⟩, ?_⟩
      simp only [List.drop_zero]
      unfold nameG bytesG at h
      cases hc : charsG 0 (s.map fun b => (b.toNat : Int)) with
      | false => rw [hc, Bool.and_false] at h; exact h
      | true =>
        rw [hc, Bool.and_true] at h
        cases s with
        | nil => exact h
        | cons b s =>
          have e1 : decide (1 ≤ (b :: s).length) = true := decide_eq_true (by simp)
          have e2 : decide (((b :: s).length : Int) ≤ 12) = decide ((b :: s).length ≤ 12) := by
            by_cases hh : (b :: s).length ≤ 12
            · rw [decide_eq_true hh, decide_eq_true (by omega)]
            · rw [decide_eq_false hh, decide_eq_false (by omega)]
          rw [e1, Bool.true_and] at h
          rw [e2]
          exact h
    · exact h.elim
end Go.Ev
