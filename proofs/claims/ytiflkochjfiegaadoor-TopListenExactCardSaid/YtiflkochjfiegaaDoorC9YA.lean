/-
  Part of the proof of a law.
-/
import Derived.Test.YtiflkochjfiegaaDoorEvKit2
import Derived.Test.YtiflkochjfiegaaDoorC9XA
import Derived.Test.YtiflkochjfiegaaDoorC9TD
import Derived.KernelRfl
import Derived.Test.YtiflkochjfiegaaDoorC9SB
import Derived.Test.YtiflkochjfiegaaDoorC9TA
import Derived.Test.YtiflkochjfiegaaDoorC9T
import Derived.Test.YtiflkochjfiegaaDoorC9SC
import Derived.Test.YtiflkochjfiegaaDoorC9V
set_option linter.unusedVariables false
set_option linter.unusedSimpArgs false
set_option linter.unusedSectionVars false
/-
  Plain: of all numbers below a power of two, how many have at least so many bits as a list of bits says.
-/
set_option linter.unusedVariables false
set_option linter.unusedSimpArgs false
namespace Go.Ev
open Go
def sumN (f : Nat → Int) : Nat → Nat → Int
  | 0, _ => 0
  | m + 1, k => f k + sumN f m (k + 1)
theorem sumN_plus (f g : Nat → Int) : ∀ (m k : Nat), sumN (fun q => f q + g q) m k = sumN f m k + sumN g m k
  | 0, k => rfl
  | m + 1, k => by
    unfold sumN
    rw [sumN_plus f g m (k + 1)]
    omega
theorem sumN_congr {f g : Nat → Int} : ∀ (m k : Nat), (∀ q, k ≤ q → q < k + m → f q = g q) → sumN f m k = sumN g m k
  | 0, k, _ => rfl
  | m + 1, k, h => by
    unfold sumN
    rw [h k (Nat.le_refl _) (by omega), sumN_congr m (k + 1) fun q h1 h2 => h q (by omega) (by omega)]
theorem sumN_double (f : Nat → Int) : ∀ (m k : Nat), sumN f (2 * m) (2 * k) = sumN (fun q => f (2 * q) + f (2 * q + 1)) m k
  | 0, k => rfl
  | m + 1, k => by
    rw [show 2 * (m + 1) = 2 * m + 1 + 1 by omega]
    unfold sumN
    rw [← sumN_double f m (k + 1), show 2 * (k + 1) = 2 * k + 1 + 1 by omega]
    show f (2 * k) + (f (2 * k + 1) + sumN f (2 * m) (2 * k + 1 + 1)) = _
    omega
def scQ : Nat → List Int → Int
  | _, [] => 0
  | q, y :: h => (bif ((q % 2 : Nat) : Int) == y then 1 else 0) + scQ (q / 2) h
def geI (r : Int) (x : Int) : Int := if x ≥ r then 1 else 0
theorem geI_add (r x : Int) : geI r (1 + x) = geI (r - 1) x := by
  unfold geI
  by_cases h : x ≥ r - 1
  · rw [if_pos h, if_pos (by omega)]
  · rw [if_neg h, if_neg (by omega)]
def pasN : Nat → Int → Int
  | 0, r => if 0 ≥ r then 1 else 0
  | n + 1, r => pasN n (r - 1) + pasN n r
theorem sum_pas : ∀ (h : List Int) (r : Int), (∀ y ∈ h, y = 0 ∨ y = 1) → sumN (fun q => geI r (scQ q h)) (2 ^ h.length) 0 = pasN h.length r
  | [], r, _ => by
    show geI r 0 + 0 = if 0 ≥ r then 1 else 0
    unfold geI
    omega
  | y :: h, r, hy => by
    have ih := fun r => sum_pas h r fun z hz => hy z (by simp [hz])
    rw [List.length_cons, Nat.pow_succ, Nat.mul_comm, show (0 : Nat) = 2 * 0 from rfl, sumN_double]
    unfold pasN
    rw [← ih (r - 1), ← ih r, ← sumN_plus]
    refine sumN_congr _ _ fun q _ _ => ?_
    show geI r ((bif ((2 * q % 2 : Nat) : Int) == y then 1 else 0) + scQ (2 * q / 2) h) + geI r ((bif (((2 * q + 1) % 2 : Nat) : Int) == y then 1 else 0) + scQ ((2 * q + 1) / 2) h) = _
    rw [show 2 * q % 2 = 0 by omega, show 2 * q / 2 = q by omega, show (2 * q + 1) % 2 = 1 by omega, show (2 * q + 1) / 2 = q by omega]
    rcases hy y (by simp) with rfl | rfl
    · show geI r (1 + scQ q h) + geI r (0 + scQ q h) = _
      rw [geI_add, Int.zero_add]
    · show geI r (0 + scQ q h) + geI r (1 + scQ q h) = _
      rw [geI_add, Int.zero_add]
      omega
end Go.Ev

/-
  Chapter 9, contracts: sessions are judged exactly: first part.
-/
namespace Go.Ev
open Go Go.Proofs
set_option maxRecDepth 20000
set_option linter.unusedVariables false
def ru2S : Spec := fun args σ K => match args, σ with
  | [.agg [.data (.ints .i64 h)]], [] => K (.one (.int .i64 (ruE h))) []
  | _, _ => False
def evA (i a : Int) : List (List Int) := [[0, (wi (0 + i)).tmod 3], [0, (wi (1 + i)).tmod 3], [0, (wi (2 + i)).tmod 3], [1, 0], [2, a]]
def evF : Int → List Int → List (List Int)
  | _, [] => []
  | i, a :: r => evA i a ++ evF (i + 1) r
def mkF : List Int → List Int → List (List D)
  | a :: r, x :: h => [.bool (a == x)] :: mkF r h
  | _, _ => []
def exaL : LSpec := fun vs σ k => match vs, σ with
  | [.one (.data (.ints .i64 a)), .one (.ptr 0 1 0 0), .one (.ptr 1 1 0 0), .one .nil, .one (.int .i64 r), .one .nil, .one (.int .i64 i)], [.cells [.data (.ints .i64 h)], .cells [.int .i64 t, .int .i64 u, .int .i64 l]] =>
    (a.length = h.length ∧ 1 ≤ h.length ∧ h.length ≤ 8 ∧ r = 0 ∧ i = 0) ∧ bif a.all ansG then k (.exit 0) [.one (.data (.ints .i64 a)), .one (.ptr 0 1 0 0), .one (.ptr 1 1 0 0), .any, .one (.own 2 2), .one (.int .i64 (scG a h)), .one (.own 3 1)] [.cells [.data (.ints .i64 h)], .cells [.int .i64 t, .int .i64 u, .int .i64 l], .row 128 (.mat .i64 2 (evF 0 a)), .row 4 (.recs [.bool] (mkF a h))]
    else (k .ret [.one (.data (.ints .i64 a)), .one (.ptr 0 1 0 0), .one (.ptr 1 1 0 0), .one (.bool true), .one .nil, .one (.int .i64 0), .one .nil] [.cells [.data (.ints .i64 h)], .cells [.int .i64 t, .int .i64 u, .int .i64 l]] ∧
      ∀ (L : List (List Int)) (M : List (List D)) (s : Int), k .ret [.one (.data (.ints .i64 a)), .one (.ptr 0 1 0 0), .one (.ptr 1 1 0 0), .one (.bool true), .one (.own 2 2), .one (.int .i64 s), .one (.own 3 1)] [.cells [.data (.ints .i64 h)], .cells [.int .i64 t, .int .i64 u, .int .i64 l], .row 128 (.mat .i64 2 L), .row 4 (.recs [.bool] M)])
  | [.one (.data (.ints .i64 a)), .one (.ptr 0 1 0 0), .one (.ptr 1 1 0 0), .one (.own 2 2), .one (.int .i64 r), .one (.own 3 1), .one (.int .i64 i)], [.cells [.data (.ints .i64 h)], .cells [.int .i64 t, .int .i64 u, .int .i64 l], .row 128 (.mat .i64 2 q), .row 4 (.recs [.bool] m)] =>
    (a.length = h.length ∧ h.length ≤ 8 ∧ 0 ≤ r ∧ r ≤ i ∧ i ≤ a.length ∧ q.length ≤ 5 * i.toNat ∧ m.length ≤ i.toNat) ∧ bif (a.drop i.toNat).all ansG then k (.exit 0) [.one (.data (.ints .i64 a)), .one (.ptr 0 1 0 0), .one (.ptr 1 1 0 0), .any, .one (.own 2 2), .one (.int .i64 (r + scG (a.drop i.toNat) (h.drop i.toNat))), .one (.own 3 1)] [.cells [.data (.ints .i64 h)], .cells [.int .i64 t, .int .i64 u, .int .i64 l], .row 128 (.mat .i64 2 (q ++ evF i (a.drop i.toNat))), .row 4 (.recs [.bool] (m ++ mkF (a.drop i.toNat) (h.drop i.toNat)))]
    else ∀ (L : List (List Int)) (M : List (List D)) (s : Int), k .ret [.one (.data (.ints .i64 a)), .one (.ptr 0 1 0 0), .one (.ptr 1 1 0 0), .one (.bool true), .one (.own 2 2), .one (.int .i64 s), .one (.own 3 1)] [.cells [.data (.ints .i64 h)], .cells [.int .i64 t, .int .i64 u, .int .i64 l], .row 128 (.mat .i64 2 L), .row 4 (.recs [.bool] M)]
  | _, _ => False
def okEv (x : List Int) : Bool := x.length == 2 && evE (x.getD 0 0) (x.getD 1 0) == 0
def exdL : LSpec := fun vs σ k => match vs, σ with
  | [.one (.data (.ints .i64 a)), .one (.ptr 0 1 0 0), .one (.ptr 1 1 0 0), .one (.own 2 2), .one (.int .i64 r), .one (.own 3 1), .one (.int .i64 i)], [.cells [.data (.ints .i64 h)], .cells [.int .i64 t, .int .i64 u, .int .i64 l], .row 128 (.mat .i64 2 q), .row 4 (.recs [.bool] m)] =>
    (0 ≤ i ∧ i ≤ q.length ∧ q.length ≤ 1000 ∧ q.all okEv = true) ∧ k (.exit 4) [.one (.data (.ints .i64 a)), .one (.ptr 0 1 0 0), .one (.ptr 1 1 0 0), .any, .one (.own 2 2), .one (.int .i64 r), .one (.own 3 1)] [.cells [.data (.ints .i64 h)], .cells [.int .i64 t, .int .i64 u, .int .i64 l], .row 128 (.mat .i64 2 q), .row 4 (.recs [.bool] m)]
  | _, _ => False
def bitI (k i : Int) : Int := IntKind.i64.wrap (BitVec.ofInt IntKind.i64.bits (k.fdiv (2 ^ (min i.toNat IntKind.i64.bits))) &&& BitVec.ofInt IntKind.i64.bits 1).toNat
def scB (k : Int) : Int → List Int → Int
  | _, [] => 0
  | i, y :: h => (bif bitI k i == y then 1 else 0) + scB k (i + 1) h
def cnB (h : List Int) (r : Int) : Nat → Int → Int
  | 0, _ => 0
  | m + 1, k => (bif decide (scB k 0 h ≥ r) then 1 else 0) + cnB h r m (k + 1)
def excL : LSpec := fun vs σ k => match vs, σ with
  | [.one (.data (.ints .i64 a)), .one (.ptr 0 1 0 0), .one (.ptr 1 1 0 0), .one (.int .i64 r), .one (.own 2 1), .one (.int .i64 s), .one (.int .i64 c), .one (.int .i64 j)], [.cells [.data (.ints .i64 h)], .cells [.int .i64 t, .int .i64 u, .int .i64 l], .row 4 (.recs [.bool] m)] =>
    (a.length = h.length ∧ h.length ≤ 8 ∧ 0 ≤ j ∧ j ≤ 2 ^ h.length ∧ 0 ≤ c ∧ c ≤ j) ∧ k (.exit 6) [.one (.data (.ints .i64 a)), .one (.ptr 0 1 0 0), .one (.own 1 1), .one (.int .i64 s), .one (.int .i64 (c + cnB h r (2 ^ h.length - j.toNat) j))] [.cells [.int .i64 t, .int .i64 u, .int .i64 l], .row 4 (.recs [.bool] m)]
  | _, _ => False
def exiL : LSpec := fun vs σ k => match vs, σ with
  | [.one (.data (.ints .i64 a)), .one (.ptr 0 1 0 0), .one (.ptr 1 1 0 0), .one (.int .i64 r), .one (.own 2 1), .one (.int .i64 s), .one (.int .i64 c), .one (.int .i64 j), .one (.int .i64 x), .one (.int .i64 i)], [.cells [.data (.ints .i64 h)], .cells [.int .i64 t, .int .i64 u, .int .i64 l], .row 4 (.recs [.bool] m)] =>
    (a.length = h.length ∧ h.length ≤ 8 ∧ 0 ≤ i ∧ i ≤ a.length ∧ 0 ≤ x ∧ x ≤ i) ∧ k (.exit 8) [.one (.data (.ints .i64 a)), .one (.ptr 0 1 0 0), .one (.ptr 1 1 0 0), .one (.int .i64 r), .one (.own 2 1), .one (.int .i64 s), .one (.int .i64 c), .one (.int .i64 j), .one (.int .i64 (x + scB j i (h.drop i.toNat)))] [.cells [.data (.ints .i64 h)], .cells [.int .i64 t, .int .i64 u, .int .i64 l], .row 4 (.recs [.bool] m)]
  | _, _ => False
def exoL : LSpec := fun vs σ k => match vs, σ with
  | [.one (.ptr 0 1 0 0), .one (.own 1 1), .one (.ptr 2 1 0 0), .one (.int .i64 e), .one (.int .i64 d), .one (.int .i64 i)], [.cells [.int .i64 t, .int .i64 u, .int .i64 l], .row 4 (.recs [.bool] m), .cells [.int .i64 x, .int .i64 y]] =>
    (m.length ≤ 1000 ∧ 0 ≤ i ∧ i ≤ m.length ∧ -l < d ∧ d < u ∧ 1 ≤ u ∧ u ≤ 29 ∧ 1 ≤ l ∧ l ≤ 29 ∧ (ouG t u l d i (m.drop i.toNat)).2.2 = e ∧ (e = 0 → (ouG t u l d i (m.drop i.toNat)).1 = x ∧ (ouG t u l d i (m.drop i.toNat)).2.1 = y)) ∧
    bif e == 0 then k .ret [.one (.bool true), .one (.int .i64 e)] [] else k (.exit 10) [.any, .one (.int .i64 e)] []
  | _, _ => False
def lawExS : Spec := fun args σ K => match args, σ with
  | [.agg [.data (.ints .i64 h)], .one (.data (.ints .i64 a)), .agg [.int .i64 t, .int .i64 u, .int .i64 l]], [] => K (.one (.bool true)) []
  | _, _ => False
def tawkS : Spec := fun args σ K => match args, σ with
  | [], [] => K (.one (.bool true)) []
  | _, _ => False
noncomputable abbrev Etak : Env := envOf Tryd.prog [(39, tail2S), (53, best2S), (27, intsS)] [] 39 0
noncomputable abbrev Erru2 : Env := envOf Tryd.prog [(125, altS)] [] 15 0
noncomputable abbrev Eexc : Env := envOf Tryd.prog [(86, tawkS), (66, ru2S), (76, teS), (30, withinS), (88, fmtS), (87, parS), (63, cpRS), (89, repDS), (27, intsS), (65, cpSS), (64, scS), (39, tail2S), (48, lowFS), (73, out1S)] [(9, .spec [1, 3, 5, 7, 8, 9, 10] [1, 3, 5, 6, 7, 8, 9] exaL), (14, .unroll 4), (22, .spec [1, 3, 5, 7, 8, 9, 12] [1, 3, 5, 6, 7, 8, 9] exdL), (35, .spec [1, 3, 5, 8, 9, 18, 20, 21] [1, 5, 9, 18, 20] excL), (39, .spec [1, 3, 5, 8, 9, 18, 20, 21, 22, 23] [1, 3, 5, 8, 9, 18, 20, 21, 22] exiL), (51, .spec [5, 9, 26, 27, 28, 29] [6, 27] exoL)] 271 0 [89]
end Go.Ev

namespace Go.Ev
open Go Go.Proofs
set_option maxRecDepth 100000
theorem exexcA (h a : List Int) (t u l : Int) (K : AV → List Blk → Prop) (B : St → Prop) : evStage Eexc Tryd.f15 0 10 (st0 Tryd.f15 [.agg [.data (.ints .i64 h)], .one (.data (.ints .i64 a)), .agg [.int .i64 t, .int .i64 u, .int .i64 l]] []) K B = ( bif ruE h != 0 then K (.one (.bool true)) [] else bif decide ((↑h.length : Int) > 8) then K (.one (.bool true)) [] else bif (↑a.length : Int) != (↑h.length : Int) then K (.one (.bool true)) [] else bif teE t u l != 0 then K (.one (.bool true)) [] else (a.length = h.length ∧ 1 ≤ h.length ∧ h.length ≤ 8 ∧ (0 :Int) = (0 :Int) ∧ (0 :Int) = (0 :Int)) ∧ bif a.all ansG then B { t := [AV.any, .one (.data (Row.ints .i64 a)), AV.any, .one (.ptr 0 1 0 0), AV.any, .one (.ptr 1 1 0 0), AV.any, .one (.own 2 2), .one (.int .i64 (scG a h)), .one (.own 3 1), AV.any, AV.any, AV.any, AV.any, AV.any, AV.any, AV.any, AV.any, AV.any, AV.any, AV.any, AV.any, AV.any, AV.any, AV.any, AV.any, AV.any, AV.any, AV.any, AV.any, AV.any, AV.any, AV.any, AV.any, AV.any, AV.any, AV.any, AV.any, AV.any, AV.any, AV.any, AV.any, AV.any, AV.any, AV.any, AV.any, AV.any, AV.any, AV.any, AV.any, AV.any, AV.any, AV.any, AV.any, AV.any, AV.any, AV.any, AV.any, AV.any, AV.any, AV.any, AV.any, AV.any, AV.any, AV.any, AV.any, AV.any, AV.any, AV.any, AV.any, AV.any, AV.any, AV.any, AV.any, AV.any, AV.any, AV.any, AV.any, AV.any, AV.any, AV.any, AV.any, AV.any, AV.any, AV.any, AV.any, AV.any, AV.any, AV.any, AV.any, AV.any, AV.any, AV.any, AV.any, AV.any, AV.any, AV.any, AV.any, AV.any, AV.any, AV.any, AV.any, AV.any, AV.any, AV.any, AV.any, AV.any, AV.any, AV.any, AV.any, AV.any, AV.any, AV.any, AV.any, AV.any, AV.any, AV.any, AV.any, AV.any, AV.any, AV.any, AV.any, AV.any, AV.any, AV.any, AV.any, AV.any, AV.any, AV.any, AV.any, AV.any, AV.any, AV.any, AV.any, AV.any, AV.any, AV.any, AV.any, AV.any, AV.any, AV.any, AV.any, AV.any, AV.any, AV.any, AV.any, AV.any, AV.any, AV.any, AV.any, AV.any, AV.any, AV.any, AV.any, AV.any, AV.any, AV.any, AV.any, AV.any, AV.any, AV.any, AV.any, AV.any, AV.any, AV.any, AV.any, AV.any, AV.any, AV.any, AV.any, AV.any, AV.any, AV.any, AV.any, AV.any, AV.any, AV.any, AV.any, AV.any, AV.any, AV.any, AV.any, AV.any, AV.any, AV.any, AV.any, AV.any, AV.any, AV.any, AV.any, AV.any, AV.any, AV.any, AV.any, AV.any, AV.any, AV.any, AV.any, AV.any, AV.any, AV.any, AV.any, AV.any, AV.any, AV.any, AV.any, AV.any, AV.any, AV.any, AV.any, AV.any, AV.any, AV.any, AV.any, AV.any, AV.any, AV.any, AV.any, AV.any, AV.any, AV.any, AV.any, AV.any, AV.any, AV.any, AV.any, AV.any, AV.any, AV.any, AV.any, AV.any, AV.any, AV.any, AV.any, AV.any, AV.any, AV.any, AV.any, AV.any, AV.any, AV.any, AV.any, AV.any, AV.any, AV.any, AV.any, AV.any, AV.any, AV.any, AV.any, AV.any, AV.any, AV.any, AV.any, AV.any, AV.any, AV.any, AV.any, AV.any, AV.any, AV.any, AV.any, AV.any, AV.any, AV.any, AV.any, AV.any, AV.any, AV.any, AV.any, AV.any], σ := [Blk.cells [SV.data (Row.ints .i64 h)], Blk.cells [SV.int .i64 t, SV.int .i64 u, SV.int .i64 l], Blk.row 128 (Row.mat .i64 2 (evF 0 a)), Blk.row 4 (Row.recs [CK.bool] (mkF a h))] } else K (.one (.bool true)) [] ∧ ∀ (L : List (List Int)) (M : List (List D)) (s : Int), K (.one (.bool true)) []) := by kernel_rfl
theorem extak (K : AV → List Blk → Prop) : evFn Etak Tryd.f86 [] [] K = ( 3 ≤ 1000000000 ∧ 3 ≤ 1000000000 ∧ K (.one (.bool true)) []) := by kernel_rfl
theorem exrru2 (h : List Int) (K : AV → List Blk → Prop) : evFn Erru2 Tryd.f66 [.agg [.data (.ints .i64 h)]] [] K = ( bif (↑h.length : Int) == 0 then K (.one (.int .i64 10)) [] else bif decide ((↑h.length : Int) > 10) then K (.one (.int .i64 8)) [] else h.length ≤ 1000000000 ∧ bif !h.all ansG then K (.one (.int .i64 2)) [] else K (.one (.int .i64 0)) []) := by kernel_rfl
theorem exexcl0a (a : List Int) (r i : Int) (h : List Int) (t u l : Int) (K : Ex → List AV → List Blk → Prop) : evBody Eexc (lb Tryd.f15 0) [1, 3, 5, 7, 8, 9, 10] [1, 3, 5, 6, 7, 8, 9] [.one (.data (.ints .i64 a)), .one (.ptr 0 1 0 0), .one (.ptr 1 1 0 0), .one .nil, .one (.int .i64 r), .one .nil, .one (.int .i64 i)] [.cells [.data (.ints .i64 h)], .cells [.int .i64 t, .int .i64 u, .int .i64 l]] K = ( bif decide (i < (↑a.length : Int)) then bif decide (0 ≤ i) && decide (i < (↑a.length : Int)) then bif decide (i.toNat + 0 < a.length) then bif !(decide (0 ≤ a.getD (i.toNat + 0) 0) && decide (a.getD (i.toNat + 0) (0 :Int) ≤ (1 :Int))) then K .ret [.one (.data (Row.ints .i64 a)), .one (.ptr 0 1 0 0), .one (.ptr 1 1 0 0), .one (.bool true), .one .nil, .one (.int .i64 r), .one .nil] [Blk.cells [SV.data (Row.ints .i64 h)], Blk.cells [SV.int .i64 t, SV.int .i64 u, SV.int .i64 l]] else bif decide (0 ≤ i) && decide (i < (↑a.length : Int)) then bif decide (i.toNat + 0 < a.length) then bif decide (0 ≤ i) && decide (i < (↑a.length : Int)) then bif decide (i.toNat + 0 < a.length) then bif decide (0 ≤ i) && decide (i < (↑h.length : Int)) then bif decide (i.toNat + 0 < h.length) then bif decide (0 ≤ i) && decide (i < (↑a.length : Int)) then bif decide (i.toNat + 0 < a.length) then bif decide (0 ≤ i) && decide (i < (↑h.length : Int)) then bif decide (i.toNat + 0 < h.length) then bif a.getD (i.toNat + 0) 0 == h.getD (i.toNat + 0) 0 then K .normal [.one (.data (Row.ints .i64 a)), .one (.ptr 0 1 0 0), .one (.ptr 1 1 0 0), .one (.own 2 2), .one (.int .i64 (IntKind.i64.wrap (r + 1))), .one (.own 3 1), .one (.int .i64 (IntKind.i64.wrap (i + 1)))] [Blk.cells [SV.data (Row.ints .i64 h)], Blk.cells [SV.int .i64 t, SV.int .i64 u, SV.int .i64 l], Blk.row 128 (Row.mat .i64 2 [[0, (IntKind.i64.wrap (0 + i)).tmod 3], [0, (IntKind.i64.wrap (1 + i)).tmod 3], [0, (IntKind.i64.wrap (2 + i)).tmod 3], [1, 0], [2, a.getD (i.toNat + 0) 0]]), Blk.row 4 (Row.recs [CK.bool] [[D.bool (a.getD (i.toNat + 0) 0 == h.getD (i.toNat + 0) 0)]])] else K .normal [.one (.data (Row.ints .i64 a)), .one (.ptr 0 1 0 0), .one (.ptr 1 1 0 0), .one (.own 2 2), .one (.int .i64 r), .one (.own 3 1), .one (.int .i64 (IntKind.i64.wrap (i + 1)))] [Blk.cells [SV.data (Row.ints .i64 h)], Blk.cells [SV.int .i64 t, SV.int .i64 u, SV.int .i64 l], Blk.row 128 (Row.mat .i64 2 [[0, (IntKind.i64.wrap (0 + i)).tmod 3], [0, (IntKind.i64.wrap (1 + i)).tmod 3], [0, (IntKind.i64.wrap (2 + i)).tmod 3], [1, 0], [2, a.getD (i.toNat + 0) 0]]), Blk.row 4 (Row.recs [CK.bool] [[D.bool (a.getD (i.toNat + 0) 0 == h.getD (i.toNat + 0) 0)]])] else False else False else False else False else False else False else False else False else False else False else False else False else K (.exit 0) [.one (.data (Row.ints .i64 a)), .one (.ptr 0 1 0 0), .one (.ptr 1 1 0 0), AV.any, .one .nil, .one (.int .i64 r), .one .nil] [Blk.cells [SV.data (Row.ints .i64 h)], Blk.cells [SV.int .i64 t, SV.int .i64 u, SV.int .i64 l]]) := by kernel_rfl
theorem exexcl0b (a : List Int) (r i : Int) (h : List Int) (t u l : Int) (q : List (List Int)) (m : List (List D)) (K : Ex → List AV → List Blk → Prop) : evBody Eexc (lb Tryd.f15 0) [1, 3, 5, 7, 8, 9, 10] [1, 3, 5, 6, 7, 8, 9] [.one (.data (.ints .i64 a)), .one (.ptr 0 1 0 0), .one (.ptr 1 1 0 0), .one (.own 2 2), .one (.int .i64 r), .one (.own 3 1), .one (.int .i64 i)] [.cells [.data (.ints .i64 h)], .cells [.int .i64 t, .int .i64 u, .int .i64 l], .row 128 (.mat .i64 2 q), .row 4 (.recs [.bool] m)] K = ( bif decide (i < (↑a.length : Int)) then bif decide (0 ≤ i) && decide (i < (↑a.length : Int)) then bif decide (i.toNat + 0 < a.length) then bif !(decide (0 ≤ a.getD (i.toNat + 0) 0) && decide (a.getD (i.toNat + 0) (0 :Int) ≤ (1 :Int))) then K .ret [.one (.data (Row.ints .i64 a)), .one (.ptr 0 1 0 0), .one (.ptr 1 1 0 0), .one (.bool true), .one (.own 2 2), .one (.int .i64 r), .one (.own 3 1)] [Blk.cells [SV.data (Row.ints .i64 h)], Blk.cells [SV.int .i64 t, SV.int .i64 u, SV.int .i64 l], Blk.row 128 (Row.mat .i64 2 q), Blk.row 4 (Row.recs [CK.bool] m)] else bif decide ((q ++ [[0, (IntKind.i64.wrap (0 + i)).tmod 3]]).length * 16 ≤ 140737488355328 ∧ (q ++ [[0, (IntKind.i64.wrap (0 + i)).tmod 3]]).length ≤ 140737488355328) then bif decide ((q ++ [[0, (IntKind.i64.wrap (0 + i)).tmod 3]] ++ [[0, (IntKind.i64.wrap (1 + i)).tmod 3]]).length * 16 ≤ 140737488355328 ∧ (q ++ [[0, (IntKind.i64.wrap (0 + i)).tmod 3]] ++ [[0, (IntKind.i64.wrap (1 + i)).tmod 3]]).length ≤ 140737488355328) then bif decide ((q ++ [[0, (IntKind.i64.wrap (0 + i)).tmod 3]] ++ [[0, (IntKind.i64.wrap (1 + i)).tmod 3]] ++ [[0, (IntKind.i64.wrap (2 + i)).tmod 3]]).length * 16 ≤ 140737488355328 ∧ (q ++ [[0, (IntKind.i64.wrap (0 + i)).tmod 3]] ++ [[0, (IntKind.i64.wrap (1 + i)).tmod 3]] ++ [[0, (IntKind.i64.wrap (2 + i)).tmod 3]]).length ≤ 140737488355328) then bif decide (0 ≤ i) && decide (i < (↑a.length : Int)) then bif decide (i.toNat + 0 < a.length) then bif decide ((q ++ [[0, (IntKind.i64.wrap (0 + i)).tmod 3]] ++ [[0, (IntKind.i64.wrap (1 + i)).tmod 3]] ++ [[0, (IntKind.i64.wrap (2 + i)).tmod 3]] ++ [[1, 0], [2, a.getD (i.toNat + 0) 0]]).length * 16 ≤ 140737488355328 ∧ (q ++ [[0, (IntKind.i64.wrap (0 + i)).tmod 3]] ++ [[0, (IntKind.i64.wrap (1 + i)).tmod 3]] ++ [[0, (IntKind.i64.wrap (2 + i)).tmod 3]] ++ [[1, 0], [2, a.getD (i.toNat + 0) 0]]).length ≤ 140737488355328) then bif decide (0 ≤ i) && decide (i < (↑a.length : Int)) then bif decide (i.toNat + 0 < a.length) then bif decide (0 ≤ i) && decide (i < (↑h.length : Int)) then bif decide (i.toNat + 0 < h.length) then bif decide ((m ++ [[D.bool (a.getD (i.toNat + 0) 0 == h.getD (i.toNat + 0) 0)]]).length * 1 ≤ 140737488355328 ∧ (m ++ [[D.bool (a.getD (i.toNat + 0) 0 == h.getD (i.toNat + 0) 0)]]).length ≤ 140737488355328) then bif decide (0 ≤ i) && decide (i < (↑a.length : Int)) then bif decide (i.toNat + 0 < a.length) then bif decide (0 ≤ i) && decide (i < (↑h.length : Int)) then bif decide (i.toNat + 0 < h.length) then bif a.getD (i.toNat + 0) 0 == h.getD (i.toNat + 0) 0 then K .normal [.one (.data (Row.ints .i64 a)), .one (.ptr 0 1 0 0), .one (.ptr 1 1 0 0), .one (.own 2 2), .one (.int .i64 (IntKind.i64.wrap (r + 1))), .one (.own 3 1), .one (.int .i64 (IntKind.i64.wrap (i + 1)))] [Blk.cells [SV.data (Row.ints .i64 h)], Blk.cells [SV.int .i64 t, SV.int .i64 u, SV.int .i64 l], Blk.row 128 (Row.mat .i64 2 (q ++ [[0, (IntKind.i64.wrap (0 + i)).tmod 3]] ++ [[0, (IntKind.i64.wrap (1 + i)).tmod 3]] ++ [[0, (IntKind.i64.wrap (2 + i)).tmod 3]] ++ [[1, 0], [2, a.getD (i.toNat + 0) 0]])), Blk.row 4 (Row.recs [CK.bool] (m ++ [[D.bool (a.getD (i.toNat + 0) 0 == h.getD (i.toNat + 0) 0)]]))] else K .normal [.one (.data (Row.ints .i64 a)), .one (.ptr 0 1 0 0), .one (.ptr 1 1 0 0), .one (.own 2 2), .one (.int .i64 r), .one (.own 3 1), .one (.int .i64 (IntKind.i64.wrap (i + 1)))] [Blk.cells [SV.data (Row.ints .i64 h)], Blk.cells [SV.int .i64 t, SV.int .i64 u, SV.int .i64 l], Blk.row 128 (Row.mat .i64 2 (q ++ [[0, (IntKind.i64.wrap (0 + i)).tmod 3]] ++ [[0, (IntKind.i64.wrap (1 + i)).tmod 3]] ++ [[0, (IntKind.i64.wrap (2 + i)).tmod 3]] ++ [[1, 0], [2, a.getD (i.toNat + 0) 0]])), Blk.row 4 (Row.recs [CK.bool] (m ++ [[D.bool (a.getD (i.toNat + 0) 0 == h.getD (i.toNat + 0) 0)]]))] else False else False else False else False else False else False else False else False else False else False else False else False else False else False else False else False else False else K (.exit 0) [.one (.data (Row.ints .i64 a)), .one (.ptr 0 1 0 0), .one (.ptr 1 1 0 0), AV.any, .one (.own 2 2), .one (.int .i64 r), .one (.own 3 1)] [Blk.cells [SV.data (Row.ints .i64 h)], Blk.cells [SV.int .i64 t, SV.int .i64 u, SV.int .i64 l], Blk.row 128 (Row.mat .i64 2 q), Blk.row 4 (Row.recs [CK.bool] m)]) := by kernel_rfl
theorem exexcl2a (a : List Int) (r i : Int) (h : List Int) (t u l : Int) (q : List (List Int)) (m : List (List D)) (K : Ex → List AV → List Blk → Prop) : evBody Eexc (lb Tryd.f15 2) [1, 3, 5, 7, 8, 9, 12] [1, 3, 5, 6, 7, 8, 9] [.one (.data (.ints .i64 a)), .one (.ptr 0 1 0 0), .one (.ptr 1 1 0 0), .one (.own 2 2), .one (.int .i64 r), .one (.own 3 1), .one (.int .i64 i)] [.cells [.data (.ints .i64 h)], .cells [.int .i64 t, .int .i64 u, .int .i64 l], .row 128 (.mat .i64 2 q), .row 4 (.recs [.bool] m)] K = ( bif decide (i < (↑q.length : Int)) then bif decide (0 ≤ i) && decide (i < (↑q.length : Int)) then bif decide (1 < 2) && decide (i.toNat < q.length) then ((-9223372036854775808 : Int) ≤ (q.getD i.toNat []).getD 1 0 ∧ (q.getD i.toNat []).getD 1 (0 :Int) ≤ (9223372036854775807 :Int)) ∧ (fmtG ((q.getD i.toNat []).getD 0 0) ((q.getD i.toNat []).getD 1 0)).length ≤ 1000000 ∧ bif (parG (fmtG ((q.getD i.toNat []).getD 0 0) ((q.getD i.toNat []).getD 1 0))).snd.snd != 0 then K .ret [.one (.data (Row.ints .i64 a)), .one (.ptr 0 1 0 0), .one (.ptr 1 1 0 0), .one (.bool false), .one (.own 2 2), .one (.int .i64 r), .one (.own 3 1)] [Blk.cells [SV.data (Row.ints .i64 h)], Blk.cells [SV.int .i64 t, SV.int .i64 u, SV.int .i64 l], Blk.row 128 (Row.mat .i64 2 q), Blk.row 4 (Row.recs [CK.bool] m)] else bif decide (0 ≤ i) && decide (i < (↑q.length : Int)) then bif decide (1 < 2) && decide (i.toNat < q.length) then bif !((parG (fmtG ((q.getD i.toNat []).getD 0 0) ((q.getD i.toNat []).getD 1 0))).fst == (q.getD i.toNat []).getD 0 0 && (parG (fmtG ((q.getD i.toNat []).getD 0 0) ((q.getD i.toNat []).getD 1 0))).snd.fst == (q.getD i.toNat []).getD 1 0) then K .ret [.one (.data (Row.ints .i64 a)), .one (.ptr 0 1 0 0), .one (.ptr 1 1 0 0), .one (.bool false), .one (.own 2 2), .one (.int .i64 r), .one (.own 3 1)] [Blk.cells [SV.data (Row.ints .i64 h)], Blk.cells [SV.int .i64 t, SV.int .i64 u, SV.int .i64 l], Blk.row 128 (Row.mat .i64 2 q), Blk.row 4 (Row.recs [CK.bool] m)] else K .normal [.one (.data (Row.ints .i64 a)), .one (.ptr 0 1 0 0), .one (.ptr 1 1 0 0), .one (.own 2 2), .one (.int .i64 r), .one (.own 3 1), .one (.int .i64 (IntKind.i64.wrap (i + 1)))] [Blk.cells [SV.data (Row.ints .i64 h)], Blk.cells [SV.int .i64 t, SV.int .i64 u, SV.int .i64 l], Blk.row 128 (Row.mat .i64 2 q), Blk.row 4 (Row.recs [CK.bool] m)] else False else False else False else False else K (.exit 4) [.one (.data (Row.ints .i64 a)), .one (.ptr 0 1 0 0), .one (.ptr 1 1 0 0), AV.any, .one (.own 2 2), .one (.int .i64 r), .one (.own 3 1)] [Blk.cells [SV.data (Row.ints .i64 h)], Blk.cells [SV.int .i64 t, SV.int .i64 u, SV.int .i64 l], Blk.row 128 (Row.mat .i64 2 q), Blk.row 4 (Row.recs [CK.bool] m)]) := by kernel_rfl
theorem exexcl3a (a : List Int) (r s c j : Int) (h : List Int) (t u l : Int) (m : List (List D)) (K : Ex → List AV → List Blk → Prop) : evBody Eexc (lb Tryd.f15 3) [1, 3, 5, 8, 9, 18, 20, 21] [1, 5, 9, 18, 20] [.one (.data (.ints .i64 a)), .one (.ptr 0 1 0 0), .one (.ptr 1 1 0 0), .one (.int .i64 r), .one (.own 2 1), .one (.int .i64 s), .one (.int .i64 c), .one (.int .i64 j)] [.cells [.data (.ints .i64 h)], .cells [.int .i64 t, .int .i64 u, .int .i64 l], .row 4 (.recs [.bool] m)] K = ( bif decide (j < IntKind.i64.wrap ((1 :Int) * (2 :Int) ^ min (↑a.length : Int).toNat 64)) then (a.length = h.length ∧ h.length ≤ 8 ∧ (0 :Int) ≤ (0 :Int) ∧ 0 ≤ (↑a.length : Int) ∧ (0 :Int) ≤ (0 :Int) ∧ (0 :Int) ≤ (0 :Int)) ∧ bif decide (0 + scB j 0 h ≥ r) then K .normal [.one (.data (Row.ints .i64 a)), .one (.ptr 0 1 0 0), .one (.ptr 1 1 0 0), .one (.int .i64 r), .one (.own 2 1), .one (.int .i64 s), .one (.int .i64 (IntKind.i64.wrap (c + 1))), .one (.int .i64 (IntKind.i64.wrap (j + 1)))] [Blk.cells [SV.data (Row.ints .i64 h)], Blk.cells [SV.int .i64 t, SV.int .i64 u, SV.int .i64 l], Blk.row 4 (Row.recs [CK.bool] m)] else K .normal [.one (.data (Row.ints .i64 a)), .one (.ptr 0 1 0 0), .one (.ptr 1 1 0 0), .one (.int .i64 r), .one (.own 2 1), .one (.int .i64 s), .one (.int .i64 c), .one (.int .i64 (IntKind.i64.wrap (j + 1)))] [Blk.cells [SV.data (Row.ints .i64 h)], Blk.cells [SV.int .i64 t, SV.int .i64 u, SV.int .i64 l], Blk.row 4 (Row.recs [CK.bool] m)] else K (.exit 6) [.one (.data (Row.ints .i64 a)), .one (.ptr 0 1 0 0), .one (.own 1 1), .one (.int .i64 s), .one (.int .i64 c)] [Blk.cells [SV.int .i64 t, SV.int .i64 u, SV.int .i64 l], Blk.row 4 (Row.recs [CK.bool] m)]) := by kernel_rfl
theorem exexcl4a (a : List Int) (r s c j x i : Int) (h : List Int) (t u l : Int) (m : List (List D)) (K : Ex → List AV → List Blk → Prop) : evBody Eexc (lb Tryd.f15 4) [1, 3, 5, 8, 9, 18, 20, 21, 22, 23] [1, 3, 5, 8, 9, 18, 20, 21, 22] [.one (.data (.ints .i64 a)), .one (.ptr 0 1 0 0), .one (.ptr 1 1 0 0), .one (.int .i64 r), .one (.own 2 1), .one (.int .i64 s), .one (.int .i64 c), .one (.int .i64 j), .one (.int .i64 x), .one (.int .i64 i)] [.cells [.data (.ints .i64 h)], .cells [.int .i64 t, .int .i64 u, .int .i64 l], .row 4 (.recs [.bool] m)] K = ( bif decide (i < (↑a.length : Int)) then bif !decide (i < 0) then bif decide (0 ≤ i) && decide (i < (↑h.length : Int)) then bif decide (i.toNat + 0 < h.length) then bif IntKind.i64.wrap (↑(BitVec.ofInt 64 (j.fdiv (2 ^ min i.toNat 64)) &&& BitVec.ofInt 64 1).toNat : Int) == h.getD (i.toNat + 0) 0 then K .normal [.one (.data (Row.ints .i64 a)), .one (.ptr 0 1 0 0), .one (.ptr 1 1 0 0), .one (.int .i64 r), .one (.own 2 1), .one (.int .i64 s), .one (.int .i64 c), .one (.int .i64 j), .one (.int .i64 (IntKind.i64.wrap (x + 1))), .one (.int .i64 (IntKind.i64.wrap (i + 1)))] [Blk.cells [SV.data (Row.ints .i64 h)], Blk.cells [SV.int .i64 t, SV.int .i64 u, SV.int .i64 l], Blk.row 4 (Row.recs [CK.bool] m)] else K .normal [.one (.data (Row.ints .i64 a)), .one (.ptr 0 1 0 0), .one (.ptr 1 1 0 0), .one (.int .i64 r), .one (.own 2 1), .one (.int .i64 s), .one (.int .i64 c), .one (.int .i64 j), .one (.int .i64 x), .one (.int .i64 (IntKind.i64.wrap (i + 1)))] [Blk.cells [SV.data (Row.ints .i64 h)], Blk.cells [SV.int .i64 t, SV.int .i64 u, SV.int .i64 l], Blk.row 4 (Row.recs [CK.bool] m)] else False else False else False else K (.exit 8) [.one (.data (Row.ints .i64 a)), .one (.ptr 0 1 0 0), .one (.ptr 1 1 0 0), .one (.int .i64 r), .one (.own 2 1), .one (.int .i64 s), .one (.int .i64 c), .one (.int .i64 j), .one (.int .i64 x)] [Blk.cells [SV.data (Row.ints .i64 h)], Blk.cells [SV.int .i64 t, SV.int .i64 u, SV.int .i64 l], Blk.row 4 (Row.recs [CK.bool] m)]) := by kernel_rfl
theorem exexcl5a (e d i t u l : Int) (m : List (List D)) (x y : Int) (K : Ex → List AV → List Blk → Prop) : evBody Eexc (lb Tryd.f15 5) [5, 9, 26, 27, 28, 29] [6, 27] [.one (.ptr 0 1 0 0), .one (.own 1 1), .one (.ptr 2 1 0 0), .one (.int .i64 e), .one (.int .i64 d), .one (.int .i64 i)] [.cells [.int .i64 t, .int .i64 u, .int .i64 l], .row 4 (.recs [.bool] m), .cells [.int .i64 x, .int .i64 y]] K = ( bif decide (i < (↑m.length : Int)) then bif decide (0 ≤ i) && decide (i < (↑m.length : Int)) then bif decide (0 < 1) && decide (i.toNat < m.length) then bif ((m.getD i.toNat []).getD 0 (D.int 0)).toBool then bif IntKind.i64.wrap (d + 1) == u then bif e == 0 then K .ret [.one (.bool (x == 0 && y == IntKind.i64.wrap (i + 1))), .one (.int .i64 e)] [] else K .ret [.one (.bool false), .one (.int .i64 e)] [] else bif IntKind.i64.wrap (d + 1) == IntKind.i64.wrap (0 - l) then bif e == 0 then K .ret [.one (.bool (x == 1 && y == IntKind.i64.wrap (i + 1))), .one (.int .i64 e)] [] else K .ret [.one (.bool false), .one (.int .i64 e)] [] else bif IntKind.i64.wrap (i + 1) == t then bif e == 0 then K .ret [.one (.bool (x == 2 && y == IntKind.i64.wrap (i + 1))), .one (.int .i64 e)] [] else K .ret [.one (.bool false), .one (.int .i64 e)] [] else K .normal [.one (.ptr 0 1 0 0), .one (.own 1 1), .one (.ptr 2 1 0 0), .one (.int .i64 e), .one (.int .i64 (IntKind.i64.wrap (d + 1))), .one (.int .i64 (IntKind.i64.wrap (i + 1)))] [Blk.cells [SV.int .i64 t, SV.int .i64 u, SV.int .i64 l], Blk.row 4 (Row.recs [CK.bool] m), Blk.cells [SV.int .i64 x, SV.int .i64 y]] else bif IntKind.i64.wrap (d - 1) == u then bif e == 0 then K .ret [.one (.bool (x == 0 && y == IntKind.i64.wrap (i + 1))), .one (.int .i64 e)] [] else K .ret [.one (.bool false), .one (.int .i64 e)] [] else bif IntKind.i64.wrap (d - 1) == IntKind.i64.wrap (0 - l) then bif e == 0 then K .ret [.one (.bool (x == 1 && y == IntKind.i64.wrap (i + 1))), .one (.int .i64 e)] [] else K .ret [.one (.bool false), .one (.int .i64 e)] [] else bif IntKind.i64.wrap (i + 1) == t then bif e == 0 then K .ret [.one (.bool (x == 2 && y == IntKind.i64.wrap (i + 1))), .one (.int .i64 e)] [] else K .ret [.one (.bool false), .one (.int .i64 e)] [] else K .normal [.one (.ptr 0 1 0 0), .one (.own 1 1), .one (.ptr 2 1 0 0), .one (.int .i64 e), .one (.int .i64 (IntKind.i64.wrap (d - 1))), .one (.int .i64 (IntKind.i64.wrap (i + 1)))] [Blk.cells [SV.int .i64 t, SV.int .i64 u, SV.int .i64 l], Blk.row 4 (Row.recs [CK.bool] m), Blk.cells [SV.int .i64 x, SV.int .i64 y]] else False else False else K (.exit 10) [AV.any, .one (.int .i64 e)] []) := by kernel_rfl
end Go.Ev

namespace Go.Ev
open Go Go.Proofs
set_option maxRecDepth 100000
theorem exexcB (h a : List Int) (t u l r : Int) (q : List (List Int)) (m : List (List D))  (K : AV → List Blk → Prop) (B : St → Prop) : evStage Eexc Tryd.f15 10 8 { t := ([AV.any, AV.one (SV.data (Row.ints IntKind.i64 a)), AV.any, AV.one (SV.ptr (0 : Nat) (1 : Nat) (0 : Nat) (0 : Nat)), AV.any, AV.one (SV.ptr (1 : Nat) (1 : Nat) (0 : Nat) (0 : Nat)), AV.any, AV.one (SV.own (2 : Nat) (2 : Nat)), AV.one (SV.int IntKind.i64 (r)), AV.one (SV.own (3 : Nat) (1 : Nat))] ++ List.replicate 261 .any), σ := [Blk.cells [SV.data (Row.ints IntKind.i64 h)], Blk.cells [SV.int IntKind.i64 t, SV.int IntKind.i64 u, SV.int IntKind.i64 l], Blk.row (128 : TypeId) (Row.mat IntKind.i64 (2 : Nat) (q)), Blk.row (4 : TypeId) (Row.recs [CK.bool] (m))] } K B = ( ((0 :Int) ≤ (0 :Int) ∧ 0 ≤ (↑q.length : Int) ∧ q.length ≤ 1000 ∧ q.all okEv = true) ∧ h.length ≤ 1000000000000 ∧ (h.length ≤ 1000000000 ∧ q.length ≤ 1000) ∧ bif (rpR (rpE h q) h q).e != 0 then K (.one (.bool false)) [] else (rpR (rpE h q) h q).a.length ≤ 1000000000 ∧ bif !(rpR (rpE h q) h q).a == a then K (.one (.bool false)) [] else bif (rpR (rpE h q) h q).p != (-1 : Int) then K (.one (.bool false)) [] else h.length ≤ 1000000000000 ∧ (rpR (rpE h q) h q).a.length ≤ 1000000000000 ∧ (h.length ≤ 1000000000 ∧ (rpR (rpE h q) h q).a.length ≤ 1000000) ∧ bif boE h (rpR (rpE h q) h q).p (rpR (rpE h q) h q).b0 (rpR (rpE h q) h q).b1 (rpR (rpE h q) h q).b2 (rpR (rpE h q) h q).a != 0 then K (.one (.bool false)) [] else bif (bif boE h (rpR (rpE h q) h q).p (rpR (rpE h q) h q).b0 (rpR (rpE h q) h q).b1 (rpR (rpE h q) h q).b2 (rpR (rpE h q) h q).a == 0 then scG (rpR (rpE h q) h q).a h else (0 :Int)) != r then K (.one (.bool false)) [] else B { t := [AV.any, .one (.data (Row.ints .i64 a)), AV.any, .one (.ptr 0 1 0 0), AV.any, .one (.ptr 1 1 0 0), AV.any, .one (.own 2 2), .one (.int .i64 r), .one (.own 3 1), AV.any, AV.any, AV.any, AV.any, AV.any, .one (.ptr [Blk.cells [SV.data (Row.ints .i64 h)], Blk.cells [SV.int .i64 t, SV.int .i64 u, SV.int .i64 l], Blk.dead, Blk.row 4 (Row.recs [CK.bool] m)].length 1 0 0), .one (.int .i64 (rpR (rpE h q) h q).i), .one (.int .i64 (rpR (rpE h q) h q).e), .one (.int .i64 (bif boE h (rpR (rpE h q) h q).p (rpR (rpE h q) h q).b0 (rpR (rpE h q) h q).b1 (rpR (rpE h q) h q).b2 (rpR (rpE h q) h q).a == 0 then scG (rpR (rpE h q) h q).a h else (0 :Int))), .one (.int .i64 (boE h (rpR (rpE h q) h q).p (rpR (rpE h q) h q).b0 (rpR (rpE h q) h q).b1 (rpR (rpE h q) h q).b2 (rpR (rpE h q) h q).a)), AV.any, AV.any, AV.any, AV.any, AV.any, AV.any, AV.any, AV.any, AV.any, AV.any, AV.any, AV.any, AV.any, AV.any, AV.any, AV.any, AV.any, AV.any, AV.any, AV.any, AV.any, AV.any, AV.any, AV.any, AV.any, AV.any, AV.any, AV.any, AV.any, AV.any, AV.any, AV.any, AV.any, AV.any, AV.any, AV.any, AV.any, AV.any, AV.any, AV.any, AV.any, AV.any, AV.any, AV.any, AV.any, AV.any, AV.any, AV.any, AV.any, AV.any, AV.any, AV.any, AV.any, AV.any, AV.any, AV.any, AV.any, AV.any, AV.any, AV.any, AV.any, AV.any, AV.any, AV.any, AV.any, AV.any, AV.any, AV.any, AV.any, AV.any, AV.any, AV.any, AV.any, AV.any, AV.any, AV.any, AV.any, AV.any, AV.any, AV.any, AV.any, AV.any, AV.any, AV.any, AV.any, AV.any, AV.any, AV.any, AV.any, AV.any, AV.any, AV.any, AV.any, AV.any, AV.any, AV.any, AV.any, AV.any, AV.any, AV.any, AV.any, AV.any, AV.any, AV.any, AV.any, AV.any, AV.any, AV.any, AV.any, AV.any, AV.any, AV.any, AV.any, AV.any, AV.any, AV.any, AV.any, AV.any, AV.tup [TV.agg [SV.int .i64 (rpR (rpE h q) h q).p, SV.bool (rpR (rpE h q) h q).b0, SV.bool (rpR (rpE h q) h q).b1, SV.bool (rpR (rpE h q) h q).b2, SV.data (Row.ints .i64 (rpR (rpE h q) h q).a)], .one (.int .i64 (rpR (rpE h q) h q).i), .one (.int .i64 (rpR (rpE h q) h q).e)], AV.agg [SV.data (Row.ints .i64 h)], AV.agg [SV.data (Row.ints .i64 h)], .one (.own 2 2), AV.tup [TV.agg [SV.int .i64 (rpR (rpE h q) h q).p, SV.bool (rpR (rpE h q) h q).b0, SV.bool (rpR (rpE h q) h q).b1, SV.bool (rpR (rpE h q) h q).b2, SV.data (Row.ints .i64 (rpR (rpE h q) h q).a)], .one (.int .i64 (rpR (rpE h q) h q).i), .one (.int .i64 (rpR (rpE h q) h q).e)], AV.agg [SV.int .i64 (rpR (rpE h q) h q).p, SV.bool (rpR (rpE h q) h q).b0, SV.bool (rpR (rpE h q) h q).b1, SV.bool (rpR (rpE h q) h q).b2, SV.data (Row.ints .i64 (rpR (rpE h q) h q).a)], .one (.int .i64 (rpR (rpE h q) h q).i), .one (.int .i64 (rpR (rpE h q) h q).e), .one (.int .i64 (rpR (rpE h q) h q).e), .one (.bool ((rpR (rpE h q) h q).e != 0)), .one (.bool false), .one (.ptr [Blk.cells [SV.data (Row.ints .i64 h)], Blk.cells [SV.int .i64 t, SV.int .i64 u, SV.int .i64 l], Blk.dead, Blk.row 4 (Row.recs [CK.bool] m)].length 1 0 4), .one (.data (Row.ints .i64 (rpR (rpE h q) h q).a)), .one (.data (Row.ints .i64 a)), .one (.bool ((rpR (rpE h q) h q).a == a)), .one (.bool !(rpR (rpE h q) h q).a == a), .one (.bool !(rpR (rpE h q) h q).a == a), .one (.bool false), .one (.ptr [Blk.cells [SV.data (Row.ints .i64 h)], Blk.cells [SV.int .i64 t, SV.int .i64 u, SV.int .i64 l], Blk.dead, Blk.row 4 (Row.recs [CK.bool] m)].length 1 0 0), .one (.int .i64 (rpR (rpE h q) h q).p), .one (.bool ((rpR (rpE h q) h q).p != (-1 : Int))), .one (.bool false), AV.tup [.one (.int .i64 (bif boE h (rpR (rpE h q) h q).p (rpR (rpE h q) h q).b0 (rpR (rpE h q) h q).b1 (rpR (rpE h q) h q).b2 (rpR (rpE h q) h q).a == 0 then scG (rpR (rpE h q) h q).a h else (0 :Int))), .one (.int .i64 (boE h (rpR (rpE h q) h q).p (rpR (rpE h q) h q).b0 (rpR (rpE h q) h q).b1 (rpR (rpE h q) h q).b2 (rpR (rpE h q) h q).a))], AV.agg [SV.data (Row.ints .i64 h)], AV.agg [SV.data (Row.ints .i64 h)], AV.agg [SV.int .i64 (rpR (rpE h q) h q).p, SV.bool (rpR (rpE h q) h q).b0, SV.bool (rpR (rpE h q) h q).b1, SV.bool (rpR (rpE h q) h q).b2, SV.data (Row.ints .i64 (rpR (rpE h q) h q).a)], AV.agg [SV.int .i64 (rpR (rpE h q) h q).p, SV.bool (rpR (rpE h q) h q).b0, SV.bool (rpR (rpE h q) h q).b1, SV.bool (rpR (rpE h q) h q).b2, SV.data (Row.ints .i64 (rpR (rpE h q) h q).a)], AV.tup [.one (.int .i64 (bif boE h (rpR (rpE h q) h q).p (rpR (rpE h q) h q).b0 (rpR (rpE h q) h q).b1 (rpR (rpE h q) h q).b2 (rpR (rpE h q) h q).a == 0 then scG (rpR (rpE h q) h q).a h else (0 :Int))), .one (.int .i64 (boE h (rpR (rpE h q) h q).p (rpR (rpE h q) h q).b0 (rpR (rpE h q) h q).b1 (rpR (rpE h q) h q).b2 (rpR (rpE h q) h q).a))], .one (.int .i64 (bif boE h (rpR (rpE h q) h q).p (rpR (rpE h q) h q).b0 (rpR (rpE h q) h q).b1 (rpR (rpE h q) h q).b2 (rpR (rpE h q) h q).a == 0 then scG (rpR (rpE h q) h q).a h else (0 :Int))), .one (.int .i64 (boE h (rpR (rpE h q) h q).p (rpR (rpE h q) h q).b0 (rpR (rpE h q) h q).b1 (rpR (rpE h q) h q).b2 (rpR (rpE h q) h q).a)), .one (.int .i64 (boE h (rpR (rpE h q) h q).p (rpR (rpE h q) h q).b0 (rpR (rpE h q) h q).b1 (rpR (rpE h q) h q).b2 (rpR (rpE h q) h q).a)), .one (.bool (boE h (rpR (rpE h q) h q).p (rpR (rpE h q) h q).b0 (rpR (rpE h q) h q).b1 (rpR (rpE h q) h q).b2 (rpR (rpE h q) h q).a != 0)), .one (.bool false), .one (.int .i64 (bif boE h (rpR (rpE h q) h q).p (rpR (rpE h q) h q).b0 (rpR (rpE h q) h q).b1 (rpR (rpE h q) h q).b2 (rpR (rpE h q) h q).a == 0 then scG (rpR (rpE h q) h q).a h else (0 :Int))), .one (.int .i64 r), .one (.bool ((bif boE h (rpR (rpE h q) h q).p (rpR (rpE h q) h q).b0 (rpR (rpE h q) h q).b1 (rpR (rpE h q) h q).b2 (rpR (rpE h q) h q).a == 0 then scG (rpR (rpE h q) h q).a h else (0 :Int)) != r)), .one (.bool false), AV.any, AV.any, AV.any, AV.any, AV.any, AV.any, AV.any, AV.any, AV.any, AV.any, AV.any, AV.any, AV.any, AV.any, AV.any, AV.any, AV.any, AV.any, AV.any, AV.any, AV.any, AV.any, AV.any, AV.any, AV.any, AV.any, AV.any, AV.any, AV.any, AV.any, AV.any, AV.any, AV.any, AV.any, AV.any, AV.any, AV.any, AV.any, AV.any, AV.any, AV.any, AV.any, AV.any, AV.any, AV.any, AV.any, AV.any, AV.any, AV.any, AV.any, AV.any, AV.any, AV.any, AV.any, AV.any, AV.any, AV.any, AV.any, AV.any, AV.any, AV.any, AV.any, AV.any, AV.any, AV.any, AV.any, AV.any, AV.any, AV.any, AV.any, AV.any, AV.any, AV.any, AV.any, AV.any, AV.any, AV.any, AV.any, AV.any, AV.any, AV.any, AV.any, AV.any, AV.any, AV.any, AV.any, AV.any, AV.any, AV.any, AV.any, AV.any, AV.any, AV.any, AV.any, AV.any, AV.any], σ := [Blk.cells [SV.data (Row.ints .i64 h)], Blk.cells [SV.int .i64 t, SV.int .i64 u, SV.int .i64 l], Blk.dead, Blk.row 4 (Row.recs [CK.bool] m), Blk.cells [SV.int .i64 (rpR (rpE h q) h q).p, SV.bool (rpR (rpE h q) h q).b0, SV.bool (rpR (rpE h q) h q).b1, SV.bool (rpR (rpE h q) h q).b2, SV.data (Row.ints .i64 (rpR (rpE h q) h q).a)]] }) := by kernel_rfl
end Go.Ev

namespace Go.Ev
open Go Go.Proofs
set_option maxRecDepth 100000
theorem exexcC (h a z : List Int) (t u l r p s : Int) (b0 b1 b2 : Bool) (m : List (List D)) (a7 a15 a16 a17 a19 a138 a139 a140 a141 a142 a143 a144 a145 a146 a147 a148 a149 a150 a151 a152 a153 a154 a155 a156 a157 a158 a159 a160 a161 a162 a163 a164 a165 a166 a167 a168 a169 a170 a171 a172 a173 a174 : AV) (K : AV → List Blk → Prop) : evRest Eexc Tryd.f15 18 { t := ([AV.any, AV.one (SV.data (Row.ints IntKind.i64 a)), AV.any, AV.one (SV.ptr (0 : Nat) (1 : Nat) (0 : Nat) (0 : Nat)), AV.any, AV.one (SV.ptr (1 : Nat) (1 : Nat) (0 : Nat) (0 : Nat)), AV.any, a7, AV.one (SV.int IntKind.i64 r), AV.one (SV.own (3 : Nat) (1 : Nat)), AV.any, AV.any, AV.any, AV.any, AV.any, a15, a16, a17, AV.one (SV.int IntKind.i64 (s)), a19, AV.any, AV.any, AV.any, AV.any, AV.any, AV.any, AV.any, AV.any, AV.any, AV.any, AV.any, AV.any, AV.any, AV.any, AV.any, AV.any, AV.any, AV.any, AV.any, AV.any, AV.any, AV.any, AV.any, AV.any, AV.any, AV.any, AV.any, AV.any, AV.any, AV.any, AV.any, AV.any, AV.any, AV.any, AV.any, AV.any, AV.any, AV.any, AV.any, AV.any, AV.any, AV.any, AV.any, AV.any, AV.any, AV.any, AV.any, AV.any, AV.any, AV.any, AV.any, AV.any, AV.any, AV.any, AV.any, AV.any, AV.any, AV.any, AV.any, AV.any, AV.any, AV.any, AV.any, AV.any, AV.any, AV.any, AV.any, AV.any, AV.any, AV.any, AV.any, AV.any, AV.any, AV.any, AV.any, AV.any, AV.any, AV.any, AV.any, AV.any, AV.any, AV.any, AV.any, AV.any, AV.any, AV.any, AV.any, AV.any, AV.any, AV.any, AV.any, AV.any, AV.any, AV.any, AV.any, AV.any, AV.any, AV.any, AV.any, AV.any, AV.any, AV.any, AV.any, AV.any, AV.any, AV.any, AV.any, AV.any, AV.any, AV.any, AV.any, AV.any, AV.any, AV.any, AV.any, AV.any, AV.any, AV.any, a138, a139, a140, a141, a142, a143, a144, a145, a146, a147, a148, a149, a150, a151, a152, a153, a154, a155, a156, a157, a158, a159, a160, a161, a162, a163, a164, a165, a166, a167, a168, a169, a170, a171, a172, a173, a174] ++ List.replicate 96 .any), σ := [Blk.cells [SV.data (Row.ints IntKind.i64 h)], Blk.cells [SV.int IntKind.i64 t, SV.int IntKind.i64 u, SV.int IntKind.i64 l], Blk.dead, Blk.row (4 : TypeId) (Row.recs [CK.bool] m), Blk.cells [SV.int IntKind.i64 p, SV.bool b0, SV.bool b1, SV.bool b2, SV.data (Row.ints IntKind.i64 z)]] } K = ( (a.length = h.length ∧ h.length ≤ 8 ∧ (0 :Int) ≤ (0 :Int) ∧ (0 :Int) ≤ (2 :Int) ^ h.length ∧ (0 :Int) ≤ (0 :Int) ∧ (0 :Int) ≤ (0 :Int)) ∧ bif tailE (↑a.length : Int) s != 0 then K (.one (.bool false)) [] else okLw (0 + cnB h r (2 ^ h.length - 0) 0) (IntKind.i64.wrap ((1 :Int) * (2 :Int) ^ min (↑a.length : Int).toNat 64)) ∧ bif !(tlP (↑a.length : Int) s == frN (0 + cnB h r (2 ^ h.length - 0) 0) (IntKind.i64.wrap ((1 :Int) * (2 :Int) ^ min (↑a.length : Int).toNat 64)) && tlQ (↑a.length : Int) s == frD (0 + cnB h r (2 ^ h.length - 0) 0) (IntKind.i64.wrap ((1 :Int) * (2 :Int) ^ min (↑a.length : Int).toNat 64))) then K (.one (.bool false)) [] else m.length ≤ 1000 ∧ (m.length ≤ 1000 ∧ (0 :Int) ≤ (0 :Int) ∧ 0 ≤ (↑m.length : Int) ∧ -l < 0 ∧ 0 < u ∧ 1 ≤ u ∧ u ≤ 29 ∧ 1 ≤ l ∧ l ≤ 29 ∧ (ouG t u l 0 0 m).snd.snd = ouE t u l m ∧ (ouE t u l m = 0 → (ouG t u l 0 0 m).fst = outK t u l m ∧ (ouG t u l 0 0 m).snd.fst = outU t u l m)) ∧ bif ouE t u l m == 0 then K (.one (.bool true)) [] else K (.one (.bool (ouE t u l m == 14))) []) := by kernel_rfl
end Go.Ev

/-
  Chapter 9, plain: a session of answers, replayed; all answers counted.
-/
namespace Go.Ev
open Go Go.Proofs
set_option maxRecDepth 20000
set_option linter.unusedVariables false
set_option linter.unusedSimpArgs false
theorem rp_next {h : List Int} {p : Int} {b0 b1 b2 : Bool} {a : List Int} {j : Int} {x : List Int} {l : List (List Int)} (he : prE h p b0 b1 b2 a.length (x.getD 0 0) (x.getD 1 0) = 0) :
    rpG h p b0 b1 b2 a j (x :: l) = rpG h (nxP p (x.getD 0 0) (x.getD 1 0)) (nxB 0 b0 (x.getD 0 0) (x.getD 1 0)) (nxB 1 b1 (x.getD 0 0) (x.getD 1 0)) (nxB 2 b2 (x.getD 0 0) (x.getD 1 0)) (nxA a (x.getD 0 0) (x.getD 1 0)) (j + 1) l := by
  rw [rpG, he]; rfl
theorem rp_play {h : List Int} {p : Int} {b0 b1 b2 : Bool} {a : List Int} {j n : Int} {l : List (List Int)} (hn : withinG n 0 2 = true) (hp : (p == n) = false) (hl : a.length < h.length) :
    rpG h p b0 b1 b2 a j ([0, n] :: l) = rpG h n (b0 || n == 0) (b1 || n == 1) (b2 || n == 2) a (j + 1) l := by
  have e : prE h p b0 b1 b2 a.length 0 n = 0 := by
    rw [prE_play hn]
    unfold plE
    rw [decide_eq_false (show ¬ (a.length : Int) ≥ h.length by omega), hp]; rfl
  rw [rp_next (x := [0, n]) e]; rfl
theorem rp_stop {h : List Int} {p : Int} {b0 b1 b2 : Bool} {a : List Int} {j : Int} {l : List (List Int)} (hp : (p == -1) = false) :
    rpG h p b0 b1 b2 a j ([1, 0] :: l) = rpG h (-1) b0 b1 b2 a (j + 1) l := by
  have e : prE h p b0 b1 b2 a.length 1 0 = 0 := by
    rw [prE_stop rfl, hp]; rfl
  rw [rp_next (x := [1, 0]) e]; rfl
theorem rp_ans {h : List Int} {p : Int} {a : List Int} {j x : Int} {l : List (List Int)} (hx : ansG x = true) (hl : a.length < h.length) :
    rpG h p true true true a j ([2, x] :: l) = rpG h (-1) false false false (a ++ [x]) (j + 1) l := by
  have e : prE h p true true true a.length 2 x = 0 := by
    rw [prE_ans hx]
    unfold asE
    rw [decide_eq_false (show ¬ (a.length : Int) ≥ h.length by omega)]; rfl
  rw [rp_next (x := [2, x]) e]; rfl
theorem wi_small {n : Int} (h0 : 0 ≤ n) (h1 : n ≤ 1000) : (wi n).tmod 3 = n % 3 := by
  unfold wi
  rw [wrap_id (by omega) (by omega), Int.tmod_eq_emod_of_nonneg h0]
theorem evA_cases {i a : Int} (h0 : 0 ≤ i) (h1 : i ≤ 900) : evA i a = [[0, 0], [0, 1], [0, 2], [1, 0], [2, a]] ∨ evA i a = [[0, 1], [0, 2], [0, 0], [1, 0], [2, a]] ∨ evA i a = [[0, 2], [0, 0], [0, 1], [1, 0], [2, a]] := by
  unfold evA
  rw [wi_small (n := 0 + i) (by omega) (by omega), wi_small (n := 1 + i) (by omega) (by omega), wi_small (n := 2 + i) (by omega) (by omega)]
  have : i % 3 = 0 ∨ i % 3 = 1 ∨ i % 3 = 2 := by omega
  rcases this with h | h | h
  · exact .inl (by rw [show (0 + i) % 3 = 0 by omega, show (1 + i) % 3 = 1 by omega, show (2 + i) % 3 = 2 by omega])
  · exact .inr (.inl (by rw [show (0 + i) % 3 = 1 by omega, show (1 + i) % 3 = 2 by omega, show (2 + i) % 3 = 0 by omega]))
  · exact .inr (.inr (by rw [show (0 + i) % 3 = 2 by omega, show (1 + i) % 3 = 0 by omega, show (2 + i) % 3 = 1 by omega]))
theorem rp_evA {h : List Int} {a : List Int} {i j x : Int} {l : List (List Int)} (h0 : 0 ≤ i) (h1 : i ≤ 900) (hx : ansG x = true) (hl : a.length < h.length) :
    ∃ j', rpG h (-1) false false false a j (evA i x ++ l) = rpG h (-1) false false false (a ++ [x]) j' l := by
  rcases evA_cases (a := x) h0 h1 with e | e | e <;> rw [e]
  · exact ⟨_, (rp_play rfl rfl hl).trans ((rp_play rfl rfl hl).trans ((rp_play rfl rfl hl).trans ((rp_stop rfl).trans (rp_ans hx hl))))⟩
  · exact ⟨_, (rp_play rfl rfl hl).trans ((rp_play rfl rfl hl).trans ((rp_play rfl rfl hl).trans ((rp_stop rfl).trans (rp_ans hx hl))))⟩
  · exact ⟨_, (rp_play rfl rfl hl).trans ((rp_play rfl rfl hl).trans ((rp_play rfl rfl hl).trans ((rp_stop rfl).trans (rp_ans hx hl))))⟩
theorem rp_evF {h : List Int} : ∀ (x a : List Int) (i j : Int), 0 ≤ i → i + x.length ≤ 900 → x.all ansG = true → a.length + x.length ≤ h.length →
    rpG h (-1) false false false a j (evF i x) = ⟨-1, false, false, false, a ++ x, 0, 0⟩
  | [], a, i, j, _, _, _, _ => by rw [List.append_nil]; rfl
  | y :: x, a, i, j, h0, h1, hx, hl => by
    rw [List.all_cons, Bool.and_eq_true] at hx
    rw [List.length_cons] at h1 hl
    obtain ⟨j', e⟩ := rp_evA (h := h) (a := a) (j := j) (l := evF (i + 1) x) h0 (by omega) hx.1 (by omega)
    show rpG h (-1) false false false a j (evA i y ++ evF (i + 1) x) = _
    rw [e, rp_evF x (a ++ [y]) (i + 1) j' (by omega) (by omega) hx.2 (by rw [List.length_append, List.length_singleton]; omega)]
    rw [List.append_assoc]; rfl
theorem evF_len : ∀ (x : List Int) (i : Int), (evF i x).length = 5 * x.length
  | [], _ => rfl
  | y :: x, i => by
    show (evA i y ++ evF (i + 1) x).length = _
    rw [List.length_append, evF_len x (i + 1), List.length_cons]
    show 5 + _ = _
    omega
theorem evF_ok : ∀ (x : List Int) (i : Int), 0 ≤ i → i + x.length ≤ 900 → x.all ansG = true → (evF i x).all okEv = true
  | [], _, _, _, _ => rfl
  | y :: x, i, h0, h1, hx => by
    rw [List.all_cons, Bool.and_eq_true] at hx
    rw [List.length_cons] at h1
    show (evA i y ++ evF (i + 1) x).all okEv = true
    rw [List.all_append, evF_ok x (i + 1) (by omega) (by omega) hx.2, Bool.and_true]
    have hy : okEv [2, y] = true := by
      have h2 : withinG y 0 1 = true := hx.1
      unfold okEv
      show (true && evE 2 y == 0) = true
      unfold evE
      show (true && (bif withinG y 0 1 then (0 : Int) else 2) == 0) = true
      rw [h2]; rfl
    rcases evA_cases (a := y) h0 (by omega) with e | e | e <;> rw [e] <;> (show (true && (true && (true && (true && (okEv [2, y] && true))))) = true; rw [hy]; rfl)
theorem mkF_len : ∀ (a h : List Int), a.length = h.length → (mkF a h).length = a.length
  | [], [], _ => rfl
  | x :: a, y :: h, e => by
    show (mkF a h).length + 1 = a.length + 1
    rw [mkF_len a h (by simpa using e)]
  | [], _ :: _, e => by simp at e
  | _ :: _, [], e => by simp at e
theorem scG_range : ∀ (a h : List Int), 0 ≤ scG a h ∧ scG a h ≤ a.length
  | [], h => by rw [scG_nil]; simp
  | x :: a, [] => by
    show 0 ≤ (0 : Int) ∧ (0 : Int) ≤ _
    simp
    omega
  | x :: a, y :: h => by
    have ih := scG_range a h
    show 0 ≤ (bif x == y then 1 else 0) + scG a h ∧ (bif x == y then 1 else 0) + scG a h ≤ _
    rw [List.length_cons]
    cases x == y
    · show 0 ≤ 0 + _ ∧ 0 + _ ≤ _
      omega
    · show 0 ≤ 1 + _ ∧ 1 + _ ≤ _
      omega
theorem bitI_nat {k i : Nat} (hi : i ≤ 60) (hk : k < 9223372036854775808) : bitI k i = ((k / 2 ^ i % 2 : Nat) : Int) := by
  unfold bitI
  have hb : IntKind.i64.bits = 64 := by decide
  rw [hb, show min ((i : Int).toNat) 64 = i by simp; omega, fdiv_pow]
  have e : (k : Int) / 2 ^ i = ((k / 2 ^ i : Nat) : Int) := by
    rw [Int.natCast_ediv]; simp
  rw [e]
  have hlt : k / 2 ^ i ≤ k := Nat.div_le_self _ _
  generalize k / 2 ^ i = q at *
  rw [and_mask (x := (q : Int)) (by omega) (by omega) 1 1 (by decide) (by omega)]
  rw [show ((2 : Int) ^ 1) = 2 by decide]
  have e2 : (q : Int) % 2 = ((q % 2 : Nat) : Int) := by omega
  rw [e2]
  exact wrap_id (by omega) (by omega)
theorem scB_scQ {k : Nat} (hk : k < 9223372036854775808) : ∀ (h : List Int) (i : Nat), i + h.length ≤ 60 → scB k i h = scQ (k / 2 ^ i) h
  | [], i, _ => rfl
  | y :: h, i, hl => by
    rw [List.length_cons] at hl
    show (bif bitI k i == y then 1 else 0) + scB k (i + 1) h = (bif ((k / 2 ^ i % 2 : Nat) : Int) == y then 1 else 0) + scQ (k / 2 ^ i / 2) h
    rw [bitI_nat (by omega) hk, show ((i : Int) + 1) = ((i + 1 : Nat) : Int) by omega, scB_scQ hk h (i + 1) (by omega), Nat.div_div_eq_div_mul, ← Nat.pow_succ]
theorem cnB_sum (h : List Int) (r : Int) (hl : h.length ≤ 60) : ∀ (m k : Nat), k + m < 9223372036854775808 → cnB h r m k = sumN (fun q => geI r (scQ q h)) m k
  | 0, _, _ => rfl
  | m + 1, k, hk => by
    show (bif decide (scB k 0 h ≥ r) then 1 else 0) + cnB h r m ((k : Int) + 1) = geI r (scQ k h) + sumN _ m (k + 1)
    rw [show ((k : Int) + 1) = ((k + 1 : Nat) : Int) by omega, cnB_sum h r hl m (k + 1) (by omega)]
    have e := scB_scQ (k := k) (by omega) h 0 (by omega)
    rw [Nat.pow_zero, Nat.div_one] at e
    rw [show ((0 : Nat) : Int) = 0 from rfl] at e
    rw [e]
    unfold geI
    by_cases hx : scQ k h ≥ r
    · rw [decide_eq_true hx, if_pos hx]; rfl
    · rw [decide_eq_false hx, if_neg hx]; rfl
def tabP (t : Nat) : Bool := (List.range (t + 1)).all fun r => pasN t (r : Int) == (tailsG (t : Int)).getD r 0
theorem tabP_all : ∀ t : Nat, t ≤ 8 → tabP t = true := by decide +kernel
theorem pas_tails {t r : Nat} (h1 : t ≤ 8) (h2 : r ≤ t) : pasN t (r : Int) = (tailsG (t : Int)).getD r 0 := by
  have := List.all_eq_true.1 (tabP_all t h1) r (List.mem_range.2 (by omega))
  exact eq_of_beq this
theorem cn_tails {h : List Int} {r : Int} (hb : h.all ansG = true) (hl : h.length ≤ 8) (h0 : 0 ≤ r) (h1 : r ≤ h.length) : cnB h r (2 ^ h.length) 0 = (tailsG (h.length : Int)).getD r.toNat 0 := by
  have hp : 2 ^ h.length ≤ 2 ^ 8 := Nat.pow_le_pow_right (by decide) hl
  have e := cnB_sum h r (by omega) (2 ^ h.length) 0 (by omega)
  rw [show ((0 : Nat) : Int) = 0 from rfl] at e
  rw [e, sum_pas h r fun y hy => ?_]
  · have e2 := pas_tails (t := h.length) (r := r.toNat) hl (by omega)
    rw [show ((r.toNat : Nat) : Int) = r by omega] at e2
    exact e2
  · have := List.all_eq_true.1 hb y hy
    unfold ansG withinG at this
    simp only [Bool.and_eq_true, decide_eq_true_eq] at this
    omega
theorem okLw_of2 {a b : Int} (h0 : 0 ≤ a) (hp : 0 < b) (hb : b ≤ 536870912) : okLw a b := by
  obtain ⟨e, g1, _⟩ := divG_gcdG (a := a) (b := b) h0 hp (by omega)
  exact ⟨by rw [e]; omega, e⟩
end Go.Ev

/-
  Chapter 9: the law of blind listening: its contract is kept.
-/
namespace Go.Ev
open Go Go.Proofs
attribute [local irreducible] evFn evBody evRound
set_option maxRecDepth 20000
theorem stE2_zero {h : List Int} {p : Int} {b0 b1 b2 : Bool} {a : List Int} : stE2 h p b0 b1 b2 a = 0 ↔ a.length ≤ h.length ∧ a.all ansG = true ∧ (decide ((a.length : Int) ≥ h.length) && (p != -1 || (b0 || (b1 || b2)))) = false ∧ (p == -1 || hrd p b0 b1 b2) = true := by
  unfold stE2
  by_cases hl : (a.length : Int) ≤ h.length
  · rw [decide_eq_true hl]
    generalize a.all ansG = x
    generalize (decide ((a.length : Int) ≥ h.length) && (p != -1 || (b0 || (b1 || b2)))) = y
    generalize (p == -1 || hrd p b0 b1 b2) = z
    have hl' : a.length ≤ h.length := by omega
    cases x <;> cases y <;> cases z <;> simp [hl']
  · rw [decide_eq_false hl]
    have hl' : ¬ a.length ≤ h.length := by omega
    simp [hl']
theorem boE_mk {h : List Int} {p : Int} {b0 b1 b2 : Bool} {a : List Int} (h1 : ruE h = 0) (h2 : withinG p (-1) 2 = true) (h3 : stE2 h p b0 b1 b2 a = 0) : boE h p b0 b1 b2 a = 0 := by
  unfold boE stE; rw [h1, h2]; exact h3
end Go.Ev

/-
  Chapter 9: sessions are judged exactly: the contract is kept.
-/
namespace Go.Ev
open Go Go.Proofs
attribute [local irreducible] evFn evBody evRound
set_option maxRecDepth 20000
set_option linter.unusedVariables false
set_option linter.unusedSimpArgs false
attribute [local irreducible] evStage evRest
theorem oktak : SpecOK Tryd.prog 86 tawkS := by
  refine specOK (n := 39) (m := 0) (lps := []) (.cons oktail2 (.cons okbest2 (.cons ok30 .nil))) Tryd.func86 (by kernel_rfl) (by kernel_rfl) (noLoops (by kernel_rfl)) fun args σ K h => ?_
  unfold tawkS at h
  split at h
  rotate_right
  · exact h.elim
  rw [extak K]
  exact ⟨by decide, by decide, h⟩
theorem okrru2 : SpecOK Tryd.prog 66 ru2S := by
  refine specOK (n := 15) (m := 0) (lps := []) (.cons okalt .nil) Tryd.func66 (by kernel_rfl) (by kernel_rfl) (noLoops (by kernel_rfl)) fun args σ K h => ?_
  unfold ru2S at h
  split at h
  rotate_right
  · exact h.elim
  rename_i l
  rw [exrru2 l K]
  unfold ruE at h
  by_cases h0 : (l.length : Int) = 0
  · rw [h0] at h ⊢; exact h
  · rw [beq_ff h0]
    rw [decide_eq_true (show (l.length : Int) > 0 by omega)] at h
    by_cases h2 : (l.length : Int) ≤ 10
    · rw [decide_eq_true h2] at h
      rw [decide_eq_false (show ¬ (l.length : Int) > 10 by omega)]
      refine And.intro (by omega) ?_
      cases hs : l.all ansG with
      | false => rw [hs] at h; exact h
      | true => rw [hs] at h; exact h
    · rw [decide_eq_false h2] at h
      rw [decide_eq_true (show (l.length : Int) > 10 by omega)]
      exact h
theorem ans_at {a : List Int} {i : Nat} (hi : i < a.length) (h : (a.drop i).all ansG = true) : ansG (a.getD i 0) = true ∧ (a.drop (i + 1)).all ansG = true := by
  rw [drop_step 0 hi, List.all_cons, Bool.and_eq_true] at h
  exact h
theorem mkF_step {a h : List Int} {i : Nat} (h1 : i < a.length) (h2 : i < h.length) : mkF (a.drop i) (h.drop i) = [.bool (a.getD i 0 == h.getD i 0)] :: mkF (a.drop (i + 1)) (h.drop (i + 1)) := by
  rw [drop_step 0 h1, drop_step 0 h2]; rfl
theorem evF_step {a : List Int} {i : Int} (h0 : 0 ≤ i) (h1 : i.toNat < a.length) : evF i (a.drop i.toNat) = evA i (a.getD i.toNat 0) ++ evF (i + 1) (a.drop (i.toNat + 1)) := by
  rw [drop_step 0 h1]; rfl
theorem lokexc_0 : LoopOK Eexc (lb Tryd.f15 0) [1, 3, 5, 7, 8, 9, 10] [1, 3, 5, 6, 7, 8, 9] exaL := by
  refine loopOK (.cons oktak (.cons okrru2 (.cons oktre (.cons ok25 (.cons okfmt (.cons okprs (.cons okcpR (.cons okrepD (.cons ok30 (.cons okcpS (.cons oksco (.cons oktail2 (.cons oklowF (.cons okout1 .nil)))))))))))))) (fun b' hb => by
    have hl : loopsOf (lb Tryd.f15 0) = [lb Tryd.f15 1] := by kernel_rfl
    rw [hl] at hb
    simp only [List.mem_cons, List.not_mem_nil, or_false] at hb
    subst hb
    exact loopHyp_none (key := 14) (n := 4) (by kernel_rfl) rfl) (fun vs σ => match vs, σ with
    | [.one (.data (.ints .i64 a)), .one (.ptr 0 1 0 0), .one (.ptr 1 1 0 0), .one .nil, .one (.int .i64 _), .one .nil, .one (.int .i64 i)], [.cells [.data (.ints .i64 _)], .cells [.int .i64 _, .int .i64 _, .int .i64 _]] => (a.length - i.toNat)
    | [.one (.data (.ints .i64 a)), .one (.ptr 0 1 0 0), .one (.ptr 1 1 0 0), .one (.own 2 2), .one (.int .i64 _), .one (.own 3 1), .one (.int .i64 i)], [.cells [.data (.ints .i64 _)], .cells [.int .i64 _, .int .i64 _, .int .i64 _], .row 128 (.mat .i64 2 _), .row 4 (.recs [.bool] _)] => (a.length - i.toNat)
    | _, _ => 0) fun vs σ k h => ?_
  unfold exaL at h
  split at h
  rotate_right
  · exact h.elim
  · rename_i a r i hs t u l
    rw [exexcl0a a r i hs t u l _]
    obtain ⟨⟨h1, h2, h3, rfl, rfl⟩, h⟩ := h
    have hal : 0 < a.length := by omega
    have e0 : (0 : Int).toNat = 0 := rfl
    simp only [e0, Nat.add_zero]
    have d1 : decide ((0 : Int) < (a.length : Int)) = true := decide_eq_true (by omega)
    have d2 : decide ((0 : Int) ≤ 0) = true := rfl
    have d3 : decide ((0 : Int) < (hs.length : Int)) = true := decide_eq_true (by omega)
    have d4 : decide (0 < a.length) = true := decide_eq_true hal
    have d5 : decide (0 < hs.length) = true := decide_eq_true (by omega)
    have f1 : (decide (0 ≤ a.getD 0 0) && decide (a.getD 0 0 ≤ 1)) = ansG (a.getD 0 0) := rfl
    have w1 : IntKind.i64.wrap ((0 : Int) + 1) = 1 := by decide
    simp only [d1, d2, d3, d4, d5, f1, w1, Bool.and_self, cond_true]
    cases hg : a.all ansG with
    | false =>
      rw [hg] at h
      cases hx : ansG (a.getD 0 0) with
      | false => exact h.1
      | true =>
        have hr : (a.drop (1 : Int).toNat).all ansG = false := by
          rw [← List.drop_zero (l := a), drop_step 0 hal, List.all_cons, hx, Bool.true_and] at hg
          exact hg
        have hm : a.length - (1 : Int).toNat < a.length - (0 : Int).toNat := by
          show a.length - 1 < a.length - 0
          omega
        cases hv : (a.getD 0 0 == hs.getD 0 0) with
        | true => exact ⟨⟨⟨h1, h3, by decide, by decide, by omega, Nat.le_refl 5, Nat.le_refl 1⟩, by rw [hr]; exact h.2⟩, hm⟩
        | false => exact ⟨⟨⟨h1, h3, by decide, by decide, by omega, Nat.le_refl 5, Nat.le_refl 1⟩, by rw [hr]; exact h.2⟩, hm⟩
    | true =>
      rw [hg] at h
      have hx : ansG (a.getD 0 0) = true ∧ (a.drop 1).all ansG = true := ans_at hal (by rw [List.drop_zero]; exact hg)
      have hm : a.length - (1 : Int).toNat < a.length - (0 : Int).toNat := by
        show a.length - 1 < a.length - 0
        omega
      have s1 : scG a hs = (bif a.getD 0 0 == hs.getD 0 0 then 1 else 0) + scG (a.drop 1) (hs.drop 1) := by
        have := scG_step (a := a) (h := hs) (i := 0) hal (by omega)
        rwa [List.drop_zero, List.drop_zero] at this
      have s2 : evF 0 a = evA 0 (a.getD 0 0) ++ evF 1 (a.drop 1) := by
        have := evF_step (a := a) (i := 0) (by decide) hal
        rwa [show (0 : Int).toNat = 0 from rfl, List.drop_zero] at this
      have s3 : mkF a hs = [.bool (a.getD 0 0 == hs.getD 0 0)] :: mkF (a.drop 1) (hs.drop 1) := by
        have := mkF_step (a := a) (h := hs) (i := 0) hal (by omega)
        rwa [List.drop_zero, List.drop_zero] at this
      rw [s1, s2, s3] at h
      rw [hx.1, Bool.not_true, cond_false]
      cases hv : (a.getD 0 0 == hs.getD 0 0) with
      | true =>
        rw [hv] at h
        refine ⟨⟨⟨h1, h3, by decide, by decide, by omega, Nat.le_refl 5, Nat.le_refl 1⟩, ?_⟩, hm⟩
        rw [show (1 : Int).toNat = 1 from rfl, hx.2]
        exact h
      | false =>
        rw [hv] at h
        refine ⟨⟨⟨h1, h3, by decide, by decide, by omega, Nat.le_refl 5, Nat.le_refl 1⟩, ?_⟩, hm⟩
        rw [show (1 : Int).toNat = 1 from rfl, hx.2]
        exact h
  · rename_i a r i hs t u l q m
    rw [exexcl0b a r i hs t u l q m _]
    obtain ⟨⟨h1, h2, h3, h4, h5, h6, h7⟩, h⟩ := h
    by_cases hi : i < (a.length : Int)
    · have hia : i.toNat < a.length := by omega
      have hih : i.toNat < hs.length := by omega
      have d1 : decide (i < (a.length : Int)) = true := decide_eq_true hi
      have d2 : decide ((0 : Int) ≤ i) = true := decide_eq_true (by omega)
      have d3 : decide (i < (hs.length : Int)) = true := decide_eq_true (by omega)
      have d4 : decide (i.toNat < a.length) = true := decide_eq_true hia
      have d5 : decide (i.toNat < hs.length) = true := decide_eq_true hih
      have f1 : (decide (0 ≤ a.getD i.toNat 0) && decide (a.getD i.toNat 0 ≤ 1)) = ansG (a.getD i.toNat 0) := rfl
      have w1 : IntKind.i64.wrap (i + 1) = i + 1 := wrap_id (by omega) (by omega)
      have w2 : IntKind.i64.wrap (r + 1) = r + 1 := wrap_id (by omega) (by omega)
      have hit : (i + 1).toNat = i.toNat + 1 := by omega
      have hm : a.length - (i + 1).toNat < a.length - i.toNat := by omega
      have l1 : ∀ x : List Int, (q ++ [x]).length = q.length + 1 := fun x => by simp
      have l2 : ∀ x y : List Int, (q ++ [x] ++ [y]).length = q.length + 2 := fun x y => by simp
      have l3 : ∀ x y z : List Int, (q ++ [x] ++ [y] ++ [z]).length = q.length + 3 := fun x y z => by simp
      have l4 : ∀ x y z v w : List Int, (q ++ [x] ++ [y] ++ [z] ++ [v, w]).length = q.length + 5 := fun x y z v w => by simp
      have l5 : ∀ x : List D, (m ++ [x]).length = m.length + 1 := fun x => by simp
      have b1 : decide ((q.length + 1) * 16 ≤ 140737488355328 ∧ q.length + 1 ≤ 140737488355328) = true := decide_eq_true (by omega)
      have b2 : decide ((q.length + 2) * 16 ≤ 140737488355328 ∧ q.length + 2 ≤ 140737488355328) = true := decide_eq_true (by omega)
      have b3 : decide ((q.length + 3) * 16 ≤ 140737488355328 ∧ q.length + 3 ≤ 140737488355328) = true := decide_eq_true (by omega)
      have b4 : decide ((q.length + 5) * 16 ≤ 140737488355328 ∧ q.length + 5 ≤ 140737488355328) = true := decide_eq_true (by omega)
      have b5 : decide ((m.length + 1) * 1 ≤ 140737488355328 ∧ m.length + 1 ≤ 140737488355328) = true := decide_eq_true (by omega)
      have eq5 : ∀ x, q ++ [[(0 : Int), (IntKind.i64.wrap (0 + i)).tmod 3]] ++ [[0, (IntKind.i64.wrap (1 + i)).tmod 3]] ++ [[0, (IntKind.i64.wrap (2 + i)).tmod 3]] ++ [[1, 0], [2, x]] = q ++ evA i x := by
        intro x
        unfold evA wi
        simp only [List.append_assoc, List.singleton_append, List.cons_append, List.nil_append]
      simp only [Nat.add_zero, l1, l2, l3, l4, l5]
      simp only [d1, d2, d3, d4, d5, f1, w1, w2, b1, b2, b3, b4, b5, Bool.and_self, cond_true, eq5]
      have hql : ∀ x, (q ++ evA i x).length ≤ 5 * (i + 1).toNat := fun x => by
        rw [List.length_append, hit]
        show q.length + 5 ≤ _
        omega
      have hml : ∀ x, (m ++ [x]).length ≤ (i + 1).toNat := fun x => by rw [l5, hit]; omega
      cases hx : ansG (a.getD i.toNat 0) with
      | false =>
        have hg : (a.drop i.toNat).all ansG = false := by rw [drop_step 0 hia, List.all_cons, hx]; rfl
        rw [hg] at h
        exact h q m r
      | true =>
        have hg : (a.drop i.toNat).all ansG = (a.drop (i + 1).toNat).all ansG := by rw [drop_step 0 hia, List.all_cons, hx, Bool.true_and, hit]
        rw [hg, evF_step (by omega) hia, mkF_step hia hih, scG_step hia hih, ← hit] at h
        rw [Bool.not_true, cond_false]
        cases hr : (a.drop (i + 1).toNat).all ansG with
        | false =>
          rw [hr] at h
          cases hv : (a.getD i.toNat 0 == hs.getD i.toNat 0) with
          | true => exact ⟨⟨⟨h1, h2, by omega, by omega, by omega, hql _, hml _⟩, by rw [hr]; exact h⟩, hm⟩
          | false => exact ⟨⟨⟨h1, h2, by omega, by omega, by omega, hql _, hml _⟩, by rw [hr]; exact h⟩, hm⟩
        | true =>
          rw [hr] at h
          have as1 : ∀ (x : Int) (y : List (List Int)), q ++ (evA i x ++ y) = q ++ evA i x ++ y := fun x y => (List.append_assoc _ _ _).symm
          have as2 : ∀ (x : List D) (y : List (List D)), m ++ x :: y = m ++ [x] ++ y := fun x y => List.append_cons _ _ _
          rw [as1, as2] at h
          cases hv : (a.getD i.toNat 0 == hs.getD i.toNat 0) with
          | true =>
            rw [hv] at h
            rw [show r + ((bif true then 1 else 0) + scG (a.drop (i + 1).toNat) (hs.drop (i + 1).toNat)) = r + 1 + scG (a.drop (i + 1).toNat) (hs.drop (i + 1).toNat) by show r + (1 + _) = _; omega] at h
            exact ⟨⟨⟨h1, h2, by omega, by omega, by omega, hql _, hml _⟩, by rw [hr]; exact h⟩, hm⟩
          | false =>
            rw [hv] at h
            rw [show r + ((bif false then 1 else 0) + scG (a.drop (i + 1).toNat) (hs.drop (i + 1).toNat)) = r + scG (a.drop (i + 1).toNat) (hs.drop (i + 1).toNat) by show r + (0 + _) = _; omega] at h
            exact ⟨⟨⟨h1, h2, by omega, by omega, by omega, hql _, hml _⟩, by rw [hr]; exact h⟩, hm⟩
    · have hle : a.length ≤ i.toNat := by omega
      rw [decide_eq_false hi, cond_false]
      rw [List.drop_eq_nil_of_le hle, List.drop_eq_nil_of_le (show hs.length ≤ i.toNat by omega)] at h
      have e1 : evF i [] = [] := rfl
      have e2 : mkF [] [] = [] := rfl
      rw [e1, e2, scG_nil, List.append_nil, List.append_nil, Int.add_zero] at h
      exact h
theorem ev_at {q : List (List Int)} {i : Nat} (hi : i < q.length) (h : q.all okEv = true) : evE ((q.getD i []).getD 0 0) ((q.getD i []).getD 1 0) = 0 := by
  have h1 := List.all_eq_true.1 h _ (List.getElem_mem hi)
  rw [show q.getD i [] = q[i] by simp [List.getD, hi]]
  unfold okEv at h1
  rw [Bool.and_eq_true] at h1
  exact eq_of_beq h1.2
theorem evE_num {k n : Int} (h : evE k n = 0) : 0 ≤ n ∧ n ≤ 2 := by
  unfold evE at h
  cases hw : withinG k 0 3 with
  | false => rw [hw] at h; cases h
  | true =>
    rw [hw] at h
    have w2 : withinG n 0 2 = true → 0 ≤ n ∧ n ≤ 2 := fun h2 => by
      unfold withinG at h2
      simp only [Bool.and_eq_true, decide_eq_true_eq] at h2
      exact h2
    have w1 : withinG n 0 1 = true → 0 ≤ n ∧ n ≤ 2 := fun h2 => by
      unfold withinG at h2
      simp only [Bool.and_eq_true, decide_eq_true_eq] at h2
      omega
    rcases within4 hw with rfl | rfl | rfl | rfl
    · cases hn : withinG n 0 2 with
      | true => exact w2 hn
      | false => rw [hn] at h; cases h
    · cases hn : (n == 0) with
      | true => have := eq_of_beq hn; omega
      | false =>
        have : (bif n == 0 then (0 : Int) else 3) = 0 := h
        rw [hn] at this; cases this
    · cases hn : withinG n 0 1 with
      | true => exact w1 hn
      | false => rw [hn] at h; cases h
    · cases hn : (n == 0) with
      | true => have := eq_of_beq hn; omega
      | false =>
        have : (bif n == 0 then (0 : Int) else 3) = 0 := h
        rw [hn] at this; cases this
theorem lokexc_2 : LoopOK Eexc (lb Tryd.f15 2) [1, 3, 5, 7, 8, 9, 12] [1, 3, 5, 6, 7, 8, 9] exdL := by
  refine loopOK (.cons oktak (.cons okrru2 (.cons oktre (.cons ok25 (.cons okfmt (.cons okprs (.cons okcpR (.cons okrepD (.cons ok30 (.cons okcpS (.cons oksco (.cons oktail2 (.cons oklowF (.cons okout1 .nil)))))))))))))) (noInner (by kernel_rfl)) (fun vs σ => match vs, σ with
    | [.one (.data (.ints .i64 _)), .one (.ptr 0 1 0 0), .one (.ptr 1 1 0 0), .one (.own 2 2), .one (.int .i64 _), .one (.own 3 1), .one (.int .i64 i)], [.cells [.data (.ints .i64 _)], .cells [.int .i64 _, .int .i64 _, .int .i64 _], .row 128 (.mat .i64 2 q), .row 4 (.recs [.bool] _)] => (q.length - i.toNat)
    | _, _ => 0) fun vs σ k h => ?_
  unfold exdL at h
  split at h
  rotate_right
  · exact h.elim
  · rename_i a r i hs t u l q m
    rw [exexcl2a a r i hs t u l q m _]
    obtain ⟨⟨h1, h2, h3, h4⟩, h⟩ := h
    by_cases hi : i < (q.length : Int)
    · have hiq : i.toNat < q.length := by omega
      have he := ev_at hiq h4
      have hn := evE_num he
      have w1 : IntKind.i64.wrap (i + 1) = i + 1 := wrap_id (by omega) (by omega)
      rw [decide_eq_true hi, decide_eq_true h1, decide_eq_true hiq, w1]
      simp only [show decide (1 < 2) = true from rfl, Bool.and_self, cond_true]
      have hb : -9223372036854775808 ≤ (q.getD i.toNat []).getD 1 0 ∧ (q.getD i.toNat []).getD 1 0 ≤ 9223372036854775807 := by omega
      refine ⟨hb, by have := fmtG_len (k := (q.getD i.toNat []).getD 0 0) hb; omega, ?_⟩
      rw [par_fmt he]
      simp only [beq_self_eq_true, bne_self_eq_false, Bool.and_self, Bool.not_true, cond_false]
      exact ⟨⟨⟨by omega, by omega, h3, h4⟩, h⟩, by show q.length - (i + 1).toNat < q.length - i.toNat; omega⟩
    · rw [decide_eq_false hi]
      exact h
theorem lokexc_4 : LoopOK Eexc (lb Tryd.f15 4) [1, 3, 5, 8, 9, 18, 20, 21, 22, 23] [1, 3, 5, 8, 9, 18, 20, 21, 22] exiL := by
  refine loopOK (.cons oktak (.cons okrru2 (.cons oktre (.cons ok25 (.cons okfmt (.cons okprs (.cons okcpR (.cons okrepD (.cons ok30 (.cons okcpS (.cons oksco (.cons oktail2 (.cons oklowF (.cons okout1 .nil)))))))))))))) (noInner (by kernel_rfl)) (fun vs σ => match vs, σ with
    | [.one (.data (.ints .i64 a)), .one (.ptr 0 1 0 0), .one (.ptr 1 1 0 0), .one (.int .i64 _), .one (.own 2 1), .one (.int .i64 _), .one (.int .i64 _), .one (.int .i64 _), .one (.int .i64 _), .one (.int .i64 i)], [.cells [.data (.ints .i64 _)], .cells [.int .i64 _, .int .i64 _, .int .i64 _], .row 4 (.recs [.bool] _)] => (a.length - i.toNat)
    | _, _ => 0) fun vs σ k h => ?_
  unfold exiL at h
  split at h
  rotate_right
  · exact h.elim
  · rename_i a r s c j x i hs t u l m
    rw [exexcl4a a r s c j x i hs t u l m _]
    obtain ⟨⟨h1, h2, h3, h4, h5, h6⟩, h⟩ := h
    by_cases hi : i < (a.length : Int)
    · have hih : i.toNat < hs.length := by omega
      have w1 : IntKind.i64.wrap (i + 1) = i + 1 := wrap_id (by omega) (by omega)
      have w2 : IntKind.i64.wrap (x + 1) = x + 1 := wrap_id (by omega) (by omega)
      have hit : (i + 1).toNat = i.toNat + 1 := by omega
      have hm : a.length - (i + 1).toNat < a.length - i.toNat := by omega
      rw [decide_eq_true hi, decide_eq_false (show ¬ i < 0 by omega), decide_eq_true h3, decide_eq_true (show i < (hs.length : Int) by omega)]
      simp only [Nat.add_zero]
      rw [decide_eq_true hih, w1, w2]
      simp only [Bool.not_false, Bool.and_self, cond_true]
      have e : scB j i (hs.drop i.toNat) = (bif bitI j i == hs.getD i.toNat 0 then 1 else 0) + scB j (i + 1) (hs.drop (i + 1).toNat) := by
        rw [drop_step 0 hih, hit]; rfl
      have eb : IntKind.i64.wrap (((BitVec.ofInt 64 (j.fdiv (2 ^ min i.toNat 64)) &&& BitVec.ofInt 64 1).toNat : Nat) : Int) = bitI j i := rfl
      rw [eb]
      rw [e] at h
      cases hv : (bitI j i == hs.getD i.toNat 0) with
      | true =>
        rw [hv] at h
        rw [show x + ((bif true then 1 else 0) + scB j (i + 1) (hs.drop (i + 1).toNat)) = x + 1 + scB j (i + 1) (hs.drop (i + 1).toNat) by show x + (1 + _) = _; omega] at h
        exact ⟨⟨⟨h1, h2, by omega, by omega, by omega, by omega⟩, h⟩, hm⟩
      | false =>
        rw [hv] at h
        rw [show x + ((bif false then 1 else 0) + scB j (i + 1) (hs.drop (i + 1).toNat)) = x + scB j (i + 1) (hs.drop (i + 1).toNat) by show x + (0 + _) = _; omega] at h
        exact ⟨⟨⟨h1, h2, by omega, by omega, by omega, by omega⟩, h⟩, hm⟩
    · rw [decide_eq_false hi]
      rw [List.drop_eq_nil_of_le (show hs.length ≤ i.toNat by omega)] at h
      have e1 : scB j i [] = 0 := rfl
      rw [e1, Int.add_zero] at h
      exact h
theorem pow_of {n : Nat} (h : n ≤ 8) : IntKind.i64.wrap ((1 : Int) * 2 ^ min ((n : Int).toNat) 64) = ((2 ^ n : Nat) : Int) ∧ 1 ≤ 2 ^ n ∧ 2 ^ n ≤ 256 := by
  have : ∀ n : Nat, n ≤ 8 → IntKind.i64.wrap ((1 : Int) * 2 ^ min ((n : Int).toNat) 64) = ((2 ^ n : Nat) : Int) ∧ 1 ≤ 2 ^ n ∧ 2 ^ n ≤ 256 := by decide
  exact this n h
theorem lokexc_3 : LoopOK Eexc (lb Tryd.f15 3) [1, 3, 5, 8, 9, 18, 20, 21] [1, 5, 9, 18, 20] excL := by
  refine loopOK (.cons oktak (.cons okrru2 (.cons oktre (.cons ok25 (.cons okfmt (.cons okprs (.cons okcpR (.cons okrepD (.cons ok30 (.cons okcpS (.cons oksco (.cons oktail2 (.cons oklowF (.cons okout1 .nil)))))))))))))) (fun b' hb => by
    have hl : loopsOf (lb Tryd.f15 3) = [lb Tryd.f15 4] := by kernel_rfl
    rw [hl] at hb
    simp only [List.mem_cons, List.not_mem_nil, or_false] at hb
    subst hb
    exact loopHyp_of (key := 39) (by kernel_rfl) rfl lokexc_4) (fun vs σ => match vs, σ with
    | [.one (.data (.ints .i64 a)), .one (.ptr 0 1 0 0), .one (.ptr 1 1 0 0), .one (.int .i64 _), .one (.own 2 1), .one (.int .i64 _), .one (.int .i64 _), .one (.int .i64 j)], [.cells [.data (.ints .i64 _)], .cells [.int .i64 _, .int .i64 _, .int .i64 _], .row 4 (.recs [.bool] _)] => (2 ^ a.length - j.toNat)
    | _, _ => 0) fun vs σ k h => ?_
  unfold excL at h
  split at h
  rotate_right
  · exact h.elim
  · rename_i a r s c j hs t u l m
    rw [exexcl3a a r s c j hs t u l m _]
    obtain ⟨⟨h1, h2, h3, h4, h5, h6⟩, h⟩ := h
    rw [← h1] at h2 h4 h
    obtain ⟨p1, p2, p3⟩ := pow_of h2
    have e2 : ((2 : Int) ^ a.length) = ((2 ^ a.length : Nat) : Int) := by simp
    rw [e2] at h4
    rw [p1]
    generalize hP : 2 ^ a.length = P at *
    by_cases hj : j < (P : Int)
    · rw [decide_eq_true hj, cond_true]
      refine And.intro ⟨h1, by omega, by omega, by omega, by omega, by omega⟩ ?_
      have w1 : IntKind.i64.wrap (j + 1) = j + 1 := wrap_id (by omega) (by omega)
      have w2 : IntKind.i64.wrap (c + 1) = c + 1 := wrap_id (by omega) (by omega)
      have hm : P - (j + 1).toNat < P - j.toNat := by omega
      have e : cnB hs r (P - j.toNat) j = (bif decide (scB j 0 hs ≥ r) then 1 else 0) + cnB hs r (P - (j + 1).toNat) (j + 1) := by
        rw [show P - j.toNat = (P - (j + 1).toNat) + 1 by omega]; rfl
      rw [e] at h
      rw [Int.zero_add, w1, w2]
      have hre : ∀ c' : Int, 0 ≤ c' → c' ≤ j + 1 → k (.exit 6) [.one (.data (.ints .i64 a)), .one (.ptr 0 1 0 0), .one (.own 1 1), .one (.int .i64 s), .one (.int .i64 (c' + cnB hs r (P - (j + 1).toNat) (j + 1)))] [.cells [.int .i64 t, .int .i64 u, .int .i64 l], .row 4 (.recs [.bool] m)] →
          excL [.one (.data (.ints .i64 a)), .one (.ptr 0 1 0 0), .one (.ptr 1 1 0 0), .one (.int .i64 r), .one (.own 2 1), .one (.int .i64 s), .one (.int .i64 c'), .one (.int .i64 (j + 1))] [.cells [.data (.ints .i64 hs)], .cells [.int .i64 t, .int .i64 u, .int .i64 l], .row 4 (.recs [.bool] m)] k := by
        intro c' c0 c1 hk
        refine ⟨⟨h1, by omega, by omega, ?_, c0, c1⟩, ?_⟩
        · rw [← h1, e2]; omega
        · rw [← h1, hP]; exact hk
      have hmm : 2 ^ a.length - (j + 1).toNat < 2 ^ a.length - j.toNat := by rw [hP]; exact hm
      cases hv : decide (scB j 0 hs ≥ r) with
      | true =>
        rw [hv] at h
        rw [show c + ((bif true then 1 else 0) + cnB hs r (P - (j + 1).toNat) (j + 1)) = c + 1 + cnB hs r (P - (j + 1).toNat) (j + 1) by show c + (1 + _) = _; omega] at h
        exact ⟨hre (c + 1) (by omega) (by omega) h, by first | exact hmm | (show 2 ^ a.length - (j + 1).toNat < P - j.toNat; rw [hP]; exact hm)⟩
      | false =>
        rw [hv] at h
        rw [show c + ((bif false then 1 else 0) + cnB hs r (P - (j + 1).toNat) (j + 1)) = c + cnB hs r (P - (j + 1).toNat) (j + 1) by show c + (0 + _) = _; omega] at h
        exact ⟨hre c (by omega) (by omega) h, by first | exact hmm | (show 2 ^ a.length - (j + 1).toNat < P - j.toNat; rw [hP]; exact hm)⟩
    · rw [decide_eq_false hj]
      rw [show P - j.toNat = 0 by omega, show cnB hs r 0 j = 0 from rfl, Int.add_zero] at h
      exact h
theorem ouG_ends (t u l : Int) : ∀ (m : List (List D)) (d i : Int), (ouG t u l d i m).2.2 = 0 ∨ (ouG t u l d i m).2.2 = 14
  | [], _, _ => .inr rfl
  | x :: m, d, i => by
    rw [ouG]
    cases enB t u l (i + 1) (bif boB x then d + 1 else d - 1) with
    | true => exact .inl rfl
    | false => exact ouG_ends t u l m _ _
theorem enB_enK {t u l j d : Int} (h1 : d ≤ u) (h2 : -l ≤ d) :
    (d = u ∧ enB t u l j d = true ∧ enK u l d = 0) ∨ (d < u ∧ d = -l ∧ enB t u l j d = true ∧ enK u l d = 1) ∨ (d < u ∧ -l < d ∧ enB t u l j d = (j == t) ∧ enK u l d = 2) := by
  unfold enB enK
  by_cases hu : d ≥ u
  · rw [decide_eq_true hu]
    exact .inl ⟨by omega, rfl, rfl⟩
  · rw [decide_eq_false hu]
    by_cases hl : -d ≥ l
    · rw [decide_eq_true hl]
      exact .inr (.inl ⟨by omega, by omega, rfl, rfl⟩)
    · rw [decide_eq_false hl]
      exact .inr (.inr ⟨by omega, by omega, rfl, rfl⟩)
theorem lokexc_5 : LoopOK Eexc (lb Tryd.f15 5) [5, 9, 26, 27, 28, 29] [6, 27] exoL := by
  refine loopOK (.cons oktak (.cons okrru2 (.cons oktre (.cons ok25 (.cons okfmt (.cons okprs (.cons okcpR (.cons okrepD (.cons ok30 (.cons okcpS (.cons oksco (.cons oktail2 (.cons oklowF (.cons okout1 .nil)))))))))))))) (noInner (by kernel_rfl)) (fun vs σ => match vs, σ with
    | [.one (.ptr 0 1 0 0), .one (.own 1 1), .one (.ptr 2 1 0 0), .one (.int .i64 _), .one (.int .i64 _), .one (.int .i64 i)], [.cells [.int .i64 _, .int .i64 _, .int .i64 _], .row 4 (.recs [.bool] m), .cells [.int .i64 _, .int .i64 _]] => (m.length - i.toNat)
    | _, _ => 0) fun vs σ k h => ?_
  unfold exoL at h
  split at h
  rotate_right
  · exact h.elim
  · rename_i e d i t u l m x y
    rw [exexcl5a e d i t u l m x y _]
    obtain ⟨⟨h1, h2, h3, h4, h5, h6, h7, h8, h9, he, hxy⟩, h⟩ := h
    by_cases hi : i < (m.length : Int)
    · have him : i.toNat < m.length := by omega
      have hit : (i + 1).toNat = i.toNat + 1 := by omega
      have hm : m.length - (i + 1).toNat < m.length - i.toNat := by omega
      have w1 : IntKind.i64.wrap (i + 1) = i + 1 := wrap_id (by omega) (by omega)
      have w2 : IntKind.i64.wrap (d + 1) = d + 1 := wrap_id (by omega) (by omega)
      have w3 : IntKind.i64.wrap (d - 1) = d - 1 := wrap_id (by omega) (by omega)
      have w4 : IntKind.i64.wrap (0 - l) = -l := by rw [wrap_id (by omega) (by omega)]; omega
      have eb : ((m.getD i.toNat []).getD 0 (D.int 0)).toBool = boB (m.getD i.toNat []) := rfl
      rw [drop_step [] him, ouG, ← hit] at he hxy
      rw [decide_eq_true hi, decide_eq_true h2, decide_eq_true him, eb, w1, w2, w3, w4]
      simp only [show decide (0 < 1) = true from rfl, Bool.and_self, cond_true]
      -- one step from a difference
      have key : ∀ d' : Int, d' ≤ u → -l ≤ d' → (bif boB (m.getD i.toNat []) then d + 1 else d - 1) = d' →
          bif d' == u then (bif e == 0 then k .ret [.one (.bool (x == 0 && y == i + 1)), .one (.int .i64 e)] [] else k .ret [.one (.bool false), .one (.int .i64 e)] []) else
          bif d' == -l then (bif e == 0 then k .ret [.one (.bool (x == 1 && y == i + 1)), .one (.int .i64 e)] [] else k .ret [.one (.bool false), .one (.int .i64 e)] []) else
          bif i + 1 == t then (bif e == 0 then k .ret [.one (.bool (x == 2 && y == i + 1)), .one (.int .i64 e)] [] else k .ret [.one (.bool false), .one (.int .i64 e)] []) else
          (exoL [.one (.ptr 0 1 0 0), .one (.own 1 1), .one (.ptr 2 1 0 0), .one (.int .i64 e), .one (.int .i64 d'), .one (.int .i64 (i + 1))] [.cells [.int .i64 t, .int .i64 u, .int .i64 l], .row 4 (.recs [.bool] m), .cells [.int .i64 x, .int .i64 y]] k ∧ m.length - (i + 1).toNat < m.length - i.toNat) := by
        intro d' g1 g2 g3
        rw [g3] at he hxy
        rcases enB_enK (t := t) (j := i + 1) g1 g2 with ⟨q1, q2, q3⟩ | ⟨q0, q1, q2, q3⟩ | ⟨q0, q1, q2, q3⟩
        · rw [q2, q3] at he hxy
          have he0 : 0 = e := he
          obtain ⟨x1, y1⟩ := hxy he0.symm
          have x2 : (0 : Int) = x := x1
          have y2 : i + 1 = y := y1
          subst he0; subst x2; subst y2
          rw [q1, beq_self_eq_true, cond_true]
          simp only [beq_self_eq_true, Bool.and_self, cond_true]
          exact h
        · rw [q2, q3] at he hxy
          have he0 : 0 = e := he
          obtain ⟨x1, y1⟩ := hxy he0.symm
          have x2 : (1 : Int) = x := x1
          have y2 : i + 1 = y := y1
          subst he0; subst x2; subst y2
          rw [show (d' == u) = false by rw [beq_eq_false_iff_ne]; omega, q1, cond_false]
          simp only [beq_self_eq_true, Bool.and_self, cond_true]
          exact h
        · rw [show (d' == u) = false by rw [beq_eq_false_iff_ne]; omega, show (d' == -l) = false by rw [beq_eq_false_iff_ne]; omega, cond_false, cond_false]
          rw [q2, q3] at he hxy
          cases ht : (i + 1 == t) with
          | true =>
            rw [ht] at he hxy
            have he0 : 0 = e := he
            obtain ⟨x1, y1⟩ := hxy he0.symm
            have x2 : (2 : Int) = x := x1
            have y2 : i + 1 = y := y1
            subst he0; subst x2; subst y2
            simp only [beq_self_eq_true, Bool.and_self, cond_true]
            exact h
          | false =>
            rw [ht] at he hxy
            rw [cond_false]
            exact ⟨⟨⟨h1, by omega, by omega, q1, q0, h6, h7, h8, h9, he, hxy⟩, h⟩, hm⟩
      cases hb : boB (m.getD i.toNat []) with
      | true => exact key (d + 1) (by omega) (by omega) (by rw [hb]; rfl)
      | false => exact key (d - 1) (by omega) (by omega) (by rw [hb]; rfl)
    · rw [decide_eq_false hi]
      rw [List.drop_eq_nil_of_le (show m.length ≤ i.toNat by omega)] at he
      have he2 : (14 : Int) = e := he
      subst he2
      exact h
theorem ouE_of {t u l : Int} {m : List (List D)} (h1 : teE t u l = 0) (h2 : m.length ≤ 200) : ouE t u l m = (ouG t u l 0 0 m).2.2 := by
  unfold ouE
  rw [h1, decide_eq_true (show (m.length : Int) ≤ 200 by omega)]; rfl
theorem teE_zero {t u l : Int} (h : teE t u l = 0) : 1 ≤ t ∧ t ≤ 29 ∧ 1 ≤ u ∧ u ≤ t ∧ 1 ≤ l ∧ l ≤ t := by
  unfold teE at h
  cases hw : (withinG t 1 29 && (withinG u 1 t && withinG l 1 t)) with
  | false => rw [hw] at h; cases h
  | true =>
    unfold withinG at hw
    simp only [Bool.and_eq_true, decide_eq_true_eq] at hw
    omega
theorem ruE_zero {h : List Int} (e : ruE h = 0) : 1 ≤ h.length ∧ h.length ≤ 10 ∧ h.all ansG = true := by
  unfold ruE at e
  by_cases h0 : (h.length : Int) > 0
  · rw [decide_eq_true h0] at e
    by_cases h2 : (h.length : Int) ≤ 10
    · rw [decide_eq_true h2] at e
      cases hs : h.all ansG with
      | true => exact ⟨by omega, by omega, rfl⟩
      | false => rw [hs] at e; cases e
    · rw [decide_eq_false h2] at e; cases e
  · rw [decide_eq_false h0] at e; cases e
theorem excC {hs a : List Int} {t u l : Int} (ht : teE t u l = 0) (h1 : a.length = hs.length) (h2 : hs.length ≤ 8) (hh : hs.all ansG = true) {K : AV → List Blk → Prop} (h : K (.one (.bool true)) []) :
    (a.length = hs.length ∧ hs.length ≤ 8 ∧ (0 : Int) ≤ 0 ∧ (0 : Int) ≤ 2 ^ hs.length ∧ (0 : Int) ≤ 0 ∧ (0 : Int) ≤ 0) ∧ bif tailE (a.length : Int) (scG a hs) != 0 then K (.one (.bool false)) [] else
      okLw (0 + cnB hs (scG a hs) (2 ^ hs.length - 0) 0) (IntKind.i64.wrap (1 * 2 ^ min (a.length : Int).toNat 64)) ∧
      bif !(tlP (a.length : Int) (scG a hs) == frN (0 + cnB hs (scG a hs) (2 ^ hs.length - 0) 0) (IntKind.i64.wrap (1 * 2 ^ min (a.length : Int).toNat 64)) && tlQ (a.length : Int) (scG a hs) == frD (0 + cnB hs (scG a hs) (2 ^ hs.length - 0) 0) (IntKind.i64.wrap (1 * 2 ^ min (a.length : Int).toNat 64))) then K (.one (.bool false)) [] else
      (mkF a hs).length ≤ 1000 ∧ ((mkF a hs).length ≤ 1000 ∧ (0 : Int) ≤ 0 ∧ (0 : Int) ≤ ((mkF a hs).length : Int) ∧ -l < 0 ∧ 0 < u ∧ 1 ≤ u ∧ u ≤ 29 ∧ 1 ≤ l ∧ l ≤ 29 ∧ (ouG t u l 0 0 (mkF a hs)).2.2 = ouE t u l (mkF a hs) ∧ (ouE t u l (mkF a hs) = 0 → (ouG t u l 0 0 (mkF a hs)).1 = outK t u l (mkF a hs) ∧ (ouG t u l 0 0 (mkF a hs)).2.1 = outU t u l (mkF a hs))) ∧
      bif ouE t u l (mkF a hs) == 0 then K (.one (.bool true)) [] else K (.one (.bool (ouE t u l (mkF a hs) == 14))) [] := by
  obtain ⟨t1, t2, u1, u2, l1, l2⟩ := teE_zero ht
  obtain ⟨s1, s2⟩ := scG_range a hs
  have hp : (0 : Int) ≤ 2 ^ hs.length := Int.pow_nonneg (by decide)
  refine And.intro ⟨h1, h2, by omega, hp, by omega, by omega⟩ ?_
  have hte : tailE (a.length : Int) (scG a hs) = 0 := by
    unfold tailE withinG
    rw [decide_eq_true (show (0 : Int) ≤ (a.length : Int) by omega), decide_eq_true (show (a.length : Int) ≤ 29 by omega), decide_eq_true s1, decide_eq_true s2]; rfl
  have hpw : IntKind.i64.wrap (1 * 2 ^ min (a.length : Int).toNat 64) = powD (a.length : Int) := rfl
  rw [hte, hpw]
  have hcn := cn_tails hh h2 s1 (by omega)
  rw [Int.zero_add, Nat.sub_zero, hcn, ← h1]
  have hpr := powD_range (t := (a.length : Int)) (by omega) (by omega)
  have htl := (tab_facts (t := (a.length : Int)) (by omega) (by omega)).2.2.2.2
  have htg : 0 ≤ (tailsG (a.length : Int)).getD (scG a hs).toNat 0 := by
    have hlen := tailsG_length (t := (a.length : Int)) (by omega)
    have hi : (scG a hs).toNat < (tailsG (a.length : Int)).length := by omega
    rw [getD_of_lt hi]
    exact (htl _ (List.getElem_mem hi)).1
  refine And.intro (okLw_of2 htg (by omega) (by omega)) ?_
  have e1 : tlP (a.length : Int) (scG a hs) = frN ((tailsG (a.length : Int)).getD (scG a hs).toNat 0) (powD (a.length : Int)) := by unfold tlP; rw [hte]; rfl
  have e2 : tlQ (a.length : Int) (scG a hs) = frD ((tailsG (a.length : Int)).getD (scG a hs).toNat 0) (powD (a.length : Int)) := by unfold tlQ; rw [hte]; rfl
  rw [e1, e2]
  simp only [beq_self_eq_true, Bool.and_self, Bool.not_true, cond_false]
  have hml := mkF_len a hs h1
  have hoe := ouE_of (t := t) (u := u) (l := l) (m := mkF a hs) ht (by omega)
  refine ⟨by omega, ⟨by omega, by omega, by omega, by omega, by omega, by omega, by omega, by omega, by omega, hoe.symm, fun e0 => ?_⟩, ?_⟩
  · unfold outK outU
    rw [e0]; exact ⟨rfl, rfl⟩
  · rcases ouG_ends t u l (mkF a hs) 0 0 with e | e
    · rw [hoe, e]; exact h
    · rw [hoe, e]; exact h
theorem okexc : SpecOK Tryd.prog 15 lawExS := by
  refine specOKd (n := 271) (m := 0) (lps := [(9, .spec [1, 3, 5, 7, 8, 9, 10] [1, 3, 5, 6, 7, 8, 9] exaL), (14, .unroll 4), (22, .spec [1, 3, 5, 7, 8, 9, 12] [1, 3, 5, 6, 7, 8, 9] exdL), (35, .spec [1, 3, 5, 8, 9, 18, 20, 21] [1, 5, 9, 18, 20] excL), (39, .spec [1, 3, 5, 8, 9, 18, 20, 21, 22, 23] [1, 3, 5, 8, 9, 18, 20, 21, 22] exiL), (51, .spec [5, 9, 26, 27, 28, 29] [6, 27] exoL)]) [89] (.cons oktak (.cons okrru2 (.cons oktre (.cons ok25 (.cons okfmt (.cons okprs (.cons okcpR (.cons okrepD (.cons ok30 (.cons okcpS (.cons oksco (.cons oktail2 (.cons oklowF (.cons okout1 .nil)))))))))))))) Tryd.func15 (by kernel_rfl) (by kernel_rfl) (theLoops (n := 6) (by kernel_rfl) fun i hi => ?_) fun args σ K h => ?_
  · match i, hi with
    | 0, _ => exact loopHyp_of (key := 9) (by kernel_rfl) rfl lokexc_0
    | 1, _ => exact loopHyp_none (key := 14) (n := 4) (by kernel_rfl) rfl
    | 2, _ => exact loopHyp_of (key := 22) (by kernel_rfl) rfl lokexc_2
    | 3, _ => exact loopHyp_of (key := 35) (by kernel_rfl) rfl lokexc_3
    | 4, _ => exact loopHyp_of (key := 39) (by kernel_rfl) rfl lokexc_4
    | 5, _ => exact loopHyp_of (key := 51) (by kernel_rfl) rfl lokexc_5
  unfold lawExS at h
  split at h
  rotate_right
  · exact h.elim
  rename_i hs a t u l
  have hf : evFn Eexc Tryd.f15 [.agg [.data (.ints .i64 hs)], .one (.data (.ints .i64 a)), .agg [.int .i64 t, .int .i64 u, .int .i64 l]] [] K = evRest Eexc Tryd.f15 0 (st0 Tryd.f15 [.agg [.data (.ints .i64 hs)], .one (.data (.ints .i64 a)), .agg [.int .i64 t, .int .i64 u, .int .i64 l]] []) K := evFn_rest rfl rfl
  rw [hf, evRest_stage Eexc Tryd.f15 0 10]
  generalize hB : (fun s' => evRest Eexc Tryd.f15 (0 + 10) s' K) = B
  rw [exexcA hs a t u l K B]
  by_cases e1 : ruE hs = 0
  rotate_left
  · rw [bne_tt e1]; exact h
  by_cases e2 : (hs.length : Int) > 8
  · rw [e1, decide_eq_true e2]; exact h
  by_cases e3 : (a.length : Int) = (hs.length : Int)
  rotate_left
  · rw [e1, decide_eq_false e2, bne_tt e3]; exact h
  by_cases e4 : teE t u l = 0
  rotate_left
  · rw [e1, decide_eq_false e2, e3, bne_tt e4]
    simp only [bne_self_eq_false, cond_false, cond_true]
    exact h
  rw [e1, decide_eq_false e2, e3, e4]
  simp only [bne_self_eq_false, cond_false]
  obtain ⟨n1, n2, n3⟩ := ruE_zero e1
  have hl : a.length = hs.length := by omega
  refine And.intro ⟨hl, n1, by omega, trivial, trivial⟩ ?_
  cases ha : a.all ansG with
  | false => exact ⟨h, fun _ _ _ => h⟩
  | true =>
    rw [cond_true, ← hB]
    generalize hq : evF 0 a = q
    have hrp : rpG hs (-1) false false false [] 0 q = ⟨-1, false, false, false, a, 0, 0⟩ := by
      rw [← hq, rp_evF a [] 0 0 (by decide) (by omega) ha (by simp; omega)]; rfl
    have hqo : q.all okEv = true := by rw [← hq]; exact evF_ok a 0 (by decide) (by omega) ha
    have hql : q.length = 5 * a.length := by rw [← hq]; exact evF_len a 0
    have hre : rpE hs q = 0 := by
      unfold rpE
      rw [e1, decide_eq_true (show (q.length : Int) ≤ 200 by omega)]; rfl
    have hrr : rpR (rpE hs q) hs q = ⟨-1, false, false, false, a, 0, 0⟩ := by
      unfold rpR
      rw [hre]; exact hrp
    have hbo : boE hs (-1) false false false a = 0 := by
      refine boE_mk e1 rfl (stE2_zero.2 ⟨by omega, ha, ?_, rfl⟩)
      show (_ && false) = false
      rw [Bool.and_false]
    generalize hr : scG a hs = r
    generalize hm : mkF a hs = m
    show evRest Eexc Tryd.f15 10 _ K
    rw [evRest_stage Eexc Tryd.f15 10 8]
    generalize hB2 : (fun s' => evRest Eexc Tryd.f15 (10 + 8) s' K) = B2
    refine (iff_of_eq (exexcB hs a t u l r q m K B2)).mpr ?_
    rw [hrr]
    dsimp only
    rw [hbo]
    refine ⟨⟨by omega, by omega, by omega, hqo⟩, by omega, ⟨by omega, by omega⟩, ?_⟩
    simp only [bne_self_eq_false, beq_self_eq_true, Bool.not_true, cond_false, cond_true]
    refine ⟨by omega, by omega, by omega, ⟨by omega, by omega⟩, ?_⟩
    rw [hr]
    simp only [bne_self_eq_false, cond_false]
    rw [← hB2]
    show evRest Eexc Tryd.f15 18 _ K
    refine (iff_of_eq (exexcC hs a a t u l r (-1) r false false false m _ _ _ _ _ _ _ _ _ _ _ _ _ _ _ _ _ _ _ _ _ _ _ _ _ _ _ _ _ _ _ _ _ _ _ _ _ _ _ _ _ _ K)).mpr ?_
    rw [← hr, ← hm]
    exact excC e4 hl (by omega) n3 h
end Go.Ev
