/-
  Chapter 1, contracts: residues, samples, checksums.
-/
import Derived.Test.YtlejemnljojpgaaC1Dok
namespace Go.Ev
open Go Go.Proofs
set_option maxRecDepth 20000

def sampleG (n : Int) : Bool := withinG n (-32767) 32767
def sampleS : Spec := fun args σ K => match args, σ with
  | [.one (.int .i64 n)], [] => K (.one (.int .i64 (bif sampleG n then 0 else 2))) []
  | _, _ => False
def channelS : Spec := fun args σ K => match args, σ with
  | [.one (.int .i64 n)], [] => K (.one (.int .i64 (bif withinG n 0 3 then 0 else 2))) []
  | _, _ => False
def counterS : Spec := fun args σ K => match args, σ with
  | [.one (.int .i64 n)], [] => K (.one (.bool (withinG n 0 65535))) []
  | _, _ => False
def residueS : Spec := fun args σ K => match args, σ with
  | [.one (.int .i64 n)], [] => K (.one (.bool (withinG n 0 65536))) []
  | _, _ => False
def modG (n : Int) : Int := (n.tmod 65537 + 65537).tmod 65537
def moduloS : Spec := fun args σ K => match args, σ with
  | [.one (.int .i64 n)], [] => K (.one (.int .i64 (modG n))) []
  | _, _ => False
def timesS : Spec := fun args σ K => match args, σ with
  | [.one (.int .i64 a), .one (.int .i64 b)], [] => (0 ≤ a ∧ a < 65537 ∧ 0 ≤ b ∧ b < 65537) ∧ K (.one (.int .i64 (modG (a * b)))) []
  | _, _ => False
def invF (out sq : Int) (n : Nat) : Int := if n = 0 then out else invF (if n % 2 = 1 then modG (out * sq) else out) (modG (sq * sq)) (n / 2)
termination_by n
decreasing_by omega
def invL : LSpec := fun vs σ k => match vs, σ with
  | [.one (.int .i64 out), .one (.int .i64 sq), .one (.int .i64 n)], [] => (0 ≤ out ∧ out < 65537 ∧ 0 ≤ sq ∧ sq < 65537 ∧ 0 ≤ n ∧ n ≤ 65535) ∧ k (.exit 0) [.one (.int .i64 (invF out sq n.toNat))] []
  | _, _ => False
def invG (a : Int) : Int := invF 1 a 65535
def inverseS : Spec := fun args σ K => match args, σ with
  | [.one (.int .i64 a)], [] => (0 ≤ a ∧ a < 65537) ∧ K (.one (.int .i64 (invG a))) []
  | _, _ => False
/-- A number and an error. -/
def ne (n e : Int) : AV := .tup [.one (.int .i64 n), .one (.int .i64 e)]
def inverseOfS : Spec := fun args σ K => match args, σ with
  | [.one (.int .i64 n)], [] => bif !withinG n 0 65536 then K (ne 0 2) [] else bif n == 0 then K (ne 0 11) [] else K (ne (invG n) 0) []
  | _, _ => False
/-- 'each' with a check: by the function that it is given. -/
def eachL : LSpec := fun vs σ k => match vs, σ with
  | [.one (.func 92 []), .one (.data (.ints .i64 l)), .one (.int .i64 n), .one (.int .i64 i)], [] =>
    (l.length ≤ 1000000000 ∧ 0 ≤ i ∧ n = l.length) ∧ bif (l.drop i.toNat).all sampleG then k (.exit 0) [.any] [] else k .ret [.one (.int .i64 2)] []
  | _, _ => False
def eachS : Spec := fun args σ K => match args, σ with
  | [.one (.data (.ints .i64 l)), .one (.func 92 [])], [] => l.length ≤ 1000000000 ∧ K (.one (.int .i64 (bif l.all sampleG then 0 else 2))) []
  | _, _ => False
def samplesS : Spec := fun args σ K => match args, σ with
  | [.agg [.int .i64 x0, .int .i64 x1, .int .i64 x2, .int .i64 x3, .int .i64 x4, .int .i64 x5, .int .i64 x6, .int .i64 x7]], [] => K (.one (.int .i64 (bif [x0, x1, x2, x3, x4, x5, x6, x7].all sampleG then 0 else 2))) []
  | _, _ => False
def contentG (c ch : Int) (xs : List Int) : Bool := withinG c 0 65535 && withinG ch 0 3 && xs.all sampleG
def contentS : Spec := fun args σ K => match args, σ with
  | [.agg [.int .i64 c, .int .i64 ch, .int .i64 x0, .int .i64 x1, .int .i64 x2, .int .i64 x3, .int .i64 x4, .int .i64 x5, .int .i64 x6, .int .i64 x7, .int .i64 _]], [] =>
    K (.one (.int .i64 (bif contentG c ch [x0, x1, x2, x3, x4, x5, x6, x7] then 0 else 2))) []
  | _, _ => False
def sumA (i : Int) : List Int → Int
  | [] => 0
  | x :: l => i * (x + 32768) + sumA (i + 1) l
def sumG (c ch : Int) (xs : List Int) : Int := (9 * c + 10 * ch + sumA 1 xs).tmod 65537
def sumS : Spec := fun args σ K => match args, σ with
  | [.agg [.int .i64 c, .int .i64 ch, .int .i64 x0, .int .i64 x1, .int .i64 x2, .int .i64 x3, .int .i64 x4, .int .i64 x5, .int .i64 x6, .int .i64 x7, .int .i64 _]], [] =>
    contentG c ch [x0, x1, x2, x3, x4, x5, x6, x7] = true ∧ K (.one (.int .i64 (sumG c ch [x0, x1, x2, x3, x4, x5, x6, x7]))) []
  | _, _ => False
def sumOfS : Spec := fun args σ K => match args, σ with
  | [.agg [.int .i64 c, .int .i64 ch, .int .i64 x0, .int .i64 x1, .int .i64 x2, .int .i64 x3, .int .i64 x4, .int .i64 x5, .int .i64 x6, .int .i64 x7, .int .i64 _]], [] =>
    bif contentG c ch [x0, x1, x2, x3, x4, x5, x6, x7] then K (ne (sumG c ch [x0, x1, x2, x3, x4, x5, x6, x7]) 0) [] else K (ne 0 2) []
  | _, _ => False
def intsL : LSpec := fun vs σ k => match vs, σ with
  | [.one (.data (.ints .i64 a)), .one (.data (.ints .i64 b)), .one (.int .i64 i)], [] =>
    (a.length ≤ 1000000000 ∧ a.length = b.length ∧ 0 ≤ i) ∧ bif a.drop i.toNat == b.drop i.toNat then k (.exit 0) [.any] [] else k .ret [.one (.bool false)] []
  | _, _ => False
def intsS : Spec := fun args σ K => match args, σ with
  | [.one (.data (.ints .i64 a)), .one (.data (.ints .i64 b))], [] => a.length ≤ 1000000000 ∧ K (.one (.bool (a == b))) []
  | _, _ => False
noncomputable def E92 : Env := envOf Try.prog [(71, withinS), (70, unlessS)] [] 6 0
noncomputable def E94 : Env := envOf Try.prog [(71, withinS)] [] 5 0
noncomputable def E116 : Env := envOf Try.prog [] [] 7 0
noncomputable def E130 : Env := envOf Try.prog [(116, moduloS)] [] 9 0
noncomputable def E98 : Env := envOf Try.prog [(130, timesS)] [(3, .spec [3, 4, 5] [3] invL)] 21 0
noncomputable def E39 : Env := envOf Try.prog [(97, residueS), (70, unlessS), (69, firstS), (98, inverseS)] [] 18 0
noncomputable def E91 : Env := envOf Try.prog [(92, sampleS)] [(2, .spec [1, 8, 9, 10] [4] eachL)] 21 0
noncomputable def E82 : Env := envOf Try.prog [(91, eachS)] [] 5 0
noncomputable def E78 : Env := envOf Try.prog [(94, counterS), (93, channelS), (70, unlessS), (69, firstS), (82, samplesS)] [] 15 0
noncomputable def E79 : Env := envOf Try.prog [] [(3, .unroll 9)] 29 0
noncomputable def E20 : Env := envOf Try.prog [(78, contentS), (79, sumS)] [] 12 0
noncomputable def E30 : Env := envOf Try.prog [] [(4, .spec [0, 1, 5] [4] intsL)] 26 0
end Go.Ev
