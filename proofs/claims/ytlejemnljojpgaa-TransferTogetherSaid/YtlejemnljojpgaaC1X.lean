/-
  Chapter 1, contracts: streams of the reference.
-/
import Derived.Test.YtlejemnljojpgaaC1W
import Derived.KernelRfl
set_option linter.unusedVariables false
set_option linter.unusedSimpArgs false
set_option linter.unusedSectionVars false
namespace Go.Ev
open Go Go.Proofs
set_option maxRecDepth 20000
set_option linter.unusedVariables false

def swpG (S : List (List Int)) (k : Nat) : List (List Int) := (S.set (k + 1) (S.getD k [])).set k (S.getD (k + 1) [])
def bubG (S : List (List Int)) : Nat → List (List Int)
  | 0 => S
  | k + 1 => bif decide (cnt (S.getD (k + 1) []) < cnt (S.getD k [])) then bubG (swpG S k) k else S
def srtG (o : List (List Int)) : List (List Int) := o.foldl (fun S x => bubG (S ++ [x]) S.length) []
def bubL : LSpec := fun vs σ k => match vs, σ with
  | [.one (.own 0 11), .one (.int .i64 j)], [.row 37 (.mat .i64 11 S)] => (0 ≤ j ∧ j < S.length ∧ S.length ≤ 1000 ∧ S.all len11 = true) ∧ k (.exit 2) [] [.row 37 (.mat .i64 11 (bubG S j.toNat))]
  | _, _ => False
def nwL : LSpec := fun vs σ k => match vs, σ with
  | [.one (.data (.mat .i64 11 l)), .one (.int .i64 ch), .one (.data (.ints .i64 kd)), .one .nil, .one (.int .i64 i)], [] => (okBs l ∧ kd = kdsG [] l ∧ 0 ≤ i ∧ i ≤ l.length ∧ ownB (l.take i.toNat) ch = []) ∧ bif (ownB l ch).isEmpty then k (.exit 0) [.one .nil] [] else k (.exit 0) [.one (.own 0 11)] [.row 37 (.mat .i64 11 (srtG (ownB l ch)))]
  | [.one (.data (.mat .i64 11 l)), .one (.int .i64 ch), .one (.data (.ints .i64 kd)), .one (.own 0 11), .one (.int .i64 i)], [.row 37 (.mat .i64 11 S)] => (okBs l ∧ kd = kdsG [] l ∧ 0 ≤ i ∧ i ≤ l.length ∧ S = srtG (ownB (l.take i.toNat) ch) ∧ ownB (l.take i.toNat) ch ≠ []) ∧ k (.exit 0) [.one (.own 0 11)] [.row 37 (.mat .i64 11 (srtG (ownB l ch)))]
  | _, _ => False
def nwS : Spec := fun args σ K => match args, σ with
  | [.one (.data (.mat .i64 11 l)), .one (.int .i64 ch)], [] => (okBs l ∧ l.all conB = true) ∧ bif (ownB l ch).isEmpty then K (.one .nil) [] else K (.one (.own 0 11)) [.row 37 (.mat .i64 11 (srtG (ownB l ch)))]
  | _, _ => False
def nwDS : Spec := fun args σ K => match args, σ with
  | [.one (.data (.mat .i64 11 l)), .one (.int .i64 ch)], [] => (okBs l ∧ l.all conB = true) ∧ K (.one (.data (.mat .i64 11 (srtG (ownB l ch))))) []
  | _, _ => False
def seS : Spec := fun args σ K => match args, σ with
  | [.one (.data (.mat .i64 11 l)), .one (.int .i64 ch)], [] => okBs l ∧ K (.one (.int .i64 (rcE l ch))) []
  | _, _ => False
def cntA (X : List (List Int)) (i : Nat) : Int := cnt (X.getD i [])
def okX (X : List (List Int)) : Prop := X.all len11 = true ∧ (∀ i j, i < j → j < X.length → cntA X i < cntA X j) ∧ (∀ i, i < X.length → 0 ≤ cntA X i ∧ cntA X i ≤ 65535) ∧ 1 ≤ X.length ∧ X.length ≤ 1000 ∧ cntA X (X.length - 1) - cntA X 0 < 60
def okSr (X : List (List Int)) (j n : Int) : Prop := okX X ∧ 0 ≤ j ∧ j ≤ X.length ∧ (∀ i, i < j.toNat → cntA X i < n) ∧ (∀ i, j.toNat ≤ i → i < X.length → n ≤ cntA X i) ∧ cntA X 0 ≤ n ∧ n ≤ cntA X (X.length - 1) + 1
def lastA (X : List (List Int)) : Int := cntA X (X.length - 1)
def putR (a : Int) (p : List Int × List (List Int)) (k : List SV → List Blk → Prop) : Prop :=
  bif p.1.isEmpty then k [.int .i64 a, .nil, .nil] []
  else bif p.2.isEmpty then k [.int .i64 a, .own 1 1, .nil] [.row 3 (.ints .i64 p.1)]
  else k [.int .i64 a, .own 1 1, .own 2 2] [.row 3 (.ints .i64 p.1), .row 99 (.mat .i64 2 p.2)]
def srL : LSpec := fun vs σ k => match vs, σ with
  | [.one (.data (.mat .i64 11 X)), .one (.ptr 0 1 0 0), .one (.int .i64 j), .one (.int .i64 n)], [.cells [.int .i64 f, .nil, .nil]] => (okSr X j n ∧ n = cntA X 0) ∧ putR f (strG (lkO X) (lastA X - n + 1).toNat n ([], [])) fun l σ' => k (.exit 0) [] (.cells l :: σ')
  | [.one (.data (.mat .i64 11 X)), .one (.ptr 0 1 0 0), .one (.int .i64 j), .one (.int .i64 n)], [.cells [.int .i64 f, .own 1 1, .nil], .row 3 (.ints .i64 S)] => (okSr X j n ∧ cntA X 0 < n ∧ S.length = 8 * (n - cntA X 0).toNat) ∧ putR f (strG (lkO X) (lastA X - n + 1).toNat n (S, [])) fun l σ' => k (.exit 0) [] (.cells l :: σ')
  | [.one (.data (.mat .i64 11 X)), .one (.ptr 0 1 0 0), .one (.int .i64 j), .one (.int .i64 n)], [.cells [.int .i64 f, .own 1 1, .own 2 2], .row 3 (.ints .i64 S), .row 99 (.mat .i64 2 G)] => (okSr X j n ∧ cntA X 0 < n ∧ S.length = 8 * (n - cntA X 0).toNat ∧ G.all len2 = true ∧ 1 ≤ G.length ∧ G.length ≤ (n - cntA X 0).toNat) ∧ putR f (strG (lkO X) (lastA X - n + 1).toNat n (S, G)) fun l σ' => k (.exit 0) [] (.cells l :: σ')
  | _, _ => False
def srS : Spec := fun args σ K => match args, σ with
  | [.one (.data (.mat .i64 11 l)), .one (.int .i64 ch)], [] => (okBs l ∧ rcE l ch = 0) ∧ bif (strO (ownB l ch)).2.isEmpty then K (.agg [.int .i64 (cmin (ownB l ch)), .own 0 1, .nil]) [.row 3 (.ints .i64 (strO (ownB l ch)).1)]
        else K (.agg [.int .i64 (cmin (ownB l ch)), .own 0 1, .own 1 2]) [.row 3 (.ints .i64 (strO (ownB l ch)).1), .row 99 (.mat .i64 2 (strO (ownB l ch)).2)]
  | _, _ => False
def srDS : Spec := fun args σ K => match args, σ with
  | [.one (.data (.mat .i64 11 l)), .one (.int .i64 ch)], [] => (okBs l ∧ rcE l ch = 0) ∧ K (.agg [.int .i64 (stA l ch), .data (.ints .i64 (stS l ch)), .data (.mat .i64 2 (stP l ch))]) []
  | _, _ => False
def missR (X : List (List Int)) (i : Nat) : List Int := misG (lkO X) (lastA X - cntA X (i - 1)).toNat (cntA X (i - 1) + 1)
def moB : LSpec := fun vs σ k => match vs, σ with
  | [.one (.data (.mat .i64 11 X)), .one .nil, .one (.int .i64 i), .one (.int .i64 n)], [] => (okX X ∧ 1 ≤ i ∧ i < X.length ∧ cntA X (i.toNat - 1) < n ∧ n ≤ cntA X i.toNat) ∧ bif (misG (lkO X) (cntA X i.toNat - n).toNat n).isEmpty then k (.exit 2) [.one (.data (.mat .i64 11 X)), .one .nil, .one (.int .i64 i)] [] else k (.exit 2) [.one (.data (.mat .i64 11 X)), .one (.own 0 1), .one (.int .i64 i)] [.row 3 (.ints .i64 (misG (lkO X) (cntA X i.toNat - n).toNat n))]
  | [.one (.data (.mat .i64 11 X)), .one (.own 0 1), .one (.int .i64 i), .one (.int .i64 n)], [.row 3 (.ints .i64 S)] => (okX X ∧ 1 ≤ i ∧ i < X.length ∧ cntA X (i.toNat - 1) < n ∧ n ≤ cntA X i.toNat ∧ S.length ≤ 60 + n) ∧ k (.exit 2) [.one (.data (.mat .i64 11 X)), .one (.own 0 1), .one (.int .i64 i)] [.row 3 (.ints .i64 (S ++ misG (lkO X) (cntA X i.toNat - n).toNat n))]
  | _, _ => False
def moA : LSpec := fun vs σ k => match vs, σ with
  | [.one (.data (.mat .i64 11 X)), .one .nil, .one (.int .i64 i)], [] => (okX X ∧ 1 ≤ i ∧ i ≤ X.length) ∧ bif (missR X i.toNat).isEmpty then k (.exit 0) [.one .nil] [] else k (.exit 0) [.one (.own 0 1)] [.row 3 (.ints .i64 (missR X i.toNat))]
  | [.one (.data (.mat .i64 11 X)), .one (.own 0 1), .one (.int .i64 i)], [.row 3 (.ints .i64 S)] => (okX X ∧ 1 ≤ i ∧ i ≤ X.length ∧ 1 ≤ S.length ∧ S.length ≤ 60 + cntA X (i.toNat - 1)) ∧ k (.exit 0) [.one (.own 0 1)] [.row 3 (.ints .i64 (S ++ missR X i.toNat))]
  | _, _ => False
def moS : Spec := fun args σ K => match args, σ with
  | [.one (.data (.mat .i64 11 l)), .one (.int .i64 ch)], [] => (okBs l ∧ rcE l ch = 0) ∧ bif (misO (ownB l ch)).isEmpty then K (.one .nil) [] else K (.one (.own 0 1)) [.row 3 (.ints .i64 (misO (ownB l ch)))]
  | _, _ => False
def moDS : Spec := fun args σ K => match args, σ with
  | [.one (.data (.mat .i64 11 l)), .one (.int .i64 ch)], [] => (okBs l ∧ rcE l ch = 0) ∧ K (.one (.data (.ints .i64 (msM l ch)))) []
  | _, _ => False
def rgL : LSpec := fun vs σ k => match vs, σ with
  | [.one (.data (.mat .i64 2 G)), .one (.data (.mat .i64 2 H)), .one (.int .i64 i)], [] => (0 ≤ i ∧ i ≤ G.length ∧ G.length ≤ 1000000000 ∧ H.length = G.length ∧ G.all len2 = true ∧ H.all len2 = true) ∧ bif G.drop i.toNat == H.drop i.toNat then k (.exit 0) [.any] [] else k .ret [.one (.bool false)] []
  | _, _ => False
def rgS : Spec := fun args σ K => match args, σ with
  | [.one (.data (.mat .i64 2 G)), .one (.data (.mat .i64 2 H))], [] => (G.length ≤ 1000000000 ∧ G.all len2 = true ∧ H.all len2 = true) ∧ K (.one (.bool (G == H))) []
  | _, _ => False
def smS : Spec := fun args σ K => match args, σ with
  | [.agg [.int .i64 a, .data (.ints .i64 S), .data (.mat .i64 2 G)], .agg [.int .i64 b, .data (.ints .i64 T), .data (.mat .i64 2 H)]], [] => (S.length ≤ 1000000000 ∧ G.length ≤ 1000000000 ∧ G.all len2 = true ∧ H.all len2 = true) ∧ K (.one (.bool (a == b && (S == T && G == H)))) []
  | _, _ => False
noncomputable abbrev Enw : Env := envOf Try.prog [(58, rkDS)] [(4, .frm 0 [0, 1, 5, 6, 7] [6] nwL), (9, .frm 1 [6, 8] [] bubL)] 76 0
noncomputable abbrev EnwF0 : Env := envOf Try.prog [(58, rkDS)] [(4, .frm 0 [0, 1, 5, 6, 7] [6] nwL), (9, .frm 1 [6, 8] [] bubL)] 76 0
noncomputable abbrev EnwF1 : Env := envOf Try.prog [(58, rkDS)] [(4, .frm 0 [0, 1, 5, 6, 7] [6] nwL), (9, .frm 1 [6, 8] [] bubL)] 76 1
noncomputable abbrev Ese : Env := envOf Try.prog [(56, bsS), (80, channelS), (112, nwDS)] [] 38 0
noncomputable abbrev Esr : Env := envOf Try.prog [(112, nwDS)] [(5, .frm 1 [5, 6, 7, 8] [] srL)] 95 0
noncomputable abbrev EsrF1 : Env := envOf Try.prog [(112, nwDS)] [(5, .frm 1 [5, 6, 7, 8] [] srL)] 95 1
noncomputable abbrev Emo : Env := envOf Try.prog [(112, nwDS)] [(4, .spec [5, 6, 7] [6] moA), (7, .spec [5, 6, 7, 8] [5, 6, 7] moB)] 39 0
noncomputable abbrev Erg : Env := envOf Try.prog [] [(4, .spec [0, 1, 5] [4] rgL)] 26 0
noncomputable abbrev Esm : Env := envOf Try.prog [(30, intsS), (62, rgS)] [] 24 0
end Go.Ev

namespace Go.Ev
open Go Go.Proofs
set_option maxRecDepth 100000
theorem exnw (l : List (List Int)) (ch : Int) (K : AV → List Blk → Prop) : evFn Enw Try.f112 [.one (.data (.mat .i64 11 l)), .one (.int .i64 ch)] [] K = (
 (okBs l ∧ l.all conB = true) ∧
 (okBs l ∧ kdsG [] l = kdsG [] l ∧ (0 : Int) ≤ (0 : Int) ∧ (0 : Int) ≤ (↑l.length : Int) ∧ ownB [] ch = []) ∧
 bif (ownB l ch).isEmpty then K (AV.one SV.nil) []
 else
 K (AV.one (SV.own (0 : Nat) (11 : Nat)))
 [Blk.row (37 : TypeId) (Row.mat IntKind.i64 (11 : Nat) (srtG (ownB l ch)))]) := by kernel_rfl
theorem exnwl0a (l : List (List Int)) (ch : Int) (kd : List Int) (i : Int) (K : Ex → List AV → List Blk → Prop) : evBody EnwF0 (lb Try.f112 0) [0, 1, 5, 6, 7] [6] [.one (.data (.mat .i64 11 l)), .one (.int .i64 ch), .one (.data (.ints .i64 kd)), .one .nil, .one (.int .i64 i)] [] K = (
 bif decide (i < (↑l.length : Int)) then
 bif decide ((0 : Int) ≤ i) && decide (i < (↑kd.length : Int)) then
 bif decide (i.toNat + (0 : Nat) < kd.length) then
 bif kd.getD (i.toNat + (0 : Nat)) (0 : Int) != (0 : Int) then
 K Ex.normal
 [AV.one (SV.data (Row.mat IntKind.i64 (11 : Nat) l)), AV.one (SV.int IntKind.i64 ch),
 AV.one (SV.data (Row.ints IntKind.i64 kd)), AV.one SV.nil,
 AV.one (SV.int IntKind.i64 (IntKind.i64.wrap (i + (1 : Int))))]
 []
 else
 bif decide ((0 : Int) ≤ i) && decide (i < (↑l.length : Int)) then
 bif decide ((1 : Nat) < (11 : Nat)) && decide (i.toNat < l.length) then
 bif (l.getD i.toNat []).getD (1 : Nat) (0 : Int) != ch then
 K Ex.normal
 [AV.one (SV.data (Row.mat IntKind.i64 (11 : Nat) l)), AV.one (SV.int IntKind.i64 ch),
 AV.one (SV.data (Row.ints IntKind.i64 kd)), AV.one SV.nil,
 AV.one (SV.int IntKind.i64 (IntKind.i64.wrap (i + (1 : Int))))]
 []
 else
 bif decide ((0 : Int) ≤ i) && decide (i < (↑l.length : Int)) then
 bif decide ((10 : Nat) < (11 : Nat)) && decide (i.toNat < l.length) then
 ((0 : Int) ≤
 IntKind.i64.wrap
 ((↑[[(l.getD i.toNat []).getD (0 : Nat) (0 : Int),
 (l.getD i.toNat []).getD (1 : Nat) (0 : Int),
 (l.getD i.toNat []).getD (2 : Nat) (0 : Int),
 (l.getD i.toNat []).getD (3 : Nat) (0 : Int),
 (l.getD i.toNat []).getD (4 : Nat) (0 : Int),
 (l.getD i.toNat []).getD (5 : Nat) (0 : Int),
 (l.getD i.toNat []).getD (6 : Nat) (0 : Int),
 (l.getD i.toNat []).getD (7 : Nat) (0 : Int),
 (l.getD i.toNat []).getD (8 : Nat) (0 : Int),
 (l.getD i.toNat []).getD (9 : Nat) (0 : Int),
 (l.getD i.toNat []).getD (10 : Nat) (0 : Int)]].length :
 Int) -
 (1 : Int)) ∧
 IntKind.i64.wrap
 ((↑[[(l.getD i.toNat []).getD (0 : Nat) (0 : Int),
 (l.getD i.toNat []).getD (1 : Nat) (0 : Int),
 (l.getD i.toNat []).getD (2 : Nat) (0 : Int),
 (l.getD i.toNat []).getD (3 : Nat) (0 : Int),
 (l.getD i.toNat []).getD (4 : Nat) (0 : Int),
 (l.getD i.toNat []).getD (5 : Nat) (0 : Int),
 (l.getD i.toNat []).getD (6 : Nat) (0 : Int),
 (l.getD i.toNat []).getD (7 : Nat) (0 : Int),
 (l.getD i.toNat []).getD (8 : Nat) (0 : Int),
 (l.getD i.toNat []).getD (9 : Nat) (0 : Int),
 (l.getD i.toNat []).getD (10 : Nat) (0 : Int)]].length :
 Int) -
 (1 : Int)) <
 (↑[[(l.getD i.toNat []).getD (0 : Nat) (0 : Int),
 (l.getD i.toNat []).getD (1 : Nat) (0 : Int),
 (l.getD i.toNat []).getD (2 : Nat) (0 : Int),
 (l.getD i.toNat []).getD (3 : Nat) (0 : Int),
 (l.getD i.toNat []).getD (4 : Nat) (0 : Int),
 (l.getD i.toNat []).getD (5 : Nat) (0 : Int),
 (l.getD i.toNat []).getD (6 : Nat) (0 : Int),
 (l.getD i.toNat []).getD (7 : Nat) (0 : Int),
 (l.getD i.toNat []).getD (8 : Nat) (0 : Int),
 (l.getD i.toNat []).getD (9 : Nat) (0 : Int),
 (l.getD i.toNat []).getD (10 : Nat) (0 : Int)]].length :
 Int) ∧
 [[(l.getD i.toNat []).getD (0 : Nat) (0 : Int), (l.getD i.toNat []).getD (1 : Nat) (0 : Int),
 (l.getD i.toNat []).getD (2 : Nat) (0 : Int),
 (l.getD i.toNat []).getD (3 : Nat) (0 : Int),
 (l.getD i.toNat []).getD (4 : Nat) (0 : Int),
 (l.getD i.toNat []).getD (5 : Nat) (0 : Int),
 (l.getD i.toNat []).getD (6 : Nat) (0 : Int),
 (l.getD i.toNat []).getD (7 : Nat) (0 : Int),
 (l.getD i.toNat []).getD (8 : Nat) (0 : Int),
 (l.getD i.toNat []).getD (9 : Nat) (0 : Int),
 (l.getD i.toNat []).getD (10 : Nat) (0 : Int)]].length ≤
 (1000 : Nat) ∧
 [[(l.getD i.toNat []).getD (0 : Nat) (0 : Int), (l.getD i.toNat []).getD (1 : Nat) (0 : Int),
 (l.getD i.toNat []).getD (2 : Nat) (0 : Int),
 (l.getD i.toNat []).getD (3 : Nat) (0 : Int),
 (l.getD i.toNat []).getD (4 : Nat) (0 : Int),
 (l.getD i.toNat []).getD (5 : Nat) (0 : Int),
 (l.getD i.toNat []).getD (6 : Nat) (0 : Int),
 (l.getD i.toNat []).getD (7 : Nat) (0 : Int),
 (l.getD i.toNat []).getD (8 : Nat) (0 : Int),
 (l.getD i.toNat []).getD (9 : Nat) (0 : Int),
 (l.getD i.toNat []).getD (10 : Nat) (0 : Int)]].all
 len11 =
 true) ∧
 K Ex.normal
 [AV.one (SV.data (Row.mat IntKind.i64 (11 : Nat) l)), AV.one (SV.int IntKind.i64 ch),
 AV.one (SV.data (Row.ints IntKind.i64 kd)), AV.one (SV.own (0 : Nat) (11 : Nat)),
 AV.one (SV.int IntKind.i64 (IntKind.i64.wrap (i + (1 : Int))))]
 [Blk.row (37 : TypeId)
 (Row.mat IntKind.i64 (11 : Nat)
 (bubG
 [[(l.getD i.toNat []).getD (0 : Nat) (0 : Int),
 (l.getD i.toNat []).getD (1 : Nat) (0 : Int),
 (l.getD i.toNat []).getD (2 : Nat) (0 : Int),
 (l.getD i.toNat []).getD (3 : Nat) (0 : Int),
 (l.getD i.toNat []).getD (4 : Nat) (0 : Int),
 (l.getD i.toNat []).getD (5 : Nat) (0 : Int),
 (l.getD i.toNat []).getD (6 : Nat) (0 : Int),
 (l.getD i.toNat []).getD (7 : Nat) (0 : Int),
 (l.getD i.toNat []).getD (8 : Nat) (0 : Int),
 (l.getD i.toNat []).getD (9 : Nat) (0 : Int),
 (l.getD i.toNat []).getD (10 : Nat) (0 : Int)]]
 (IntKind.i64.wrap
 ((↑[[(l.getD i.toNat []).getD (0 : Nat) (0 : Int),
 (l.getD i.toNat []).getD (1 : Nat) (0 : Int),
 (l.getD i.toNat []).getD (2 : Nat) (0 : Int),
 (l.getD i.toNat []).getD (3 : Nat) (0 : Int),
 (l.getD i.toNat []).getD (4 : Nat) (0 : Int),
 (l.getD i.toNat []).getD (5 : Nat) (0 : Int),
 (l.getD i.toNat []).getD (6 : Nat) (0 : Int),
 (l.getD i.toNat []).getD (7 : Nat) (0 : Int),
 (l.getD i.toNat []).getD (8 : Nat) (0 : Int),
 (l.getD i.toNat []).getD (9 : Nat) (0 : Int),
 (l.getD i.toNat []).getD (10 : Nat) (0 : Int)]].length :
 Int) -
 (1 : Int))).toNat))]
 else False
 else False
 else False
 else False
 else False
 else False
 else K (Ex.exit (0 : Nat)) [AV.one SV.nil] []) := by kernel_rfl
theorem exnwl0b (l : List (List Int)) (ch : Int) (kd : List Int) (i : Int) (S : List (List Int)) (K : Ex → List AV → List Blk → Prop) : evBody EnwF0 (lb Try.f112 0) [0, 1, 5, 6, 7] [6] [.one (.data (.mat .i64 11 l)), .one (.int .i64 ch), .one (.data (.ints .i64 kd)), .one (.own 0 11), .one (.int .i64 i)] [.row 37 (.mat .i64 11 S)] K = (
 bif decide (i < (↑l.length : Int)) then
 bif decide ((0 : Int) ≤ i) && decide (i < (↑kd.length : Int)) then
 bif decide (i.toNat + (0 : Nat) < kd.length) then
 bif kd.getD (i.toNat + (0 : Nat)) (0 : Int) != (0 : Int) then
 K Ex.normal
 [AV.one (SV.data (Row.mat IntKind.i64 (11 : Nat) l)), AV.one (SV.int IntKind.i64 ch),
 AV.one (SV.data (Row.ints IntKind.i64 kd)), AV.one (SV.own (0 : Nat) (11 : Nat)),
 AV.one (SV.int IntKind.i64 (IntKind.i64.wrap (i + (1 : Int))))]
 [Blk.row (37 : TypeId) (Row.mat IntKind.i64 (11 : Nat) S)]
 else
 bif decide ((0 : Int) ≤ i) && decide (i < (↑l.length : Int)) then
 bif decide ((1 : Nat) < (11 : Nat)) && decide (i.toNat < l.length) then
 bif (l.getD i.toNat []).getD (1 : Nat) (0 : Int) != ch then
 K Ex.normal
 [AV.one (SV.data (Row.mat IntKind.i64 (11 : Nat) l)), AV.one (SV.int IntKind.i64 ch),
 AV.one (SV.data (Row.ints IntKind.i64 kd)), AV.one (SV.own (0 : Nat) (11 : Nat)),
 AV.one (SV.int IntKind.i64 (IntKind.i64.wrap (i + (1 : Int))))]
 [Blk.row (37 : TypeId) (Row.mat IntKind.i64 (11 : Nat) S)]
 else
 bif decide ((0 : Int) ≤ i) && decide (i < (↑l.length : Int)) then
 bif decide ((10 : Nat) < (11 : Nat)) && decide (i.toNat < l.length) then
 bif
 decide
 ((S ++
 [[(l.getD i.toNat []).getD (0 : Nat) (0 : Int),
 (l.getD i.toNat []).getD (1 : Nat) (0 : Int),
 (l.getD i.toNat []).getD (2 : Nat) (0 : Int),
 (l.getD i.toNat []).getD (3 : Nat) (0 : Int),
 (l.getD i.toNat []).getD (4 : Nat) (0 : Int),
 (l.getD i.toNat []).getD (5 : Nat) (0 : Int),
 (l.getD i.toNat []).getD (6 : Nat) (0 : Int),
 (l.getD i.toNat []).getD (7 : Nat) (0 : Int),
 (l.getD i.toNat []).getD (8 : Nat) (0 : Int),
 (l.getD i.toNat []).getD (9 : Nat) (0 : Int),
 (l.getD i.toNat []).getD (10 : Nat) (0 : Int)]]).length *
 (88 : Nat) ≤
 (140737488355328 : Nat) ∧
 (S ++
 [[(l.getD i.toNat []).getD (0 : Nat) (0 : Int),
 (l.getD i.toNat []).getD (1 : Nat) (0 : Int),
 (l.getD i.toNat []).getD (2 : Nat) (0 : Int),
 (l.getD i.toNat []).getD (3 : Nat) (0 : Int),
 (l.getD i.toNat []).getD (4 : Nat) (0 : Int),
 (l.getD i.toNat []).getD (5 : Nat) (0 : Int),
 (l.getD i.toNat []).getD (6 : Nat) (0 : Int),
 (l.getD i.toNat []).getD (7 : Nat) (0 : Int),
 (l.getD i.toNat []).getD (8 : Nat) (0 : Int),
 (l.getD i.toNat []).getD (9 : Nat) (0 : Int),
 (l.getD i.toNat []).getD (10 : Nat) (0 : Int)]]).length ≤
 (140737488355328 : Nat)) then
 ((0 : Int) ≤
 IntKind.i64.wrap
 ((↑(S ++
 [[(l.getD i.toNat []).getD (0 : Nat) (0 : Int),
 (l.getD i.toNat []).getD (1 : Nat) (0 : Int),
 (l.getD i.toNat []).getD (2 : Nat) (0 : Int),
 (l.getD i.toNat []).getD (3 : Nat) (0 : Int),
 (l.getD i.toNat []).getD (4 : Nat) (0 : Int),
 (l.getD i.toNat []).getD (5 : Nat) (0 : Int),
 (l.getD i.toNat []).getD (6 : Nat) (0 : Int),
 (l.getD i.toNat []).getD (7 : Nat) (0 : Int),
 (l.getD i.toNat []).getD (8 : Nat) (0 : Int),
 (l.getD i.toNat []).getD (9 : Nat) (0 : Int),
 (l.getD i.toNat []).getD (10 : Nat) (0 : Int)]]).length :
 Int) -
 (1 : Int)) ∧
 IntKind.i64.wrap
 ((↑(S ++
 [[(l.getD i.toNat []).getD (0 : Nat) (0 : Int),
 (l.getD i.toNat []).getD (1 : Nat) (0 : Int),
 (l.getD i.toNat []).getD (2 : Nat) (0 : Int),
 (l.getD i.toNat []).getD (3 : Nat) (0 : Int),
 (l.getD i.toNat []).getD (4 : Nat) (0 : Int),
 (l.getD i.toNat []).getD (5 : Nat) (0 : Int),
 (l.getD i.toNat []).getD (6 : Nat) (0 : Int),
 (l.getD i.toNat []).getD (7 : Nat) (0 : Int),
 (l.getD i.toNat []).getD (8 : Nat) (0 : Int),
 (l.getD i.toNat []).getD (9 : Nat) (0 : Int),
 (l.getD i.toNat []).getD (10 : Nat) (0 : Int)]]).length :
 Int) -
 (1 : Int)) <
 (↑(S ++
 [[(l.getD i.toNat []).getD (0 : Nat) (0 : Int),
 (l.getD i.toNat []).getD (1 : Nat) (0 : Int),
 (l.getD i.toNat []).getD (2 : Nat) (0 : Int),
 (l.getD i.toNat []).getD (3 : Nat) (0 : Int),
 (l.getD i.toNat []).getD (4 : Nat) (0 : Int),
 (l.getD i.toNat []).getD (5 : Nat) (0 : Int),
 (l.getD i.toNat []).getD (6 : Nat) (0 : Int),
 (l.getD i.toNat []).getD (7 : Nat) (0 : Int),
 (l.getD i.toNat []).getD (8 : Nat) (0 : Int),
 (l.getD i.toNat []).getD (9 : Nat) (0 : Int),
 (l.getD i.toNat []).getD (10 : Nat) (0 : Int)]]).length :
 Int) ∧
 (S ++
 [[(l.getD i.toNat []).getD (0 : Nat) (0 : Int),
 (l.getD i.toNat []).getD (1 : Nat) (0 : Int),
 (l.getD i.toNat []).getD (2 : Nat) (0 : Int),
 (l.getD i.toNat []).getD (3 : Nat) (0 : Int),
 (l.getD i.toNat []).getD (4 : Nat) (0 : Int),
 (l.getD i.toNat []).getD (5 : Nat) (0 : Int),
 (l.getD i.toNat []).getD (6 : Nat) (0 : Int),
 (l.getD i.toNat []).getD (7 : Nat) (0 : Int),
 (l.getD i.toNat []).getD (8 : Nat) (0 : Int),
 (l.getD i.toNat []).getD (9 : Nat) (0 : Int),
 (l.getD i.toNat []).getD (10 : Nat) (0 : Int)]]).length ≤
 (1000 : Nat) ∧
 (S ++
 [[(l.getD i.toNat []).getD (0 : Nat) (0 : Int),
 (l.getD i.toNat []).getD (1 : Nat) (0 : Int),
 (l.getD i.toNat []).getD (2 : Nat) (0 : Int),
 (l.getD i.toNat []).getD (3 : Nat) (0 : Int),
 (l.getD i.toNat []).getD (4 : Nat) (0 : Int),
 (l.getD i.toNat []).getD (5 : Nat) (0 : Int),
 (l.getD i.toNat []).getD (6 : Nat) (0 : Int),
 (l.getD i.toNat []).getD (7 : Nat) (0 : Int),
 (l.getD i.toNat []).getD (8 : Nat) (0 : Int),
 (l.getD i.toNat []).getD (9 : Nat) (0 : Int),
 (l.getD i.toNat []).getD (10 : Nat) (0 : Int)]]).all
 len11 =
 true) ∧
 K Ex.normal
 [AV.one (SV.data (Row.mat IntKind.i64 (11 : Nat) l)), AV.one (SV.int IntKind.i64 ch),
 AV.one (SV.data (Row.ints IntKind.i64 kd)), AV.one (SV.own (0 : Nat) (11 : Nat)),
 AV.one (SV.int IntKind.i64 (IntKind.i64.wrap (i + (1 : Int))))]
 [Blk.row (37 : TypeId)
 (Row.mat IntKind.i64 (11 : Nat)
 (bubG
 (S ++
 [[(l.getD i.toNat []).getD (0 : Nat) (0 : Int),
 (l.getD i.toNat []).getD (1 : Nat) (0 : Int),
 (l.getD i.toNat []).getD (2 : Nat) (0 : Int),
 (l.getD i.toNat []).getD (3 : Nat) (0 : Int),
 (l.getD i.toNat []).getD (4 : Nat) (0 : Int),
 (l.getD i.toNat []).getD (5 : Nat) (0 : Int),
 (l.getD i.toNat []).getD (6 : Nat) (0 : Int),
 (l.getD i.toNat []).getD (7 : Nat) (0 : Int),
 (l.getD i.toNat []).getD (8 : Nat) (0 : Int),
 (l.getD i.toNat []).getD (9 : Nat) (0 : Int),
 (l.getD i.toNat []).getD (10 : Nat) (0 : Int)]])
 (IntKind.i64.wrap
 ((↑(S ++
 [[(l.getD i.toNat []).getD (0 : Nat) (0 : Int),
 (l.getD i.toNat []).getD (1 : Nat) (0 : Int),
 (l.getD i.toNat []).getD (2 : Nat) (0 : Int),
 (l.getD i.toNat []).getD (3 : Nat) (0 : Int),
 (l.getD i.toNat []).getD (4 : Nat) (0 : Int),
 (l.getD i.toNat []).getD (5 : Nat) (0 : Int),
 (l.getD i.toNat []).getD (6 : Nat) (0 : Int),
 (l.getD i.toNat []).getD (7 : Nat) (0 : Int),
 (l.getD i.toNat []).getD (8 : Nat) (0 : Int),
 (l.getD i.toNat []).getD (9 : Nat) (0 : Int),
 (l.getD i.toNat []).getD (10 : Nat) (0 : Int)]]).length :
 Int) -
 (1 : Int))).toNat))]
 else False
 else False
 else False
 else False
 else False
 else False
 else False
 else
 K (Ex.exit (0 : Nat)) [AV.one (SV.own (0 : Nat) (11 : Nat))]
 [Blk.row (37 : TypeId) (Row.mat IntKind.i64 (11 : Nat) S)]) := by kernel_rfl
theorem exnwl1a (j : Int) (S : List (List Int)) (K : Ex → List AV → List Blk → Prop) : evBody EnwF1 (lb Try.f112 1) [6, 8] [] [.one (.own 0 11), .one (.int .i64 j)] [.row 37 (.mat .i64 11 S)] K = (
 bif decide (j > (0 : Int)) then
 bif decide ((0 : Int) ≤ j) && decide (j < (↑S.length : Int)) then
 bif decide ((0 : Nat) < (11 : Nat)) && decide (j.toNat < S.length) then
 bif
 decide ((0 : Int) ≤ IntKind.i64.wrap (j - (1 : Int))) &&
 decide (IntKind.i64.wrap (j - (1 : Int)) < (↑S.length : Int)) then
 bif decide ((0 : Nat) < (11 : Nat)) && decide ((IntKind.i64.wrap (j - (1 : Int))).toNat < S.length) then
 bif
 decide
 ((S.getD j.toNat []).getD (0 : Nat) (0 : Int) <
 (S.getD (IntKind.i64.wrap (j - (1 : Int))).toNat []).getD (0 : Nat) (0 : Int)) then
 bif
 decide ((0 : Int) ≤ IntKind.i64.wrap (j - (1 : Int))) &&
 decide (IntKind.i64.wrap (j - (1 : Int)) < (↑S.length : Int)) then
 bif decide ((10 : Nat) < (11 : Nat)) && decide ((IntKind.i64.wrap (j - (1 : Int))).toNat < S.length) then
 bif decide ((0 : Int) ≤ j) && decide (j < (↑S.length : Int)) then
 bif decide ((10 : Nat) < (11 : Nat)) && decide (j.toNat < S.length) then
 bif decide ((0 : Int) ≤ j) && decide (j < (↑S.length : Int)) then
 bif decide (j.toNat < S.length) then
 bif
 decide ((0 : Int) ≤ IntKind.i64.wrap (j - (1 : Int))) &&
 decide
 (IntKind.i64.wrap (j - (1 : Int)) <
 (↑(S.set j.toNat
 [(S.getD (IntKind.i64.wrap (j - (1 : Int))).toNat []).getD (0 : Nat)
 (0 : Int),
 (S.getD (IntKind.i64.wrap (j - (1 : Int))).toNat []).getD (1 : Nat)
 (0 : Int),
 (S.getD (IntKind.i64.wrap (j - (1 : Int))).toNat []).getD (2 : Nat)
 (0 : Int),
 (S.getD (IntKind.i64.wrap (j - (1 : Int))).toNat []).getD (3 : Nat)
 (0 : Int),
 (S.getD (IntKind.i64.wrap (j - (1 : Int))).toNat []).getD (4 : Nat)
 (0 : Int),
 (S.getD (IntKind.i64.wrap (j - (1 : Int))).toNat []).getD (5 : Nat)
 (0 : Int),
 (S.getD (IntKind.i64.wrap (j - (1 : Int))).toNat []).getD (6 : Nat)
 (0 : Int),
 (S.getD (IntKind.i64.wrap (j - (1 : Int))).toNat []).getD (7 : Nat)
 (0 : Int),
 (S.getD (IntKind.i64.wrap (j - (1 : Int))).toNat []).getD (8 : Nat)
 (0 : Int),
 (S.getD (IntKind.i64.wrap (j - (1 : Int))).toNat []).getD (9 : Nat)
 (0 : Int),
 (S.getD (IntKind.i64.wrap (j - (1 : Int))).toNat []).getD (10 : Nat)
 (0 : Int)]).length :
 Int)) then
 bif
 decide
 ((IntKind.i64.wrap (j - (1 : Int))).toNat <
 (S.set j.toNat
 [(S.getD (IntKind.i64.wrap (j - (1 : Int))).toNat []).getD (0 : Nat) (0 : Int),
 (S.getD (IntKind.i64.wrap (j - (1 : Int))).toNat []).getD (1 : Nat) (0 : Int),
 (S.getD (IntKind.i64.wrap (j - (1 : Int))).toNat []).getD (2 : Nat) (0 : Int),
 (S.getD (IntKind.i64.wrap (j - (1 : Int))).toNat []).getD (3 : Nat) (0 : Int),
 (S.getD (IntKind.i64.wrap (j - (1 : Int))).toNat []).getD (4 : Nat) (0 : Int),
 (S.getD (IntKind.i64.wrap (j - (1 : Int))).toNat []).getD (5 : Nat) (0 : Int),
 (S.getD (IntKind.i64.wrap (j - (1 : Int))).toNat []).getD (6 : Nat) (0 : Int),
 (S.getD (IntKind.i64.wrap (j - (1 : Int))).toNat []).getD (7 : Nat) (0 : Int),
 (S.getD (IntKind.i64.wrap (j - (1 : Int))).toNat []).getD (8 : Nat) (0 : Int),
 (S.getD (IntKind.i64.wrap (j - (1 : Int))).toNat []).getD (9 : Nat) (0 : Int),
 (S.getD (IntKind.i64.wrap (j - (1 : Int))).toNat []).getD (10 : Nat)
 (0 : Int)]).length) then
 K Ex.normal
 [AV.one (SV.own (0 : Nat) (11 : Nat)),
 AV.one (SV.int IntKind.i64 (IntKind.i64.wrap (j - (1 : Int))))]
 [Blk.row (37 : TypeId)
 (Row.mat IntKind.i64 (11 : Nat)
 ((S.set j.toNat
 [(S.getD (IntKind.i64.wrap (j - (1 : Int))).toNat []).getD (0 : Nat)
 (0 : Int),
 (S.getD (IntKind.i64.wrap (j - (1 : Int))).toNat []).getD (1 : Nat)
 (0 : Int),
 (S.getD (IntKind.i64.wrap (j - (1 : Int))).toNat []).getD (2 : Nat)
 (0 : Int),
 (S.getD (IntKind.i64.wrap (j - (1 : Int))).toNat []).getD (3 : Nat)
 (0 : Int),
 (S.getD (IntKind.i64.wrap (j - (1 : Int))).toNat []).getD (4 : Nat)
 (0 : Int),
 (S.getD (IntKind.i64.wrap (j - (1 : Int))).toNat []).getD (5 : Nat)
 (0 : Int),
 (S.getD (IntKind.i64.wrap (j - (1 : Int))).toNat []).getD (6 : Nat)
 (0 : Int),
 (S.getD (IntKind.i64.wrap (j - (1 : Int))).toNat []).getD (7 : Nat)
 (0 : Int),
 (S.getD (IntKind.i64.wrap (j - (1 : Int))).toNat []).getD (8 : Nat)
 (0 : Int),
 (S.getD (IntKind.i64.wrap (j - (1 : Int))).toNat []).getD (9 : Nat)
 (0 : Int),
 (S.getD (IntKind.i64.wrap (j - (1 : Int))).toNat []).getD (10 : Nat)
 (0 : Int)]).set
 (IntKind.i64.wrap (j - (1 : Int))).toNat
 [(S.getD j.toNat []).getD (0 : Nat) (0 : Int),
 (S.getD j.toNat []).getD (1 : Nat) (0 : Int),
 (S.getD j.toNat []).getD (2 : Nat) (0 : Int),
 (S.getD j.toNat []).getD (3 : Nat) (0 : Int),
 (S.getD j.toNat []).getD (4 : Nat) (0 : Int),
 (S.getD j.toNat []).getD (5 : Nat) (0 : Int),
 (S.getD j.toNat []).getD (6 : Nat) (0 : Int),
 (S.getD j.toNat []).getD (7 : Nat) (0 : Int),
 (S.getD j.toNat []).getD (8 : Nat) (0 : Int),
 (S.getD j.toNat []).getD (9 : Nat) (0 : Int),
 (S.getD j.toNat []).getD (10 : Nat) (0 : Int)]))]
 else False
 else False
 else False
 else False
 else False
 else False
 else False
 else False
 else K (Ex.exit (2 : Nat)) [] [Blk.row (37 : TypeId) (Row.mat IntKind.i64 (11 : Nat) S)]
 else False
 else False
 else False
 else False
 else K (Ex.exit (2 : Nat)) [] [Blk.row (37 : TypeId) (Row.mat IntKind.i64 (11 : Nat) S)]) := by kernel_rfl
theorem exse (l : List (List Int)) (ch : Int) (K : AV → List Blk → Prop) : evFn Ese Try.f59 [.one (.data (.mat .i64 11 l)), .one (.int .i64 ch)] [] K = (
 okBs l ∧
 bif bsE l != (0 : Int) then K (AV.one (SV.int IntKind.i64 (bsE l))) []
 else
 bif (bif withinG ch (0 : Int) (3 : Int) then (0 : Int) else (2 : Int)) != (0 : Int) then
 K (AV.one (SV.int IntKind.i64 (bif withinG ch (0 : Int) (3 : Int) then (0 : Int) else (2 : Int)))) []
 else
 (okBs l ∧ l.all conB = true) ∧
 bif (↑(srtG (ownB l ch)).length : Int) == (0 : Int) then K (AV.one (SV.int IntKind.i64 (12 : Int))) []
 else
 bif
 decide ((0 : Int) ≤ IntKind.i64.wrap ((↑(srtG (ownB l ch)).length : Int) - (1 : Int))) &&
 decide
 (IntKind.i64.wrap ((↑(srtG (ownB l ch)).length : Int) - (1 : Int)) <
 (↑(srtG (ownB l ch)).length : Int)) then
 bif
 decide ((0 : Nat) < (11 : Nat)) &&
 decide
 ((IntKind.i64.wrap ((↑(srtG (ownB l ch)).length : Int) - (1 : Int))).toNat <
 (srtG (ownB l ch)).length) then
 bif decide ((0 : Int) ≤ (0 : Int)) && decide ((0 : Int) < (↑(srtG (ownB l ch)).length : Int)) then
 bif decide ((0 : Nat) < (11 : Nat)) && decide ((0 : Nat) < (srtG (ownB l ch)).length) then
 bif
 decide
 (IntKind.i64.wrap
 (IntKind.i64.wrap
 (((srtG (ownB l ch)).getD
 (IntKind.i64.wrap ((↑(srtG (ownB l ch)).length : Int) - (1 : Int))).toNat
 []).getD
 (0 : Nat) (0 : Int) -
 ((srtG (ownB l ch)).getD (0 : Nat) []).getD (0 : Nat) (0 : Int)) +
 (1 : Int)) >
 (60 : Int)) then
 K (AV.one (SV.int IntKind.i64 (8 : Int))) []
 else K (AV.one (SV.int IntKind.i64 (0 : Int))) []
 else False
 else False
 else False
 else False) := by kernel_rfl
theorem exsr (l : List (List Int)) (ch : Int) (K : AV → List Blk → Prop) : evFn Esr Try.f60 [.one (.data (.mat .i64 11 l)), .one (.int .i64 ch)] [] K = (
 (okBs l ∧ l.all conB = true) ∧
 bif decide ((0 : Int) ≤ (0 : Int)) && decide ((0 : Int) < (↑(srtG (ownB l ch)).length : Int)) then
 bif decide ((0 : Nat) < (11 : Nat)) && decide ((0 : Nat) < (srtG (ownB l ch)).length) then
 bif decide ((0 : Int) ≤ (0 : Int)) && decide ((0 : Int) < (↑(srtG (ownB l ch)).length : Int)) then
 bif decide ((0 : Nat) < (11 : Nat)) && decide ((0 : Nat) < (srtG (ownB l ch)).length) then
 (okSr (srtG (ownB l ch)) (0 : Int) (((srtG (ownB l ch)).getD (0 : Nat) []).getD (0 : Nat) (0 : Int)) ∧
 ((srtG (ownB l ch)).getD (0 : Nat) []).getD (0 : Nat) (0 : Int) = cntA (srtG (ownB l ch)) (0 : Nat)) ∧
 bif
 (strG (lkO (srtG (ownB l ch)))
 (lastA (srtG (ownB l ch)) - ((srtG (ownB l ch)).getD (0 : Nat) []).getD (0 : Nat) (0 : Int) +
 (1 : Int)).toNat
 (((srtG (ownB l ch)).getD (0 : Nat) []).getD (0 : Nat) (0 : Int)) ([], [])).1.isEmpty then
 K
 (AV.agg
 [SV.int IntKind.i64 (((srtG (ownB l ch)).getD (0 : Nat) []).getD (0 : Nat) (0 : Int)), SV.nil,
 SV.nil])
 []
 else
 bif
 (strG (lkO (srtG (ownB l ch)))
 (lastA (srtG (ownB l ch)) - ((srtG (ownB l ch)).getD (0 : Nat) []).getD (0 : Nat) (0 : Int) +
 (1 : Int)).toNat
 (((srtG (ownB l ch)).getD (0 : Nat) []).getD (0 : Nat) (0 : Int)) ([], [])).2.isEmpty then
 K
 (AV.agg
 [SV.int IntKind.i64 (((srtG (ownB l ch)).getD (0 : Nat) []).getD (0 : Nat) (0 : Int)),
 SV.own (0 : Nat) (1 : Nat), SV.nil])
 [Blk.row (3 : TypeId)
 (Row.ints IntKind.i64
 (strG (lkO (srtG (ownB l ch)))
 (lastA (srtG (ownB l ch)) -
 ((srtG (ownB l ch)).getD (0 : Nat) []).getD (0 : Nat) (0 : Int) +
 (1 : Int)).toNat
 (((srtG (ownB l ch)).getD (0 : Nat) []).getD (0 : Nat) (0 : Int)) ([], [])).1)]
 else
 K
 (AV.agg
 [SV.int IntKind.i64 (((srtG (ownB l ch)).getD (0 : Nat) []).getD (0 : Nat) (0 : Int)),
 SV.own (0 : Nat) (1 : Nat), SV.own (1 : Nat) (2 : Nat)])
 [Blk.row (3 : TypeId)
 (Row.ints IntKind.i64
 (strG (lkO (srtG (ownB l ch)))
 (lastA (srtG (ownB l ch)) -
 ((srtG (ownB l ch)).getD (0 : Nat) []).getD (0 : Nat) (0 : Int) +
 (1 : Int)).toNat
 (((srtG (ownB l ch)).getD (0 : Nat) []).getD (0 : Nat) (0 : Int)) ([], [])).1),
 Blk.row (99 : TypeId)
 (Row.mat IntKind.i64 (2 : Nat)
 (strG (lkO (srtG (ownB l ch)))
 (lastA (srtG (ownB l ch)) -
 ((srtG (ownB l ch)).getD (0 : Nat) []).getD (0 : Nat) (0 : Int) +
 (1 : Int)).toNat
 (((srtG (ownB l ch)).getD (0 : Nat) []).getD (0 : Nat) (0 : Int)) ([], [])).2)]
 else False
 else False
 else False
 else False) := by kernel_rfl
theorem exsrl0a (X : List (List Int)) (j n f : Int) (K : Ex → List AV → List Blk → Prop) : evBody EsrF1 (lb Try.f60 0) [5, 6, 7, 8] [] [.one (.data (.mat .i64 11 X)), .one (.ptr 0 1 0 0), .one (.int .i64 j), .one (.int .i64 n)] [.cells [.int .i64 f, .nil, .nil]] K = (
 bif
 decide ((0 : Int) ≤ IntKind.i64.wrap ((↑X.length : Int) - (1 : Int))) &&
 decide (IntKind.i64.wrap ((↑X.length : Int) - (1 : Int)) < (↑X.length : Int)) then
 bif
 decide ((0 : Nat) < (11 : Nat)) &&
 decide ((IntKind.i64.wrap ((↑X.length : Int) - (1 : Int))).toNat < X.length) then
 bif decide (n ≤ (X.getD (IntKind.i64.wrap ((↑X.length : Int) - (1 : Int))).toNat []).getD (0 : Nat) (0 : Int)) then
 bif decide ((0 : Int) ≤ j) && decide (j < (↑X.length : Int)) then
 bif decide ((0 : Nat) < (11 : Nat)) && decide (j.toNat < X.length) then
 bif (X.getD j.toNat []).getD (0 : Nat) (0 : Int) == n then
 bif decide ((0 : Int) ≤ j) && decide (j < (↑X.length : Int)) then
 bif
 decide ((10 : Nat) ≤ (11 : Nat)) &&
 (decide (j.toNat < X.length) && decide ((10 : Nat) ≤ (X.getD j.toNat []).length)) then
 bif
 decide
 ((List.take (8 : Nat) (List.drop (2 : Nat) (X.getD j.toNat []))).length * (8 : Nat) ≤
 (140737488355328 : Nat) ∧
 (List.take (8 : Nat) (List.drop (2 : Nat) (X.getD j.toNat []))).length ≤
 (140737488355328 : Nat)) then
 bif decide ((List.take (8 : Nat) (List.drop (2 : Nat) (X.getD j.toNat []))).length = (0 : Nat)) then
 K Ex.normal
 [AV.one (SV.data (Row.mat IntKind.i64 (11 : Nat) X)),
 AV.one (SV.ptr (0 : Nat) (1 : Nat) (0 : Nat) (0 : Nat)),
 AV.one (SV.int IntKind.i64 (IntKind.i64.wrap (j + (1 : Int)))),
 AV.one (SV.int IntKind.i64 (IntKind.i64.wrap (n + (1 : Int))))]
 [Blk.cells [SV.int IntKind.i64 f, SV.nil, SV.nil]]
 else
 K Ex.normal
 [AV.one (SV.data (Row.mat IntKind.i64 (11 : Nat) X)),
 AV.one (SV.ptr (0 : Nat) (1 : Nat) (0 : Nat) (0 : Nat)),
 AV.one (SV.int IntKind.i64 (IntKind.i64.wrap (j + (1 : Int)))),
 AV.one (SV.int IntKind.i64 (IntKind.i64.wrap (n + (1 : Int))))]
 [Blk.cells [SV.int IntKind.i64 f, SV.own (1 : Nat) (1 : Nat), SV.nil],
 Blk.row (3 : Nat)
 (Row.ints IntKind.i64 (List.take (8 : Nat) (List.drop (2 : Nat) (X.getD j.toNat []))))]
 else False
 else False
 else False
 else
 K Ex.normal
 [AV.one (SV.data (Row.mat IntKind.i64 (11 : Nat) X)),
 AV.one (SV.ptr (0 : Nat) (1 : Nat) (0 : Nat) (0 : Nat)), AV.one (SV.int IntKind.i64 j),
 AV.one (SV.int IntKind.i64 (IntKind.i64.wrap (n + (1 : Int))))]
 [Blk.cells [SV.int IntKind.i64 f, SV.own (1 : Nat) (1 : Nat), SV.own (2 : Nat) (2 : Nat)],
 Blk.row (3 : Nat)
 (Row.ints IntKind.i64
 [(0 : Int), (0 : Int), (0 : Int), (0 : Int), (0 : Int), (0 : Int), (0 : Int), (0 : Int)]),
 Blk.row (99 : Nat) (Row.mat IntKind.i64 (2 : Nat) [[(0 : Int), (7 : Int)]])]
 else False
 else False
 else K (Ex.exit (0 : Nat)) [] [Blk.cells [SV.int IntKind.i64 f, SV.nil, SV.nil]]
 else False
 else False) := by kernel_rfl
theorem exsrl0b (X : List (List Int)) (j n f : Int) (S : List Int) (K : Ex → List AV → List Blk → Prop) : evBody EsrF1 (lb Try.f60 0) [5, 6, 7, 8] [] [.one (.data (.mat .i64 11 X)), .one (.ptr 0 1 0 0), .one (.int .i64 j), .one (.int .i64 n)] [.cells [.int .i64 f, .own 1 1, .nil], .row 3 (.ints .i64 S)] K = (
 bif
 decide ((0 : Int) ≤ IntKind.i64.wrap ((↑X.length : Int) - (1 : Int))) &&
 decide (IntKind.i64.wrap ((↑X.length : Int) - (1 : Int)) < (↑X.length : Int)) then
 bif
 decide ((0 : Nat) < (11 : Nat)) &&
 decide ((IntKind.i64.wrap ((↑X.length : Int) - (1 : Int))).toNat < X.length) then
 bif decide (n ≤ (X.getD (IntKind.i64.wrap ((↑X.length : Int) - (1 : Int))).toNat []).getD (0 : Nat) (0 : Int)) then
 bif decide ((0 : Int) ≤ j) && decide (j < (↑X.length : Int)) then
 bif decide ((0 : Nat) < (11 : Nat)) && decide (j.toNat < X.length) then
 bif (X.getD j.toNat []).getD (0 : Nat) (0 : Int) == n then
 bif decide ((0 : Int) ≤ j) && decide (j < (↑X.length : Int)) then
 bif
 decide ((10 : Nat) ≤ (11 : Nat)) &&
 (decide (j.toNat < X.length) && decide ((10 : Nat) ≤ (X.getD j.toNat []).length)) then
 bif
 decide
 ((S ++ List.take (8 : Nat) (List.drop (2 : Nat) (X.getD j.toNat []))).length * (8 : Nat) ≤
 (140737488355328 : Nat) ∧
 (S ++ List.take (8 : Nat) (List.drop (2 : Nat) (X.getD j.toNat []))).length ≤
 (140737488355328 : Nat)) then
 K Ex.normal
 [AV.one (SV.data (Row.mat IntKind.i64 (11 : Nat) X)),
 AV.one (SV.ptr (0 : Nat) (1 : Nat) (0 : Nat) (0 : Nat)),
 AV.one (SV.int IntKind.i64 (IntKind.i64.wrap (j + (1 : Int)))),
 AV.one (SV.int IntKind.i64 (IntKind.i64.wrap (n + (1 : Int))))]
 [Blk.cells [SV.int IntKind.i64 f, SV.own (1 : Nat) (1 : Nat), SV.nil],
 Blk.row (3 : Nat)
 (Row.ints IntKind.i64 (S ++ List.take (8 : Nat) (List.drop (2 : Nat) (X.getD j.toNat []))))]
 else False
 else False
 else False
 else
 bif
 decide ((0 : Int) < (8 : Int)) &&
 decide
 ((S.length + (8 : Nat)) * (8 : Nat) ≤ (140737488355328 : Nat) ∧
 S.length + (8 : Nat) ≤ (140737488355328 : Nat)) then
 K Ex.normal
 [AV.one (SV.data (Row.mat IntKind.i64 (11 : Nat) X)),
 AV.one (SV.ptr (0 : Nat) (1 : Nat) (0 : Nat) (0 : Nat)), AV.one (SV.int IntKind.i64 j),
 AV.one (SV.int IntKind.i64 (IntKind.i64.wrap (n + (1 : Int))))]
 [Blk.cells [SV.int IntKind.i64 f, SV.own (1 : Nat) (1 : Nat), SV.own (2 : Nat) (2 : Nat)],
 Blk.row (3 : Nat)
 (Row.ints IntKind.i64
 (S ++ [(0 : Int), (0 : Int), (0 : Int), (0 : Int), (0 : Int), (0 : Int), (0 : Int), (0 : Int)])),
 Blk.row (99 : Nat)
 (Row.mat IntKind.i64 (2 : Nat)
 [[(↑S.length : Int),
 IntKind.i64.wrap (IntKind.i64.wrap ((↑S.length : Int) + (8 : Int)) - (1 : Int))]])]
 else False
 else False
 else False
 else
 K (Ex.exit (0 : Nat)) []
 [Blk.cells [SV.int IntKind.i64 f, SV.own (1 : Nat) (1 : Nat), SV.nil],
 Blk.row (3 : TypeId) (Row.ints IntKind.i64 S)]
 else False
 else False) := by kernel_rfl
def exsrl0c_x0 (X : List (List Int)) (j n f : Int) (S : List Int) (G : List (List Int)) (K : Ex → List AV → List Blk → Prop) : Prop := (
 bif
 decide
 ((G ++
 [[(↑S.length : Int),
 IntKind.i64.wrap (IntKind.i64.wrap ((↑S.length : Int) + (8 : Int)) - (1 : Int))]]).length *
 (16 : Nat) ≤
 (140737488355328 : Nat) ∧
 (G ++
 [[(↑S.length : Int),
 IntKind.i64.wrap (IntKind.i64.wrap ((↑S.length : Int) + (8 : Int)) - (1 : Int))]]).length ≤
 (140737488355328 : Nat)) then
 K Ex.normal
 [AV.one (SV.data (Row.mat IntKind.i64 (11 : Nat) X)), AV.one (SV.ptr (0 : Nat) (1 : Nat) (0 : Nat) (0 : Nat)),
 AV.one (SV.int IntKind.i64 j), AV.one (SV.int IntKind.i64 (IntKind.i64.wrap (n + (1 : Int))))]
 [Blk.cells [SV.int IntKind.i64 f, SV.own (1 : Nat) (1 : Nat), SV.own (2 : Nat) (2 : Nat)],
 Blk.row (3 : Nat)
 (Row.ints IntKind.i64
 (S ++ [(0 : Int), (0 : Int), (0 : Int), (0 : Int), (0 : Int), (0 : Int), (0 : Int), (0 : Int)])),
 Blk.row (99 : Nat)
 (Row.mat IntKind.i64 (2 : Nat)
 (G ++
 [[(↑S.length : Int), IntKind.i64.wrap (IntKind.i64.wrap ((↑S.length : Int) + (8 : Int)) - (1 : Int))]]))]
 else False)
theorem exsrl0c (X : List (List Int)) (j n f : Int) (S : List Int) (G : List (List Int)) (K : Ex → List AV → List Blk → Prop) : evBody EsrF1 (lb Try.f60 0) [5, 6, 7, 8] [] [.one (.data (.mat .i64 11 X)), .one (.ptr 0 1 0 0), .one (.int .i64 j), .one (.int .i64 n)] [.cells [.int .i64 f, .own 1 1, .own 2 2], .row 3 (.ints .i64 S), .row 99 (.mat .i64 2 G)] K = (
 bif
 decide ((0 : Int) ≤ IntKind.i64.wrap ((↑X.length : Int) - (1 : Int))) &&
 decide (IntKind.i64.wrap ((↑X.length : Int) - (1 : Int)) < (↑X.length : Int)) then
 bif
 decide ((0 : Nat) < (11 : Nat)) &&
 decide ((IntKind.i64.wrap ((↑X.length : Int) - (1 : Int))).toNat < X.length) then
 bif decide (n ≤ (X.getD (IntKind.i64.wrap ((↑X.length : Int) - (1 : Int))).toNat []).getD (0 : Nat) (0 : Int)) then
 bif decide ((0 : Int) ≤ j) && decide (j < (↑X.length : Int)) then
 bif decide ((0 : Nat) < (11 : Nat)) && decide (j.toNat < X.length) then
 bif (X.getD j.toNat []).getD (0 : Nat) (0 : Int) == n then
 bif decide ((0 : Int) ≤ j) && decide (j < (↑X.length : Int)) then
 bif
 decide ((10 : Nat) ≤ (11 : Nat)) &&
 (decide (j.toNat < X.length) && decide ((10 : Nat) ≤ (X.getD j.toNat []).length)) then
 bif
 decide
 ((S ++ List.take (8 : Nat) (List.drop (2 : Nat) (X.getD j.toNat []))).length * (8 : Nat) ≤
 (140737488355328 : Nat) ∧
 (S ++ List.take (8 : Nat) (List.drop (2 : Nat) (X.getD j.toNat []))).length ≤
 (140737488355328 : Nat)) then
 K Ex.normal
 [AV.one (SV.data (Row.mat IntKind.i64 (11 : Nat) X)),
 AV.one (SV.ptr (0 : Nat) (1 : Nat) (0 : Nat) (0 : Nat)),
 AV.one (SV.int IntKind.i64 (IntKind.i64.wrap (j + (1 : Int)))),
 AV.one (SV.int IntKind.i64 (IntKind.i64.wrap (n + (1 : Int))))]
 [Blk.cells [SV.int IntKind.i64 f, SV.own (1 : Nat) (1 : Nat), SV.own (2 : Nat) (2 : Nat)],
 Blk.row (3 : Nat)
 (Row.ints IntKind.i64 (S ++ List.take (8 : Nat) (List.drop (2 : Nat) (X.getD j.toNat [])))),
 Blk.row (99 : TypeId) (Row.mat IntKind.i64 (2 : Nat) G)]
 else False
 else False
 else False
 else
 bif
 decide ((0 : Int) < (8 : Int)) &&
 decide
 ((S.length + (8 : Nat)) * (8 : Nat) ≤ (140737488355328 : Nat) ∧
 S.length + (8 : Nat) ≤ (140737488355328 : Nat)) then
 bif decide (IntKind.i64.wrap ((↑G.length : Int) - (1 : Int)) ≥ (0 : Int)) then
 bif
 decide ((0 : Int) ≤ IntKind.i64.wrap ((↑G.length : Int) - (1 : Int))) &&
 decide (IntKind.i64.wrap ((↑G.length : Int) - (1 : Int)) < (↑G.length : Int)) then
 bif
 decide ((1 : Nat) < (2 : Nat)) &&
 decide ((IntKind.i64.wrap ((↑G.length : Int) - (1 : Int))).toNat < G.length) then
 bif
 (G.getD (IntKind.i64.wrap ((↑G.length : Int) - (1 : Int))).toNat []).getD (1 : Nat) (0 : Int) ==
 IntKind.i64.wrap ((↑S.length : Int) - (1 : Int)) then
 bif
 decide ((0 : Int) ≤ IntKind.i64.wrap ((↑G.length : Int) - (1 : Int))) &&
 decide (IntKind.i64.wrap ((↑G.length : Int) - (1 : Int)) < (↑G.length : Int)) then
 bif
 decide ((1 : Nat) < (2 : Nat)) &&
 decide ((IntKind.i64.wrap ((↑G.length : Int) - (1 : Int))).toNat < G.length) &&
 decide
 ((G.getD (IntKind.i64.wrap ((↑G.length : Int) - (1 : Int))).toNat []).length =
 (2 : Nat)) then
 K Ex.normal
 [AV.one (SV.data (Row.mat IntKind.i64 (11 : Nat) X)),
 AV.one (SV.ptr (0 : Nat) (1 : Nat) (0 : Nat) (0 : Nat)), AV.one (SV.int IntKind.i64 j),
 AV.one (SV.int IntKind.i64 (IntKind.i64.wrap (n + (1 : Int))))]
 [Blk.cells [SV.int IntKind.i64 f, SV.own (1 : Nat) (1 : Nat), SV.own (2 : Nat) (2 : Nat)],
 Blk.row (3 : Nat)
 (Row.ints IntKind.i64
 (S ++
 [(0 : Int), (0 : Int), (0 : Int), (0 : Int), (0 : Int), (0 : Int), (0 : Int),
 (0 : Int)])),
 Blk.row (99 : TypeId)
 (Row.mat IntKind.i64 (2 : Nat)
 (G.set (IntKind.i64.wrap ((↑G.length : Int) - (1 : Int))).toNat
 ((G.getD (IntKind.i64.wrap ((↑G.length : Int) - (1 : Int))).toNat []).set (1 : Nat)
 (IntKind.i64.wrap
 (IntKind.i64.wrap ((↑S.length : Int) + (8 : Int)) - (1 : Int))))))]
 else False
 else False
 else exsrl0c_x0 X j n f S G K
 else False
 else False
 else exsrl0c_x0 X j n f S G K
 else False
 else False
 else False
 else
 K (Ex.exit (0 : Nat)) []
 [Blk.cells [SV.int IntKind.i64 f, SV.own (1 : Nat) (1 : Nat), SV.own (2 : Nat) (2 : Nat)],
 Blk.row (3 : TypeId) (Row.ints IntKind.i64 S), Blk.row (99 : TypeId) (Row.mat IntKind.i64 (2 : Nat) G)]
 else False
 else False) := by kernel_rfl
theorem exmo (l : List (List Int)) (ch : Int) (K : AV → List Blk → Prop) : evFn Emo Try.f61 [.one (.data (.mat .i64 11 l)), .one (.int .i64 ch)] [] K = (
 (okBs l ∧ l.all conB = true) ∧
 (okX (srtG (ownB l ch)) ∧ (1 : Int) ≤ (1 : Int) ∧ (1 : Int) ≤ (↑(srtG (ownB l ch)).length : Int)) ∧
 bif (missR (srtG (ownB l ch)) (1 : Nat)).isEmpty then K (AV.one SV.nil) []
 else
 K (AV.one (SV.own (0 : Nat) (1 : Nat)))
 [Blk.row (3 : TypeId) (Row.ints IntKind.i64 (missR (srtG (ownB l ch)) (1 : Nat)))]) := by kernel_rfl
theorem exmol0a (X : List (List Int)) (i : Int) (K : Ex → List AV → List Blk → Prop) : evBody Emo (lb Try.f61 0) [5, 6, 7] [6] [.one (.data (.mat .i64 11 X)), .one .nil, .one (.int .i64 i)] [] K = (
 bif decide (i < (↑X.length : Int)) then
 bif
 decide ((0 : Int) ≤ IntKind.i64.wrap (i - (1 : Int))) &&
 decide (IntKind.i64.wrap (i - (1 : Int)) < (↑X.length : Int)) then
 bif decide ((0 : Nat) < (11 : Nat)) && decide ((IntKind.i64.wrap (i - (1 : Int))).toNat < X.length) then
 (okX X ∧
 (1 : Int) ≤ i ∧
 i < (↑X.length : Int) ∧
 cntA X (i.toNat - (1 : Nat)) <
 IntKind.i64.wrap
 ((X.getD (IntKind.i64.wrap (i - (1 : Int))).toNat []).getD (0 : Nat) (0 : Int) + (1 : Int)) ∧
 IntKind.i64.wrap
 ((X.getD (IntKind.i64.wrap (i - (1 : Int))).toNat []).getD (0 : Nat) (0 : Int) + (1 : Int)) ≤
 cntA X i.toNat) ∧
 bif
 (misG (lkO X)
 (cntA X i.toNat -
 IntKind.i64.wrap
 ((X.getD (IntKind.i64.wrap (i - (1 : Int))).toNat []).getD (0 : Nat) (0 : Int) + (1 : Int))).toNat
 (IntKind.i64.wrap
 ((X.getD (IntKind.i64.wrap (i - (1 : Int))).toNat []).getD (0 : Nat) (0 : Int) +
 (1 : Int)))).isEmpty then
 K Ex.normal
 [AV.one (SV.data (Row.mat IntKind.i64 (11 : Nat) X)), AV.one SV.nil,
 AV.one (SV.int IntKind.i64 (IntKind.i64.wrap (i + (1 : Int))))]
 []
 else
 K Ex.normal
 [AV.one (SV.data (Row.mat IntKind.i64 (11 : Nat) X)), AV.one (SV.own (0 : Nat) (1 : Nat)),
 AV.one (SV.int IntKind.i64 (IntKind.i64.wrap (i + (1 : Int))))]
 [Blk.row (3 : TypeId)
 (Row.ints IntKind.i64
 (misG (lkO X)
 (cntA X i.toNat -
 IntKind.i64.wrap
 ((X.getD (IntKind.i64.wrap (i - (1 : Int))).toNat []).getD (0 : Nat) (0 : Int) +
 (1 : Int))).toNat
 (IntKind.i64.wrap
 ((X.getD (IntKind.i64.wrap (i - (1 : Int))).toNat []).getD (0 : Nat) (0 : Int) + (1 : Int)))))]
 else False
 else False
 else K (Ex.exit (0 : Nat)) [AV.one SV.nil] []) := by kernel_rfl
theorem exmol0b (X : List (List Int)) (i : Int) (S : List Int) (K : Ex → List AV → List Blk → Prop) : evBody Emo (lb Try.f61 0) [5, 6, 7] [6] [.one (.data (.mat .i64 11 X)), .one (.own 0 1), .one (.int .i64 i)] [.row 3 (.ints .i64 S)] K = (
 bif decide (i < (↑X.length : Int)) then
 bif
 decide ((0 : Int) ≤ IntKind.i64.wrap (i - (1 : Int))) &&
 decide (IntKind.i64.wrap (i - (1 : Int)) < (↑X.length : Int)) then
 bif decide ((0 : Nat) < (11 : Nat)) && decide ((IntKind.i64.wrap (i - (1 : Int))).toNat < X.length) then
 (okX X ∧
 (1 : Int) ≤ i ∧
 i < (↑X.length : Int) ∧
 cntA X (i.toNat - (1 : Nat)) <
 IntKind.i64.wrap
 ((X.getD (IntKind.i64.wrap (i - (1 : Int))).toNat []).getD (0 : Nat) (0 : Int) + (1 : Int)) ∧
 IntKind.i64.wrap
 ((X.getD (IntKind.i64.wrap (i - (1 : Int))).toNat []).getD (0 : Nat) (0 : Int) + (1 : Int)) ≤
 cntA X i.toNat ∧
 (↑S.length : Int) ≤
 (60 : Int) +
 IntKind.i64.wrap
 ((X.getD (IntKind.i64.wrap (i - (1 : Int))).toNat []).getD (0 : Nat) (0 : Int) + (1 : Int))) ∧
 K Ex.normal
 [AV.one (SV.data (Row.mat IntKind.i64 (11 : Nat) X)), AV.one (SV.own (0 : Nat) (1 : Nat)),
 AV.one (SV.int IntKind.i64 (IntKind.i64.wrap (i + (1 : Int))))]
 [Blk.row (3 : TypeId)
 (Row.ints IntKind.i64
 (S ++
 misG (lkO X)
 (cntA X i.toNat -
 IntKind.i64.wrap
 ((X.getD (IntKind.i64.wrap (i - (1 : Int))).toNat []).getD (0 : Nat) (0 : Int) +
 (1 : Int))).toNat
 (IntKind.i64.wrap
 ((X.getD (IntKind.i64.wrap (i - (1 : Int))).toNat []).getD (0 : Nat) (0 : Int) + (1 : Int)))))]
 else False
 else False
 else K (Ex.exit (0 : Nat)) [AV.one (SV.own (0 : Nat) (1 : Nat))] [Blk.row (3 : TypeId) (Row.ints IntKind.i64 S)]) := by kernel_rfl
theorem exmol1a (X : List (List Int)) (i n : Int) (K : Ex → List AV → List Blk → Prop) : evBody Emo (lb Try.f61 1) [5, 6, 7, 8] [5, 6, 7] [.one (.data (.mat .i64 11 X)), .one .nil, .one (.int .i64 i), .one (.int .i64 n)] [] K = (
 bif decide ((0 : Int) ≤ i) && decide (i < (↑X.length : Int)) then
 bif decide ((0 : Nat) < (11 : Nat)) && decide (i.toNat < X.length) then
 bif decide (n < (X.getD i.toNat []).getD (0 : Nat) (0 : Int)) then
 K Ex.normal
 [AV.one (SV.data (Row.mat IntKind.i64 (11 : Nat) X)), AV.one (SV.own (0 : Nat) (1 : Nat)),
 AV.one (SV.int IntKind.i64 i), AV.one (SV.int IntKind.i64 (IntKind.i64.wrap (n + (1 : Int))))]
 [Blk.row (3 : Nat) (Row.ints IntKind.i64 [n])]
 else
 K (Ex.exit (2 : Nat))
 [AV.one (SV.data (Row.mat IntKind.i64 (11 : Nat) X)), AV.one SV.nil, AV.one (SV.int IntKind.i64 i)] []
 else False
 else False) := by kernel_rfl
theorem exmol1b (X : List (List Int)) (i n : Int) (S : List Int) (K : Ex → List AV → List Blk → Prop) : evBody Emo (lb Try.f61 1) [5, 6, 7, 8] [5, 6, 7] [.one (.data (.mat .i64 11 X)), .one (.own 0 1), .one (.int .i64 i), .one (.int .i64 n)] [.row 3 (.ints .i64 S)] K = (
 bif decide ((0 : Int) ≤ i) && decide (i < (↑X.length : Int)) then
 bif decide ((0 : Nat) < (11 : Nat)) && decide (i.toNat < X.length) then
 bif decide (n < (X.getD i.toNat []).getD (0 : Nat) (0 : Int)) then
 bif
 decide
 ((S ++ [n]).length * (8 : Nat) ≤ (140737488355328 : Nat) ∧ (S ++ [n]).length ≤ (140737488355328 : Nat)) then
 K Ex.normal
 [AV.one (SV.data (Row.mat IntKind.i64 (11 : Nat) X)), AV.one (SV.own (0 : Nat) (1 : Nat)),
 AV.one (SV.int IntKind.i64 i), AV.one (SV.int IntKind.i64 (IntKind.i64.wrap (n + (1 : Int))))]
 [Blk.row (3 : Nat) (Row.ints IntKind.i64 (S ++ [n]))]
 else False
 else
 K (Ex.exit (2 : Nat))
 [AV.one (SV.data (Row.mat IntKind.i64 (11 : Nat) X)), AV.one (SV.own (0 : Nat) (1 : Nat)),
 AV.one (SV.int IntKind.i64 i)]
 [Blk.row (3 : TypeId) (Row.ints IntKind.i64 S)]
 else False
 else False) := by kernel_rfl
theorem exrg (G H : List (List Int)) (K : AV → List Blk → Prop) : evFn Erg Try.f62 [.one (.data (.mat .i64 2 G)), .one (.data (.mat .i64 2 H))] [] K = (
 bif (↑G.length : Int) != (↑H.length : Int) then K (AV.one (SV.bool false)) []
 else
 ((0 : Int) ≤ (0 : Int) ∧
 (0 : Int) ≤ (↑G.length : Int) ∧
 G.length ≤ (1000000000 : Nat) ∧ H.length = G.length ∧ G.all len2 = true ∧ H.all len2 = true) ∧
 bif G == H then K (AV.one (SV.bool true)) [] else K (AV.one (SV.bool false)) []) := by kernel_rfl
theorem exrgl0a (G H : List (List Int)) (i : Int) (K : Ex → List AV → List Blk → Prop) : evBody Erg (lb Try.f62 0) [0, 1, 5] [4] [.one (.data (.mat .i64 2 G)), .one (.data (.mat .i64 2 H)), .one (.int .i64 i)] [] K = (
 bif decide (i < (↑G.length : Int)) then
 bif decide ((0 : Int) ≤ i) && decide (i < (↑G.length : Int)) then
 bif decide ((1 : Nat) < (2 : Nat)) && decide (i.toNat < G.length) then
 bif decide ((0 : Int) ≤ i) && decide (i < (↑H.length : Int)) then
 bif decide ((1 : Nat) < (2 : Nat)) && decide (i.toNat < H.length) then
 bif
 !((G.getD i.toNat []).getD (0 : Nat) (0 : Int) == (H.getD i.toNat []).getD (0 : Nat) (0 : Int) &&
 (G.getD i.toNat []).getD (1 : Nat) (0 : Int) == (H.getD i.toNat []).getD (1 : Nat) (0 : Int)) then
 K Ex.ret [AV.one (SV.bool false)] []
 else
 K Ex.normal
 [AV.one (SV.data (Row.mat IntKind.i64 (2 : Nat) G)), AV.one (SV.data (Row.mat IntKind.i64 (2 : Nat) H)),
 AV.one (SV.int IntKind.i64 (IntKind.i64.wrap (i + (1 : Int))))]
 []
 else False
 else False
 else False
 else False
 else K (Ex.exit (0 : Nat)) [AV.any] []) := by kernel_rfl
theorem exsm (a : Int) (S : List Int) (G : List (List Int)) (b : Int) (T : List Int) (H : List (List Int)) (K : AV → List Blk → Prop) : evFn Esm Try.f57 [.agg [.int .i64 a, .data (.ints .i64 S), .data (.mat .i64 2 G)], .agg [.int .i64 b, .data (.ints .i64 T), .data (.mat .i64 2 H)]] [] K = (
 bif a == b then
 S.length ≤ (1000000000 : Nat) ∧
 bif S == T then
 (G.length ≤ (1000000000 : Nat) ∧ G.all len2 = true ∧ H.all len2 = true) ∧ K (AV.one (SV.bool (G == H))) []
 else K (AV.one (SV.bool false)) []
 else K (AV.one (SV.bool false)) []) := by kernel_rfl
end Go.Ev

namespace Go.Ev
open Go Go.Proofs
attribute [local irreducible] evFn evBody evRound
set_option maxRecDepth 20000
set_option linter.unusedVariables false
set_option linter.unusedSimpArgs false

/-! Sorting. -/
def Srt (S : List (List Int)) : Prop := S.Pairwise fun a b => cnt a < cnt b
theorem swp_eq (T R : List (List Int)) (a x : List Int) : swpG (T ++ a :: x :: R) T.length = T ++ x :: a :: R := by
  unfold swpG
  have e1 : (T ++ a :: x :: R).getD T.length [] = a := by simp [List.getD_eq_getElem?_getD]
  have e2 : (T ++ a :: x :: R).getD (T.length + 1) [] = x := by simp [List.getD_eq_getElem?_getD, List.getElem?_append_right]
  rw [e1, e2, List.set_append_right _ _ (by omega), show T.length + 1 - T.length = 1 by omega]
  simp
theorem bub_srt : ∀ (n : Nat) (T R : List (List Int)) (x : List Int), T.length = n → Srt (T ++ R) → (∀ r ∈ R, cnt x < cnt r) → (∀ t ∈ T, cnt t ≠ cnt x) → Srt (bubG (T ++ x :: R) n) ∧ (bubG (T ++ x :: R) n).Perm (T ++ x :: R)
  | 0, T, R, x, hT, h1, h2, _ => by
    have : T = [] := List.eq_nil_of_length_eq_zero hT
    subst this
    exact ⟨List.pairwise_cons.2 ⟨h2, h1⟩, List.Perm.refl _⟩
  | n + 1, T, R, x, hT, h1, h2, h3 => by
    obtain ⟨T', a, rfl⟩ : ∃ T' a, T = T' ++ [a] := ⟨T.dropLast, T.getLast (by intro e; rw [e] at hT; simp at hT), (List.dropLast_concat_getLast _).symm⟩
    have hn : T'.length = n := by simpa using hT
    have e0 : T' ++ [a] ++ x :: R = T' ++ a :: x :: R := by simp
    have e1 : (T' ++ a :: x :: R).getD n [] = a := by rw [← hn]; simp [List.getD_eq_getElem?_getD]
    have e2 : (T' ++ a :: x :: R).getD (n + 1) [] = x := by rw [← hn]; simp [List.getD_eq_getElem?_getD, List.getElem?_append_right]
    rw [e0, bubG, e1, e2]
    have hs : Srt (T' ++ a :: R) := by simpa using h1
    have hax := h3 a (by simp)
    unfold Srt at hs
    rw [List.pairwise_append, List.pairwise_cons] at hs
    obtain ⟨s1, ⟨s2, s3⟩, s4⟩ := hs
    by_cases hc : cnt x < cnt a
    · rw [decide_eq_true hc, cond_true, ← hn, swp_eq, hn]
      obtain ⟨b1, b2⟩ := bub_srt n T' (a :: R) x hn (by simpa using h1) (fun r hr => by
        rcases List.mem_cons.1 hr with rfl | hr
        · exact hc
        · exact h2 r hr) (fun t ht => h3 t (by simp [ht]))
      refine ⟨b1, b2.trans ?_⟩
      exact List.Perm.append_left _ (List.Perm.swap a x R)
    · rw [decide_eq_false hc, cond_false]
      refine ⟨?_, List.Perm.refl _⟩
      unfold Srt
      rw [List.pairwise_append]
      have hax' : cnt a < cnt x := by omega
      refine ⟨s1, List.pairwise_cons.2 ⟨fun r hr => ?_, List.pairwise_cons.2 ⟨h2, s3⟩⟩, fun t ht r hr => ?_⟩
      · rcases List.mem_cons.1 hr with rfl | hr
        · exact hax'
        · exact s2 r hr
      · have hta := s4 t ht a (by simp)
        rcases List.mem_cons.1 hr with rfl | hr
        · exact hta
        rcases List.mem_cons.1 hr with rfl | hr
        · omega
        · exact s4 t ht r (by simp [hr])
theorem srtG_snoc (o : List (List Int)) (x : List Int) : srtG (o ++ [x]) = bubG (srtG o ++ [x]) (srtG o).length := by
  unfold srtG; rw [List.foldl_append]; rfl
/-- What is so of the blocks of a channel among new ones. -/
def goodN (N : List (List Int)) : Prop := ∀ ch, Srt (srtG (chB ch N)) ∧ (srtG (chB ch N)).Perm (chB ch N) ∧ ∀ a ∈ chB ch N, ∀ b ∈ chB ch N, cnt a = cnt b → a = b
theorem goodN_step {N : List (List Int)} (x : List Int) (h : goodN N) : goodN (nxG N x) := by
  unfold nxG
  cases hk : kdG N x == 0 with
  | false => exact h
  | true =>
    rw [cond_true]
    intro ch
    rw [chB_snoc]
    cases hc : x.getD 1 0 == ch with
    | false => exact h ch
    | true =>
      rw [cond_true]
      have hc' := beq_iff_eq.1 hc
      subst hc'
      obtain ⟨h1, h2, h3⟩ := h (x.getD 1 0)
      have hne := chB_new (kd_none (beq_iff_eq.1 hk)).1
      rw [srtG_snoc]
      obtain ⟨b1, b2⟩ := bub_srt _ (srtG (chB (x.getD 1 0) N)) [] x rfl (by simpa using h1) (fun r hr => by simp at hr) (fun t ht => hne t (h2.mem_iff.1 ht))
      refine ⟨b1, b2.trans (h2.append_right [x]), fun a ha b hb e => ?_⟩
      rcases List.mem_append.1 ha with ha | ha <;> rcases List.mem_append.1 hb with hb | hb
      · exact h3 a ha b hb e
      · simp at hb; subst hb; exact absurd e (hne a ha)
      · simp at ha; subst ha; exact absurd e.symm (hne b hb)
      · simp at ha hb; rw [ha, hb]
theorem goodN_news : ∀ (N l : List (List Int)), goodN N → goodN (newsF N l)
  | _, [], h => h
  | N, x :: l, h => goodN_news _ l (goodN_step x h)
theorem good0 : goodN [] := fun ch => ⟨List.Pairwise.nil, List.Perm.refl _, fun a ha => by simp [chB] at ha⟩
theorem good_own (l : List (List Int)) (ch : Int) : Srt (srtG (ownB l ch)) ∧ (srtG (ownB l ch)).Perm (ownB l ch) ∧ ∀ a ∈ ownB l ch, ∀ b ∈ ownB l ch, cnt a = cnt b → a = b := goodN_news [] l good0 ch
theorem lkO_perm {X o : List (List Int)} (hp : X.Perm o) (hi : ∀ a ∈ o, ∀ b ∈ o, cnt a = cnt b → a = b) : lkO X = lkO o := by
  funext n
  unfold lkO
  congr 1
  cases h1 : X.find? (fun x => cnt x == n) with
  | none =>
    cases h2 : o.find? (fun x => cnt x == n) with
    | none => rfl
    | some y =>
      have := List.find?_eq_none.1 h1 y (hp.mem_iff.2 (List.mem_of_find?_eq_some h2))
      exact absurd (List.find?_some h2) this
  | some x =>
    have hx := List.find?_some h1
    have hxm := hp.mem_iff.1 (List.mem_of_find?_eq_some h1)
    cases h2 : o.find? (fun x => cnt x == n) with
    | none => exact absurd hx (List.find?_eq_none.1 h2 x hxm)
    | some y =>
      have hy := List.find?_some h2
      rw [hi x hxm y (List.mem_of_find?_eq_some h2) (by simp at hx hy; omega)]
theorem cntA_get {X : List (List Int)} {i : Nat} (h : i < X.length) : cntA X i = cnt X[i] := by
  unfold cntA
  rw [List.getD_eq_getElem?_getD, List.getElem?_eq_getElem h]; rfl
theorem srt_get {X : List (List Int)} (h : Srt X) : ∀ i j, i < j → j < X.length → cntA X i < cntA X j := by
  intro i j hij hj
  rw [cntA_get (by omega), cntA_get hj]
  exact List.pairwise_iff_getElem.1 h i j (by omega) hj hij
/-- The sorted new blocks of a channel. -/
theorem okX_own {l : List (List Int)} {ch : Int} (h1 : okBs l) (h : rcE l ch = 0) : okX (srtG (ownB l ch)) ∧ cntA (srtG (ownB l ch)) 0 = cmin (ownB l ch) ∧ lastA (srtG (ownB l ch)) = cmax (ownB l ch) ∧ lkO (srtG (ownB l ch)) = lkO (ownB l ch) := by
  obtain ⟨g1, g2, g3⟩ := good_own l ch
  obtain ⟨z1, z2, z3, z4, z5, z6⟩ := rcE_zero h1 h
  generalize hX : srtG (ownB l ch) = X at *
  have hlen : X.length = (ownB l ch).length := g2.length_eq
  have hpos : 1 ≤ X.length := by
    rw [hlen]
    cases ho : ownB l ch with
    | nil => exact absurd ho z4
    | cons _ _ => simp
  have hs := srt_get g1
  have hmem : ∀ i, i < X.length → ∃ x ∈ ownB l ch, cntA X i = cnt x := fun i hi => ⟨X[i], g2.mem_iff.1 (List.getElem_mem hi), cntA_get hi⟩
  have hfirst : cntA X 0 = cmin (ownB l ch) := by
    obtain ⟨x, hx, e⟩ := hmem 0 (by omega)
    have a := cmin_le hx
    obtain ⟨y, hy, e2⟩ := cmin_mem z4
    obtain ⟨k, hk, e3⟩ := List.getElem_of_mem (g2.mem_iff.2 hy)
    have : cntA X 0 ≤ cntA X k := by
      rcases Nat.eq_zero_or_pos k with rfl | hk0
      · exact Int.le_refl _
      · exact Int.le_of_lt (hs 0 k hk0 hk)
    rw [cntA_get hk, e3] at this
    omega
  have hlast : lastA X = cmax (ownB l ch) := by
    unfold lastA
    obtain ⟨x, hx, e⟩ := hmem (X.length - 1) (by omega)
    have a := le_cmax hx
    obtain ⟨y, hy, e2⟩ := cmax_mem z4
    obtain ⟨k, hk, e3⟩ := List.getElem_of_mem (g2.mem_iff.2 hy)
    have : cntA X k ≤ cntA X (X.length - 1) := by
      rcases Nat.lt_or_ge k (X.length - 1) with hk0 | hk0
      · exact Int.le_of_lt (hs k _ hk0 (by omega))
      · rw [show k = X.length - 1 by omega]; exact Int.le_refl _
    rw [cntA_get hk, e3] at this
    omega
  have hol : (ownB l ch).length ≤ 1000 := by
    have : ∀ N l : List (List Int), (newsF N l).length ≤ N.length + l.length := by
      intro N l
      induction l generalizing N with
      | nil => simp [newsF]
      | cons x l ih =>
        have h2 := ih (nxG N x)
        have h3 : (nxG N x).length ≤ N.length + 1 := by unfold nxG; cases kdG N x == 0 <;> simp
        simp only [newsF, List.length_cons]
        omega
    have h2 := this [] l
    have h3 := h1.1
    unfold ownB chB
    exact Nat.le_trans (List.length_filter_le _ _) (by simp at h2; omega)
  refine ⟨⟨List.all_eq_true.2 fun x hx => List.all_eq_true.1 h1.2 x (ownB_mem (g2.mem_iff.1 hx)).1, hs, fun i hi => ?_, hpos, by omega, ?_⟩, hfirst, hlast, lkO_perm g2 g3⟩
  · obtain ⟨x, hx, e⟩ := hmem i hi
    rw [e]
    exact con_cnt (List.all_eq_true.1 z2 x (ownB_mem hx).1)
  · have : cntA X (X.length - 1) = lastA X := rfl
    omega

theorem bubG_len : ∀ (k : Nat) (S : List (List Int)), (bubG S k).length = S.length
  | 0, _ => rfl
  | k + 1, S => by
    rw [bubG]
    cases decide (cnt (S.getD (k + 1) []) < cnt (S.getD k [])) with
    | true => rw [cond_true, bubG_len k]; simp [swpG]
    | false => rfl
theorem srtG_len (o : List (List Int)) : (srtG o).length = o.length := by
  have : ∀ (o S : List (List Int)), (o.foldl (fun S x => bubG (S ++ [x]) S.length) S).length = S.length + o.length := by
    intro o
    induction o with
    | nil => intro S; simp
    | cons x o ih => intro S; rw [List.foldl_cons, ih, bubG_len]; simp; omega
  simpa [srtG] using this o []
theorem eta_row {S : List (List Int)} {k : Nat} (h : S.all len11 = true) (hk : k < S.length) : [(S.getD k []).getD 0 0, (S.getD k []).getD 1 0, (S.getD k []).getD 2 0, (S.getD k []).getD 3 0, (S.getD k []).getD 4 0, (S.getD k []).getD 5 0, (S.getD k []).getD 6 0, (S.getD k []).getD 7 0, (S.getD k []).getD 8 0, (S.getD k []).getD 9 0, (S.getD k []).getD 10 0] = S.getD k [] := by
  obtain ⟨x, hx, _, hg, _⟩ := row11 hk h
  rw [hg]
  exact eta11 hx
theorem all_set11 {S : List (List Int)} {k : Nat} {x : List Int} (h : S.all len11 = true) (hx : len11 x = true) : (S.set k x).all len11 = true :=
  List.all_eq_true.2 fun y hy => (List.mem_or_eq_of_mem_set hy).elim (List.all_eq_true.1 h y) fun e => e ▸ hx
theorem loknw_1 : LoopOK EnwF1 (lb Try.f112 1) [6, 8] [] bubL := by
  refine loopOK (.cons okrkD .nil) (noInner (by kernel_rfl)) (fun vs σ => match vs, σ with
    | [.one (.own 0 11), .one (.int .i64 j)], [.row 37 (.mat .i64 11 _)] => j.toNat
    | _, _ => 0) fun vs σ k h => ?_
  unfold bubL at h
  split at h
  rotate_right
  · exact h.elim
  · rename_i j S
    rw [exnwl1a j S _]
    obtain ⟨⟨h1, h2, h3, h4⟩, h⟩ := h
    by_cases hj : 0 < j
    · have hw : IntKind.i64.wrap (j - 1) = j - 1 := wrap_id (by omega) (by omega)
      have hjl : j.toNat < S.length := by omega
      have hjl' : (j - 1).toNat < S.length := by omega
      rw [hw, eta_row h4 hjl, eta_row h4 hjl']
      have d1 : decide (j > 0) = true := decide_eq_true hj
      have d2 : decide (0 ≤ j) = true := decide_eq_true h1
      have d3 : decide (j < (S.length : Int)) = true := decide_eq_true h2
      have d4 : decide (j.toNat < S.length) = true := decide_eq_true hjl
      have d5 : decide (0 ≤ j - 1) = true := decide_eq_true (by omega)
      have d6 : decide (j - 1 < (S.length : Int)) = true := decide_eq_true (by omega)
      have d7 : decide ((j - 1).toNat < S.length) = true := decide_eq_true hjl'
      simp only [d1, d2, d3, d4, d5, d6, d7, List.length_set, show decide (0 < 11) = true by decide, show decide (10 < 11) = true by decide, Bool.and_self, cond_true]
      have e1 : j.toNat = (j - 1).toNat + 1 := by omega
      rw [e1, bubG] at h
      rw [e1]
      have hc : decide ((S.getD ((j - 1).toNat + 1) []).getD 0 0 < (S.getD (j - 1).toNat []).getD 0 0) = decide (cnt (S.getD ((j - 1).toNat + 1) []) < cnt (S.getD (j - 1).toNat [])) := rfl
      rw [hc]
      cases hd : decide (cnt (S.getD ((j - 1).toNat + 1) []) < cnt (S.getD (j - 1).toNat [])) with
      | false =>
        rw [hd, cond_false] at h
        exact h
      | true =>
        rw [hd, cond_true] at h
        rw [cond_true]
        have r1 : len11 (S.getD (j - 1).toNat []) = true := by obtain ⟨x, hx, _, hg, _⟩ := row11 hjl' h4; rw [hg]; simp [len11, hx]
        have r2 : len11 (S.getD ((j - 1).toNat + 1) []) = true := by obtain ⟨x, hx, _, hg, _⟩ := row11 hjl h4; rw [← e1, hg]; simp [len11, hx]
        exact ⟨⟨⟨by omega, by simp; omega, by simpa using h3, all_set11 (all_set11 h4 r1) r2⟩, h⟩, by omega⟩
    · have e : j = 0 := by omega
      subst e
      exact h
theorem ownB_step {l : List (List Int)} {ch : Int} {i : Nat} (hi : i < l.length) : ownB (l.take (i + 1)) ch = bif (kdsG [] l).getD i 0 == 0 && (l.getD i []).getD 1 0 == ch then ownB (l.take i) ch ++ [l.getD i []] else ownB (l.take i) ch := by
  unfold ownB
  rw [newsF_step _ _ _ hi, kdsG_get _ _ _ hi]
  unfold nxG
  cases kdG (newsF [] (l.take i)) (l.getD i []) == 0 with
  | false => rfl
  | true => rw [cond_true, chB_snoc, Bool.true_and]
theorem all_srt {o : List (List Int)} (h : o.all len11 = true) : (srtG o).all len11 = true := by
  have hb : ∀ (k : Nat) (S : List (List Int)), k < S.length → S.all len11 = true → (bubG S k).all len11 = true := by
    intro k
    induction k with
    | zero => intro S _ h; exact h
    | succ k ih =>
      intro S hk h
      rw [bubG]
      cases decide (cnt (S.getD (k + 1) []) < cnt (S.getD k [])) with
      | false => exact h
      | true =>
        rw [cond_true]
        have r1 : len11 (S.getD k []) = true := by obtain ⟨x, hx, _, hg, _⟩ := row11 (show k < S.length by omega) h; rw [hg]; simp [len11, hx]
        have r2 : len11 (S.getD (k + 1) []) = true := by obtain ⟨x, hx, _, hg, _⟩ := row11 hk h; rw [hg]; simp [len11, hx]
        exact ih _ (by simp [swpG]; omega) (all_set11 (all_set11 h r1) r2)
  have : ∀ (o S : List (List Int)), S.all len11 = true → o.all len11 = true → (o.foldl (fun S x => bubG (S ++ [x]) S.length) S).all len11 = true := by
    intro o
    induction o with
    | nil => intro S h _; exact h
    | cons x o ih =>
      intro S h1 h2
      rw [List.all_cons, Bool.and_eq_true] at h2
      rw [List.foldl_cons]
      exact ih _ (hb _ _ (by simp) (by rw [List.all_append, h1]; simp [h2.1])) h2.2
  exact this o [] rfl h
theorem loknw_0 : LoopOK EnwF0 (lb Try.f112 0) [0, 1, 5, 6, 7] [6] nwL := by
  refine loopOK (.cons okrkD .nil) (fun b' hb => by
    have hl : loopsOf (lb Try.f112 0) = [lb Try.f112 1] := by kernel_rfl
    rw [hl] at hb
    simp only [List.mem_cons, List.not_mem_nil, or_false] at hb
    subst hb
    exact loopHyp_frm (E' := EnwF1) (key := 9) (m := 1) (by kernel_rfl) rfl rfl loknw_1) (fun vs σ => match vs, σ with
    | [.one (.data (.mat .i64 11 l)), .one (.int .i64 _), .one (.data (.ints .i64 _)), .one .nil, .one (.int .i64 i)], [] => (l.length - i).toNat
    | [.one (.data (.mat .i64 11 l)), .one (.int .i64 _), .one (.data (.ints .i64 _)), .one (.own 0 11), .one (.int .i64 i)], [.row 37 (.mat .i64 11 _)] => (l.length - i).toNat
    | _, _ => 0) fun vs σ k h => ?_
  unfold nwL at h
  split at h
  rotate_right
  · exact h.elim
  · rename_i l ch kd i
    rw [exnwl0a l ch kd i _]
    obtain ⟨⟨⟨h1, h2⟩, rfl, h3, h4, h5⟩, h⟩ := h
    by_cases hi : i < (l.length : Int)
    · have hil : i.toNat < l.length := by omega
      have hw : IntKind.i64.wrap (i + 1) = i + 1 := wrap_id (by omega) (by omega)
      rw [hw, eta_row h2 hil]
      have d1 : decide (i < (l.length : Int)) = true := decide_eq_true hi
      have d2 : decide (0 ≤ i) = true := decide_eq_true h3
      have d3 : decide (i < ((kdsG [] l).length : Int)) = true := by rw [kdsG_length]; exact d1
      have d4 : decide (i.toNat < (kdsG [] l).length) = true := by rw [kdsG_length]; exact decide_eq_true hil
      have d5 : decide (i.toNat < l.length) = true := decide_eq_true hil
      have hmu : ((l.length : Int) - (i + 1)).toNat < ((l.length : Int) - i).toNat := by omega
      have e1 : (i + 1).toNat = i.toNat + 1 := by omega
      have hst := ownB_step (ch := ch) hil
      simp only [d1, d2, d3, d4, d5, Nat.add_zero, show decide (1 < 11) = true by decide, show decide (10 < 11) = true by decide, Bool.and_self, cond_true]
      have q1 : ((kdsG [] l).getD i.toNat 0 != 0) = !((kdsG [] l).getD i.toNat 0 == 0) := rfl
      have q2 : ((l.getD i.toNat []).getD 1 0 != ch) = !((l.getD i.toNat []).getD 1 0 == ch) := rfl
      rw [q1, q2]
      cases c1 : (kdsG [] l).getD i.toNat 0 == 0 with
      | false =>
        rw [c1, Bool.false_and, cond_false] at hst
        exact ⟨⟨⟨⟨h1, h2⟩, rfl, by omega, by omega, by rw [e1, hst]; exact h5⟩, h⟩, hmu⟩
      | true =>
        rw [c1, Bool.true_and] at hst
        rw [Bool.not_true, cond_false]
        cases c2 : (l.getD i.toNat []).getD 1 0 == ch with
        | false =>
          rw [c2, cond_false] at hst
          exact ⟨⟨⟨⟨h1, h2⟩, rfl, by omega, by omega, by rw [e1, hst]; exact h5⟩, h⟩, hmu⟩
        | true =>
          rw [c2, cond_true, h5] at hst
          rw [Bool.not_true, cond_false]
          have hx : len11 (l.getD i.toNat []) = true := by obtain ⟨x, hx, _, hg, _⟩ := row11 hil h2; rw [hg]; simp [len11, hx]
          have hw1 : IntKind.i64.wrap ((([l.getD i.toNat []] : List (List Int)).length : Int) - 1) = 0 := by simp; decide
          rw [hw1]
          refine ⟨⟨by decide, by simp, by simp, by rw [List.all_cons, hx]; rfl⟩, ⟨⟨⟨h1, h2⟩, rfl, by omega, by omega, by rw [e1, hst]; rfl, by rw [e1, hst]; simp⟩, ?_⟩, hmu⟩
          have hne : (ownB l ch).isEmpty = false := by
            cases ho : ownB l ch with
            | cons _ _ => rfl
            | nil =>
              exfalso
              have : l.getD i.toNat [] ∈ ownB (l.take (i.toNat + 1)) ch := by rw [hst]; simp
              have key : ∀ n, i.toNat + 1 + n ≤ l.length → l.getD i.toNat [] ∈ ownB (l.take (i.toNat + 1 + n)) ch := by
                intro n
                induction n with
                | zero => intro _; exact this
                | succ n ih =>
                  intro hn
                  have := ih (by omega)
                  rw [show i.toNat + 1 + (n + 1) = (i.toNat + 1 + n) + 1 by omega, ownB_step (by omega)]
                  cases (kdsG [] l).getD (i.toNat + 1 + n) 0 == 0 && (l.getD (i.toNat + 1 + n) []).getD 1 0 == ch with
                  | false => exact this
                  | true => exact List.mem_append_left _ this
              have h8 := key (l.length - (i.toNat + 1)) (by omega)
              rw [show i.toNat + 1 + (l.length - (i.toNat + 1)) = l.length by omega, List.take_length, ho] at h8
              simp at h8
          rw [hne, cond_false] at h
          exact h
    · rw [decide_eq_false hi, cond_false]
      have : i.toNat = l.length := by omega
      rw [this, List.take_length] at h5
      rw [h5] at h
      exact h
  · rename_i l ch kd i S
    rw [exnwl0b l ch kd i S _]
    obtain ⟨⟨⟨h1, h2⟩, rfl, h3, h4, rfl, h5⟩, h⟩ := h
    by_cases hi : i < (l.length : Int)
    · have hil : i.toNat < l.length := by omega
      have hw : IntKind.i64.wrap (i + 1) = i + 1 := wrap_id (by omega) (by omega)
      rw [hw, eta_row h2 hil]
      have d1 : decide (i < (l.length : Int)) = true := decide_eq_true hi
      have d2 : decide (0 ≤ i) = true := decide_eq_true h3
      have d3 : decide (i < ((kdsG [] l).length : Int)) = true := by rw [kdsG_length]; exact d1
      have d4 : decide (i.toNat < (kdsG [] l).length) = true := by rw [kdsG_length]; exact decide_eq_true hil
      have d5 : decide (i.toNat < l.length) = true := decide_eq_true hil
      have hmu : ((l.length : Int) - (i + 1)).toNat < ((l.length : Int) - i).toNat := by omega
      have e1 : (i + 1).toNat = i.toNat + 1 := by omega
      have hst := ownB_step (ch := ch) hil
      have hall : (ownB (l.take i.toNat) ch).all len11 = true := List.all_eq_true.2 fun x hx => List.all_eq_true.1 h2 x (List.mem_of_mem_take (ownB_mem hx).1)
      have hlen : (ownB (l.take i.toNat) ch).length ≤ i.toNat := by
        have : ∀ N l : List (List Int), (newsF N l).length ≤ N.length + l.length := by
          intro N l
          induction l generalizing N with
          | nil => simp [newsF]
          | cons x l ih =>
            have h2 := ih (nxG N x)
            have h3 : (nxG N x).length ≤ N.length + 1 := by unfold nxG; cases kdG N x == 0 <;> simp
            simp only [newsF, List.length_cons]
            omega
        have h6 := this [] (l.take i.toNat)
        unfold ownB chB
        refine Nat.le_trans (List.length_filter_le _ _) ?_
        simp at h6
        omega
      simp only [d1, d2, d3, d4, d5, Nat.add_zero, show decide (1 < 11) = true by decide, show decide (10 < 11) = true by decide, Bool.and_self, cond_true]
      have q1 : ((kdsG [] l).getD i.toNat 0 != 0) = !((kdsG [] l).getD i.toNat 0 == 0) := rfl
      have q2 : ((l.getD i.toNat []).getD 1 0 != ch) = !((l.getD i.toNat []).getD 1 0 == ch) := rfl
      rw [q1, q2]
      cases c1 : (kdsG [] l).getD i.toNat 0 == 0 with
      | false =>
        rw [c1, Bool.false_and, cond_false] at hst
        exact ⟨⟨⟨⟨h1, h2⟩, rfl, by omega, by omega, by rw [e1, hst], by rw [e1, hst]; exact h5⟩, h⟩, hmu⟩
      | true =>
        rw [c1, Bool.true_and] at hst
        rw [Bool.not_true, cond_false]
        cases c2 : (l.getD i.toNat []).getD 1 0 == ch with
        | false =>
          rw [c2, cond_false] at hst
          exact ⟨⟨⟨⟨h1, h2⟩, rfl, by omega, by omega, by rw [e1, hst], by rw [e1, hst]; exact h5⟩, h⟩, hmu⟩
        | true =>
          rw [c2, cond_true] at hst
          rw [Bool.not_true, cond_false]
          have hx : len11 (l.getD i.toNat []) = true := by obtain ⟨x, hx, _, hg, _⟩ := row11 hil h2; rw [hg]; simp [len11, hx]
          have hsl : (srtG (ownB (l.take i.toNat) ch) ++ [l.getD i.toNat []]).length = (srtG (ownB (l.take i.toNat) ch)).length + 1 := by simp
          have hsl2 := srtG_len (ownB (l.take i.toNat) ch)
          have hw1 : IntKind.i64.wrap ((((srtG (ownB (l.take i.toNat) ch)).length + 1 : Nat) : Int) - 1) = (srtG (ownB (l.take i.toNat) ch)).length := by
            have := h1
            rw [wrap_id (by omega) (by omega)]; omega
          rw [hsl, hw1]
          have := h1
          rw [decide_eq_true (by omega), cond_true]
          refine ⟨⟨by omega, by omega, by omega, by rw [List.all_append, all_srt hall, List.all_cons, hx]; rfl⟩, ⟨⟨⟨h1, h2⟩, rfl, by omega, by omega, ?_, by rw [e1, hst]; simp⟩, h⟩, hmu⟩
          rw [e1, hst, srtG_snoc, Int.toNat_natCast]
    · rw [decide_eq_false hi, cond_false]
      have : i.toNat = l.length := by omega
      rw [this, List.take_length]
      exact h
theorem oknw : SpecOK Try.prog 112 nwS := by
  refine specOK (n := 76) (m := 0) (lps := [(4, .frm 0 [0, 1, 5, 6, 7] [6] nwL), (9, .frm 1 [6, 8] [] bubL)]) (.cons okrkD .nil) Try.func112 (by kernel_rfl) (by kernel_rfl) (theLoops (n := 2) (by kernel_rfl) fun i hi => ?_) fun args σ K h => ?_
  · match i, hi with
    | 0, _ => exact loopHyp_frm (E' := EnwF0) (key := 4) (m := 0) (by kernel_rfl) rfl rfl loknw_0
    | 1, _ => exact loopHyp_frm (E' := EnwF1) (key := 9) (m := 1) (by kernel_rfl) rfl rfl loknw_1
  unfold nwS at h
  split at h
  rotate_right
  · exact h.elim
  rename_i l ch
  rw [exnw l ch K]
  exact ⟨h.1, ⟨h.1.1, rfl, by decide, by omega, rfl⟩, h.2⟩
theorem oknwD : SpecOK Try.prog 112 nwDS := by
  refine oknw.froze fun args σ K h => ?_
  unfold nwDS at h
  split at h
  rotate_right
  · exact h.elim
  rename_i l ch
  refine ⟨rfl, h.1, ?_⟩
  have h2 := h.2
  cases ho : ownB l ch with
  | nil =>
    rw [ho] at h2
    exact ⟨.one (.data (.mat .i64 11 [])), .inr ⟨.mat .i64 11 [], rfl, rfl⟩, h2⟩
  | cons x o =>
    rw [ho] at h2
    exact ⟨.one (.data (.mat .i64 11 (srtG (x :: o)))), ⟨_, _, rfl, rfl, rfl⟩, h2⟩
theorem okse : SpecOK Try.prog 59 seS := by
  refine specOK (n := 38) (m := 0) (lps := []) (.cons okrbs (.cons ok80 (.cons oknwD .nil))) Try.func59 (by kernel_rfl) (by kernel_rfl) (noLoops (by kernel_rfl)) fun args σ K h => ?_
  unfold seS at h
  split at h
  rotate_right
  · exact h.elim
  rename_i l ch
  rw [exse l ch K]
  obtain ⟨h1, h⟩ := h
  refine And.intro h1 ?_
  have hb : (bsE l != 0) = !(bsE l == 0) := rfl
  rw [hb]
  cases h0 : bsE l == 0 with
  | false =>
    rw [Bool.not_false, cond_true]
    unfold rcE at h
    rw [h0, cond_false] at h
    exact h
  | true =>
    rw [Bool.not_true, cond_false]
    have hall : l.all conB = true := by
      have := beq_iff_eq.1 h0
      unfold bsE at this
      cases hd : decide ((l.length : Int) ≤ 40) with
      | true =>
        rw [hd, cond_true] at this
        cases ha : l.all conB with
        | true => rfl
        | false => rw [ha] at this; cases this
      | false => rw [hd] at this; cases this
    cases hw : withinG ch 0 3 with
    | false =>
      unfold rcE at h
      rw [h0, hw] at h
      exact h
    | true =>
      refine And.intro ⟨h1, hall⟩ ?_
      cases hr : rcE l ch == 0 with
      | true =>
        obtain ⟨o1, o2, o3, o4⟩ := okX_own h1 (beq_iff_eq.1 hr)
        rw [beq_iff_eq.1 hr] at h
        generalize hX : srtG (ownB l ch) = X at *
        obtain ⟨p1, p2, p3, p4, p5, p6⟩ := o1
        have e0 : ((X.length : Int) == 0) = false := by rw [beq_eq_false_iff_ne]; omega
        have hw1 : IntKind.i64.wrap ((X.length : Int) - 1) = ((X.length - 1 : Nat) : Int) := by rw [wrap_id (by omega) (by omega)]; omega
        have b0 := p3 0 (by omega)
        have b1 := p3 (X.length - 1) (by omega)
        have ec1 : (X.getD (X.length - 1) []).getD 0 0 = cntA X (X.length - 1) := rfl
        have ec0 : (X.getD 0 []).getD 0 0 = cntA X 0 := rfl
        rw [e0, cond_false, hw1, Int.toNat_natCast, ec0, ec1]
        have d1 : decide (0 ≤ ((X.length - 1 : Nat) : Int)) = true := decide_eq_true (by omega)
        have d2 : decide (((X.length - 1 : Nat) : Int) < (X.length : Int)) = true := decide_eq_true (by omega)
        have d3 : decide (X.length - 1 < X.length) = true := decide_eq_true (by omega)
        have d4 : decide ((0 : Int) < (X.length : Int)) = true := decide_eq_true (by omega)
        have d5 : decide (0 < X.length) = true := decide_eq_true (by omega)
        have hw2 : IntKind.i64.wrap (cntA X (X.length - 1) - cntA X 0) = cntA X (X.length - 1) - cntA X 0 := wrap_id (by omega) (by omega)
        have hw3 : IntKind.i64.wrap (cntA X (X.length - 1) - cntA X 0 + 1) = cntA X (X.length - 1) - cntA X 0 + 1 := wrap_id (by omega) (by omega)
        rw [hw2, hw3]
        have d6 : decide (cntA X (X.length - 1) - cntA X 0 + 1 > 60) = false := decide_eq_false (by omega)
        simp only [d1, d2, d3, d4, d5, d6, show decide ((0 : Int) ≤ 0) = true by decide, show decide (0 < 11) = true by decide, Bool.and_self, cond_true, cond_false]
        exact h
      | false =>
        unfold rcE at h hr
        rw [h0, hw, cond_true, cond_true] at h hr
        unfold spanE at h hr
        cases ho : ownB l ch with
        | nil =>
          rw [ho] at h
          exact h
        | cons x o =>
          have hne : ownB l ch ≠ [] := by rw [ho]; simp
          rw [show (ownB l ch).isEmpty = false by rw [ho]; rfl, cond_false] at h hr
          cases hd : decide (cmax (ownB l ch) - cmin (ownB l ch) < 60) with
          | true => rw [hd] at hr; cases hr
          | false =>
            rw [hd, cond_false] at h
            have hd' := of_decide_eq_false hd
            obtain ⟨g1, g2, g3⟩ := good_own l ch
            rw [← ho]
            obtain ⟨y1, hy1, ey1⟩ := cmin_mem hne
            obtain ⟨y2, hy2, ey2⟩ := cmax_mem hne
            have hs := srt_get g1
            have hmem : ∀ i, i < (srtG (ownB l ch)).length → ∃ x ∈ ownB l ch, cntA (srtG (ownB l ch)) i = cnt x := fun i hi => ⟨(srtG (ownB l ch))[i], g2.mem_iff.1 (List.getElem_mem hi), cntA_get hi⟩
            obtain ⟨k1, hk1, e1⟩ := List.getElem_of_mem (g2.mem_iff.2 hy1)
            obtain ⟨k2, hk2, e2⟩ := List.getElem_of_mem (g2.mem_iff.2 hy2)
            have c1 := cntA_get hk1
            have c2 := cntA_get hk2
            rw [e1] at c1
            rw [e2] at c2
            generalize hX : srtG (ownB l ch) = X at *
            have hlo : cntA X 0 ≤ cntA X k1 := by
              rcases Nat.eq_zero_or_pos k1 with rfl | hk0
              · exact Int.le_refl _
              · exact Int.le_of_lt (hs 0 k1 hk0 hk1)
            have hhi : cntA X k2 ≤ cntA X (X.length - 1) := by
              rcases Nat.lt_or_ge k2 (X.length - 1) with hk0 | hk0
              · exact Int.le_of_lt (hs k2 _ hk0 (by omega))
              · rw [show k2 = X.length - 1 by omega]; exact Int.le_refl _
            have hb : ∀ i, i < X.length → 0 ≤ cntA X i ∧ cntA X i ≤ 65535 := fun i hi => by
              obtain ⟨x, hx, e⟩ := hmem i hi
              rw [e]
              exact con_cnt (List.all_eq_true.1 hall x (ownB_mem hx).1)
            have b0 := hb 0 (by omega)
            have b1 := hb (X.length - 1) (by omega)
            have e0 : ((X.length : Int) == 0) = false := by rw [beq_eq_false_iff_ne]; omega
            have hXl : X.length ≤ 1000 := by
              rw [g2.length_eq]
              have : ∀ N l : List (List Int), (newsF N l).length ≤ N.length + l.length := by
                intro N l
                induction l generalizing N with
                | nil => simp [newsF]
                | cons x l ih =>
                  have h2 := ih (nxG N x)
                  have h3 : (nxG N x).length ≤ N.length + 1 := by unfold nxG; cases kdG N x == 0 <;> simp
                  simp only [newsF, List.length_cons]
                  omega
              have h2 := this [] l
              have h3 := h1.1
              unfold ownB chB
              exact Nat.le_trans (List.length_filter_le _ _) (by simp at h2; omega)
            have hw1 : IntKind.i64.wrap ((X.length : Int) - 1) = ((X.length - 1 : Nat) : Int) := by rw [wrap_id (by omega) (by omega)]; omega
            have ec1 : (X.getD (X.length - 1) []).getD 0 0 = cntA X (X.length - 1) := rfl
            have ec0 : (X.getD 0 []).getD 0 0 = cntA X 0 := rfl
            rw [e0, cond_false, hw1, Int.toNat_natCast, ec0, ec1]
            have d1 : decide (0 ≤ ((X.length - 1 : Nat) : Int)) = true := decide_eq_true (by omega)
            have d2 : decide (((X.length - 1 : Nat) : Int) < (X.length : Int)) = true := decide_eq_true (by omega)
            have d3 : decide (X.length - 1 < X.length) = true := decide_eq_true (by omega)
            have d4 : decide ((0 : Int) < (X.length : Int)) = true := decide_eq_true (by omega)
            have d5 : decide (0 < X.length) = true := decide_eq_true (by omega)
            have hw2 : IntKind.i64.wrap (cntA X (X.length - 1) - cntA X 0) = cntA X (X.length - 1) - cntA X 0 := wrap_id (by omega) (by omega)
            have hw3 : IntKind.i64.wrap (cntA X (X.length - 1) - cntA X 0 + 1) = cntA X (X.length - 1) - cntA X 0 + 1 := wrap_id (by omega) (by omega)
            rw [hw2, hw3]
            have d6 : decide (cntA X (X.length - 1) - cntA X 0 + 1 > 60) = true := decide_eq_true (by omega)
            simp only [d1, d2, d3, d4, d5, d6, show decide ((0 : Int) ≤ 0) = true by decide, show decide (0 < 11) = true by decide, Bool.and_self, cond_true, cond_false]
            exact h
theorem lk_at {X : List (List Int)} {j n : Int} (h : okSr X j n) (hn : n ≤ lastA X) : j.toNat < X.length ∧ lkO X n = (bif cntA X j.toNat == n then some (samX (X.getD j.toNat [])) else none) := by
  obtain ⟨⟨h1, h2, h3, h4, h5, h6⟩, h7, h8, h9, h10, h11, h12⟩ := h
  have hj : j.toNat < X.length := by
    rcases Nat.lt_or_ge j.toNat X.length with hlt | hge
    · exact hlt
    · have := h9 (X.length - 1) (by omega)
      unfold lastA at hn
      omega
  refine ⟨hj, ?_⟩
  unfold lkO
  cases hc : cntA X j.toNat == n with
  | true =>
    rw [cond_true]
    have hc' := beq_iff_eq.1 hc
    have : X.find? (fun x => cnt x == n) = some (X.getD j.toNat []) := by
      rw [List.find?_eq_some_iff_getElem]
      refine ⟨by show (cntA X j.toNat == n) = true; exact hc, j.toNat, hj, ?_, fun k hk => ?_⟩
      · rw [List.getD_eq_getElem?_getD, List.getElem?_eq_getElem hj]; rfl
      · have := h9 k hk
        rw [cntA_get (by omega)] at this
        simp only [Bool.not_eq_true', beq_eq_false_iff_ne]
        omega
    rw [this]; rfl
  | false =>
    rw [cond_false]
    have hc' := beq_eq_false_iff_ne.1 hc
    have : X.find? (fun x => cnt x == n) = none := by
      rw [List.find?_eq_none]
      intro x hx
      obtain ⟨k, hk, rfl⟩ := List.getElem_of_mem hx
      rw [← cntA_get hk]
      simp only [beq_iff_eq]
      intro e
      rcases Nat.lt_trichotomy k j.toNat with hlt | heq | hgt
      · have := h9 k hlt; omega
      · subst heq; exact hc' e
      · have := h2 j.toNat k hgt hk
        have := h10 j.toNat (Nat.le_refl _) hj
        omega
    rw [this]; rfl
theorem sam_drop {x : List Int} (h : x.length = 11) : (x.drop 2).take 8 = samX x := by
  match x, h with
  | [_, _, _, _, _, _, _, _, _, _, _], _ => rfl
theorem okSr_next {X : List (List Int)} {j n : Int} (h : okSr X j n) (hn : n ≤ lastA X) : okSr X (bif cntA X j.toNat == n then j + 1 else j) (n + 1) ∧ cntA X 0 < n + 1 := by
  obtain ⟨hj, _⟩ := lk_at h hn
  obtain ⟨⟨h1, h2, h3, h4, h5, h6⟩, h7, h8, h9, h10, h11, h12⟩ := h
  unfold lastA at hn
  refine ⟨⟨⟨h1, h2, h3, h4, h5, h6⟩, ?_⟩, by omega⟩
  cases hc : cntA X j.toNat == n with
  | true =>
    have hc' := beq_iff_eq.1 hc
    rw [cond_true]
    refine ⟨by omega, by omega, fun i hi => ?_, fun i hi hl => ?_, by omega, by omega⟩
    · rcases Nat.lt_or_ge i j.toNat with hlt | hge
      · have := h9 i hlt; omega
      · rw [show i = j.toNat by omega]; omega
    · have := h2 j.toNat i (by omega) hl
      omega
  | false =>
    have hc' := beq_eq_false_iff_ne.1 hc
    rw [cond_false]
    refine ⟨by omega, by omega, fun i hi => ?_, fun i hi hl => ?_, by omega, by omega⟩
    · have := h9 i hi; omega
    · have h := h10 j.toNat (Nat.le_refl _) hj
      rcases Nat.lt_or_ge j.toNat i with hlt | hge
      · have := h2 j.toNat i hlt hl; omega
      · rw [show i = j.toNat by omega]; omega
theorem putR_one {a : Int} {S : List Int} (h : 1 ≤ S.length) (k : List SV → List Blk → Prop) : putR a (S, []) k = k [.int .i64 a, .own 1 1, .nil] [.row 3 (.ints .i64 S)] := by
  cases S with
  | nil => simp at h
  | cons x S => rfl
theorem putR_two {a : Int} {S : List Int} {G : List (List Int)} (h : 1 ≤ S.length) (hG : 1 ≤ G.length) (k : List SV → List Blk → Prop) : putR a (S, G) k = k [.int .i64 a, .own 1 1, .own 2 2] [.row 3 (.ints .i64 S), .row 99 (.mat .i64 2 G)] := by
  cases S with
  | nil => simp at h
  | cons x S =>
    cases G with
    | nil => simp at hG
    | cons g G => rfl
end Go.Ev
