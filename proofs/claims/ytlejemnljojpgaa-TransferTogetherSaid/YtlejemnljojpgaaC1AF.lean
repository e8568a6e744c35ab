/-
  Chapter 1: the law that blocks are put together: its third stage.
-/
import Derived.Test.YtlejemnljojpgaaC1AD
import Derived.KernelRfl
set_option linter.unusedVariables false
set_option linter.unusedSimpArgs false
set_option linter.unusedSectionVars false
namespace Go.Ev
open Go Go.Proofs
set_option maxRecDepth 20000
set_option linter.unusedVariables false

end Go.Ev

namespace Go.Ev
open Go Go.Proofs
set_option maxRecDepth 100000
theorem extogC2 (o P S M : List Int) (n ch c f : Int) (A G : List (List Int)) (a13 a14 a15 a16 a95 a96 a97 a98 a99 a100 a101 a102 a103 a104 a105 a106 a107 a108 a109 a110 a111 a112 a113 a114 a115 a116 a117 a118 a119 a120 a121 a122 a123 a124 a125 a126 a127 a128 a129 a130 a131 a132 a133 a134 a135 a136 a137 a138 a139 a140 a141 a142 a143 : AV) (K : AV → List Blk → Prop) : evRest Etog Try.f12 21 { t := ([AV.any, AV.any, AV.one (SV.data (Row.ints IntKind.i64 o)), AV.any, AV.one (SV.ptr (0 : Nat) (1 : Nat) (0 : Nat) (0 : Nat)), AV.any, AV.any, AV.any, AV.any, AV.one (SV.int IntKind.i64 n), AV.one (SV.own (1 : Nat) (11 : Nat)), AV.any, AV.one (SV.own (2 : Nat) (1 : Nat)), a13, a14, a15, a16, AV.any, AV.any, AV.any, AV.any, AV.any, AV.any, AV.any, AV.any, AV.any, AV.any, AV.any, AV.any, AV.any, AV.any, AV.any, AV.any, AV.any, AV.any, AV.any, AV.any, AV.any, AV.any, AV.any, AV.any, AV.any, AV.any, AV.any, AV.any, AV.any, AV.any, AV.any, AV.any, AV.any, AV.any, AV.any, AV.any, AV.any, AV.any, AV.any, AV.any, AV.any, AV.any, AV.any, AV.any, AV.any, AV.any, AV.any, AV.any, AV.any, AV.any, AV.any, AV.any, AV.any, AV.any, AV.any, AV.any, AV.any, AV.any, AV.any, AV.any, AV.any, AV.any, AV.any, AV.any, AV.any, AV.any, AV.any, AV.any, AV.any, AV.any, AV.any, AV.any, AV.any, AV.any, AV.any, AV.any, AV.any, AV.any, a95, a96, a97, a98, a99, a100, a101, a102, a103, a104, a105, a106, a107, a108, a109, a110, a111, a112, a113, a114, a115, a116, a117, a118, a119, a120, a121, a122, a123, a124, a125, a126, a127, a128, a129, a130, a131, a132, a133, a134, a135, a136, a137, a138, a139, a140, a141, a142, a143] ++ List.replicate 83 .any), σ := [Blk.cells [SV.int IntKind.i64 ch, SV.int IntKind.i64 c], Blk.row (37 : TypeId) (Row.mat IntKind.i64 (11 : Nat) A), Blk.row (3 : TypeId) (Row.ints IntKind.i64 P), Blk.cells [SV.int IntKind.i64 f, SV.data (Row.ints IntKind.i64 S), SV.data (Row.mat IntKind.i64 (2 : Nat) G)], Blk.dead, Blk.dead] } K = (
 IntKind.i64.wrap (n - (2 : Int)) ≠ (0 : Int) ∧
 (A.length ≤ (40 : Nat) ∧
 A.all len11 = true ∧
 (0 : Int) ≤ (0 : Int) ∧
 (0 : Int) ≤ (↑A.length : Int) ∧
 (0 : Int) ≤ c ∧
 c ≤ (65535 : Int) ∧
 (0 : Int) ≤ IntKind.i64.wrap ((1 : Int) + modB (↑o.length : Int) (IntKind.i64.wrap (n - (2 : Int)))) ∧
 IntKind.i64.wrap ((1 : Int) + modB (↑o.length : Int) (IntKind.i64.wrap (n - (2 : Int)))) ≤
 (13 : Int)) ∧
 bif
 (restR A
 (c + IntKind.i64.wrap ((1 : Int) + modB (↑o.length : Int) (IntKind.i64.wrap (n - (2 : Int)))))).isEmpty then
 okBs [] ∧
 bif rcE [] ch != (0 : Int) then K (AV.one (SV.bool false)) []
 else
 bif (↑(stS [] ch).length : Int) != IntKind.i64.wrap ((8 : Int) * n) then K (AV.one (SV.bool false)) []
 else
 ((stP [] ch).length ≤ (1000000000 : Nat) ∧
 (stP [] ch).all len2 = true ∧
 [[IntKind.i64.wrap
 ((8 : Int) *
 IntKind.i64.wrap
 ((1 : Int) + modB (↑o.length : Int) (IntKind.i64.wrap (n - (2 : Int))))),
 IntKind.i64.wrap
 (IntKind.i64.wrap
 ((8 : Int) *
 IntKind.i64.wrap
 ((1 : Int) + modB (↑o.length : Int) (IntKind.i64.wrap (n - (2 : Int))))) +
 (7 : Int))]].all
 len2 =
 true) ∧
 bif
 !stP [] ch ==
 [[IntKind.i64.wrap
 ((8 : Int) *
 IntKind.i64.wrap ((1 : Int) + modB (↑o.length : Int) (IntKind.i64.wrap (n - (2 : Int))))),
 IntKind.i64.wrap
 (IntKind.i64.wrap
 ((8 : Int) *
 IntKind.i64.wrap
 ((1 : Int) + modB (↑o.length : Int) (IntKind.i64.wrap (n - (2 : Int))))) +
 (7 : Int))]] then
 K (AV.one (SV.bool false)) []
 else
 ((0 : Int) ≤ n ∧
 n ≤ (13 : Int) ∧
 (0 : Int) ≤
 IntKind.i64.wrap ((1 : Int) + modB (↑o.length : Int) (IntKind.i64.wrap (n - (2 : Int)))) ∧
 IntKind.i64.wrap ((1 : Int) + modB (↑o.length : Int) (IntKind.i64.wrap (n - (2 : Int)))) ≤
 (13 : Int) ∧
 (0 : Int) ≤ (0 : Int) ∧
 (0 : Int) ≤ (8 : Int) * n ∧
 P.length = (8 : Nat) * n.toNat ∧
 (stS [] ch).length = (8 : Nat) * n.toNat ∧
 ∀ (j : Nat),
 j < (8 : Nat) * n.toNat →
 chkT (stS [] ch) P
 (IntKind.i64.wrap
 ((1 : Int) + modB (↑o.length : Int) (IntKind.i64.wrap (n - (2 : Int)))))
 j =
 true) ∧
 K (AV.one (SV.bool true)) []
 else
 okBs (restR A (c + IntKind.i64.wrap ((1 : Int) + modB (↑o.length : Int) (IntKind.i64.wrap (n - (2 : Int)))))) ∧
 bif
 rcE (restR A (c + IntKind.i64.wrap ((1 : Int) + modB (↑o.length : Int) (IntKind.i64.wrap (n - (2 : Int))))))
 ch !=
 (0 : Int) then
 K (AV.one (SV.bool false)) []
 else
 bif
 (↑(stS
 (restR A
 (c +
 IntKind.i64.wrap ((1 : Int) + modB (↑o.length : Int) (IntKind.i64.wrap (n - (2 : Int))))))
 ch).length :
 Int) !=
 IntKind.i64.wrap ((8 : Int) * n) then
 K (AV.one (SV.bool false)) []
 else
 ((stP
 (restR A
 (c + IntKind.i64.wrap ((1 : Int) + modB (↑o.length : Int) (IntKind.i64.wrap (n - (2 : Int))))))
 ch).length ≤
 (1000000000 : Nat) ∧
 (stP
 (restR A
 (c +
 IntKind.i64.wrap ((1 : Int) + modB (↑o.length : Int) (IntKind.i64.wrap (n - (2 : Int))))))
 ch).all
 len2 =
 true ∧
 [[IntKind.i64.wrap
 ((8 : Int) *
 IntKind.i64.wrap
 ((1 : Int) + modB (↑o.length : Int) (IntKind.i64.wrap (n - (2 : Int))))),
 IntKind.i64.wrap
 (IntKind.i64.wrap
 ((8 : Int) *
 IntKind.i64.wrap
 ((1 : Int) + modB (↑o.length : Int) (IntKind.i64.wrap (n - (2 : Int))))) +
 (7 : Int))]].all
 len2 =
 true) ∧
 bif
 !stP
 (restR A
 (c +
 IntKind.i64.wrap ((1 : Int) + modB (↑o.length : Int) (IntKind.i64.wrap (n - (2 : Int))))))
 ch ==
 [[IntKind.i64.wrap
 ((8 : Int) *
 IntKind.i64.wrap ((1 : Int) + modB (↑o.length : Int) (IntKind.i64.wrap (n - (2 : Int))))),
 IntKind.i64.wrap
 (IntKind.i64.wrap
 ((8 : Int) *
 IntKind.i64.wrap
 ((1 : Int) + modB (↑o.length : Int) (IntKind.i64.wrap (n - (2 : Int))))) +
 (7 : Int))]] then
 K (AV.one (SV.bool false)) []
 else
 ((0 : Int) ≤ n ∧
 n ≤ (13 : Int) ∧
 (0 : Int) ≤
 IntKind.i64.wrap ((1 : Int) + modB (↑o.length : Int) (IntKind.i64.wrap (n - (2 : Int)))) ∧
 IntKind.i64.wrap ((1 : Int) + modB (↑o.length : Int) (IntKind.i64.wrap (n - (2 : Int)))) ≤
 (13 : Int) ∧
 (0 : Int) ≤ (0 : Int) ∧
 (0 : Int) ≤ (8 : Int) * n ∧
 P.length = (8 : Nat) * n.toNat ∧
 (stS
 (restR A
 (c +
 IntKind.i64.wrap
 ((1 : Int) + modB (↑o.length : Int) (IntKind.i64.wrap (n - (2 : Int))))))
 ch).length =
 (8 : Nat) * n.toNat ∧
 ∀ (j : Nat),
 j < (8 : Nat) * n.toNat →
 chkT
 (stS
 (restR A
 (c +
 IntKind.i64.wrap
 ((1 : Int) +
 modB (↑o.length : Int) (IntKind.i64.wrap (n - (2 : Int))))))
 ch)
 P
 (IntKind.i64.wrap
 ((1 : Int) + modB (↑o.length : Int) (IntKind.i64.wrap (n - (2 : Int)))))
 j =
 true) ∧
 K (AV.one (SV.bool true)) []) := by kernel_rfl
end Go.Ev
