/-
  Chapter 1, contracts: equations modulo the prime, of the reference.
-/
import Derived.Test.YtlejemnljojpgaaC1BB
import Derived.KernelRfl
set_option linter.unusedVariables false
set_option linter.unusedSimpArgs false
set_option linter.unusedSectionVars false
namespace Go.Ev
open Go Go.Proofs
set_option maxRecDepth 20000
set_option linter.unusedVariables false
def scRV (R : List Int) (s : Int) : List Int := R.map fun x => (IntKind.i64.wrap (x * s)).tmod 65537
def elRV : List Int → List Int → Int → List Int
  | p :: Pv, r :: R, b => modB (IntKind.i64.wrap (r - IntKind.i64.wrap (b * p))) 65537 :: elRV Pv R b
  | _, _, _ => []
def stpV (c : Nat) (rows : List (List Int)) : List (List Int) :=
  (List.range rows.length).map fun r => bif r == c then scRV (rows.getD c []) (invG ((rows.getD c []).getD c 0)) else elRV (scRV (rows.getD c []) (invG ((rows.getD c []).getD c 0))) (rows.getD r []) ((rows.getD r []).getD c 0)
def rin2S : Spec := fun args σ K => match args, σ with
  | [.one (.int .i64 a)], [] => (0 ≤ a ∧ a < 65537) ∧ ∀ s, isInv a s → K (.one (.int .i64 s)) []
  | _, _ => False
def rsA1 : LSpec := fun vs σ k => match vs, σ with
  | [.one (.own 0 1), .one (.int .i64 n), .one (.int .i64 c)], [.cells [.own 1 1], .row 3 (.ints .i64 R0)] => (n = 1 ∧ okSol [R0] ∧ 0 ≤ c ∧ c ≤ 1 ∧ pivF (1 - c.toNat) c.toNat [R0]) ∧ k (.exit 0) [] [.cells [.own 1 1], .row 3 (.ints .i64 ((solF (1 - c.toNat) c.toNat [R0]).getD 0 []))]
  | _, _ => False
def rsS1 : Spec := fun args σ K => match args, σ with
  | [.one (.own 0 1)], [.cells [.own 1 1], .row 3 (.ints .i64 R0)] => (okSol [R0] ∧ pivF 1 0 [R0]) ∧ ∀ X0 : List Int, K (.one (.own 2 1)) [.cells [.own 1 1], .row 3 (.ints .i64 (X0)), .row 3 (.ints .i64 (solV [R0]))]
  | _, _ => False
def rsA2 : LSpec := fun vs σ k => match vs, σ with
  | [.one (.own 0 1), .one (.int .i64 n), .one (.int .i64 c)], [.cells [.own 1 1, .own 2 1], .row 3 (.ints .i64 R0), .row 3 (.ints .i64 R1)] => (n = 2 ∧ okSol [R0, R1] ∧ 0 ≤ c ∧ c ≤ 2 ∧ pivF (2 - c.toNat) c.toNat [R0, R1]) ∧ k (.exit 0) [] [.cells [.own 1 1, .own 2 1], .row 3 (.ints .i64 ((solF (2 - c.toNat) c.toNat [R0, R1]).getD 0 [])), .row 3 (.ints .i64 ((solF (2 - c.toNat) c.toNat [R0, R1]).getD 1 []))]
  | _, _ => False
def rsS2 : Spec := fun args σ K => match args, σ with
  | [.one (.own 0 1)], [.cells [.own 1 1, .own 2 1], .row 3 (.ints .i64 R0), .row 3 (.ints .i64 R1)] => (okSol [R0, R1] ∧ pivF 2 0 [R0, R1]) ∧ ∀ X0 X1 : List Int, K (.one (.own 3 1)) [.cells [.own 1 1, .own 2 1], .row 3 (.ints .i64 (X0)), .row 3 (.ints .i64 (X1)), .row 3 (.ints .i64 (solV [R0, R1]))]
  | _, _ => False
def rsA3 : LSpec := fun vs σ k => match vs, σ with
  | [.one (.own 0 1), .one (.int .i64 n), .one (.int .i64 c)], [.cells [.own 1 1, .own 2 1, .own 3 1], .row 3 (.ints .i64 R0), .row 3 (.ints .i64 R1), .row 3 (.ints .i64 R2)] => (n = 3 ∧ okSol [R0, R1, R2] ∧ 0 ≤ c ∧ c ≤ 3 ∧ pivF (3 - c.toNat) c.toNat [R0, R1, R2]) ∧ k (.exit 0) [] [.cells [.own 1 1, .own 2 1, .own 3 1], .row 3 (.ints .i64 ((solF (3 - c.toNat) c.toNat [R0, R1, R2]).getD 0 [])), .row 3 (.ints .i64 ((solF (3 - c.toNat) c.toNat [R0, R1, R2]).getD 1 [])), .row 3 (.ints .i64 ((solF (3 - c.toNat) c.toNat [R0, R1, R2]).getD 2 []))]
  | _, _ => False
def rsS3 : Spec := fun args σ K => match args, σ with
  | [.one (.own 0 1)], [.cells [.own 1 1, .own 2 1, .own 3 1], .row 3 (.ints .i64 R0), .row 3 (.ints .i64 R1), .row 3 (.ints .i64 R2)] => (okSol [R0, R1, R2] ∧ pivF 3 0 [R0, R1, R2]) ∧ ∀ X0 X1 X2 : List Int, K (.one (.own 4 1)) [.cells [.own 1 1, .own 2 1, .own 3 1], .row 3 (.ints .i64 (X0)), .row 3 (.ints .i64 (X1)), .row 3 (.ints .i64 (X2)), .row 3 (.ints .i64 (solV [R0, R1, R2]))]
  | _, _ => False
def rsA4 : LSpec := fun vs σ k => match vs, σ with
  | [.one (.own 0 1), .one (.int .i64 n), .one (.int .i64 c)], [.cells [.own 1 1, .own 2 1, .own 3 1, .own 4 1], .row 3 (.ints .i64 R0), .row 3 (.ints .i64 R1), .row 3 (.ints .i64 R2), .row 3 (.ints .i64 R3)] => (n = 4 ∧ okSol [R0, R1, R2, R3] ∧ 0 ≤ c ∧ c ≤ 4 ∧ pivF (4 - c.toNat) c.toNat [R0, R1, R2, R3]) ∧ k (.exit 0) [] [.cells [.own 1 1, .own 2 1, .own 3 1, .own 4 1], .row 3 (.ints .i64 ((solF (4 - c.toNat) c.toNat [R0, R1, R2, R3]).getD 0 [])), .row 3 (.ints .i64 ((solF (4 - c.toNat) c.toNat [R0, R1, R2, R3]).getD 1 [])), .row 3 (.ints .i64 ((solF (4 - c.toNat) c.toNat [R0, R1, R2, R3]).getD 2 [])), .row 3 (.ints .i64 ((solF (4 - c.toNat) c.toNat [R0, R1, R2, R3]).getD 3 []))]
  | _, _ => False
def rsS4 : Spec := fun args σ K => match args, σ with
  | [.one (.own 0 1)], [.cells [.own 1 1, .own 2 1, .own 3 1, .own 4 1], .row 3 (.ints .i64 R0), .row 3 (.ints .i64 R1), .row 3 (.ints .i64 R2), .row 3 (.ints .i64 R3)] => (okSol [R0, R1, R2, R3] ∧ pivF 4 0 [R0, R1, R2, R3]) ∧ ∀ X0 X1 X2 X3 : List Int, K (.one (.own 5 1)) [.cells [.own 1 1, .own 2 1, .own 3 1, .own 4 1], .row 3 (.ints .i64 (X0)), .row 3 (.ints .i64 (X1)), .row 3 (.ints .i64 (X2)), .row 3 (.ints .i64 (X3)), .row 3 (.ints .i64 (solV [R0, R1, R2, R3]))]
  | _, _ => False
def modW : Spec := fun args σ K => match args, σ with
  | [.one (.int .i64 n), .one (.int .i64 65537)], [] => K (.one (.int .i64 (modB n 65537))) []
  | _, _ => False
noncomputable abbrev Ers1 : Env := envOf Try.prog [(43, rin2S), (26, modW)] [(3, .frm 2 [0, 3, 4] [] rsA1), (6, .unroll 1), (11, .unroll 3), (15, .unroll 2), (19, .unroll 3), (24, .unroll 2)] 136 2
noncomputable abbrev Ers1F2 : Env := envOf Try.prog [(43, rin2S), (26, modW)] [(3, .frm 2 [0, 3, 4] [] rsA1), (6, .unroll 1), (11, .unroll 3), (15, .unroll 2), (19, .unroll 3), (24, .unroll 2)] 136 2
noncomputable abbrev Ers2 : Env := envOf Try.prog [(43, rin2S), (26, modW)] [(3, .frm 3 [0, 3, 4] [] rsA2), (6, .unroll 1), (11, .unroll 4), (15, .unroll 3), (19, .unroll 4), (24, .unroll 3)] 136 3
noncomputable abbrev Ers2F3 : Env := envOf Try.prog [(43, rin2S), (26, modW)] [(3, .frm 3 [0, 3, 4] [] rsA2), (6, .unroll 1), (11, .unroll 4), (15, .unroll 3), (19, .unroll 4), (24, .unroll 3)] 136 3
noncomputable abbrev Ers3 : Env := envOf Try.prog [(43, rin2S), (26, modW)] [(3, .frm 4 [0, 3, 4] [] rsA3), (6, .unroll 1), (11, .unroll 5), (15, .unroll 4), (19, .unroll 5), (24, .unroll 4)] 136 4
noncomputable abbrev Ers3F4 : Env := envOf Try.prog [(43, rin2S), (26, modW)] [(3, .frm 4 [0, 3, 4] [] rsA3), (6, .unroll 1), (11, .unroll 5), (15, .unroll 4), (19, .unroll 5), (24, .unroll 4)] 136 4
noncomputable abbrev Ers4 : Env := envOf Try.prog [(43, rin2S), (26, modW)] [(3, .frm 5 [0, 3, 4] [] rsA4), (6, .unroll 1), (11, .unroll 6), (15, .unroll 5), (19, .unroll 6), (24, .unroll 5)] 136 5
noncomputable abbrev Ers4F5 : Env := envOf Try.prog [(43, rin2S), (26, modW)] [(3, .frm 5 [0, 3, 4] [] rsA4), (6, .unroll 1), (11, .unroll 6), (15, .unroll 5), (19, .unroll 6), (24, .unroll 5)] 136 5
end Go.Ev

namespace Go.Ev
open Go Go.Proofs
set_option maxRecDepth 100000
theorem exrs1c0 (r00 r01 : Int) (K : Ex → List AV → List Blk → Prop) : evBody Ers1F2 (lb Try.f125 0) [0, 3, 4] [] [.one (.own 0 1), .one (.int .i64 1), .one (.int .i64 0)] [.cells [.own 1 1], .row 3 (.ints .i64 [r00, r01])] K = ( bif r00 == 0 then False else (0 ≤ r00 ∧ r00 < 65537) ∧ ∀ (s : Int), isInv r00 s → K .normal [.one (.own 0 1), .one (.int .i64 1), .one (.int .i64 1)] [Blk.cells [SV.own 1 1], Blk.row 3 (Row.ints .i64 [(IntKind.i64.wrap (r00 * s)).tmod 65537, (IntKind.i64.wrap (r01 * s)).tmod 65537])]) := by kernel_rfl
theorem exrs1c1 (R0 : List Int) (K : Ex → List AV → List Blk → Prop) : evBody Ers1F2 (lb Try.f125 0) [0, 3, 4] [] [.one (.own 0 1), .one (.int .i64 1), .one (.int .i64 1)] [.cells [.own 1 1], .row 3 (.ints .i64 R0)] K = ( K (.exit 0) [] [Blk.cells [SV.own 1 1], Blk.row 3 (Row.ints .i64 R0)]) := by kernel_rfl
theorem exrs2c0 (r00 r01 r02 r10 r11 r12 : Int) (K : Ex → List AV → List Blk → Prop) : evBody Ers2F3 (lb Try.f125 0) [0, 3, 4] [] [.one (.own 0 1), .one (.int .i64 2), .one (.int .i64 0)] [.cells [.own 1 1, .own 2 1], .row 3 (.ints .i64 [r00, r01, r02]), .row 3 (.ints .i64 [r10, r11, r12])] K = ( bif r00 == 0 then False else (0 ≤ r00 ∧ r00 < 65537) ∧ ∀ (s : Int), isInv r00 s → K .normal [.one (.own 0 1), .one (.int .i64 2), .one (.int .i64 1)] [Blk.cells [SV.own 1 1, SV.own 2 1], Blk.row 3 (Row.ints .i64 [(IntKind.i64.wrap (r00 * s)).tmod 65537, (IntKind.i64.wrap (r01 * s)).tmod 65537, (IntKind.i64.wrap (r02 * s)).tmod 65537]), Blk.row 3 (Row.ints .i64 [modB (IntKind.i64.wrap (r10 - IntKind.i64.wrap (r10 * (IntKind.i64.wrap (r00 * s)).tmod 65537))) 65537, modB (IntKind.i64.wrap (r11 - IntKind.i64.wrap (r10 * (IntKind.i64.wrap (r01 * s)).tmod 65537))) 65537, modB (IntKind.i64.wrap (r12 - IntKind.i64.wrap (r10 * (IntKind.i64.wrap (r02 * s)).tmod 65537))) 65537])]) := by kernel_rfl
theorem exrs2c1 (r00 r01 r02 r10 r11 r12 : Int) (K : Ex → List AV → List Blk → Prop) : evBody Ers2F3 (lb Try.f125 0) [0, 3, 4] [] [.one (.own 0 1), .one (.int .i64 2), .one (.int .i64 1)] [.cells [.own 1 1, .own 2 1], .row 3 (.ints .i64 [r00, r01, r02]), .row 3 (.ints .i64 [r10, r11, r12])] K = ( bif r11 == 0 then False else (0 ≤ r11 ∧ r11 < 65537) ∧ ∀ (s : Int), isInv r11 s → K .normal [.one (.own 0 1), .one (.int .i64 2), .one (.int .i64 2)] [Blk.cells [SV.own 1 1, SV.own 2 1], Blk.row 3 (Row.ints .i64 [modB (IntKind.i64.wrap (r00 - IntKind.i64.wrap (r01 * (IntKind.i64.wrap (r10 * s)).tmod 65537))) 65537, modB (IntKind.i64.wrap (r01 - IntKind.i64.wrap (r01 * (IntKind.i64.wrap (r11 * s)).tmod 65537))) 65537, modB (IntKind.i64.wrap (r02 - IntKind.i64.wrap (r01 * (IntKind.i64.wrap (r12 * s)).tmod 65537))) 65537]), Blk.row 3 (Row.ints .i64 [(IntKind.i64.wrap (r10 * s)).tmod 65537, (IntKind.i64.wrap (r11 * s)).tmod 65537, (IntKind.i64.wrap (r12 * s)).tmod 65537])]) := by kernel_rfl
theorem exrs2c2 (R0 R1 : List Int) (K : Ex → List AV → List Blk → Prop) : evBody Ers2F3 (lb Try.f125 0) [0, 3, 4] [] [.one (.own 0 1), .one (.int .i64 2), .one (.int .i64 2)] [.cells [.own 1 1, .own 2 1], .row 3 (.ints .i64 R0), .row 3 (.ints .i64 R1)] K = ( K (.exit 0) [] [Blk.cells [SV.own 1 1, SV.own 2 1], Blk.row 3 (Row.ints .i64 R0), Blk.row 3 (Row.ints .i64 R1)]) := by kernel_rfl
theorem exrs3c0 (r00 r01 r02 r03 r10 r11 r12 r13 r20 r21 r22 r23 : Int) (K : Ex → List AV → List Blk → Prop) : evBody Ers3F4 (lb Try.f125 0) [0, 3, 4] [] [.one (.own 0 1), .one (.int .i64 3), .one (.int .i64 0)] [.cells [.own 1 1, .own 2 1, .own 3 1], .row 3 (.ints .i64 [r00, r01, r02, r03]), .row 3 (.ints .i64 [r10, r11, r12, r13]), .row 3 (.ints .i64 [r20, r21, r22, r23])] K = ( bif r00 == 0 then False else (0 ≤ r00 ∧ r00 < 65537) ∧ ∀ (s : Int), isInv r00 s → K .normal [.one (.own 0 1), .one (.int .i64 3), .one (.int .i64 1)] [Blk.cells [SV.own 1 1, SV.own 2 1, SV.own 3 1], Blk.row 3 (Row.ints .i64 [(IntKind.i64.wrap (r00 * s)).tmod 65537, (IntKind.i64.wrap (r01 * s)).tmod 65537, (IntKind.i64.wrap (r02 * s)).tmod 65537, (IntKind.i64.wrap (r03 * s)).tmod 65537]), Blk.row 3 (Row.ints .i64 [modB (IntKind.i64.wrap (r10 - IntKind.i64.wrap (r10 * (IntKind.i64.wrap (r00 * s)).tmod 65537))) 65537, modB (IntKind.i64.wrap (r11 - IntKind.i64.wrap (r10 * (IntKind.i64.wrap (r01 * s)).tmod 65537))) 65537, modB (IntKind.i64.wrap (r12 - IntKind.i64.wrap (r10 * (IntKind.i64.wrap (r02 * s)).tmod 65537))) 65537, modB (IntKind.i64.wrap (r13 - IntKind.i64.wrap (r10 * (IntKind.i64.wrap (r03 * s)).tmod 65537))) 65537]), Blk.row 3 (Row.ints .i64 [modB (IntKind.i64.wrap (r20 - IntKind.i64.wrap (r20 * (IntKind.i64.wrap (r00 * s)).tmod 65537))) 65537, modB (IntKind.i64.wrap (r21 - IntKind.i64.wrap (r20 * (IntKind.i64.wrap (r01 * s)).tmod 65537))) 65537, modB (IntKind.i64.wrap (r22 - IntKind.i64.wrap (r20 * (IntKind.i64.wrap (r02 * s)).tmod 65537))) 65537, modB (IntKind.i64.wrap (r23 - IntKind.i64.wrap (r20 * (IntKind.i64.wrap (r03 * s)).tmod 65537))) 65537])]) := by kernel_rfl
theorem exrs3c1 (r00 r01 r02 r03 r10 r11 r12 r13 r20 r21 r22 r23 : Int) (K : Ex → List AV → List Blk → Prop) : evBody Ers3F4 (lb Try.f125 0) [0, 3, 4] [] [.one (.own 0 1), .one (.int .i64 3), .one (.int .i64 1)] [.cells [.own 1 1, .own 2 1, .own 3 1], .row 3 (.ints .i64 [r00, r01, r02, r03]), .row 3 (.ints .i64 [r10, r11, r12, r13]), .row 3 (.ints .i64 [r20, r21, r22, r23])] K = ( bif r11 == 0 then False else (0 ≤ r11 ∧ r11 < 65537) ∧ ∀ (s : Int), isInv r11 s → K .normal [.one (.own 0 1), .one (.int .i64 3), .one (.int .i64 2)] [Blk.cells [SV.own 1 1, SV.own 2 1, SV.own 3 1], Blk.row 3 (Row.ints .i64 [modB (IntKind.i64.wrap (r00 - IntKind.i64.wrap (r01 * (IntKind.i64.wrap (r10 * s)).tmod 65537))) 65537, modB (IntKind.i64.wrap (r01 - IntKind.i64.wrap (r01 * (IntKind.i64.wrap (r11 * s)).tmod 65537))) 65537, modB (IntKind.i64.wrap (r02 - IntKind.i64.wrap (r01 * (IntKind.i64.wrap (r12 * s)).tmod 65537))) 65537, modB (IntKind.i64.wrap (r03 - IntKind.i64.wrap (r01 * (IntKind.i64.wrap (r13 * s)).tmod 65537))) 65537]), Blk.row 3 (Row.ints .i64 [(IntKind.i64.wrap (r10 * s)).tmod 65537, (IntKind.i64.wrap (r11 * s)).tmod 65537, (IntKind.i64.wrap (r12 * s)).tmod 65537, (IntKind.i64.wrap (r13 * s)).tmod 65537]), Blk.row 3 (Row.ints .i64 [modB (IntKind.i64.wrap (r20 - IntKind.i64.wrap (r21 * (IntKind.i64.wrap (r10 * s)).tmod 65537))) 65537, modB (IntKind.i64.wrap (r21 - IntKind.i64.wrap (r21 * (IntKind.i64.wrap (r11 * s)).tmod 65537))) 65537, modB (IntKind.i64.wrap (r22 - IntKind.i64.wrap (r21 * (IntKind.i64.wrap (r12 * s)).tmod 65537))) 65537, modB (IntKind.i64.wrap (r23 - IntKind.i64.wrap (r21 * (IntKind.i64.wrap (r13 * s)).tmod 65537))) 65537])]) := by kernel_rfl
theorem exrs3c2 (r00 r01 r02 r03 r10 r11 r12 r13 r20 r21 r22 r23 : Int) (K : Ex → List AV → List Blk → Prop) : evBody Ers3F4 (lb Try.f125 0) [0, 3, 4] [] [.one (.own 0 1), .one (.int .i64 3), .one (.int .i64 2)] [.cells [.own 1 1, .own 2 1, .own 3 1], .row 3 (.ints .i64 [r00, r01, r02, r03]), .row 3 (.ints .i64 [r10, r11, r12, r13]), .row 3 (.ints .i64 [r20, r21, r22, r23])] K = ( bif r22 == 0 then False else (0 ≤ r22 ∧ r22 < 65537) ∧ ∀ (s : Int), isInv r22 s → K .normal [.one (.own 0 1), .one (.int .i64 3), .one (.int .i64 3)] [Blk.cells [SV.own 1 1, SV.own 2 1, SV.own 3 1], Blk.row 3 (Row.ints .i64 [modB (IntKind.i64.wrap (r00 - IntKind.i64.wrap (r02 * (IntKind.i64.wrap (r20 * s)).tmod 65537))) 65537, modB (IntKind.i64.wrap (r01 - IntKind.i64.wrap (r02 * (IntKind.i64.wrap (r21 * s)).tmod 65537))) 65537, modB (IntKind.i64.wrap (r02 - IntKind.i64.wrap (r02 * (IntKind.i64.wrap (r22 * s)).tmod 65537))) 65537, modB (IntKind.i64.wrap (r03 - IntKind.i64.wrap (r02 * (IntKind.i64.wrap (r23 * s)).tmod 65537))) 65537]), Blk.row 3 (Row.ints .i64 [modB (IntKind.i64.wrap (r10 - IntKind.i64.wrap (r12 * (IntKind.i64.wrap (r20 * s)).tmod 65537))) 65537, modB (IntKind.i64.wrap (r11 - IntKind.i64.wrap (r12 * (IntKind.i64.wrap (r21 * s)).tmod 65537))) 65537, modB (IntKind.i64.wrap (r12 - IntKind.i64.wrap (r12 * (IntKind.i64.wrap (r22 * s)).tmod 65537))) 65537, modB (IntKind.i64.wrap (r13 - IntKind.i64.wrap (r12 * (IntKind.i64.wrap (r23 * s)).tmod 65537))) 65537]), Blk.row 3 (Row.ints .i64 [(IntKind.i64.wrap (r20 * s)).tmod 65537, (IntKind.i64.wrap (r21 * s)).tmod 65537, (IntKind.i64.wrap (r22 * s)).tmod 65537, (IntKind.i64.wrap (r23 * s)).tmod 65537])]) := by kernel_rfl
theorem exrs3c3 (R0 R1 R2 : List Int) (K : Ex → List AV → List Blk → Prop) : evBody Ers3F4 (lb Try.f125 0) [0, 3, 4] [] [.one (.own 0 1), .one (.int .i64 3), .one (.int .i64 3)] [.cells [.own 1 1, .own 2 1, .own 3 1], .row 3 (.ints .i64 R0), .row 3 (.ints .i64 R1), .row 3 (.ints .i64 R2)] K = ( K (.exit 0) [] [Blk.cells [SV.own 1 1, SV.own 2 1, SV.own 3 1], Blk.row 3 (Row.ints .i64 R0), Blk.row 3 (Row.ints .i64 R1), Blk.row 3 (Row.ints .i64 R2)]) := by kernel_rfl
theorem exrs4c0 (r00 r01 r02 r03 r04 r10 r11 r12 r13 r14 r20 r21 r22 r23 r24 r30 r31 r32 r33 r34 : Int) (K : Ex → List AV → List Blk → Prop) : evBody Ers4F5 (lb Try.f125 0) [0, 3, 4] [] [.one (.own 0 1), .one (.int .i64 4), .one (.int .i64 0)] [.cells [.own 1 1, .own 2 1, .own 3 1, .own 4 1], .row 3 (.ints .i64 [r00, r01, r02, r03, r04]), .row 3 (.ints .i64 [r10, r11, r12, r13, r14]), .row 3 (.ints .i64 [r20, r21, r22, r23, r24]), .row 3 (.ints .i64 [r30, r31, r32, r33, r34])] K = ( bif r00 == 0 then False else (0 ≤ r00 ∧ r00 < 65537) ∧ ∀ (s : Int), isInv r00 s → K .normal [.one (.own 0 1), .one (.int .i64 4), .one (.int .i64 1)] [Blk.cells [SV.own 1 1, SV.own 2 1, SV.own 3 1, SV.own 4 1], Blk.row 3 (Row.ints .i64 [(IntKind.i64.wrap (r00 * s)).tmod 65537, (IntKind.i64.wrap (r01 * s)).tmod 65537, (IntKind.i64.wrap (r02 * s)).tmod 65537, (IntKind.i64.wrap (r03 * s)).tmod 65537, (IntKind.i64.wrap (r04 * s)).tmod 65537]), Blk.row 3 (Row.ints .i64 [modB (IntKind.i64.wrap (r10 - IntKind.i64.wrap (r10 * (IntKind.i64.wrap (r00 * s)).tmod 65537))) 65537, modB (IntKind.i64.wrap (r11 - IntKind.i64.wrap (r10 * (IntKind.i64.wrap (r01 * s)).tmod 65537))) 65537, modB (IntKind.i64.wrap (r12 - IntKind.i64.wrap (r10 * (IntKind.i64.wrap (r02 * s)).tmod 65537))) 65537, modB (IntKind.i64.wrap (r13 - IntKind.i64.wrap (r10 * (IntKind.i64.wrap (r03 * s)).tmod 65537))) 65537, modB (IntKind.i64.wrap (r14 - IntKind.i64.wrap (r10 * (IntKind.i64.wrap (r04 * s)).tmod 65537))) 65537]), Blk.row 3 (Row.ints .i64 [modB (IntKind.i64.wrap (r20 - IntKind.i64.wrap (r20 * (IntKind.i64.wrap (r00 * s)).tmod 65537))) 65537, modB (IntKind.i64.wrap (r21 - IntKind.i64.wrap (r20 * (IntKind.i64.wrap (r01 * s)).tmod 65537))) 65537, modB (IntKind.i64.wrap (r22 - IntKind.i64.wrap (r20 * (IntKind.i64.wrap (r02 * s)).tmod 65537))) 65537, modB (IntKind.i64.wrap (r23 - IntKind.i64.wrap (r20 * (IntKind.i64.wrap (r03 * s)).tmod 65537))) 65537, modB (IntKind.i64.wrap (r24 - IntKind.i64.wrap (r20 * (IntKind.i64.wrap (r04 * s)).tmod 65537))) 65537]), Blk.row 3 (Row.ints .i64 [modB (IntKind.i64.wrap (r30 - IntKind.i64.wrap (r30 * (IntKind.i64.wrap (r00 * s)).tmod 65537))) 65537, modB (IntKind.i64.wrap (r31 - IntKind.i64.wrap (r30 * (IntKind.i64.wrap (r01 * s)).tmod 65537))) 65537, modB (IntKind.i64.wrap (r32 - IntKind.i64.wrap (r30 * (IntKind.i64.wrap (r02 * s)).tmod 65537))) 65537, modB (IntKind.i64.wrap (r33 - IntKind.i64.wrap (r30 * (IntKind.i64.wrap (r03 * s)).tmod 65537))) 65537, modB (IntKind.i64.wrap (r34 - IntKind.i64.wrap (r30 * (IntKind.i64.wrap (r04 * s)).tmod 65537))) 65537])]) := by kernel_rfl
theorem exrs4c1 (r00 r01 r02 r03 r04 r10 r11 r12 r13 r14 r20 r21 r22 r23 r24 r30 r31 r32 r33 r34 : Int) (K : Ex → List AV → List Blk → Prop) : evBody Ers4F5 (lb Try.f125 0) [0, 3, 4] [] [.one (.own 0 1), .one (.int .i64 4), .one (.int .i64 1)] [.cells [.own 1 1, .own 2 1, .own 3 1, .own 4 1], .row 3 (.ints .i64 [r00, r01, r02, r03, r04]), .row 3 (.ints .i64 [r10, r11, r12, r13, r14]), .row 3 (.ints .i64 [r20, r21, r22, r23, r24]), .row 3 (.ints .i64 [r30, r31, r32, r33, r34])] K = ( bif r11 == 0 then False else (0 ≤ r11 ∧ r11 < 65537) ∧ ∀ (s : Int), isInv r11 s → K .normal [.one (.own 0 1), .one (.int .i64 4), .one (.int .i64 2)] [Blk.cells [SV.own 1 1, SV.own 2 1, SV.own 3 1, SV.own 4 1], Blk.row 3 (Row.ints .i64 [modB (IntKind.i64.wrap (r00 - IntKind.i64.wrap (r01 * (IntKind.i64.wrap (r10 * s)).tmod 65537))) 65537, modB (IntKind.i64.wrap (r01 - IntKind.i64.wrap (r01 * (IntKind.i64.wrap (r11 * s)).tmod 65537))) 65537, modB (IntKind.i64.wrap (r02 - IntKind.i64.wrap (r01 * (IntKind.i64.wrap (r12 * s)).tmod 65537))) 65537, modB (IntKind.i64.wrap (r03 - IntKind.i64.wrap (r01 * (IntKind.i64.wrap (r13 * s)).tmod 65537))) 65537, modB (IntKind.i64.wrap (r04 - IntKind.i64.wrap (r01 * (IntKind.i64.wrap (r14 * s)).tmod 65537))) 65537]), Blk.row 3 (Row.ints .i64 [(IntKind.i64.wrap (r10 * s)).tmod 65537, (IntKind.i64.wrap (r11 * s)).tmod 65537, (IntKind.i64.wrap (r12 * s)).tmod 65537, (IntKind.i64.wrap (r13 * s)).tmod 65537, (IntKind.i64.wrap (r14 * s)).tmod 65537]), Blk.row 3 (Row.ints .i64 [modB (IntKind.i64.wrap (r20 - IntKind.i64.wrap (r21 * (IntKind.i64.wrap (r10 * s)).tmod 65537))) 65537, modB (IntKind.i64.wrap (r21 - IntKind.i64.wrap (r21 * (IntKind.i64.wrap (r11 * s)).tmod 65537))) 65537, modB (IntKind.i64.wrap (r22 - IntKind.i64.wrap (r21 * (IntKind.i64.wrap (r12 * s)).tmod 65537))) 65537, modB (IntKind.i64.wrap (r23 - IntKind.i64.wrap (r21 * (IntKind.i64.wrap (r13 * s)).tmod 65537))) 65537, modB (IntKind.i64.wrap (r24 - IntKind.i64.wrap (r21 * (IntKind.i64.wrap (r14 * s)).tmod 65537))) 65537]), Blk.row 3 (Row.ints .i64 [modB (IntKind.i64.wrap (r30 - IntKind.i64.wrap (r31 * (IntKind.i64.wrap (r10 * s)).tmod 65537))) 65537, modB (IntKind.i64.wrap (r31 - IntKind.i64.wrap (r31 * (IntKind.i64.wrap (r11 * s)).tmod 65537))) 65537, modB (IntKind.i64.wrap (r32 - IntKind.i64.wrap (r31 * (IntKind.i64.wrap (r12 * s)).tmod 65537))) 65537, modB (IntKind.i64.wrap (r33 - IntKind.i64.wrap (r31 * (IntKind.i64.wrap (r13 * s)).tmod 65537))) 65537, modB (IntKind.i64.wrap (r34 - IntKind.i64.wrap (r31 * (IntKind.i64.wrap (r14 * s)).tmod 65537))) 65537])]) := by kernel_rfl
theorem exrs4c2 (r00 r01 r02 r03 r04 r10 r11 r12 r13 r14 r20 r21 r22 r23 r24 r30 r31 r32 r33 r34 : Int) (K : Ex → List AV → List Blk → Prop) : evBody Ers4F5 (lb Try.f125 0) [0, 3, 4] [] [.one (.own 0 1), .one (.int .i64 4), .one (.int .i64 2)] [.cells [.own 1 1, .own 2 1, .own 3 1, .own 4 1], .row 3 (.ints .i64 [r00, r01, r02, r03, r04]), .row 3 (.ints .i64 [r10, r11, r12, r13, r14]), .row 3 (.ints .i64 [r20, r21, r22, r23, r24]), .row 3 (.ints .i64 [r30, r31, r32, r33, r34])] K = ( bif r22 == 0 then False else (0 ≤ r22 ∧ r22 < 65537) ∧ ∀ (s : Int), isInv r22 s → K .normal [.one (.own 0 1), .one (.int .i64 4), .one (.int .i64 3)] [Blk.cells [SV.own 1 1, SV.own 2 1, SV.own 3 1, SV.own 4 1], Blk.row 3 (Row.ints .i64 [modB (IntKind.i64.wrap (r00 - IntKind.i64.wrap (r02 * (IntKind.i64.wrap (r20 * s)).tmod 65537))) 65537, modB (IntKind.i64.wrap (r01 - IntKind.i64.wrap (r02 * (IntKind.i64.wrap (r21 * s)).tmod 65537))) 65537, modB (IntKind.i64.wrap (r02 - IntKind.i64.wrap (r02 * (IntKind.i64.wrap (r22 * s)).tmod 65537))) 65537, modB (IntKind.i64.wrap (r03 - IntKind.i64.wrap (r02 * (IntKind.i64.wrap (r23 * s)).tmod 65537))) 65537, modB (IntKind.i64.wrap (r04 - IntKind.i64.wrap (r02 * (IntKind.i64.wrap (r24 * s)).tmod 65537))) 65537]), Blk.row 3 (Row.ints .i64 [modB (IntKind.i64.wrap (r10 - IntKind.i64.wrap (r12 * (IntKind.i64.wrap (r20 * s)).tmod 65537))) 65537, modB (IntKind.i64.wrap (r11 - IntKind.i64.wrap (r12 * (IntKind.i64.wrap (r21 * s)).tmod 65537))) 65537, modB (IntKind.i64.wrap (r12 - IntKind.i64.wrap (r12 * (IntKind.i64.wrap (r22 * s)).tmod 65537))) 65537, modB (IntKind.i64.wrap (r13 - IntKind.i64.wrap (r12 * (IntKind.i64.wrap (r23 * s)).tmod 65537))) 65537, modB (IntKind.i64.wrap (r14 - IntKind.i64.wrap (r12 * (IntKind.i64.wrap (r24 * s)).tmod 65537))) 65537]), Blk.row 3 (Row.ints .i64 [(IntKind.i64.wrap (r20 * s)).tmod 65537, (IntKind.i64.wrap (r21 * s)).tmod 65537, (IntKind.i64.wrap (r22 * s)).tmod 65537, (IntKind.i64.wrap (r23 * s)).tmod 65537, (IntKind.i64.wrap (r24 * s)).tmod 65537]), Blk.row 3 (Row.ints .i64 [modB (IntKind.i64.wrap (r30 - IntKind.i64.wrap (r32 * (IntKind.i64.wrap (r20 * s)).tmod 65537))) 65537, modB (IntKind.i64.wrap (r31 - IntKind.i64.wrap (r32 * (IntKind.i64.wrap (r21 * s)).tmod 65537))) 65537, modB (IntKind.i64.wrap (r32 - IntKind.i64.wrap (r32 * (IntKind.i64.wrap (r22 * s)).tmod 65537))) 65537, modB (IntKind.i64.wrap (r33 - IntKind.i64.wrap (r32 * (IntKind.i64.wrap (r23 * s)).tmod 65537))) 65537, modB (IntKind.i64.wrap (r34 - IntKind.i64.wrap (r32 * (IntKind.i64.wrap (r24 * s)).tmod 65537))) 65537])]) := by kernel_rfl
theorem exrs4c3 (r00 r01 r02 r03 r04 r10 r11 r12 r13 r14 r20 r21 r22 r23 r24 r30 r31 r32 r33 r34 : Int) (K : Ex → List AV → List Blk → Prop) : evBody Ers4F5 (lb Try.f125 0) [0, 3, 4] [] [.one (.own 0 1), .one (.int .i64 4), .one (.int .i64 3)] [.cells [.own 1 1, .own 2 1, .own 3 1, .own 4 1], .row 3 (.ints .i64 [r00, r01, r02, r03, r04]), .row 3 (.ints .i64 [r10, r11, r12, r13, r14]), .row 3 (.ints .i64 [r20, r21, r22, r23, r24]), .row 3 (.ints .i64 [r30, r31, r32, r33, r34])] K = ( bif r33 == 0 then False else (0 ≤ r33 ∧ r33 < 65537) ∧ ∀ (s : Int), isInv r33 s → K .normal [.one (.own 0 1), .one (.int .i64 4), .one (.int .i64 4)] [Blk.cells [SV.own 1 1, SV.own 2 1, SV.own 3 1, SV.own 4 1], Blk.row 3 (Row.ints .i64 [modB (IntKind.i64.wrap (r00 - IntKind.i64.wrap (r03 * (IntKind.i64.wrap (r30 * s)).tmod 65537))) 65537, modB (IntKind.i64.wrap (r01 - IntKind.i64.wrap (r03 * (IntKind.i64.wrap (r31 * s)).tmod 65537))) 65537, modB (IntKind.i64.wrap (r02 - IntKind.i64.wrap (r03 * (IntKind.i64.wrap (r32 * s)).tmod 65537))) 65537, modB (IntKind.i64.wrap (r03 - IntKind.i64.wrap (r03 * (IntKind.i64.wrap (r33 * s)).tmod 65537))) 65537, modB (IntKind.i64.wrap (r04 - IntKind.i64.wrap (r03 * (IntKind.i64.wrap (r34 * s)).tmod 65537))) 65537]), Blk.row 3 (Row.ints .i64 [modB (IntKind.i64.wrap (r10 - IntKind.i64.wrap (r13 * (IntKind.i64.wrap (r30 * s)).tmod 65537))) 65537, modB (IntKind.i64.wrap (r11 - IntKind.i64.wrap (r13 * (IntKind.i64.wrap (r31 * s)).tmod 65537))) 65537, modB (IntKind.i64.wrap (r12 - IntKind.i64.wrap (r13 * (IntKind.i64.wrap (r32 * s)).tmod 65537))) 65537, modB (IntKind.i64.wrap (r13 - IntKind.i64.wrap (r13 * (IntKind.i64.wrap (r33 * s)).tmod 65537))) 65537, modB (IntKind.i64.wrap (r14 - IntKind.i64.wrap (r13 * (IntKind.i64.wrap (r34 * s)).tmod 65537))) 65537]), Blk.row 3 (Row.ints .i64 [modB (IntKind.i64.wrap (r20 - IntKind.i64.wrap (r23 * (IntKind.i64.wrap (r30 * s)).tmod 65537))) 65537, modB (IntKind.i64.wrap (r21 - IntKind.i64.wrap (r23 * (IntKind.i64.wrap (r31 * s)).tmod 65537))) 65537, modB (IntKind.i64.wrap (r22 - IntKind.i64.wrap (r23 * (IntKind.i64.wrap (r32 * s)).tmod 65537))) 65537, modB (IntKind.i64.wrap (r23 - IntKind.i64.wrap (r23 * (IntKind.i64.wrap (r33 * s)).tmod 65537))) 65537, modB (IntKind.i64.wrap (r24 - IntKind.i64.wrap (r23 * (IntKind.i64.wrap (r34 * s)).tmod 65537))) 65537]), Blk.row 3 (Row.ints .i64 [(IntKind.i64.wrap (r30 * s)).tmod 65537, (IntKind.i64.wrap (r31 * s)).tmod 65537, (IntKind.i64.wrap (r32 * s)).tmod 65537, (IntKind.i64.wrap (r33 * s)).tmod 65537, (IntKind.i64.wrap (r34 * s)).tmod 65537])]) := by kernel_rfl
theorem exrs4c4 (R0 R1 R2 R3 : List Int) (K : Ex → List AV → List Blk → Prop) : evBody Ers4F5 (lb Try.f125 0) [0, 3, 4] [] [.one (.own 0 1), .one (.int .i64 4), .one (.int .i64 4)] [.cells [.own 1 1, .own 2 1, .own 3 1, .own 4 1], .row 3 (.ints .i64 R0), .row 3 (.ints .i64 R1), .row 3 (.ints .i64 R2), .row 3 (.ints .i64 R3)] K = ( K (.exit 0) [] [Blk.cells [SV.own 1 1, SV.own 2 1, SV.own 3 1, SV.own 4 1], Blk.row 3 (Row.ints .i64 R0), Blk.row 3 (Row.ints .i64 R1), Blk.row 3 (Row.ints .i64 R2), Blk.row 3 (Row.ints .i64 R3)]) := by kernel_rfl
theorem exrs1 (R0 : List Int) (K : AV → List Blk → Prop) : evFn Ers1 Try.f125 [.one (.own 0 1)] [.cells [.own 1 1], .row 3 (.ints .i64 R0)] K = ( ((1 :Int) = (1 :Int) ∧ okSol [R0] ∧ (0 :Int) ≤ (0 :Int) ∧ (0 :Int) ≤ (1 :Int) ∧ R0.getD 0 (0 :Int) ≠ (0 :Int) ∧ True) ∧ bif decide ((0 :Int) ≤ (1 :Int)) && decide (1 < (↑((solF 1 0 [R0]).getD 0 []).length : Int)) then bif decide (1 < ((solF 1 0 [R0]).getD 0 []).length) then K (.one (.own 2 1)) [Blk.cells [SV.own 1 1], Blk.row 3 (Row.ints .i64 ((solF 1 0 [R0]).getD 0 [])), Blk.row 3 (Row.ints .i64 [((solF 1 0 [R0]).getD 0 []).getD 1 0])] else False else False) := by kernel_rfl
theorem exrs2 (R0 R1 : List Int) (K : AV → List Blk → Prop) : evFn Ers2 Try.f125 [.one (.own 0 1)] [.cells [.own 1 1, .own 2 1], .row 3 (.ints .i64 R0), .row 3 (.ints .i64 R1)] K = ( ((2 :Int) = (2 :Int) ∧ okSol [R0, R1] ∧ (0 :Int) ≤ (0 :Int) ∧ (0 :Int) ≤ (2 :Int) ∧ R0.getD 0 (0 :Int) ≠ (0 :Int) ∧ ((stp 0 [R0, R1]).getD 1 []).getD 1 (0 :Int) ≠ (0 :Int) ∧ True) ∧ bif decide ((0 :Int) ≤ (2 :Int)) && decide (2 < (↑((solF 2 0 [R0, R1]).getD 0 []).length : Int)) then bif decide (2 < ((solF 2 0 [R0, R1]).getD 0 []).length) then bif decide ((0 :Int) ≤ (2 :Int)) && decide (2 < (↑((solF 2 0 [R0, R1]).getD 1 []).length : Int)) then bif decide (2 < ((solF 2 0 [R0, R1]).getD 1 []).length) then K (.one (.own 3 1)) [Blk.cells [SV.own 1 1, SV.own 2 1], Blk.row 3 (Row.ints .i64 ((solF 2 0 [R0, R1]).getD 0 [])), Blk.row 3 (Row.ints .i64 ((solF 2 0 [R0, R1]).getD 1 [])), Blk.row 3 (Row.ints .i64 [((solF 2 0 [R0, R1]).getD 0 []).getD 2 0, ((solF 2 0 [R0, R1]).getD 1 []).getD 2 0])] else False else False else False else False) := by kernel_rfl
theorem exrs3 (R0 R1 R2 : List Int) (K : AV → List Blk → Prop) : evFn Ers3 Try.f125 [.one (.own 0 1)] [.cells [.own 1 1, .own 2 1, .own 3 1], .row 3 (.ints .i64 R0), .row 3 (.ints .i64 R1), .row 3 (.ints .i64 R2)] K = ( ((3 :Int) = (3 :Int) ∧ okSol [R0, R1, R2] ∧ (0 :Int) ≤ (0 :Int) ∧ (0 :Int) ≤ (3 :Int) ∧ R0.getD 0 (0 :Int) ≠ (0 :Int) ∧ ((stp 0 [R0, R1, R2]).getD 1 []).getD 1 (0 :Int) ≠ (0 :Int) ∧ ((stp 1 (stp 0 [R0, R1, R2])).getD 2 []).getD 2 (0 :Int) ≠ (0 :Int) ∧ True) ∧ bif decide ((0 :Int) ≤ (3 :Int)) && decide (3 < (↑((solF 3 0 [R0, R1, R2]).getD 0 []).length : Int)) then bif decide (3 < ((solF 3 0 [R0, R1, R2]).getD 0 []).length) then bif decide ((0 :Int) ≤ (3 :Int)) && decide (3 < (↑((solF 3 0 [R0, R1, R2]).getD 1 []).length : Int)) then bif decide (3 < ((solF 3 0 [R0, R1, R2]).getD 1 []).length) then bif decide ((0 :Int) ≤ (3 :Int)) && decide (3 < (↑((solF 3 0 [R0, R1, R2]).getD 2 []).length : Int)) then bif decide (3 < ((solF 3 0 [R0, R1, R2]).getD 2 []).length) then K (.one (.own 4 1)) [Blk.cells [SV.own 1 1, SV.own 2 1, SV.own 3 1], Blk.row 3 (Row.ints .i64 ((solF 3 0 [R0, R1, R2]).getD 0 [])), Blk.row 3 (Row.ints .i64 ((solF 3 0 [R0, R1, R2]).getD 1 [])), Blk.row 3 (Row.ints .i64 ((solF 3 0 [R0, R1, R2]).getD 2 [])), Blk.row 3 (Row.ints .i64 [((solF 3 0 [R0, R1, R2]).getD 0 []).getD 3 0, ((solF 3 0 [R0, R1, R2]).getD 1 []).getD 3 0, ((solF 3 0 [R0, R1, R2]).getD 2 []).getD 3 0])] else False else False else False else False else False else False) := by kernel_rfl
theorem exrs4 (R0 R1 R2 R3 : List Int) (K : AV → List Blk → Prop) : evFn Ers4 Try.f125 [.one (.own 0 1)] [.cells [.own 1 1, .own 2 1, .own 3 1, .own 4 1], .row 3 (.ints .i64 R0), .row 3 (.ints .i64 R1), .row 3 (.ints .i64 R2), .row 3 (.ints .i64 R3)] K = ( ((4 :Int) = (4 :Int) ∧ okSol [R0, R1, R2, R3] ∧ (0 :Int) ≤ (0 :Int) ∧ (0 :Int) ≤ (4 :Int) ∧ R0.getD 0 (0 :Int) ≠ (0 :Int) ∧ ((stp 0 [R0, R1, R2, R3]).getD 1 []).getD 1 (0 :Int) ≠ (0 :Int) ∧ ((stp 1 (stp 0 [R0, R1, R2, R3])).getD 2 []).getD 2 (0 :Int) ≠ (0 :Int) ∧ ((stp 2 (stp 1 (stp 0 [R0, R1, R2, R3]))).getD 3 []).getD 3 (0 :Int) ≠ (0 :Int) ∧ True) ∧ bif decide ((0 :Int) ≤ (4 :Int)) && decide (4 < (↑((solF 4 0 [R0, R1, R2, R3]).getD 0 []).length : Int)) then bif decide (4 < ((solF 4 0 [R0, R1, R2, R3]).getD 0 []).length) then bif decide ((0 :Int) ≤ (4 :Int)) && decide (4 < (↑((solF 4 0 [R0, R1, R2, R3]).getD 1 []).length : Int)) then bif decide (4 < ((solF 4 0 [R0, R1, R2, R3]).getD 1 []).length) then bif decide ((0 :Int) ≤ (4 :Int)) && decide (4 < (↑((solF 4 0 [R0, R1, R2, R3]).getD 2 []).length : Int)) then bif decide (4 < ((solF 4 0 [R0, R1, R2, R3]).getD 2 []).length) then bif decide ((0 :Int) ≤ (4 :Int)) && decide (4 < (↑((solF 4 0 [R0, R1, R2, R3]).getD 3 []).length : Int)) then bif decide (4 < ((solF 4 0 [R0, R1, R2, R3]).getD 3 []).length) then K (.one (.own 5 1)) [Blk.cells [SV.own 1 1, SV.own 2 1, SV.own 3 1, SV.own 4 1], Blk.row 3 (Row.ints .i64 ((solF 4 0 [R0, R1, R2, R3]).getD 0 [])), Blk.row 3 (Row.ints .i64 ((solF 4 0 [R0, R1, R2, R3]).getD 1 [])), Blk.row 3 (Row.ints .i64 ((solF 4 0 [R0, R1, R2, R3]).getD 2 [])), Blk.row 3 (Row.ints .i64 ((solF 4 0 [R0, R1, R2, R3]).getD 3 [])), Blk.row 3 (Row.ints .i64 [((solF 4 0 [R0, R1, R2, R3]).getD 0 []).getD 4 0, ((solF 4 0 [R0, R1, R2, R3]).getD 1 []).getD 4 0, ((solF 4 0 [R0, R1, R2, R3]).getD 2 []).getD 4 0, ((solF 4 0 [R0, R1, R2, R3]).getD 3 []).getD 4 0])] else False else False else False else False else False else False else False else False) := by kernel_rfl
end Go.Ev

namespace Go.Ev
open Go Go.Proofs
attribute [local irreducible] evFn evBody evRound
set_option maxRecDepth 20000
set_option linter.unusedVariables false
set_option linter.unusedSimpArgs false
theorem mul_rng {a b : Int} (ha : 0 ≤ a ∧ a < 65537) (hb : 0 ≤ b ∧ b < 65537) : 0 ≤ a * b ∧ a * b ≤ 4294967296 := by
  refine ⟨Int.mul_nonneg ha.1 hb.1, ?_⟩
  have := Int.mul_le_mul (show a ≤ 65536 by omega) (show b ≤ 65536 by omega) hb.1 (by decide)
  omega
theorem sc_mod {a b : Int} (ha : 0 ≤ a ∧ a < 65537) (hb : 0 ≤ b ∧ b < 65537) : (IntKind.i64.wrap (a * b)).tmod 65537 = modG (a * b) := by
  obtain ⟨h1, h2⟩ := mul_rng ha hb
  rw [wrap_id (by omega) (by omega), modG_emod, Int.tmod_eq_emod_of_nonneg h1]
theorem modB_emod {n : Int} (h1 : -9000000000 ≤ n) (h2 : n ≤ 9000000000) : modB n 65537 = n % 65537 := by
  unfold modB wi
  by_cases h : 0 ≤ n
  · rw [Int.tmod_eq_emod_of_nonneg h, decide_eq_false (by omega)]; rfl
  · have e : n.tmod 65537 = -((-n).tmod 65537) := by rw [Int.neg_tmod, Int.neg_neg]
    rw [e, Int.tmod_eq_emod_of_nonneg (by omega)]
    by_cases h0 : (-n) % 65537 = 0
    · rw [h0, decide_eq_false (by decide), cond_false]; omega
    · rw [decide_eq_true (by omega), cond_true, wrap_id (by omega) (by omega)]; omega
theorem el_mod {r f p : Int} (hr : 0 ≤ r ∧ r < 65537) (hf : 0 ≤ f ∧ f < 65537) (hp : 0 ≤ p ∧ p < 65537) : modB (IntKind.i64.wrap (r - IntKind.i64.wrap (f * p))) 65537 = modG (r - modG (f * p)) := by
  obtain ⟨h1, h2⟩ := mul_rng hf hp
  rw [wrap_id (n := f * p) (by omega) (by omega), wrap_id (by omega) (by omega), modB_emod (by omega) (by omega), modG_emod, modG_emod]
  omega
theorem okrin2 : SpecOK Try.prog 43 rin2S := ok43.weak fun args σ K h => by
  unfold rin2S at h
  split at h
  · exact ⟨h.1, h.2 _ rfl⟩
  · exact h.elim
theorem okmodw : SpecOK Try.prog 26 modW := ok26.weak fun args σ K h => by
  unfold modW at h
  split at h
  · exact ⟨by decide, h⟩
  · exact h.elim
theorem scRV_eq {R : List Int} {s : Int} (h : resRow R = true) (hs : 0 ≤ s ∧ s < 65537) : scRV R s = scR R s :=
  List.map_congr_left fun x hx => sc_mod (resG_iff.1 (List.all_eq_true.1 h x hx)) hs
theorem elRV_eq : ∀ {P R : List Int} {b : Int}, resRow P = true → resRow R = true → (0 ≤ b ∧ b < 65537) → elRV P R b = elR P R b
  | [], _, _, _, _, _ => rfl
  | _ :: _, [], _, _, _, _ => rfl
  | p :: P, r :: R, b, hP, hR, hb => by
    unfold resRow at hP hR
    rw [List.all_cons, Bool.and_eq_true] at hP hR
    show modB (IntKind.i64.wrap (r - IntKind.i64.wrap (b * p))) 65537 :: elRV P R b = modG (r - modG (b * p)) :: elR P R b
    rw [elRV_eq hP.2 hR.2 hb, el_mod (resG_iff.1 hR.1) hb (resG_iff.1 hP.1)]
theorem stpV_eq {c : Nat} {rows : List (List Int)} (h : okSol rows) (hc : c < rows.length) : stpV c rows = stp c rows := by
  have hC := (h _ (getD_mem (d := []) hc)).2
  have hs := (inv_ref (res_get hC c)).2.2
  refine List.map_congr_left fun r hr => ?_
  have hr' : r < rows.length := by simpa using hr
  have hR := (h _ (getD_mem (d := []) hr')).2
  rw [scRV_eq hC hs, elRV_eq (scR_res _ _) hR (res_get hR c)]
theorem lokrs1_0 : LoopOK Ers1F2 (lb Try.f125 0) [0, 3, 4] [] rsA1 := by
  refine loopOK (.cons okrin2 (.cons okmodw .nil)) (fun b' hb => by
    have hl : loopsOf (lb Try.f125 0) = [lb Try.f125 1, lb Try.f125 2, lb Try.f125 3, lb Try.f125 4] := by kernel_rfl
    rw [hl] at hb
    simp only [List.mem_cons, List.not_mem_nil, or_false] at hb
    rcases hb with rfl | rfl | rfl | rfl
    · exact loopHyp_none (key := 6) (n := 1) (by kernel_rfl) rfl
    · exact loopHyp_none (key := 11) (n := 3) (by kernel_rfl) rfl
    · exact loopHyp_none (key := 15) (n := 2) (by kernel_rfl) rfl
    · exact loopHyp_none (key := 19) (n := 3) (by kernel_rfl) rfl) (fun vs σ => match vs, σ with
    | [.one (.own 0 1), .one (.int .i64 n), .one (.int .i64 c)], [.cells [.own 1 1], .row 3 (.ints .i64 _)] => (n - c).toNat
    | _, _ => 0) fun vs σ k h => ?_
  unfold rsA1 at h
  split at h
  rotate_right
  · exact h.elim
  · rename_i n c R0
    obtain ⟨⟨rfl, hok, h1, h2, hpv⟩, h⟩ := h
    have hc : c = 0 ∨ c = 1 := by omega
    rcases hc with rfl | rfl
    · obtain ⟨r00, r01, rfl⟩ := ex_2 (hok R0 (by simp)).1
      rw [exrs1c0]
      have hz : (r00 == 0) = false := beq_eq_false_iff_ne.2 hpv.1
      rw [hz, cond_false]
      have rg := res_get (hok _ (getD_mem (i := 0) (d := []) (by simp))).2 0
      refine And.intro rg fun s hs => ?_
      cases hs
      have e := stpV_eq (c := 0) hok (by simp)
      have o := stp_ok (c := 0) hok (by simp)
      have pv := hpv.2
      rw [← e] at o
      have hk : ∀ X, X = stp 0 [[r00, r01]] → pivF 0 1 X ∧ k (.exit 0) [] [.cells [.own 1 1], .row 3 (.ints .i64 ((solF 0 1 X).getD 0 []))] := fun X hX => by rw [hX]; exact ⟨pv, h⟩
      exact ⟨⟨⟨rfl, o, by decide, by decide, (hk _ e).1⟩, (hk _ e).2⟩, by show ((1 : Int) - 1).toNat < ((1 : Int) - 0).toNat; decide⟩
    · rw [exrs1c1]
      exact h
theorem okrs1 : SpecOK Try.prog 125 rsS1 := by
  refine specOK (n := 136) (m := 2) (lps := [(3, .frm 2 [0, 3, 4] [] rsA1), (6, .unroll 1), (11, .unroll 3), (15, .unroll 2), (19, .unroll 3), (24, .unroll 2)]) (.cons okrin2 (.cons okmodw .nil)) Try.func125 (by kernel_rfl) (by kernel_rfl) (theLoops (n := 6) (by kernel_rfl) fun i hi => ?_) fun args σ K h => ?_
  · match i, hi with
    | 0, _ => exact loopHyp_frm (E' := Ers1F2) (key := 3) (m := 2) (by kernel_rfl) rfl rfl lokrs1_0
    | 1, _ => exact loopHyp_none (key := 6) (n := 1) (by kernel_rfl) rfl
    | 2, _ => exact loopHyp_none (key := 11) (n := 3) (by kernel_rfl) rfl
    | 3, _ => exact loopHyp_none (key := 15) (n := 2) (by kernel_rfl) rfl
    | 4, _ => exact loopHyp_none (key := 19) (n := 3) (by kernel_rfl) rfl
    | 5, _ => exact loopHyp_none (key := 24) (n := 2) (by kernel_rfl) rfl
  unfold rsS1 at h
  split at h
  rotate_right
  · exact h.elim
  rename_i R0
  rw [exrs1 R0 K]
  obtain ⟨⟨hok, hpv⟩, h⟩ := h
  refine And.intro ⟨rfl, hok, by decide, by decide, hpv⟩ ?_
  obtain ⟨hT1, hT2⟩ := solF_ok 1 0 [R0] hok (by simp)
  have e : solV [R0] = (solF 1 0 [R0]).map fun R => R.getD 1 0 := rfl
  rw [e] at h
  generalize solF 1 0 [R0] = T at *
  match T, hT2, hT1, h with
  | [t0], _, hT1, h =>
    have l0 : t0.length = 2 := (hT1 t0 (by simp)).1
    refine condI (by simp only [List.getD_cons_zero, List.getD_cons_succ, l0]; decide) (condI (by simp only [List.getD_cons_zero, List.getD_cons_succ, l0]; decide) (h t0))
theorem lokrs2_0 : LoopOK Ers2F3 (lb Try.f125 0) [0, 3, 4] [] rsA2 := by
  refine loopOK (.cons okrin2 (.cons okmodw .nil)) (fun b' hb => by
    have hl : loopsOf (lb Try.f125 0) = [lb Try.f125 1, lb Try.f125 2, lb Try.f125 3, lb Try.f125 4] := by kernel_rfl
    rw [hl] at hb
    simp only [List.mem_cons, List.not_mem_nil, or_false] at hb
    rcases hb with rfl | rfl | rfl | rfl
    · exact loopHyp_none (key := 6) (n := 1) (by kernel_rfl) rfl
    · exact loopHyp_none (key := 11) (n := 4) (by kernel_rfl) rfl
    · exact loopHyp_none (key := 15) (n := 3) (by kernel_rfl) rfl
    · exact loopHyp_none (key := 19) (n := 4) (by kernel_rfl) rfl) (fun vs σ => match vs, σ with
    | [.one (.own 0 1), .one (.int .i64 n), .one (.int .i64 c)], [.cells [.own 1 1, .own 2 1], .row 3 (.ints .i64 _), .row 3 (.ints .i64 _)] => (n - c).toNat
    | _, _ => 0) fun vs σ k h => ?_
  unfold rsA2 at h
  split at h
  rotate_right
  · exact h.elim
  · rename_i n c R0 R1
    obtain ⟨⟨rfl, hok, h1, h2, hpv⟩, h⟩ := h
    have hc : c = 0 ∨ c = 1 ∨ c = 2 := by omega
    rcases hc with rfl | rfl | rfl
    · obtain ⟨r00, r01, r02, rfl⟩ := ex_3 (hok R0 (by simp)).1
      obtain ⟨r10, r11, r12, rfl⟩ := ex_3 (hok R1 (by simp)).1
      rw [exrs2c0]
      have hz : (r00 == 0) = false := beq_eq_false_iff_ne.2 hpv.1
      rw [hz, cond_false]
      have rg := res_get (hok _ (getD_mem (i := 0) (d := []) (by simp))).2 0
      refine And.intro rg fun s hs => ?_
      cases hs
      have e := stpV_eq (c := 0) hok (by simp)
      have o := stp_ok (c := 0) hok (by simp)
      have pv := hpv.2
      rw [← e] at o
      have hk : ∀ X, X = stp 0 [[r00, r01, r02], [r10, r11, r12]] → pivF 1 1 X ∧ k (.exit 0) [] [.cells [.own 1 1, .own 2 1], .row 3 (.ints .i64 ((solF 1 1 X).getD 0 [])), .row 3 (.ints .i64 ((solF 1 1 X).getD 1 []))] := fun X hX => by rw [hX]; exact ⟨pv, h⟩
      exact ⟨⟨⟨rfl, o, by decide, by decide, (hk _ e).1⟩, (hk _ e).2⟩, by show ((2 : Int) - 1).toNat < ((2 : Int) - 0).toNat; decide⟩
    · obtain ⟨r00, r01, r02, rfl⟩ := ex_3 (hok R0 (by simp)).1
      obtain ⟨r10, r11, r12, rfl⟩ := ex_3 (hok R1 (by simp)).1
      rw [exrs2c1]
      have hz : (r11 == 0) = false := beq_eq_false_iff_ne.2 hpv.1
      rw [hz, cond_false]
      have rg := res_get (hok _ (getD_mem (i := 1) (d := []) (by simp))).2 1
      refine And.intro rg fun s hs => ?_
      cases hs
      have e := stpV_eq (c := 1) hok (by simp)
      have o := stp_ok (c := 1) hok (by simp)
      have pv := hpv.2
      rw [← e] at o
      have hk : ∀ X, X = stp 1 [[r00, r01, r02], [r10, r11, r12]] → pivF 0 2 X ∧ k (.exit 0) [] [.cells [.own 1 1, .own 2 1], .row 3 (.ints .i64 ((solF 0 2 X).getD 0 [])), .row 3 (.ints .i64 ((solF 0 2 X).getD 1 []))] := fun X hX => by rw [hX]; exact ⟨pv, h⟩
      exact ⟨⟨⟨rfl, o, by decide, by decide, (hk _ e).1⟩, (hk _ e).2⟩, by show ((2 : Int) - 2).toNat < ((2 : Int) - 1).toNat; decide⟩
    · rw [exrs2c2]
      exact h
theorem okrs2 : SpecOK Try.prog 125 rsS2 := by
  refine specOK (n := 136) (m := 3) (lps := [(3, .frm 3 [0, 3, 4] [] rsA2), (6, .unroll 1), (11, .unroll 4), (15, .unroll 3), (19, .unroll 4), (24, .unroll 3)]) (.cons okrin2 (.cons okmodw .nil)) Try.func125 (by kernel_rfl) (by kernel_rfl) (theLoops (n := 6) (by kernel_rfl) fun i hi => ?_) fun args σ K h => ?_
  · match i, hi with
    | 0, _ => exact loopHyp_frm (E' := Ers2F3) (key := 3) (m := 3) (by kernel_rfl) rfl rfl lokrs2_0
    | 1, _ => exact loopHyp_none (key := 6) (n := 1) (by kernel_rfl) rfl
    | 2, _ => exact loopHyp_none (key := 11) (n := 4) (by kernel_rfl) rfl
    | 3, _ => exact loopHyp_none (key := 15) (n := 3) (by kernel_rfl) rfl
    | 4, _ => exact loopHyp_none (key := 19) (n := 4) (by kernel_rfl) rfl
    | 5, _ => exact loopHyp_none (key := 24) (n := 3) (by kernel_rfl) rfl
  unfold rsS2 at h
  split at h
  rotate_right
  · exact h.elim
  rename_i R0 R1
  rw [exrs2 R0 R1 K]
  obtain ⟨⟨hok, hpv⟩, h⟩ := h
  refine And.intro ⟨rfl, hok, by decide, by decide, hpv⟩ ?_
  obtain ⟨hT1, hT2⟩ := solF_ok 2 0 [R0, R1] hok (by simp)
  have e : solV [R0, R1] = (solF 2 0 [R0, R1]).map fun R => R.getD 2 0 := rfl
  rw [e] at h
  generalize solF 2 0 [R0, R1] = T at *
  match T, hT2, hT1, h with
  | [t0, t1], _, hT1, h =>
    have l0 : t0.length = 3 := (hT1 t0 (by simp)).1
    have l1 : t1.length = 3 := (hT1 t1 (by simp)).1
    refine condI (by simp only [List.getD_cons_zero, List.getD_cons_succ, l0, l1]; decide) (condI (by simp only [List.getD_cons_zero, List.getD_cons_succ, l0, l1]; decide) (condI (by simp only [List.getD_cons_zero, List.getD_cons_succ, l0, l1]; decide) (condI (by simp only [List.getD_cons_zero, List.getD_cons_succ, l0, l1]; decide) (h t0 t1))))
theorem lokrs3_0 : LoopOK Ers3F4 (lb Try.f125 0) [0, 3, 4] [] rsA3 := by
  refine loopOK (.cons okrin2 (.cons okmodw .nil)) (fun b' hb => by
    have hl : loopsOf (lb Try.f125 0) = [lb Try.f125 1, lb Try.f125 2, lb Try.f125 3, lb Try.f125 4] := by kernel_rfl
    rw [hl] at hb
    simp only [List.mem_cons, List.not_mem_nil, or_false] at hb
    rcases hb with rfl | rfl | rfl | rfl
    · exact loopHyp_none (key := 6) (n := 1) (by kernel_rfl) rfl
    · exact loopHyp_none (key := 11) (n := 5) (by kernel_rfl) rfl
    · exact loopHyp_none (key := 15) (n := 4) (by kernel_rfl) rfl
    · exact loopHyp_none (key := 19) (n := 5) (by kernel_rfl) rfl) (fun vs σ => match vs, σ with
    | [.one (.own 0 1), .one (.int .i64 n), .one (.int .i64 c)], [.cells [.own 1 1, .own 2 1, .own 3 1], .row 3 (.ints .i64 _), .row 3 (.ints .i64 _), .row 3 (.ints .i64 _)] => (n - c).toNat
    | _, _ => 0) fun vs σ k h => ?_
  unfold rsA3 at h
  split at h
  rotate_right
  · exact h.elim
  · rename_i n c R0 R1 R2
    obtain ⟨⟨rfl, hok, h1, h2, hpv⟩, h⟩ := h
    have hc : c = 0 ∨ c = 1 ∨ c = 2 ∨ c = 3 := by omega
    rcases hc with rfl | rfl | rfl | rfl
    · obtain ⟨r00, r01, r02, r03, rfl⟩ := ex_4 (hok R0 (by simp)).1
      obtain ⟨r10, r11, r12, r13, rfl⟩ := ex_4 (hok R1 (by simp)).1
      obtain ⟨r20, r21, r22, r23, rfl⟩ := ex_4 (hok R2 (by simp)).1
      rw [exrs3c0]
      have hz : (r00 == 0) = false := beq_eq_false_iff_ne.2 hpv.1
      rw [hz, cond_false]
      have rg := res_get (hok _ (getD_mem (i := 0) (d := []) (by simp))).2 0
      refine And.intro rg fun s hs => ?_
      cases hs
      have e := stpV_eq (c := 0) hok (by simp)
      have o := stp_ok (c := 0) hok (by simp)
      have pv := hpv.2
      rw [← e] at o
      have hk : ∀ X, X = stp 0 [[r00, r01, r02, r03], [r10, r11, r12, r13], [r20, r21, r22, r23]] → pivF 2 1 X ∧ k (.exit 0) [] [.cells [.own 1 1, .own 2 1, .own 3 1], .row 3 (.ints .i64 ((solF 2 1 X).getD 0 [])), .row 3 (.ints .i64 ((solF 2 1 X).getD 1 [])), .row 3 (.ints .i64 ((solF 2 1 X).getD 2 []))] := fun X hX => by rw [hX]; exact ⟨pv, h⟩
      exact ⟨⟨⟨rfl, o, by decide, by decide, (hk _ e).1⟩, (hk _ e).2⟩, by show ((3 : Int) - 1).toNat < ((3 : Int) - 0).toNat; decide⟩
    · obtain ⟨r00, r01, r02, r03, rfl⟩ := ex_4 (hok R0 (by simp)).1
      obtain ⟨r10, r11, r12, r13, rfl⟩ := ex_4 (hok R1 (by simp)).1
      obtain ⟨r20, r21, r22, r23, rfl⟩ := ex_4 (hok R2 (by simp)).1
      rw [exrs3c1]
      have hz : (r11 == 0) = false := beq_eq_false_iff_ne.2 hpv.1
      rw [hz, cond_false]
      have rg := res_get (hok _ (getD_mem (i := 1) (d := []) (by simp))).2 1
      refine And.intro rg fun s hs => ?_
      cases hs
      have e := stpV_eq (c := 1) hok (by simp)
      have o := stp_ok (c := 1) hok (by simp)
      have pv := hpv.2
      rw [← e] at o
      have hk : ∀ X, X = stp 1 [[r00, r01, r02, r03], [r10, r11, r12, r13], [r20, r21, r22, r23]] → pivF 1 2 X ∧ k (.exit 0) [] [.cells [.own 1 1, .own 2 1, .own 3 1], .row 3 (.ints .i64 ((solF 1 2 X).getD 0 [])), .row 3 (.ints .i64 ((solF 1 2 X).getD 1 [])), .row 3 (.ints .i64 ((solF 1 2 X).getD 2 []))] := fun X hX => by rw [hX]; exact ⟨pv, h⟩
      exact ⟨⟨⟨rfl, o, by decide, by decide, (hk _ e).1⟩, (hk _ e).2⟩, by show ((3 : Int) - 2).toNat < ((3 : Int) - 1).toNat; decide⟩
    · obtain ⟨r00, r01, r02, r03, rfl⟩ := ex_4 (hok R0 (by simp)).1
      obtain ⟨r10, r11, r12, r13, rfl⟩ := ex_4 (hok R1 (by simp)).1
      obtain ⟨r20, r21, r22, r23, rfl⟩ := ex_4 (hok R2 (by simp)).1
      rw [exrs3c2]
      have hz : (r22 == 0) = false := beq_eq_false_iff_ne.2 hpv.1
      rw [hz, cond_false]
      have rg := res_get (hok _ (getD_mem (i := 2) (d := []) (by simp))).2 2
      refine And.intro rg fun s hs => ?_
      cases hs
      have e := stpV_eq (c := 2) hok (by simp)
      have o := stp_ok (c := 2) hok (by simp)
      have pv := hpv.2
      rw [← e] at o
      have hk : ∀ X, X = stp 2 [[r00, r01, r02, r03], [r10, r11, r12, r13], [r20, r21, r22, r23]] → pivF 0 3 X ∧ k (.exit 0) [] [.cells [.own 1 1, .own 2 1, .own 3 1], .row 3 (.ints .i64 ((solF 0 3 X).getD 0 [])), .row 3 (.ints .i64 ((solF 0 3 X).getD 1 [])), .row 3 (.ints .i64 ((solF 0 3 X).getD 2 []))] := fun X hX => by rw [hX]; exact ⟨pv, h⟩
      exact ⟨⟨⟨rfl, o, by decide, by decide, (hk _ e).1⟩, (hk _ e).2⟩, by show ((3 : Int) - 3).toNat < ((3 : Int) - 2).toNat; decide⟩
    · rw [exrs3c3]
      exact h
theorem okrs3 : SpecOK Try.prog 125 rsS3 := by
  refine specOK (n := 136) (m := 4) (lps := [(3, .frm 4 [0, 3, 4] [] rsA3), (6, .unroll 1), (11, .unroll 5), (15, .unroll 4), (19, .unroll 5), (24, .unroll 4)]) (.cons okrin2 (.cons okmodw .nil)) Try.func125 (by kernel_rfl) (by kernel_rfl) (theLoops (n := 6) (by kernel_rfl) fun i hi => ?_) fun args σ K h => ?_
  · match i, hi with
    | 0, _ => exact loopHyp_frm (E' := Ers3F4) (key := 3) (m := 4) (by kernel_rfl) rfl rfl lokrs3_0
    | 1, _ => exact loopHyp_none (key := 6) (n := 1) (by kernel_rfl) rfl
    | 2, _ => exact loopHyp_none (key := 11) (n := 5) (by kernel_rfl) rfl
    | 3, _ => exact loopHyp_none (key := 15) (n := 4) (by kernel_rfl) rfl
    | 4, _ => exact loopHyp_none (key := 19) (n := 5) (by kernel_rfl) rfl
    | 5, _ => exact loopHyp_none (key := 24) (n := 4) (by kernel_rfl) rfl
  unfold rsS3 at h
  split at h
  rotate_right
  · exact h.elim
  rename_i R0 R1 R2
  rw [exrs3 R0 R1 R2 K]
  obtain ⟨⟨hok, hpv⟩, h⟩ := h
  refine And.intro ⟨rfl, hok, by decide, by decide, hpv⟩ ?_
  obtain ⟨hT1, hT2⟩ := solF_ok 3 0 [R0, R1, R2] hok (by simp)
  have e : solV [R0, R1, R2] = (solF 3 0 [R0, R1, R2]).map fun R => R.getD 3 0 := rfl
  rw [e] at h
  generalize solF 3 0 [R0, R1, R2] = T at *
  match T, hT2, hT1, h with
  | [t0, t1, t2], _, hT1, h =>
    have l0 : t0.length = 4 := (hT1 t0 (by simp)).1
    have l1 : t1.length = 4 := (hT1 t1 (by simp)).1
    have l2 : t2.length = 4 := (hT1 t2 (by simp)).1
    refine condI (by simp only [List.getD_cons_zero, List.getD_cons_succ, l0, l1, l2]; decide) (condI (by simp only [List.getD_cons_zero, List.getD_cons_succ, l0, l1, l2]; decide) (condI (by simp only [List.getD_cons_zero, List.getD_cons_succ, l0, l1, l2]; decide) (condI (by simp only [List.getD_cons_zero, List.getD_cons_succ, l0, l1, l2]; decide) (condI (by simp only [List.getD_cons_zero, List.getD_cons_succ, l0, l1, l2]; decide) (condI (by simp only [List.getD_cons_zero, List.getD_cons_succ, l0, l1, l2]; decide) (h t0 t1 t2))))))
theorem lokrs4_0 : LoopOK Ers4F5 (lb Try.f125 0) [0, 3, 4] [] rsA4 := by
  refine loopOK (.cons okrin2 (.cons okmodw .nil)) (fun b' hb => by
    have hl : loopsOf (lb Try.f125 0) = [lb Try.f125 1, lb Try.f125 2, lb Try.f125 3, lb Try.f125 4] := by kernel_rfl
    rw [hl] at hb
    simp only [List.mem_cons, List.not_mem_nil, or_false] at hb
    rcases hb with rfl | rfl | rfl | rfl
    · exact loopHyp_none (key := 6) (n := 1) (by kernel_rfl) rfl
    · exact loopHyp_none (key := 11) (n := 6) (by kernel_rfl) rfl
    · exact loopHyp_none (key := 15) (n := 5) (by kernel_rfl) rfl
    · exact loopHyp_none (key := 19) (n := 6) (by kernel_rfl) rfl) (fun vs σ => match vs, σ with
    | [.one (.own 0 1), .one (.int .i64 n), .one (.int .i64 c)], [.cells [.own 1 1, .own 2 1, .own 3 1, .own 4 1], .row 3 (.ints .i64 _), .row 3 (.ints .i64 _), .row 3 (.ints .i64 _), .row 3 (.ints .i64 _)] => (n - c).toNat
    | _, _ => 0) fun vs σ k h => ?_
  unfold rsA4 at h
  split at h
  rotate_right
  · exact h.elim
  · rename_i n c R0 R1 R2 R3
    obtain ⟨⟨rfl, hok, h1, h2, hpv⟩, h⟩ := h
    have hc : c = 0 ∨ c = 1 ∨ c = 2 ∨ c = 3 ∨ c = 4 := by omega
    rcases hc with rfl | rfl | rfl | rfl | rfl
    · obtain ⟨r00, r01, r02, r03, r04, rfl⟩ := ex_5 (hok R0 (by simp)).1
      obtain ⟨r10, r11, r12, r13, r14, rfl⟩ := ex_5 (hok R1 (by simp)).1
      obtain ⟨r20, r21, r22, r23, r24, rfl⟩ := ex_5 (hok R2 (by simp)).1
      obtain ⟨r30, r31, r32, r33, r34, rfl⟩ := ex_5 (hok R3 (by simp)).1
      rw [exrs4c0]
      have hz : (r00 == 0) = false := beq_eq_false_iff_ne.2 hpv.1
      rw [hz, cond_false]
      have rg := res_get (hok _ (getD_mem (i := 0) (d := []) (by simp))).2 0
      refine And.intro rg fun s hs => ?_
      cases hs
      have e := stpV_eq (c := 0) hok (by simp)
      have o := stp_ok (c := 0) hok (by simp)
      have pv := hpv.2
      rw [← e] at o
      have hk : ∀ X, X = stp 0 [[r00, r01, r02, r03, r04], [r10, r11, r12, r13, r14], [r20, r21, r22, r23, r24], [r30, r31, r32, r33, r34]] → pivF 3 1 X ∧ k (.exit 0) [] [.cells [.own 1 1, .own 2 1, .own 3 1, .own 4 1], .row 3 (.ints .i64 ((solF 3 1 X).getD 0 [])), .row 3 (.ints .i64 ((solF 3 1 X).getD 1 [])), .row 3 (.ints .i64 ((solF 3 1 X).getD 2 [])), .row 3 (.ints .i64 ((solF 3 1 X).getD 3 []))] := fun X hX => by rw [hX]; exact ⟨pv, h⟩
      exact ⟨⟨⟨rfl, o, by decide, by decide, (hk _ e).1⟩, (hk _ e).2⟩, by show ((4 : Int) - 1).toNat < ((4 : Int) - 0).toNat; decide⟩
    · obtain ⟨r00, r01, r02, r03, r04, rfl⟩ := ex_5 (hok R0 (by simp)).1
      obtain ⟨r10, r11, r12, r13, r14, rfl⟩ := ex_5 (hok R1 (by simp)).1
      obtain ⟨r20, r21, r22, r23, r24, rfl⟩ := ex_5 (hok R2 (by simp)).1
      obtain ⟨r30, r31, r32, r33, r34, rfl⟩ := ex_5 (hok R3 (by simp)).1
      rw [exrs4c1]
      have hz : (r11 == 0) = false := beq_eq_false_iff_ne.2 hpv.1
      rw [hz, cond_false]
      have rg := res_get (hok _ (getD_mem (i := 1) (d := []) (by simp))).2 1
      refine And.intro rg fun s hs => ?_
      cases hs
      have e := stpV_eq (c := 1) hok (by simp)
      have o := stp_ok (c := 1) hok (by simp)
      have pv := hpv.2
      rw [← e] at o
      have hk : ∀ X, X = stp 1 [[r00, r01, r02, r03, r04], [r10, r11, r12, r13, r14], [r20, r21, r22, r23, r24], [r30, r31, r32, r33, r34]] → pivF 2 2 X ∧ k (.exit 0) [] [.cells [.own 1 1, .own 2 1, .own 3 1, .own 4 1], .row 3 (.ints .i64 ((solF 2 2 X).getD 0 [])), .row 3 (.ints .i64 ((solF 2 2 X).getD 1 [])), .row 3 (.ints .i64 ((solF 2 2 X).getD 2 [])), .row 3 (.ints .i64 ((solF 2 2 X).getD 3 []))] := fun X hX => by rw [hX]; exact ⟨pv, h⟩
      exact ⟨⟨⟨rfl, o, by decide, by decide, (hk _ e).1⟩, (hk _ e).2⟩, by show ((4 : Int) - 2).toNat < ((4 : Int) - 1).toNat; decide⟩
    · obtain ⟨r00, r01, r02, r03, r04, rfl⟩ := ex_5 (hok R0 (by simp)).1
      obtain ⟨r10, r11, r12, r13, r14, rfl⟩ := ex_5 (hok R1 (by simp)).1
      obtain ⟨r20, r21, r22, r23, r24, rfl⟩ := ex_5 (hok R2 (by simp)).1
      obtain ⟨r30, r31, r32, r33, r34, rfl⟩ := ex_5 (hok R3 (by simp)).1
      rw [exrs4c2]
      have hz : (r22 == 0) = false := beq_eq_false_iff_ne.2 hpv.1
      rw [hz, cond_false]
      have rg := res_get (hok _ (getD_mem (i := 2) (d := []) (by simp))).2 2
      refine And.intro rg fun s hs => ?_
      cases hs
      have e := stpV_eq (c := 2) hok (by simp)
      have o := stp_ok (c := 2) hok (by simp)
      have pv := hpv.2
      rw [← e] at o
      have hk : ∀ X, X = stp 2 [[r00, r01, r02, r03, r04], [r10, r11, r12, r13, r14], [r20, r21, r22, r23, r24], [r30, r31, r32, r33, r34]] → pivF 1 3 X ∧ k (.exit 0) [] [.cells [.own 1 1, .own 2 1, .own 3 1, .own 4 1], .row 3 (.ints .i64 ((solF 1 3 X).getD 0 [])), .row 3 (.ints .i64 ((solF 1 3 X).getD 1 [])), .row 3 (.ints .i64 ((solF 1 3 X).getD 2 [])), .row 3 (.ints .i64 ((solF 1 3 X).getD 3 []))] := fun X hX => by rw [hX]; exact ⟨pv, h⟩
      exact ⟨⟨⟨rfl, o, by decide, by decide, (hk _ e).1⟩, (hk _ e).2⟩, by show ((4 : Int) - 3).toNat < ((4 : Int) - 2).toNat; decide⟩
    · obtain ⟨r00, r01, r02, r03, r04, rfl⟩ := ex_5 (hok R0 (by simp)).1
      obtain ⟨r10, r11, r12, r13, r14, rfl⟩ := ex_5 (hok R1 (by simp)).1
      obtain ⟨r20, r21, r22, r23, r24, rfl⟩ := ex_5 (hok R2 (by simp)).1
      obtain ⟨r30, r31, r32, r33, r34, rfl⟩ := ex_5 (hok R3 (by simp)).1
      rw [exrs4c3]
      have hz : (r33 == 0) = false := beq_eq_false_iff_ne.2 hpv.1
      rw [hz, cond_false]
      have rg := res_get (hok _ (getD_mem (i := 3) (d := []) (by simp))).2 3
      refine And.intro rg fun s hs => ?_
      cases hs
      have e := stpV_eq (c := 3) hok (by simp)
      have o := stp_ok (c := 3) hok (by simp)
      have pv := hpv.2
      rw [← e] at o
      have hk : ∀ X, X = stp 3 [[r00, r01, r02, r03, r04], [r10, r11, r12, r13, r14], [r20, r21, r22, r23, r24], [r30, r31, r32, r33, r34]] → pivF 0 4 X ∧ k (.exit 0) [] [.cells [.own 1 1, .own 2 1, .own 3 1, .own 4 1], .row 3 (.ints .i64 ((solF 0 4 X).getD 0 [])), .row 3 (.ints .i64 ((solF 0 4 X).getD 1 [])), .row 3 (.ints .i64 ((solF 0 4 X).getD 2 [])), .row 3 (.ints .i64 ((solF 0 4 X).getD 3 []))] := fun X hX => by rw [hX]; exact ⟨pv, h⟩
      exact ⟨⟨⟨rfl, o, by decide, by decide, (hk _ e).1⟩, (hk _ e).2⟩, by show ((4 : Int) - 4).toNat < ((4 : Int) - 3).toNat; decide⟩
    · rw [exrs4c4]
      exact h
theorem okrs4 : SpecOK Try.prog 125 rsS4 := by
  refine specOK (n := 136) (m := 5) (lps := [(3, .frm 5 [0, 3, 4] [] rsA4), (6, .unroll 1), (11, .unroll 6), (15, .unroll 5), (19, .unroll 6), (24, .unroll 5)]) (.cons okrin2 (.cons okmodw .nil)) Try.func125 (by kernel_rfl) (by kernel_rfl) (theLoops (n := 6) (by kernel_rfl) fun i hi => ?_) fun args σ K h => ?_
  · match i, hi with
    | 0, _ => exact loopHyp_frm (E' := Ers4F5) (key := 3) (m := 5) (by kernel_rfl) rfl rfl lokrs4_0
    | 1, _ => exact loopHyp_none (key := 6) (n := 1) (by kernel_rfl) rfl
    | 2, _ => exact loopHyp_none (key := 11) (n := 6) (by kernel_rfl) rfl
    | 3, _ => exact loopHyp_none (key := 15) (n := 5) (by kernel_rfl) rfl
    | 4, _ => exact loopHyp_none (key := 19) (n := 6) (by kernel_rfl) rfl
    | 5, _ => exact loopHyp_none (key := 24) (n := 5) (by kernel_rfl) rfl
  unfold rsS4 at h
  split at h
  rotate_right
  · exact h.elim
  rename_i R0 R1 R2 R3
  rw [exrs4 R0 R1 R2 R3 K]
  obtain ⟨⟨hok, hpv⟩, h⟩ := h
  refine And.intro ⟨rfl, hok, by decide, by decide, hpv⟩ ?_
  obtain ⟨hT1, hT2⟩ := solF_ok 4 0 [R0, R1, R2, R3] hok (by simp)
  have e : solV [R0, R1, R2, R3] = (solF 4 0 [R0, R1, R2, R3]).map fun R => R.getD 4 0 := rfl
  rw [e] at h
  generalize solF 4 0 [R0, R1, R2, R3] = T at *
  match T, hT2, hT1, h with
  | [t0, t1, t2, t3], _, hT1, h =>
    have l0 : t0.length = 5 := (hT1 t0 (by simp)).1
    have l1 : t1.length = 5 := (hT1 t1 (by simp)).1
    have l2 : t2.length = 5 := (hT1 t2 (by simp)).1
    have l3 : t3.length = 5 := (hT1 t3 (by simp)).1
    refine condI (by simp only [List.getD_cons_zero, List.getD_cons_succ, l0, l1, l2, l3]; decide) (condI (by simp only [List.getD_cons_zero, List.getD_cons_succ, l0, l1, l2, l3]; decide) (condI (by simp only [List.getD_cons_zero, List.getD_cons_succ, l0, l1, l2, l3]; decide) (condI (by simp only [List.getD_cons_zero, List.getD_cons_succ, l0, l1, l2, l3]; decide) (condI (by simp only [List.getD_cons_zero, List.getD_cons_succ, l0, l1, l2, l3]; decide) (condI (by simp only [List.getD_cons_zero, List.getD_cons_succ, l0, l1, l2, l3]; decide) (condI (by simp only [List.getD_cons_zero, List.getD_cons_succ, l0, l1, l2, l3]; decide) (condI (by simp only [List.getD_cons_zero, List.getD_cons_succ, l0, l1, l2, l3]; decide) (h t0 t1 t2 t3))))))))
end Go.Ev
