/-
  Part of the proof of a law: what bodies come to on abstract values (printed by program).
-/
import Derived.Test.YtlejemnljojpgaaC1B
import Derived.KernelRfl
namespace Go.Ev
open Go Go.Proofs
set_option maxRecDepth 100000
theorem ex73 (s : List UInt8) (K : AV → List Blk → Prop) : evFn E73 Try.f73 [.one (.str s)] [] K = (
  bif decide ((↑s.length : Int) < (1 : Int)) then K (AV.one (SV.bool false)) []
  else
    bif decide ((↑s.length : Int) > (12 : Int)) then K (AV.one (SV.bool false)) []
    else
      (s.length ≤ (1000000 : Nat) ∧ (0 : Int) ≤ (0 : Int)) ∧
        bif charsG (0 : Int) (List.drop (0 : Nat) (bytesG s)) then K (AV.one (SV.bool true)) []
        else K (AV.one (SV.bool false)) []) := by kernel_rfl
theorem ex73a (s : List UInt8) (i : Int) (K : Ex → List AV → List Blk → Prop) : evBody E73 (lb Try.f73 0) [0, 3] [2] [.one (.str s), .one (.int .i64 i)] [] K = (
  bif decide (i < (↑s.length : Int)) then
    bif decide ((0 : Int) ≤ i) && decide (i.toNat < s.length) then
      bif decide ((↑(s.getD i.toNat (0 : UInt8)).toNat : Int) ≥ (97 : Int)) then
        bif decide ((↑(s.getD i.toNat (0 : UInt8)).toNat : Int) ≤ (122 : Int)) then
          K Ex.normal [AV.one (SV.str s), AV.one (SV.int IntKind.i64 (IntKind.i64.wrap (i + (1 : Int))))] []
        else
          bif decide ((↑(s.getD i.toNat (0 : UInt8)).toNat : Int) ≥ (65 : Int)) then
            bif !decide ((↑(s.getD i.toNat (0 : UInt8)).toNat : Int) ≤ (90 : Int)) then
              bif i == (0 : Int) then K Ex.ret [AV.one (SV.bool false)] []
              else
                bif (↑(s.getD i.toNat (0 : UInt8)).toNat : Int) != (45 : Int) then
                  bif decide ((↑(s.getD i.toNat (0 : UInt8)).toNat : Int) < (48 : Int)) then
                    K Ex.ret [AV.one (SV.bool false)] []
                  else
                    bif decide ((↑(s.getD i.toNat (0 : UInt8)).toNat : Int) > (57 : Int)) then
                      K Ex.ret [AV.one (SV.bool false)] []
                    else
                      K Ex.normal [AV.one (SV.str s), AV.one (SV.int IntKind.i64 (IntKind.i64.wrap (i + (1 : Int))))] []
                else K Ex.normal [AV.one (SV.str s), AV.one (SV.int IntKind.i64 (IntKind.i64.wrap (i + (1 : Int))))] []
            else K Ex.normal [AV.one (SV.str s), AV.one (SV.int IntKind.i64 (IntKind.i64.wrap (i + (1 : Int))))] []
          else
            bif i == (0 : Int) then K Ex.ret [AV.one (SV.bool false)] []
            else
              bif (↑(s.getD i.toNat (0 : UInt8)).toNat : Int) != (45 : Int) then
                bif decide ((↑(s.getD i.toNat (0 : UInt8)).toNat : Int) < (48 : Int)) then
                  K Ex.ret [AV.one (SV.bool false)] []
                else
                  bif decide ((↑(s.getD i.toNat (0 : UInt8)).toNat : Int) > (57 : Int)) then
                    K Ex.ret [AV.one (SV.bool false)] []
                  else K Ex.normal [AV.one (SV.str s), AV.one (SV.int IntKind.i64 (IntKind.i64.wrap (i + (1 : Int))))] []
              else K Ex.normal [AV.one (SV.str s), AV.one (SV.int IntKind.i64 (IntKind.i64.wrap (i + (1 : Int))))] []
      else
        bif decide ((↑(s.getD i.toNat (0 : UInt8)).toNat : Int) ≥ (65 : Int)) then
          bif !decide ((↑(s.getD i.toNat (0 : UInt8)).toNat : Int) ≤ (90 : Int)) then
            bif i == (0 : Int) then K Ex.ret [AV.one (SV.bool false)] []
            else
              bif (↑(s.getD i.toNat (0 : UInt8)).toNat : Int) != (45 : Int) then
                bif decide ((↑(s.getD i.toNat (0 : UInt8)).toNat : Int) < (48 : Int)) then
                  K Ex.ret [AV.one (SV.bool false)] []
                else
                  bif decide ((↑(s.getD i.toNat (0 : UInt8)).toNat : Int) > (57 : Int)) then
                    K Ex.ret [AV.one (SV.bool false)] []
                  else K Ex.normal [AV.one (SV.str s), AV.one (SV.int IntKind.i64 (IntKind.i64.wrap (i + (1 : Int))))] []
              else K Ex.normal [AV.one (SV.str s), AV.one (SV.int IntKind.i64 (IntKind.i64.wrap (i + (1 : Int))))] []
          else K Ex.normal [AV.one (SV.str s), AV.one (SV.int IntKind.i64 (IntKind.i64.wrap (i + (1 : Int))))] []
        else
          bif i == (0 : Int) then K Ex.ret [AV.one (SV.bool false)] []
          else
            bif (↑(s.getD i.toNat (0 : UInt8)).toNat : Int) != (45 : Int) then
              bif decide ((↑(s.getD i.toNat (0 : UInt8)).toNat : Int) < (48 : Int)) then
                K Ex.ret [AV.one (SV.bool false)] []
              else
                bif decide ((↑(s.getD i.toNat (0 : UInt8)).toNat : Int) > (57 : Int)) then
                  K Ex.ret [AV.one (SV.bool false)] []
                else K Ex.normal [AV.one (SV.str s), AV.one (SV.int IntKind.i64 (IntKind.i64.wrap (i + (1 : Int))))] []
            else K Ex.normal [AV.one (SV.str s), AV.one (SV.int IntKind.i64 (IntKind.i64.wrap (i + (1 : Int))))] []
    else False
  else K (Ex.exit (0 : Nat)) [AV.any] []) := by kernel_rfl
theorem ex75 (s : List UInt8) (K : AV → List Blk → Prop) : evFn E75 Try.f75 [.one (.str s)] [] K = (
  bif decide (s.length ≤ (140737488355328 : Nat)) then
    ((List.map (fun b => (↑b.toNat : Int)) s).length ≤ (1000000 : Nat) ∧
        (0 : Int) ≤ (0 : Int) ∧
          (↑(Row.ints IntKind.u8 (List.map (fun b => (↑b.toNat : Int)) s)).count : Int) =
            (↑(List.map (fun b => (↑b.toNat : Int)) s).length : Int)) ∧
      bif charsG (0 : Int) (List.drop (0 : Nat) (List.map (fun b => (↑b.toNat : Int)) s)) then
        bif !s == [] then K (AV.one (SV.bool (decide ((↑s.length : Int) ≤ (12 : Int))))) []
        else K (AV.one (SV.bool false)) []
      else K (AV.one (SV.bool false)) []
  else False) := by kernel_rfl
theorem ex75a (s : List UInt8) (l : List Int) (n i : Int) (K : Ex → List AV → List Blk → Prop) : evBody E75 (lb Try.f75 0) [0, 7, 8, 9] [0, 2] [.one (.str s), .one (.data (.ints .u8 l)), .one (.int .i64 n), .one (.int .i64 i)] [] K = (
  bif decide (i < n) then
    bif decide ((0 : Int) ≤ i) && decide (i < (↑(Row.ints IntKind.u8 l).count : Int)) then
      bif (Row.ints IntKind.u8 l).hasN i.toNat (0 : Nat) (1 : Nat) then
        bif decide (l.getD (i.toNat + ((0 : Nat) + nat_lit 0)) (0 : Int) ≥ (97 : Int)) then
          bif decide (l.getD (i.toNat + ((0 : Nat) + nat_lit 0)) (0 : Int) ≤ (122 : Int)) then
            K Ex.normal
              [AV.one (SV.str s), AV.one (SV.data (Row.ints IntKind.u8 l)), AV.one (SV.int IntKind.i64 n),
                AV.one (SV.int IntKind.i64 (IntKind.i64.wrap (i + (1 : Int))))]
              []
          else
            bif decide (l.getD (i.toNat + ((0 : Nat) + nat_lit 0)) (0 : Int) ≥ (65 : Int)) then
              bif !decide (l.getD (i.toNat + ((0 : Nat) + nat_lit 0)) (0 : Int) ≤ (90 : Int)) then
                bif i == (0 : Int) then K Ex.ret [AV.one (SV.str s), AV.one (SV.bool false)] []
                else
                  bif l.getD (i.toNat + (0 : Nat)) (0 : Int) != (45 : Int) then
                    bif decide (l.getD (i.toNat + ((0 : Nat) + nat_lit 0)) (0 : Int) < (48 : Int)) then
                      K Ex.ret [AV.one (SV.str s), AV.one (SV.bool false)] []
                    else
                      bif decide (l.getD (i.toNat + ((0 : Nat) + nat_lit 0)) (0 : Int) > (57 : Int)) then
                        K Ex.ret [AV.one (SV.str s), AV.one (SV.bool false)] []
                      else
                        K Ex.normal
                          [AV.one (SV.str s), AV.one (SV.data (Row.ints IntKind.u8 l)), AV.one (SV.int IntKind.i64 n),
                            AV.one (SV.int IntKind.i64 (IntKind.i64.wrap (i + (1 : Int))))]
                          []
                  else
                    K Ex.normal
                      [AV.one (SV.str s), AV.one (SV.data (Row.ints IntKind.u8 l)), AV.one (SV.int IntKind.i64 n),
                        AV.one (SV.int IntKind.i64 (IntKind.i64.wrap (i + (1 : Int))))]
                      []
              else
                K Ex.normal
                  [AV.one (SV.str s), AV.one (SV.data (Row.ints IntKind.u8 l)), AV.one (SV.int IntKind.i64 n),
                    AV.one (SV.int IntKind.i64 (IntKind.i64.wrap (i + (1 : Int))))]
                  []
            else
              bif i == (0 : Int) then K Ex.ret [AV.one (SV.str s), AV.one (SV.bool false)] []
              else
                bif l.getD (i.toNat + (0 : Nat)) (0 : Int) != (45 : Int) then
                  bif decide (l.getD (i.toNat + ((0 : Nat) + nat_lit 0)) (0 : Int) < (48 : Int)) then
                    K Ex.ret [AV.one (SV.str s), AV.one (SV.bool false)] []
                  else
                    bif decide (l.getD (i.toNat + ((0 : Nat) + nat_lit 0)) (0 : Int) > (57 : Int)) then
                      K Ex.ret [AV.one (SV.str s), AV.one (SV.bool false)] []
                    else
                      K Ex.normal
                        [AV.one (SV.str s), AV.one (SV.data (Row.ints IntKind.u8 l)), AV.one (SV.int IntKind.i64 n),
                          AV.one (SV.int IntKind.i64 (IntKind.i64.wrap (i + (1 : Int))))]
                        []
                else
                  K Ex.normal
                    [AV.one (SV.str s), AV.one (SV.data (Row.ints IntKind.u8 l)), AV.one (SV.int IntKind.i64 n),
                      AV.one (SV.int IntKind.i64 (IntKind.i64.wrap (i + (1 : Int))))]
                    []
        else
          bif decide (l.getD (i.toNat + ((0 : Nat) + nat_lit 0)) (0 : Int) ≥ (65 : Int)) then
            bif !decide (l.getD (i.toNat + ((0 : Nat) + nat_lit 0)) (0 : Int) ≤ (90 : Int)) then
              bif i == (0 : Int) then K Ex.ret [AV.one (SV.str s), AV.one (SV.bool false)] []
              else
                bif l.getD (i.toNat + (0 : Nat)) (0 : Int) != (45 : Int) then
                  bif decide (l.getD (i.toNat + ((0 : Nat) + nat_lit 0)) (0 : Int) < (48 : Int)) then
                    K Ex.ret [AV.one (SV.str s), AV.one (SV.bool false)] []
                  else
                    bif decide (l.getD (i.toNat + ((0 : Nat) + nat_lit 0)) (0 : Int) > (57 : Int)) then
                      K Ex.ret [AV.one (SV.str s), AV.one (SV.bool false)] []
                    else
                      K Ex.normal
                        [AV.one (SV.str s), AV.one (SV.data (Row.ints IntKind.u8 l)), AV.one (SV.int IntKind.i64 n),
                          AV.one (SV.int IntKind.i64 (IntKind.i64.wrap (i + (1 : Int))))]
                        []
                else
                  K Ex.normal
                    [AV.one (SV.str s), AV.one (SV.data (Row.ints IntKind.u8 l)), AV.one (SV.int IntKind.i64 n),
                      AV.one (SV.int IntKind.i64 (IntKind.i64.wrap (i + (1 : Int))))]
                    []
            else
              K Ex.normal
                [AV.one (SV.str s), AV.one (SV.data (Row.ints IntKind.u8 l)), AV.one (SV.int IntKind.i64 n),
                  AV.one (SV.int IntKind.i64 (IntKind.i64.wrap (i + (1 : Int))))]
                []
          else
            bif i == (0 : Int) then K Ex.ret [AV.one (SV.str s), AV.one (SV.bool false)] []
            else
              bif l.getD (i.toNat + (0 : Nat)) (0 : Int) != (45 : Int) then
                bif decide (l.getD (i.toNat + ((0 : Nat) + nat_lit 0)) (0 : Int) < (48 : Int)) then
                  K Ex.ret [AV.one (SV.str s), AV.one (SV.bool false)] []
                else
                  bif decide (l.getD (i.toNat + ((0 : Nat) + nat_lit 0)) (0 : Int) > (57 : Int)) then
                    K Ex.ret [AV.one (SV.str s), AV.one (SV.bool false)] []
                  else
                    K Ex.normal
                      [AV.one (SV.str s), AV.one (SV.data (Row.ints IntKind.u8 l)), AV.one (SV.int IntKind.i64 n),
                        AV.one (SV.int IntKind.i64 (IntKind.i64.wrap (i + (1 : Int))))]
                      []
              else
                K Ex.normal
                  [AV.one (SV.str s), AV.one (SV.data (Row.ints IntKind.u8 l)), AV.one (SV.int IntKind.i64 n),
                    AV.one (SV.int IntKind.i64 (IntKind.i64.wrap (i + (1 : Int))))]
                  []
      else False
    else False
  else K (Ex.exit (0 : Nat)) [AV.one (SV.str s), AV.any] []) := by kernel_rfl
theorem ex25 (n lo hi : Int) (K : AV → List Blk → Prop) : evFn E25 Try.f25 [.one (.int .i64 n), .one (.int .i64 lo), .one (.int .i64 hi)] [] K = (
  bif decide (lo ≤ n) then K (AV.one (SV.bool (decide (n ≤ hi)))) [] else K (AV.one (SV.bool false)) []) := by kernel_rfl
theorem ex137 (a : Int) (K : AV → List Blk → Prop) : evFn E137 Try.f137 [.one (.int .i64 a)] [] K = (
  K (AV.one (SV.int IntKind.i64 (if IntKind.i64.wrap ((0 : Int) - a) > a then IntKind.i64.wrap ((0 : Int) - a) else a)))
    []) := by kernel_rfl
theorem ex126 (a b : Int) (K : AV → List Blk → Prop) : evFn E126 Try.f126 [.one (.int .i64 a), .one (.int .i64 b)] [] K = (
  K (AV.one (SV.int IntKind.i64 (sizeG (gcdG a b)))) []) := by kernel_rfl
theorem ex126a (a b : Int) (K : Ex → List AV → List Blk → Prop) : evBody E126 (lb Try.f126 0) [0, 1] [0] [.one (.int .i64 a), .one (.int .i64 b)] [] K = (
  bif b != (0 : Int) then
    bif !decide (b = (0 : Int)) then
      K Ex.normal [AV.one (SV.int IntKind.i64 b), AV.one (SV.int IntKind.i64 (a.tmod b))] []
    else False
  else K (Ex.exit (0 : Nat)) [AV.one (SV.int IntKind.i64 a)] []) := by kernel_rfl
end Go.Ev
