/-
  Part of the proof of a law: what bodies come to on abstract values (printed by program).
-/
import Derived.Test.YtlejemnljojpgaaC1H
import Derived.KernelRfl
namespace Go.Ev
open Go Go.Proofs
set_option maxRecDepth 100000
theorem ex15 (K : AV → List Blk → Prop) : evFn E15 Try.f15 [] [] K = (
  (2 : Nat) ≤ (1000000 : Nat) ∧ (100 : Int) ≠ (0 : Int) ∧ (24 : Nat) ≤ (1000000000 : Nat) ∧ K (AV.one (SV.bool true)) []) := by kernel_rfl
theorem ex3 (nm : List UInt8) (k s n d rate : Int) (K : AV → List Blk → Prop) : evFn E3 Try.f3 [.agg [.str nm, .int .i64 k, .int .i64 s, .int .i64 n, .int .i64 d], .one (.int .i64 rate)] [] K = (
  bif decide ((↑nm.length : Int) > (20 : Int)) then K (AV.one (SV.bool true)) []
  else
    nm.length ≤ (1000000 : Nat) ∧
      bif turnE nm k s n d rate != (0 : Int) then
        nm.length ≤ (1000000 : Nat) ∧
          nm.length ≤ (1000000 : Nat) ∧
            bif carrierG nm k s n d != carrierG nm k s n d then K (AV.one (SV.bool false)) []
            else
              bif carrierG nm k s n d == (0 : Int) then
                bif k == (2 : Int) then
                  bif turnE nm k s n d rate == (15 : Int) then K (AV.one (SV.bool true)) []
                  else K (AV.one (SV.bool false)) []
                else
                  bif !withinG rate (1 : Int) (200000 : Int) then
                    bif turnE nm k s n d rate == (2 : Int) then K (AV.one (SV.bool true)) []
                    else K (AV.one (SV.bool false)) []
                  else
                    divG (rateG rate d) n ≠ (0 : Int) ∧
                      bif
                          smallG (wi ((rateG rate d).tdiv (divG (rateG rate d) n)))
                            (wi (n.tdiv (divG (rateG rate d) n))) then
                        bif turnE nm k s n d rate == (0 : Int) then
                          K
                            (AV.one
                              (SV.bool
                                ((0 : Int) == wi ((rateG rate d).tdiv (divG (rateG rate d) n)) &&
                                  (0 : Int) == wi (n.tdiv (divG (rateG rate d) n)))))
                            []
                        else K (AV.one (SV.bool false)) []
                      else
                        bif turnE nm k s n d rate == (8 : Int) then K (AV.one (SV.bool true)) []
                        else K (AV.one (SV.bool false)) []
              else
                bif turnE nm k s n d rate == carrierG nm k s n d then K (AV.one (SV.bool true)) []
                else K (AV.one (SV.bool false)) []
      else
        sizeG (gcdG (rateG rate d) n) ≠ (0 : Int) ∧
          bif
              decide (wi ((rateG rate d).tdiv (sizeG (gcdG (rateG rate d) n))) > (1000000000 : Int)) ||
                decide (wi (n.tdiv (sizeG (gcdG (rateG rate d) n))) > (1000000000 : Int)) then
            nm.length ≤ (1000000 : Nat) ∧
              nm.length ≤ (1000000 : Nat) ∧
                bif carrierG nm k s n d != carrierG nm k s n d then K (AV.one (SV.bool false)) []
                else
                  bif carrierG nm k s n d == (0 : Int) then
                    bif k == (2 : Int) then K (AV.one (SV.bool false)) []
                    else
                      bif !withinG rate (1 : Int) (200000 : Int) then K (AV.one (SV.bool false)) []
                      else
                        divG (rateG rate d) n ≠ (0 : Int) ∧
                          bif
                              smallG (wi ((rateG rate d).tdiv (divG (rateG rate d) n)))
                                (wi (n.tdiv (divG (rateG rate d) n))) then
                            K (AV.one (SV.bool false)) []
                          else K (AV.one (SV.bool true)) []
                  else
                    bif (8 : Int) == carrierG nm k s n d then K (AV.one (SV.bool true)) []
                    else K (AV.one (SV.bool false)) []
          else
            nm.length ≤ (1000000 : Nat) ∧
              nm.length ≤ (1000000 : Nat) ∧
                bif carrierG nm k s n d != carrierG nm k s n d then K (AV.one (SV.bool false)) []
                else
                  bif carrierG nm k s n d == (0 : Int) then
                    bif k == (2 : Int) then K (AV.one (SV.bool false)) []
                    else
                      bif !withinG rate (1 : Int) (200000 : Int) then K (AV.one (SV.bool false)) []
                      else
                        divG (rateG rate d) n ≠ (0 : Int) ∧
                          bif
                              smallG (wi ((rateG rate d).tdiv (divG (rateG rate d) n)))
                                (wi (n.tdiv (divG (rateG rate d) n))) then
                            K
                              (AV.one
                                (SV.bool
                                  (wi ((rateG rate d).tdiv (sizeG (gcdG (rateG rate d) n))) ==
                                      wi ((rateG rate d).tdiv (divG (rateG rate d) n)) &&
                                    wi (n.tdiv (sizeG (gcdG (rateG rate d) n))) == wi (n.tdiv (divG (rateG rate d) n)))))
                              []
                          else K (AV.one (SV.bool false)) []
                  else
                    bif (0 : Int) == carrierG nm k s n d then
                      K
                        (AV.one
                          (SV.bool
                            (wi ((rateG rate d).tdiv (sizeG (gcdG (rateG rate d) n))) == (0 : Int) &&
                              wi (n.tdiv (sizeG (gcdG (rateG rate d) n))) == (0 : Int))))
                        []
                    else K (AV.one (SV.bool false)) []) := by kernel_rfl
end Go.Ev
