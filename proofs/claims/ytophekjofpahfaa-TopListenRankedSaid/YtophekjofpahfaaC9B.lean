/-
  Part of the proof of a law.
-/
import Derived.Test.YtophekjofpahfaaC9A
set_option linter.unusedVariables false
set_option linter.unusedSimpArgs false
set_option linter.unusedSectionVars false
/-
  Chapter 9, contracts: meters, energies, gates.
-/
namespace Go.Ev
open Go Go.Proofs
set_option maxRecDepth 20000
def sigE (x : List Int) : Int := bif decide ((x.length : Int) ≤ 200) then (bif x.all sampleG then 0 else 2) else 8
def meterG (len hop gate pct : Int) : Bool := withinG len 1 50 && (withinG hop 1 len && (withinG gate 0 1073676289 && withinG pct 0 100))
def sqs : List Int → Int
  | [] => 0
  | a :: l => a * a + sqs l
def partG (x : List Int) (at_ len : Int) : List Int := (x.drop at_.toNat).take len.toNat
def enG (len hop : Int) (x : List Int) (at_ : Int) : List Int := if at_ + len ≤ x.length ∧ 1 ≤ hop ∧ 1 ≤ len then sqs (partG x at_ len) :: enG len hop x (at_ + hop) else []
termination_by ((x.length : Int) + 1 - at_).toNat
decreasing_by omega
def passG (len gate e : Int) : Bool := decide (e ≥ gate * len)
def cntG (len gate : Int) : List Int → Int
  | [] => 0
  | e :: l => (bif passG len gate e then 1 else 0) + cntG len gate l
def smG (len gate : Int) : List Int → Int
  | [] => 0
  | e :: l => (bif passG len gate e then e else 0) + smG len gate l
def keepG (len gate pct cnt sm e : Int) : Bool := passG len gate e && decide (e * 100 * cnt ≥ pct * sm)
def gatI (len gate pct cnt sm : Int) : Int → List Int → List Int
  | _, [] => []
  | i, e :: l => bif keepG len gate pct cnt sm e then i :: gatI len gate pct cnt sm (i + 1) l else gatI len gate pct cnt sm (i + 1) l
def gatG (len gate pct : Int) (bs : List Int) : List Int := gatI len gate pct (cntG len gate bs) (smG len gate bs) 0 bs
end Go.Ev
