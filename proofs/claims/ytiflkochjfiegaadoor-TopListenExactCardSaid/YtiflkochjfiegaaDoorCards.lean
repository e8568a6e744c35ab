/-
  DERIVED. GIVEN WITH THE SEED: THE CARDS: each row of YtiflkochjfiegaaDoorRows.lean that lists a variable, with what it lists TIED to the program's text (the seventh form; the later family's looks); each row that meets fmt, with fmt's text TOLD by the authors' own Lean function (tested against real Go, not proved from fmt's source: count such statements apart). THE CARD IS WHAT COUNTS. Prove the row's statement (the work); the ties are given (YtiflkochjfiegaaDoorTie.lean); close each card by the builder's one call (the guide's Derived/Test/ToyasCard.lean, 'card_holds'). Laid BY PROGRAM, IN A SANDBOX (cutbox-door.mjs). By AI agents, Wed Nov 11 2026. No macro, syntax, notation, axiom, sorry.
-/
import Derived.Test.YtiflkochjfiegaaDoorRows
import GoSem.ClaimSeven
namespace Go.Proofs.YtiflkochjfiegaaDoor
namespace Rows

/-- THE TIED CARD OF 'lacquerlaw09.ListenLoudness'. -/
def listenLoudnessCard : Claim7 := { stood := { row := listenLoudnessRow, standIns := [], harness := (true, "c73636dd90bb1235d6fec1f6f02343f1d38ce27153c58d0577484aa9e21c5f63"), looks := false }, kinds := [], alts := [], laidByText := true, laidKinds := [.data], laidTests := true, laidLooks := .later }
def ListenLoudnessCardSaid : Prop := Claim7.holds Tryd.pinned (.plain (OpenSpec.ofChange listenLoudnessSpec)) listenLoudnessCard

/-- THE TIED CARD OF 'lacquerlaw09.ListenGates'. -/
def listenGatesCard : Claim7 := { stood := { row := listenGatesRow, standIns := [], harness := (true, "c73636dd90bb1235d6fec1f6f02343f1d38ce27153c58d0577484aa9e21c5f63"), looks := false }, kinds := [], alts := [], laidByText := true, laidKinds := [.data], laidTests := true, laidLooks := .later }
def ListenGatesCardSaid : Prop := Claim7.holds Tryd.pinned (.plain (OpenSpec.ofChange listenGatesSpec)) listenGatesCard

/-- THE TIED CARD OF 'lacquerlaw09.ListenPeaks'. -/
def listenPeaksCard : Claim7 := { stood := { row := listenPeaksRow, standIns := [], harness := (true, "c73636dd90bb1235d6fec1f6f02343f1d38ce27153c58d0577484aa9e21c5f63"), looks := false }, kinds := [], alts := [], laidByText := true, laidKinds := [.data], laidTests := true, laidLooks := .later }
def ListenPeaksCardSaid : Prop := Claim7.holds Tryd.pinned (.plain (OpenSpec.ofChange listenPeaksSpec)) listenPeaksCard

/-- THE TIED CARD OF 'lacquerlaw09.ListenTails'. -/
def listenTailsCard : Claim7 := { stood := { row := listenTailsRow, standIns := [], harness := (true, "c73636dd90bb1235d6fec1f6f02343f1d38ce27153c58d0577484aa9e21c5f63"), looks := false }, kinds := [], alts := [], laidByText := true, laidKinds := [.data], laidTests := true, laidLooks := .later }
def ListenTailsCardSaid : Prop := Claim7.holds Tryd.pinned (.plain (OpenSpec.ofChange listenTailsSpec)) listenTailsCard

/-- THE TIED CARD OF 'lacquerlaw09.ListenChances'. -/
def listenChancesCard : Claim7 := { stood := { row := listenChancesRow, standIns := [], harness := (true, "c73636dd90bb1235d6fec1f6f02343f1d38ce27153c58d0577484aa9e21c5f63"), looks := false }, kinds := [], alts := [], laidByText := true, laidKinds := [.data], laidTests := true, laidLooks := .later }
def ListenChancesCardSaid : Prop := Claim7.holds Tryd.pinned (.plain (OpenSpec.ofChange listenChancesSpec)) listenChancesCard

/-- THE TIED CARD OF 'lacquerlaw09.ListenRankings'. -/
def listenRankingsCard : Claim7 := { stood := { row := listenRankingsRow, standIns := [], harness := (true, "c73636dd90bb1235d6fec1f6f02343f1d38ce27153c58d0577484aa9e21c5f63"), looks := false }, kinds := [], alts := [], laidByText := true, laidKinds := [.data], laidTests := true, laidLooks := .later }
def ListenRankingsCardSaid : Prop := Claim7.holds Tryd.pinned (.plain (OpenSpec.ofChange listenRankingsSpec)) listenRankingsCard

/-- THE TIED CARD OF 'lacquerlaw09.ListenNoBetter'. -/
def listenNoBetterCard : Claim7 := { stood := { row := listenNoBetterRow, standIns := [], harness := (true, "c73636dd90bb1235d6fec1f6f02343f1d38ce27153c58d0577484aa9e21c5f63"), looks := false }, kinds := [], alts := [], laidByText := true, laidKinds := [.data], laidTests := true, laidLooks := .later }
def ListenNoBetterCardSaid : Prop := Claim7.holds Tryd.pinned (.plain (OpenSpec.ofChange listenNoBetterSpec)) listenNoBetterCard

/-- THE TIED CARD OF 'lacquerlaw09.ListenStates'. -/
def listenStatesCard : Claim7 := { stood := { row := listenStatesRow, standIns := [], harness := (true, "c73636dd90bb1235d6fec1f6f02343f1d38ce27153c58d0577484aa9e21c5f63"), looks := false }, kinds := [], alts := [], laidByText := true, laidKinds := [.data], laidTests := true, laidLooks := .later }
def ListenStatesCardSaid : Prop := Claim7.holds Tryd.pinned (.plain (OpenSpec.ofChange listenStatesSpec)) listenStatesCard

/-- THE TIED CARD OF 'lacquerlaw09.ListenTests'. -/
def listenTestsCard : Claim7 := { stood := { row := listenTestsRow, standIns := [], harness := (true, "c73636dd90bb1235d6fec1f6f02343f1d38ce27153c58d0577484aa9e21c5f63"), looks := false }, kinds := [], alts := [], laidByText := true, laidKinds := [.data], laidTests := true, laidLooks := .later }
def ListenTestsCardSaid : Prop := Claim7.holds Tryd.pinned (.plain (OpenSpec.ofChange listenTestsSpec)) listenTestsCard

/-- THE TIED CARD OF 'lacquerlaw09.ListenCounted'. -/
def listenCountedCard : Claim7 := { stood := { row := listenCountedRow, standIns := [], harness := (true, "c73636dd90bb1235d6fec1f6f02343f1d38ce27153c58d0577484aa9e21c5f63"), looks := false }, kinds := [], alts := [], laidByText := true, laidKinds := [.data], laidTests := true, laidLooks := .later }
def ListenCountedCardSaid : Prop := Claim7.holds Tryd.pinned (.plain (OpenSpec.ofChange listenCountedSpec)) listenCountedCard

/-- THE TIED CARD OF 'lacquerlaw09.ListenMoves'. -/
def listenMovesCard : Claim7 := { stood := { row := listenMovesRow, standIns := [], harness := (true, "c73636dd90bb1235d6fec1f6f02343f1d38ce27153c58d0577484aa9e21c5f63"), looks := false }, kinds := [], alts := [], laidByText := true, laidKinds := [.data], laidTests := true, laidLooks := .later }
def ListenMovesCardSaid : Prop := Claim7.holds Tryd.pinned (.plain (OpenSpec.ofChange listenMovesSpec)) listenMovesCard

/-- THE TIED CARD OF 'lacquerlaw09.ListenFollow'. -/
def listenFollowCard : Claim7 := { stood := { row := listenFollowRow, standIns := [], harness := (true, "c73636dd90bb1235d6fec1f6f02343f1d38ce27153c58d0577484aa9e21c5f63"), looks := false }, kinds := [], alts := [], laidByText := true, laidKinds := [.data], laidTests := true, laidLooks := .later }
def ListenFollowCardSaid : Prop := Claim7.holds Tryd.pinned (.plain (OpenSpec.ofChange listenFollowSpec)) listenFollowCard

/-- THE TIED CARD OF 'lacquertop.TopListenExact'. -/
def topListenExactCard : Claim7 := { stood := { row := topListenExactRow, standIns := [], harness := (true, "c73636dd90bb1235d6fec1f6f02343f1d38ce27153c58d0577484aa9e21c5f63"), looks := false }, kinds := [], alts := [], laidByText := true, laidKinds := [.data, .data, .data], laidTests := true, laidLooks := .later }
def TopListenExactCardSaid : Prop := Claim7.holds Tryd.pinned (.plain (OpenSpec.ofChange topListenExactSpec)) topListenExactCard

/-- THE TIED CARD OF 'lacquerlaw09.ListenApplies'. -/
def listenAppliesCard : Claim7 := { stood := { row := listenAppliesRow, standIns := [], harness := (true, "c73636dd90bb1235d6fec1f6f02343f1d38ce27153c58d0577484aa9e21c5f63"), looks := false }, kinds := [], alts := [], laidByText := true, laidKinds := [.data], laidTests := true, laidLooks := .later }
def ListenAppliesCardSaid : Prop := Claim7.holds Tryd.pinned (.plain (OpenSpec.ofChange listenAppliesSpec)) listenAppliesCard

/-- THE TIED CARD OF 'lacquerlaw09.ListenBlind'. -/
def listenBlindCard : Claim7 := { stood := { row := listenBlindRow, standIns := [], harness := (true, "c73636dd90bb1235d6fec1f6f02343f1d38ce27153c58d0577484aa9e21c5f63"), looks := false }, kinds := [], alts := [], laidByText := true, laidKinds := [.data], laidTests := true, laidLooks := .later }
def ListenBlindCardSaid : Prop := Claim7.holds Tryd.pinned (.plain (OpenSpec.ofChange listenBlindSpec)) listenBlindCard

/-- THE TIED CARD OF 'lacquerlaw09.ListenStrings'. -/
def listenStringsCard : Claim7 := { stood := { row := listenStringsRow, standIns := [], harness := (true, "c73636dd90bb1235d6fec1f6f02343f1d38ce27153c58d0577484aa9e21c5f63"), looks := false }, kinds := [], alts := [], laidByText := true, laidKinds := [.data, .data, .data, .data], laidTests := true, laidLooks := .later }
def ListenStringsCardSaid : Prop := Claim7.holds Tryd.pinned (.plain (OpenSpec.ofChange listenStringsSpec)) listenStringsCard

/-- THE SECOND FORM's CARD OF 'lacquerlaw09.ListenLoudness'. -/
def listenLoudnessUptoCard : Claim7 := { stood := { row := listenLoudnessUptoRow, standIns := [], harness := (true, "c73636dd90bb1235d6fec1f6f02343f1d38ce27153c58d0577484aa9e21c5f63"), looks := false }, kinds := [], alts := [], laidByText := true, laidKinds := [.data], laidTests := true, laidLooks := .later }
def ListenLoudnessUptoCardSaid : Prop := Claim7.holds Tryd.pinned (.plain (OpenSpec.upto listenLoudnessSpec)) listenLoudnessUptoCard

/-- THE SECOND FORM's CARD OF 'lacquerlaw09.ListenGates'. -/
def listenGatesUptoCard : Claim7 := { stood := { row := listenGatesUptoRow, standIns := [], harness := (true, "c73636dd90bb1235d6fec1f6f02343f1d38ce27153c58d0577484aa9e21c5f63"), looks := false }, kinds := [], alts := [], laidByText := true, laidKinds := [.data], laidTests := true, laidLooks := .later }
def ListenGatesUptoCardSaid : Prop := Claim7.holds Tryd.pinned (.plain (OpenSpec.upto listenGatesSpec)) listenGatesUptoCard

/-- THE SECOND FORM's CARD OF 'lacquerlaw09.ListenPeaks'. -/
def listenPeaksUptoCard : Claim7 := { stood := { row := listenPeaksUptoRow, standIns := [], harness := (true, "c73636dd90bb1235d6fec1f6f02343f1d38ce27153c58d0577484aa9e21c5f63"), looks := false }, kinds := [], alts := [], laidByText := true, laidKinds := [.data], laidTests := true, laidLooks := .later }
def ListenPeaksUptoCardSaid : Prop := Claim7.holds Tryd.pinned (.plain (OpenSpec.upto listenPeaksSpec)) listenPeaksUptoCard

/-- THE SECOND FORM's CARD OF 'lacquerlaw09.ListenTails'. -/
def listenTailsUptoCard : Claim7 := { stood := { row := listenTailsUptoRow, standIns := [], harness := (true, "c73636dd90bb1235d6fec1f6f02343f1d38ce27153c58d0577484aa9e21c5f63"), looks := false }, kinds := [], alts := [], laidByText := true, laidKinds := [.data], laidTests := true, laidLooks := .later }
def ListenTailsUptoCardSaid : Prop := Claim7.holds Tryd.pinned (.plain (OpenSpec.upto listenTailsSpec)) listenTailsUptoCard

/-- THE SECOND FORM's CARD OF 'lacquerlaw09.ListenChances'. -/
def listenChancesUptoCard : Claim7 := { stood := { row := listenChancesUptoRow, standIns := [], harness := (true, "c73636dd90bb1235d6fec1f6f02343f1d38ce27153c58d0577484aa9e21c5f63"), looks := false }, kinds := [], alts := [], laidByText := true, laidKinds := [.data], laidTests := true, laidLooks := .later }
def ListenChancesUptoCardSaid : Prop := Claim7.holds Tryd.pinned (.plain (OpenSpec.upto listenChancesSpec)) listenChancesUptoCard

/-- THE SECOND FORM's CARD OF 'lacquerlaw09.ListenRankings'. -/
def listenRankingsUptoCard : Claim7 := { stood := { row := listenRankingsUptoRow, standIns := [], harness := (true, "c73636dd90bb1235d6fec1f6f02343f1d38ce27153c58d0577484aa9e21c5f63"), looks := false }, kinds := [], alts := [], laidByText := true, laidKinds := [.data], laidTests := true, laidLooks := .later }
def ListenRankingsUptoCardSaid : Prop := Claim7.holds Tryd.pinned (.plain (OpenSpec.upto listenRankingsSpec)) listenRankingsUptoCard

/-- THE SECOND FORM's CARD OF 'lacquerlaw09.ListenNoBetter'. -/
def listenNoBetterUptoCard : Claim7 := { stood := { row := listenNoBetterUptoRow, standIns := [], harness := (true, "c73636dd90bb1235d6fec1f6f02343f1d38ce27153c58d0577484aa9e21c5f63"), looks := false }, kinds := [], alts := [], laidByText := true, laidKinds := [.data], laidTests := true, laidLooks := .later }
def ListenNoBetterUptoCardSaid : Prop := Claim7.holds Tryd.pinned (.plain (OpenSpec.upto listenNoBetterSpec)) listenNoBetterUptoCard

/-- THE SECOND FORM's CARD OF 'lacquerlaw09.ListenStates'. -/
def listenStatesUptoCard : Claim7 := { stood := { row := listenStatesUptoRow, standIns := [], harness := (true, "c73636dd90bb1235d6fec1f6f02343f1d38ce27153c58d0577484aa9e21c5f63"), looks := false }, kinds := [], alts := [], laidByText := true, laidKinds := [.data], laidTests := true, laidLooks := .later }
def ListenStatesUptoCardSaid : Prop := Claim7.holds Tryd.pinned (.plain (OpenSpec.upto listenStatesSpec)) listenStatesUptoCard

/-- THE SECOND FORM's CARD OF 'lacquerlaw09.ListenTests'. -/
def listenTestsUptoCard : Claim7 := { stood := { row := listenTestsUptoRow, standIns := [], harness := (true, "c73636dd90bb1235d6fec1f6f02343f1d38ce27153c58d0577484aa9e21c5f63"), looks := false }, kinds := [], alts := [], laidByText := true, laidKinds := [.data], laidTests := true, laidLooks := .later }
def ListenTestsUptoCardSaid : Prop := Claim7.holds Tryd.pinned (.plain (OpenSpec.upto listenTestsSpec)) listenTestsUptoCard

/-- THE SECOND FORM's CARD OF 'lacquerlaw09.ListenCounted'. -/
def listenCountedUptoCard : Claim7 := { stood := { row := listenCountedUptoRow, standIns := [], harness := (true, "c73636dd90bb1235d6fec1f6f02343f1d38ce27153c58d0577484aa9e21c5f63"), looks := false }, kinds := [], alts := [], laidByText := true, laidKinds := [.data], laidTests := true, laidLooks := .later }
def ListenCountedUptoCardSaid : Prop := Claim7.holds Tryd.pinned (.plain (OpenSpec.upto listenCountedSpec)) listenCountedUptoCard

/-- THE SECOND FORM's CARD OF 'lacquerlaw09.ListenMoves'. -/
def listenMovesUptoCard : Claim7 := { stood := { row := listenMovesUptoRow, standIns := [], harness := (true, "c73636dd90bb1235d6fec1f6f02343f1d38ce27153c58d0577484aa9e21c5f63"), looks := false }, kinds := [], alts := [], laidByText := true, laidKinds := [.data], laidTests := true, laidLooks := .later }
def ListenMovesUptoCardSaid : Prop := Claim7.holds Tryd.pinned (.plain (OpenSpec.upto listenMovesSpec)) listenMovesUptoCard

/-- THE SECOND FORM's CARD OF 'lacquerlaw09.ListenFollow'. -/
def listenFollowUptoCard : Claim7 := { stood := { row := listenFollowUptoRow, standIns := [], harness := (true, "c73636dd90bb1235d6fec1f6f02343f1d38ce27153c58d0577484aa9e21c5f63"), looks := false }, kinds := [], alts := [], laidByText := true, laidKinds := [.data], laidTests := true, laidLooks := .later }
def ListenFollowUptoCardSaid : Prop := Claim7.holds Tryd.pinned (.plain (OpenSpec.upto listenFollowSpec)) listenFollowUptoCard

/-- THE SECOND FORM's CARD OF 'lacquertop.TopListenExact'. -/
def topListenExactUptoCard : Claim7 := { stood := { row := topListenExactUptoRow, standIns := [], harness := (true, "c73636dd90bb1235d6fec1f6f02343f1d38ce27153c58d0577484aa9e21c5f63"), looks := false }, kinds := [], alts := [], laidByText := true, laidKinds := [.data, .data, .data], laidTests := true, laidLooks := .later }
def TopListenExactUptoCardSaid : Prop := Claim7.holds Tryd.pinned (.plain (OpenSpec.upto topListenExactSpec)) topListenExactUptoCard

/-- THE SECOND FORM's CARD OF 'lacquerlaw09.ListenApplies'. -/
def listenAppliesUptoCard : Claim7 := { stood := { row := listenAppliesUptoRow, standIns := [], harness := (true, "c73636dd90bb1235d6fec1f6f02343f1d38ce27153c58d0577484aa9e21c5f63"), looks := false }, kinds := [], alts := [], laidByText := true, laidKinds := [.data], laidTests := true, laidLooks := .later }
def ListenAppliesUptoCardSaid : Prop := Claim7.holds Tryd.pinned (.plain (OpenSpec.upto listenAppliesSpec)) listenAppliesUptoCard

/-- THE SECOND FORM's CARD OF 'lacquerlaw09.ListenBlind'. -/
def listenBlindUptoCard : Claim7 := { stood := { row := listenBlindUptoRow, standIns := [], harness := (true, "c73636dd90bb1235d6fec1f6f02343f1d38ce27153c58d0577484aa9e21c5f63"), looks := false }, kinds := [], alts := [], laidByText := true, laidKinds := [.data], laidTests := true, laidLooks := .later }
def ListenBlindUptoCardSaid : Prop := Claim7.holds Tryd.pinned (.plain (OpenSpec.upto listenBlindSpec)) listenBlindUptoCard

/-- THE SECOND FORM's CARD OF 'lacquerlaw09.ListenStrings'. -/
def listenStringsUptoCard : Claim7 := { stood := { row := listenStringsUptoRow, standIns := [], harness := (true, "c73636dd90bb1235d6fec1f6f02343f1d38ce27153c58d0577484aa9e21c5f63"), looks := false }, kinds := [], alts := [], laidByText := true, laidKinds := [.data, .data, .data, .data], laidTests := true, laidLooks := .later }
def ListenStringsUptoCardSaid : Prop := Claim7.holds Tryd.pinned (.plain (OpenSpec.upto listenStringsSpec)) listenStringsUptoCard
end Rows
end Go.Proofs.YtiflkochjfiegaaDoor
