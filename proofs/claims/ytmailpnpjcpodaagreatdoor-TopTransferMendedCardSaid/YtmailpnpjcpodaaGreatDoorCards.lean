/-
  DERIVED. GIVEN WITH THE SEED: THE CARDS: each row of YtmailpnpjcpodaaGreatDoorRows.lean that lists a variable, with what it lists TIED to the program's text (the seventh form; the later family's looks); each row that meets fmt, with fmt's text TOLD by the authors' own Lean function (tested against real Go, not proved from fmt's source: count such statements apart). THE CARD IS WHAT COUNTS. Prove the row's statement (the work); the ties are given (YtmailpnpjcpodaaGreatDoorTie.lean); close each card by the builder's one call (the guide's Derived/Test/ToyasCard.lean, 'card_holds'). Laid BY PROGRAM, IN A SANDBOX (cutbox-door.mjs). By AI agents, Wed Nov 11 2026. No macro, syntax, notation, axiom, sorry.
-/
import Derived.Test.YtmailpnpjcpodaaGreatDoorRows
import GoSem.ClaimSeven
namespace Go.Proofs.YtmailpnpjcpodaaGreatDoor
namespace Rows

/-- THE TIED CARD OF 'lacquerlaw01.TransferBlockStrings'. -/
def transferBlockStringsCard : Claim7 := { stood := { row := transferBlockStringsRow, standIns := [], harness := (true, "9bd40e97afd85f91163ea525d99619bd3d4dc301a18e589866391605f4d880fd"), looks := true }, kinds := [], alts := [], laidByText := true, laidKinds := [.data, .data, .data, .data, .sentinel, .sentinel, .pinned], laidTests := true, laidLooks := .later }
def TransferBlockStringsCardSaid : Prop := Claim7.holds Tryz.pinned (.plain (OpenSpec.ofChange transferBlockStringsSpec)) transferBlockStringsCard

/-- THE TIED CARD OF 'lacquerlaw01.TransferCarrierStrings'. -/
def transferCarrierStringsCard : Claim7 := { stood := { row := transferCarrierStringsRow, standIns := [], harness := (true, "9bd40e97afd85f91163ea525d99619bd3d4dc301a18e589866391605f4d880fd"), looks := true }, kinds := [], alts := [], laidByText := true, laidKinds := [.data, .data, .data, .data, .sentinel, .sentinel, .widerDeep, .pinned], laidTests := true, laidLooks := .later }
def TransferCarrierStringsCardSaid : Prop := Claim7.holds Tryz.pinned (.plain (OpenSpec.ofChange transferCarrierStringsSpec)) transferCarrierStringsCard

/-- THE TIED CARD OF 'lacquertop.TopTransferMended'. -/
def topTransferMendedCard : Claim7 := { stood := { row := topTransferMendedRow, standIns := [], harness := (true, "9bd40e97afd85f91163ea525d99619bd3d4dc301a18e589866391605f4d880fd"), looks := true }, kinds := [], alts := [], laidByText := true, laidKinds := [.data, .data, .data, .data, .sentinel, .sentinel, .pinned], laidTests := true, laidLooks := .later }
def TopTransferMendedCardSaid : Prop := Claim7.holds Tryz.pinned (.plain (OpenSpec.ofChange topTransferMendedSpec)) topTransferMendedCard

/-- THE SECOND FORM's CARD OF 'lacquerlaw01.TransferBlockStrings'. -/
def transferBlockStringsUptoCard : Claim7 := { stood := { row := transferBlockStringsUptoRow, standIns := [], harness := (true, "9bd40e97afd85f91163ea525d99619bd3d4dc301a18e589866391605f4d880fd"), looks := true }, kinds := [], alts := [], laidByText := true, laidKinds := [.data, .data, .data, .data, .sentinel, .sentinel, .pinned], laidTests := true, laidLooks := .later }
def TransferBlockStringsUptoCardSaid : Prop := Claim7.holds Tryz.pinned (.plain (OpenSpec.upto transferBlockStringsSpec)) transferBlockStringsUptoCard

/-- THE SECOND FORM's CARD OF 'lacquerlaw01.TransferCarrierStrings'. -/
def transferCarrierStringsUptoCard : Claim7 := { stood := { row := transferCarrierStringsUptoRow, standIns := [], harness := (true, "9bd40e97afd85f91163ea525d99619bd3d4dc301a18e589866391605f4d880fd"), looks := true }, kinds := [], alts := [], laidByText := true, laidKinds := [.data, .data, .data, .data, .sentinel, .sentinel, .widerDeep, .pinned], laidTests := true, laidLooks := .later }
def TransferCarrierStringsUptoCardSaid : Prop := Claim7.holds Tryz.pinned (.plain (OpenSpec.upto transferCarrierStringsSpec)) transferCarrierStringsUptoCard

/-- THE SECOND FORM's CARD OF 'lacquertop.TopTransferMended'. -/
def topTransferMendedUptoCard : Claim7 := { stood := { row := topTransferMendedUptoRow, standIns := [], harness := (true, "9bd40e97afd85f91163ea525d99619bd3d4dc301a18e589866391605f4d880fd"), looks := true }, kinds := [], alts := [], laidByText := true, laidKinds := [.data, .data, .data, .data, .sentinel, .sentinel, .pinned], laidTests := true, laidLooks := .later }
def TopTransferMendedUptoCardSaid : Prop := Claim7.holds Tryz.pinned (.plain (OpenSpec.upto topTransferMendedSpec)) topTransferMendedUptoCard
end Rows
end Go.Proofs.YtmailpnpjcpodaaGreatDoor
