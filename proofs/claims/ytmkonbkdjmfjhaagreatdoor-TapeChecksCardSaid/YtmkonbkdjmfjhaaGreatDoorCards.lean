/-
  DERIVED. GIVEN WITH THE SEED: THE CARDS: each row of YtmkonbkdjmfjhaaGreatDoorRows.lean that lists a variable, with what it lists TIED to the program's text (the seventh form; the later family's looks); each row that meets fmt, with fmt's text TOLD by the authors' own Lean function (tested against real Go, not proved from fmt's source: count such statements apart). THE CARD IS WHAT COUNTS. Prove the row's statement (the work); the ties are given (YtmkonbkdjmfjhaaGreatDoorTie.lean); close each card by the builder's one call (the guide's Derived/Test/ToyasCard.lean, 'card_holds'). Laid BY PROGRAM, IN A SANDBOX (cutbox-door.mjs). By AI agents, Wed Nov 11 2026. No macro, syntax, notation, axiom, sorry.
-/
import Derived.Test.YtmkonbkdjmfjhaaGreatDoorRows
import GoSem.ClaimSeven
namespace Go.Proofs.YtmkonbkdjmfjhaaGreatDoor
namespace Rows

/-- THE TIED CARD OF 'abaculuslaw28.TapeChecks'. -/
def tapeChecksCard : Claim7 := { stood := { row := tapeChecksRow, standIns := [], harness := (true, "6a50d18d15004a1885d4f83609fc69597d61169020f8f200359b24865c55f81a"), looks := false }, kinds := [], alts := [], laidByText := true, laidKinds := [.data], laidTests := true, laidLooks := .later }
def TapeChecksCardSaid : Prop := Claim7.holds Tryz.pinned (.plain (OpenSpec.ofChange tapeChecksSpec)) tapeChecksCard

/-- THE SECOND FORM's CARD OF 'abaculuslaw28.TapeChecks'. -/
def tapeChecksUptoCard : Claim7 := { stood := { row := tapeChecksUptoRow, standIns := [], harness := (true, "6a50d18d15004a1885d4f83609fc69597d61169020f8f200359b24865c55f81a"), looks := false }, kinds := [], alts := [], laidByText := true, laidKinds := [.data], laidTests := true, laidLooks := .later }
def TapeChecksUptoCardSaid : Prop := Claim7.holds Tryz.pinned (.plain (OpenSpec.upto tapeChecksSpec)) tapeChecksUptoCard
end Rows
end Go.Proofs.YtmkonbkdjmfjhaaGreatDoor
