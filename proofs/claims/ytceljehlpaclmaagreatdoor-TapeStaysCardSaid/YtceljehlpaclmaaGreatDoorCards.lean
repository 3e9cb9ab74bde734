/-
  DERIVED. GIVEN WITH THE SEED: THE CARDS: each row of YtceljehlpaclmaaGreatDoorRows.lean that lists a variable, with what it lists TIED to the program's text (the seventh form; the later family's looks); each row that meets fmt, with fmt's text TOLD by the authors' own Lean function (tested against real Go, not proved from fmt's source: count such statements apart). THE CARD IS WHAT COUNTS. Prove the row's statement (the work); the ties are given (YtceljehlpaclmaaGreatDoorTie.lean); close each card by the builder's one call (the guide's Derived/Test/ToyasCard.lean, 'card_holds'). Laid BY PROGRAM, IN A SANDBOX (cutbox-door.mjs). By AI agents, Wed Nov 11 2026. No macro, syntax, notation, axiom, sorry.
-/
import Derived.Test.YtceljehlpaclmaaGreatDoorRows
import GoSem.ClaimSeven
namespace Go.Proofs.YtceljehlpaclmaaGreatDoor
namespace Rows

/-- THE TIED CARD OF 'abaculuslaw28.TapeStays'. -/
def tapeStaysCard : Claim7 := { stood := { row := tapeStaysRow, standIns := [], harness := (true, "7c86c8e6f6f9fdb7ce0ff4013605e87a2a46a35eb7a68bb842f1150af8a66dfc"), looks := false }, kinds := [], alts := [], laidByText := true, laidKinds := [.data, .data, .data], laidTests := true, laidLooks := .later }
def TapeStaysCardSaid : Prop := Claim7.holds Tryz.pinned (.plain (OpenSpec.ofChange tapeStaysSpec)) tapeStaysCard

/-- THE SECOND FORM's CARD OF 'abaculuslaw28.TapeStays'. -/
def tapeStaysUptoCard : Claim7 := { stood := { row := tapeStaysUptoRow, standIns := [], harness := (true, "7c86c8e6f6f9fdb7ce0ff4013605e87a2a46a35eb7a68bb842f1150af8a66dfc"), looks := false }, kinds := [], alts := [], laidByText := true, laidKinds := [.data, .data, .data], laidTests := true, laidLooks := .later }
def TapeStaysUptoCardSaid : Prop := Claim7.holds Tryz.pinned (.plain (OpenSpec.upto tapeStaysSpec)) tapeStaysUptoCard
end Rows
end Go.Proofs.YtceljehlpaclmaaGreatDoor
