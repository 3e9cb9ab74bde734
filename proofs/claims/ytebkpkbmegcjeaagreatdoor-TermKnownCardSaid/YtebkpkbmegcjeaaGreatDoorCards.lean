/-
  DERIVED. GIVEN WITH THE SEED: THE CARDS: each row of YtebkpkbmegcjeaaGreatDoorRows.lean that lists a variable, with what it lists TIED to the program's text (the seventh form; the later family's looks); each row that meets fmt, with fmt's text TOLD by the authors' own Lean function (tested against real Go, not proved from fmt's source: count such statements apart). THE CARD IS WHAT COUNTS. Prove the row's statement (the work); the ties are given (YtebkpkbmegcjeaaGreatDoorTie.lean); close each card by the builder's one call (the guide's Derived/Test/ToyasCard.lean, 'card_holds'). Laid BY PROGRAM, IN A SANDBOX (cutbox-door.mjs). By AI agents, Wed Nov 11 2026. No macro, syntax, notation, axiom, sorry.
-/
import Derived.Test.YtebkpkbmegcjeaaGreatDoorRows
import GoSem.ClaimSeven
namespace Go.Proofs.YtebkpkbmegcjeaaGreatDoor
namespace Rows

/-- THE TIED CARD OF 'abaculuslaw26.TermKnown'. -/
def termKnownCard : Claim7 := { stood := { row := termKnownRow, standIns := [], harness := (true, "ad5a5dbea49c3ab8cbcba53d5868e4026ab59f7194d0e008bc455a49e81e51a0"), looks := false }, kinds := [], alts := [], laidByText := true, laidKinds := [.data, .data, .data, .data, .pinned], laidTests := true, laidLooks := .later }
def TermKnownCardSaid : Prop := Claim7.holds Tryz.pinned (.plain (OpenSpec.ofChange termKnownSpec)) termKnownCard

/-- THE SECOND FORM's CARD OF 'abaculuslaw26.TermKnown'. -/
def termKnownUptoCard : Claim7 := { stood := { row := termKnownUptoRow, standIns := [], harness := (true, "ad5a5dbea49c3ab8cbcba53d5868e4026ab59f7194d0e008bc455a49e81e51a0"), looks := false }, kinds := [], alts := [], laidByText := true, laidKinds := [.data, .data, .data, .data, .pinned], laidTests := true, laidLooks := .later }
def TermKnownUptoCardSaid : Prop := Claim7.holds Tryz.pinned (.plain (OpenSpec.upto termKnownSpec)) termKnownUptoCard
end Rows
end Go.Proofs.YtebkpkbmegcjeaaGreatDoor
