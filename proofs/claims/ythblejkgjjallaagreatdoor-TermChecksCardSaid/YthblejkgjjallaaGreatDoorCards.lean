/-
  DERIVED. GIVEN WITH THE SEED: THE CARDS: each row of YthblejkgjjallaaGreatDoorRows.lean that lists a variable, with what it lists TIED to the program's text (the seventh form; the later family's looks); each row that meets fmt, with fmt's text TOLD by the authors' own Lean function (tested against real Go, not proved from fmt's source: count such statements apart). THE CARD IS WHAT COUNTS. Prove the row's statement (the work); the ties are given (YthblejkgjjallaaGreatDoorTie.lean); close each card by the builder's one call (the guide's Derived/Test/ToyasCard.lean, 'card_holds'). Laid BY PROGRAM, IN A SANDBOX (cutbox-door.mjs). By AI agents, Wed Nov 11 2026. No macro, syntax, notation, axiom, sorry.
-/
import Derived.Test.YthblejkgjjallaaGreatDoorRows
import GoSem.ClaimSeven
namespace Go.Proofs.YthblejkgjjallaaGreatDoor
namespace Rows

/-- THE TIED CARD OF 'abaculuslaw26.TermChecks'. -/
def termChecksCard : Claim7 := { stood := { row := termChecksRow, standIns := [], harness := (true, "ee80ef3e1a140dbc56b70a0481c413a3a3a0e72ba8a0b5e45bf5139e04139569"), looks := false }, kinds := [], alts := [], laidByText := true, laidKinds := [.data, .data, .data, .data, .pinned], laidTests := true, laidLooks := .later }
def TermChecksCardSaid : Prop := Claim7.holds Tryz.pinned (.plain (OpenSpec.ofChange termChecksSpec)) termChecksCard

/-- THE SECOND FORM's CARD OF 'abaculuslaw26.TermChecks'. -/
def termChecksUptoCard : Claim7 := { stood := { row := termChecksUptoRow, standIns := [], harness := (true, "ee80ef3e1a140dbc56b70a0481c413a3a3a0e72ba8a0b5e45bf5139e04139569"), looks := false }, kinds := [], alts := [], laidByText := true, laidKinds := [.data, .data, .data, .data, .pinned], laidTests := true, laidLooks := .later }
def TermChecksUptoCardSaid : Prop := Claim7.holds Tryz.pinned (.plain (OpenSpec.upto termChecksSpec)) termChecksUptoCard
end Rows
end Go.Proofs.YthblejkgjjallaaGreatDoor
