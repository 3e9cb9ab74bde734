/-
  DERIVED. GIVEN WITH THE SEED: THE CARDS: each row of YthfkmhgnndmblaaGreatDoorRows.lean that lists a variable, with what it lists TIED to the program's text (the seventh form; the later family's looks); each row that meets fmt, with fmt's text TOLD by the authors' own Lean function (tested against real Go, not proved from fmt's source: count such statements apart). THE CARD IS WHAT COUNTS. Prove the row's statement (the work); the ties are given (YthfkmhgnndmblaaGreatDoorTie.lean); close each card by the builder's one call (the guide's Derived/Test/ToyasCard.lean, 'card_holds'). Laid BY PROGRAM, IN A SANDBOX (cutbox-door.mjs). By AI agents, Wed Nov 11 2026. No macro, syntax, notation, axiom, sorry.
-/
import Derived.Test.YthfkmhgnndmblaaGreatDoorRows
import GoSem.ClaimSeven
namespace Go.Proofs.YthfkmhgnndmblaaGreatDoor
namespace Rows

/-- THE TIED CARD OF 'abaculuslaw27.DualAlong'. -/
def dualAlongCard : Claim7 := { stood := { row := dualAlongRow, standIns := [], harness := (true, "41734b1ea8ac12658d6030ffa1a414c3a0d06afaca758078def7267defdcf82e"), looks := false }, kinds := [], alts := [], laidByText := true, laidKinds := [.data, .data, .data, .data, .pinned], laidTests := true, laidLooks := .later }
def DualAlongCardSaid : Prop := Claim7.holds Tryz.pinned (.plain (OpenSpec.ofChange dualAlongSpec)) dualAlongCard

/-- THE SECOND FORM's CARD OF 'abaculuslaw27.DualAlong'. -/
def dualAlongUptoCard : Claim7 := { stood := { row := dualAlongUptoRow, standIns := [], harness := (true, "41734b1ea8ac12658d6030ffa1a414c3a0d06afaca758078def7267defdcf82e"), looks := false }, kinds := [], alts := [], laidByText := true, laidKinds := [.data, .data, .data, .data, .pinned], laidTests := true, laidLooks := .later }
def DualAlongUptoCardSaid : Prop := Claim7.holds Tryz.pinned (.plain (OpenSpec.upto dualAlongSpec)) dualAlongUptoCard
end Rows
end Go.Proofs.YthfkmhgnndmblaaGreatDoor
