/-
  DERIVED. GIVEN WITH THE SEED: THE CARDS: each row of YtahgaogfpimkpaaGreatDoorRows.lean that lists a variable, with what it lists TIED to the program's text (the seventh form; the later family's looks); each row that meets fmt, with fmt's text TOLD by the authors' own Lean function (tested against real Go, not proved from fmt's source: count such statements apart). THE CARD IS WHAT COUNTS. Prove the row's statement (the work); the ties are given (YtahgaogfpimkpaaGreatDoorTie.lean); close each card by the builder's one call (the guide's Derived/Test/ToyasCard.lean, 'card_holds'). Laid BY PROGRAM, IN A SANDBOX (cutbox-door.mjs). By AI agents, Wed Nov 11 2026. No macro, syntax, notation, axiom, sorry.
-/
import Derived.Test.YtahgaogfpimkpaaGreatDoorRows
import GoSem.ClaimSeven
namespace Go.Proofs.YtahgaogfpimkpaaGreatDoor
namespace Rows

/-- THE TIED CARD OF 'abaculuslaw29.DescentGoes'. -/
def descentGoesCard : Claim7 := { stood := { row := descentGoesRow, standIns := [], harness := (true, "0d7248bb54a8b6cf8c681a51599c12a3f9733ce7f985edf10c0fc227ab21f292"), looks := false }, kinds := [], alts := [], laidByText := true, laidKinds := [.data], laidTests := true, laidLooks := .later }
def DescentGoesCardSaid : Prop := Claim7.holds Tryz.pinned (.plain (OpenSpec.ofChange descentGoesSpec)) descentGoesCard

/-- THE SECOND FORM's CARD OF 'abaculuslaw29.DescentGoes'. -/
def descentGoesUptoCard : Claim7 := { stood := { row := descentGoesUptoRow, standIns := [], harness := (true, "0d7248bb54a8b6cf8c681a51599c12a3f9733ce7f985edf10c0fc227ab21f292"), looks := false }, kinds := [], alts := [], laidByText := true, laidKinds := [.data], laidTests := true, laidLooks := .later }
def DescentGoesUptoCardSaid : Prop := Claim7.holds Tryz.pinned (.plain (OpenSpec.upto descentGoesSpec)) descentGoesUptoCard
end Rows
end Go.Proofs.YtahgaogfpimkpaaGreatDoor
