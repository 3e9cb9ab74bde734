/-
  DERIVED. GIVEN WITH THE SEED: THE CARDS: each row of YteipbelehcpooaaGreatDoorRows.lean that lists a variable, with what it lists TIED to the program's text (the seventh form; the later family's looks); each row that meets fmt, with fmt's text TOLD by the authors' own Lean function (tested against real Go, not proved from fmt's source: count such statements apart). THE CARD IS WHAT COUNTS. Prove the row's statement (the work); the ties are given (YteipbelehcpooaaGreatDoorTie.lean); close each card by the builder's one call (the guide's Derived/Test/ToyasCard.lean, 'card_holds'). Laid BY PROGRAM, IN A SANDBOX (cutbox-door.mjs). By AI agents, Wed Nov 11 2026. No macro, syntax, notation, axiom, sorry.
-/
import Derived.Test.YteipbelehcpooaaGreatDoorRows
import GoSem.ClaimSeven
namespace Go.Proofs.YteipbelehcpooaaGreatDoor
namespace Rows

/-- THE TIED CARD OF 'abaculuslaw28.TapeDual'. -/
def tapeDualCard : Claim7 := { stood := { row := tapeDualRow, standIns := [], harness := (true, "f3dc6e1a53eecf53a8c23b58106b0428ead735d070d2d3076c01dea7bef07ce8"), looks := false }, kinds := [], alts := [], laidByText := true, laidKinds := [.data, .data, .data], laidTests := true, laidLooks := .later }
def TapeDualCardSaid : Prop := Claim7.holds Tryz.pinned (.plain (OpenSpec.ofChange tapeDualSpec)) tapeDualCard

/-- THE SECOND FORM's CARD OF 'abaculuslaw28.TapeDual'. -/
def tapeDualUptoCard : Claim7 := { stood := { row := tapeDualUptoRow, standIns := [], harness := (true, "f3dc6e1a53eecf53a8c23b58106b0428ead735d070d2d3076c01dea7bef07ce8"), looks := false }, kinds := [], alts := [], laidByText := true, laidKinds := [.data, .data, .data], laidTests := true, laidLooks := .later }
def TapeDualUptoCardSaid : Prop := Claim7.holds Tryz.pinned (.plain (OpenSpec.upto tapeDualSpec)) tapeDualUptoCard
end Rows
end Go.Proofs.YteipbelehcpooaaGreatDoor
