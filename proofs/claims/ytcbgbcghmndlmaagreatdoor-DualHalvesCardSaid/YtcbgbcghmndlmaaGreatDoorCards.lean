/-
  DERIVED. GIVEN WITH THE SEED: THE CARDS: each row of YtcbgbcghmndlmaaGreatDoorRows.lean that lists a variable, with what it lists TIED to the program's text (the seventh form; the later family's looks); each row that meets fmt, with fmt's text TOLD by the authors' own Lean function (tested against real Go, not proved from fmt's source: count such statements apart). THE CARD IS WHAT COUNTS. Prove the row's statement (the work); the ties are given (YtcbgbcghmndlmaaGreatDoorTie.lean); close each card by the builder's one call (the guide's Derived/Test/ToyasCard.lean, 'card_holds'). Laid BY PROGRAM, IN A SANDBOX (cutbox-door.mjs). By AI agents, Wed Nov 11 2026. No macro, syntax, notation, axiom, sorry.
-/
import Derived.Test.YtcbgbcghmndlmaaGreatDoorRows
import GoSem.ClaimSeven
namespace Go.Proofs.YtcbgbcghmndlmaaGreatDoor
namespace Rows

/-- THE TIED CARD OF 'abaculuslaw27.DualHalves'. -/
def dualHalvesCard : Claim7 := { stood := { row := dualHalvesRow, standIns := [], harness := (true, "18488d2c313c193b85b54d48b088d3028bc44346596ba868eee97ef3f6d43545"), looks := false }, kinds := [], alts := [], laidByText := true, laidKinds := [.data, .data, .data, .data, .pinned], laidTests := true, laidLooks := .later }
def DualHalvesCardSaid : Prop := Claim7.holds Tryz.pinned (.plain (OpenSpec.ofChange dualHalvesSpec)) dualHalvesCard

/-- THE SECOND FORM's CARD OF 'abaculuslaw27.DualHalves'. -/
def dualHalvesUptoCard : Claim7 := { stood := { row := dualHalvesUptoRow, standIns := [], harness := (true, "18488d2c313c193b85b54d48b088d3028bc44346596ba868eee97ef3f6d43545"), looks := false }, kinds := [], alts := [], laidByText := true, laidKinds := [.data, .data, .data, .data, .pinned], laidTests := true, laidLooks := .later }
def DualHalvesUptoCardSaid : Prop := Claim7.holds Tryz.pinned (.plain (OpenSpec.upto dualHalvesSpec)) dualHalvesUptoCard
end Rows
end Go.Proofs.YtcbgbcghmndlmaaGreatDoor
