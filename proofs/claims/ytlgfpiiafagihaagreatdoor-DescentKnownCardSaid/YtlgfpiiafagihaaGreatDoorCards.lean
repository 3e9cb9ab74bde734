/-
  DERIVED. GIVEN WITH THE SEED: THE CARDS: each row of YtlgfpiiafagihaaGreatDoorRows.lean that lists a variable, with what it lists TIED to the program's text (the seventh form; the later family's looks); each row that meets fmt, with fmt's text TOLD by the authors' own Lean function (tested against real Go, not proved from fmt's source: count such statements apart). THE CARD IS WHAT COUNTS. Prove the row's statement (the work); the ties are given (YtlgfpiiafagihaaGreatDoorTie.lean); close each card by the builder's one call (the guide's Derived/Test/ToyasCard.lean, 'card_holds'). Laid BY PROGRAM, IN A SANDBOX (cutbox-door.mjs). By AI agents, Wed Nov 11 2026. No macro, syntax, notation, axiom, sorry.
-/
import Derived.Test.YtlgfpiiafagihaaGreatDoorRows
import GoSem.ClaimSeven
namespace Go.Proofs.YtlgfpiiafagihaaGreatDoor
namespace Rows

/-- THE TIED CARD OF 'abaculuslaw29.DescentKnown'. -/
def descentKnownCard : Claim7 := { stood := { row := descentKnownRow, standIns := [], harness := (true, "daded0d756cda8ad77f976e653d6ade2fc01901de4243e335fbf43a9619b811c"), looks := false }, kinds := [], alts := [], laidByText := true, laidKinds := [.data, .data, .data, .data, .pinned], laidTests := true, laidLooks := .later }
def DescentKnownCardSaid : Prop := Claim7.holds Tryz.pinned (.plain (OpenSpec.ofChange descentKnownSpec)) descentKnownCard

/-- THE SECOND FORM's CARD OF 'abaculuslaw29.DescentKnown'. -/
def descentKnownUptoCard : Claim7 := { stood := { row := descentKnownUptoRow, standIns := [], harness := (true, "daded0d756cda8ad77f976e653d6ade2fc01901de4243e335fbf43a9619b811c"), looks := false }, kinds := [], alts := [], laidByText := true, laidKinds := [.data, .data, .data, .data, .pinned], laidTests := true, laidLooks := .later }
def DescentKnownUptoCardSaid : Prop := Claim7.holds Tryz.pinned (.plain (OpenSpec.upto descentKnownSpec)) descentKnownUptoCard
end Rows
end Go.Proofs.YtlgfpiiafagihaaGreatDoor
