/-
  DERIVED. GIVEN WITH THE SEED: THE CARDS: each row of YtghfcfnkglnchaaGreatDoorRows.lean that lists a variable, with what it lists TIED to the program's text (the seventh form; the later family's looks); each row that meets fmt, with fmt's text TOLD by the authors' own Lean function (tested against real Go, not proved from fmt's source: count such statements apart). THE CARD IS WHAT COUNTS. Prove the row's statement (the work); the ties are given (YtghfcfnkglnchaaGreatDoorTie.lean); close each card by the builder's one call (the guide's Derived/Test/ToyasCard.lean, 'card_holds'). Laid BY PROGRAM, IN A SANDBOX (cutbox-door.mjs). By AI agents, Wed Nov 11 2026. No macro, syntax, notation, axiom, sorry.
-/
import Derived.Test.YtghfcfnkglnchaaGreatDoorRows
import GoSem.ClaimSeven
namespace Go.Proofs.YtghfcfnkglnchaaGreatDoor
namespace Rows

/-- THE TIED CARD OF 'abaculuslaw26.TermPuts'. -/
def termPutsCard : Claim7 := { stood := { row := termPutsRow, standIns := [], harness := (true, "3ab55af525c70cc6400398198e73f34c07c84c7f18d9d8a34b49681d76f64421"), looks := false }, kinds := [], alts := [], laidByText := true, laidKinds := [.data, .data, .data, .data, .pinned], laidTests := true, laidLooks := .later }
def TermPutsCardSaid : Prop := Claim7.holds Tryz.pinned (.plain (OpenSpec.ofChange termPutsSpec)) termPutsCard

/-- THE SECOND FORM's CARD OF 'abaculuslaw26.TermPuts'. -/
def termPutsUptoCard : Claim7 := { stood := { row := termPutsUptoRow, standIns := [], harness := (true, "3ab55af525c70cc6400398198e73f34c07c84c7f18d9d8a34b49681d76f64421"), looks := false }, kinds := [], alts := [], laidByText := true, laidKinds := [.data, .data, .data, .data, .pinned], laidTests := true, laidLooks := .later }
def TermPutsUptoCardSaid : Prop := Claim7.holds Tryz.pinned (.plain (OpenSpec.upto termPutsSpec)) termPutsUptoCard
end Rows
end Go.Proofs.YtghfcfnkglnchaaGreatDoor
