/-
  DERIVED. GIVEN WITH THE SEED: THE CARDS: each row of YteaminoddghjcaaGreatDoorRows.lean that lists a variable, with what it lists TIED to the program's text (the seventh form; the later family's looks); each row that meets fmt, with fmt's text TOLD by the authors' own Lean function (tested against real Go, not proved from fmt's source: count such statements apart). THE CARD IS WHAT COUNTS. Prove the row's statement (the work); the ties are given (YteaminoddghjcaaGreatDoorTie.lean); close each card by the builder's one call (the guide's Derived/Test/ToyasCard.lean, 'card_holds'). Laid BY PROGRAM, IN A SANDBOX (cutbox-door.mjs). By AI agents, Wed Nov 11 2026. No macro, syntax, notation, axiom, sorry.
-/
import Derived.Test.YteaminoddghjcaaGreatDoorRows
import GoSem.ClaimSeven
namespace Go.Proofs.YteaminoddghjcaaGreatDoor
namespace Rows

/-- THE TIED CARD OF 'abaculuslaw29.DescentSeeds'. -/
def descentSeedsCard : Claim7 := { stood := { row := descentSeedsRow, standIns := [], harness := (true, "ab56a9bd12f14fe9bcd0754a10ec37cfe7e8f760c8f799daaa84926001542441"), looks := false }, kinds := [], alts := [], laidByText := true, laidKinds := [.data], laidTests := true, laidLooks := .later }
def DescentSeedsCardSaid : Prop := Claim7.holds Tryz.pinned (.plain (OpenSpec.ofChange descentSeedsSpec)) descentSeedsCard

/-- THE SECOND FORM's CARD OF 'abaculuslaw29.DescentSeeds'. -/
def descentSeedsUptoCard : Claim7 := { stood := { row := descentSeedsUptoRow, standIns := [], harness := (true, "ab56a9bd12f14fe9bcd0754a10ec37cfe7e8f760c8f799daaa84926001542441"), looks := false }, kinds := [], alts := [], laidByText := true, laidKinds := [.data], laidTests := true, laidLooks := .later }
def DescentSeedsUptoCardSaid : Prop := Claim7.holds Tryz.pinned (.plain (OpenSpec.upto descentSeedsSpec)) descentSeedsUptoCard
end Rows
end Go.Proofs.YteaminoddghjcaaGreatDoor
