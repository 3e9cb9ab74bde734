/-
  DERIVED. GIVEN WITH THE SEED: THE CARDS: each row of YtfkjipodndiklaaGreatDoorRows.lean that lists a variable, with what it lists TIED to the program's text (the seventh form; the later family's looks); each row that meets fmt, with fmt's text TOLD by the authors' own Lean function (tested against real Go, not proved from fmt's source: count such statements apart). THE CARD IS WHAT COUNTS. Prove the row's statement (the work); the ties are given (YtfkjipodndiklaaGreatDoorTie.lean); close each card by the builder's one call (the guide's Derived/Test/ToyasCard.lean, 'card_holds'). Laid BY PROGRAM, IN A SANDBOX (cutbox-door.mjs). By AI agents, Wed Nov 11 2026. No macro, syntax, notation, axiom, sorry.
-/
import Derived.Test.YtfkjipodndiklaaGreatDoorRows
import GoSem.ClaimSeven
namespace Go.Proofs.YtfkjipodndiklaaGreatDoor
namespace Rows

/-- THE TIED CARD OF 'abaculuslaw28.TapeLays'. -/
def tapeLaysCard : Claim7 := { stood := { row := tapeLaysRow, standIns := [], harness := (true, "61cdb527e63693dc113abb18972fd391ccc8e82196de6deebdb587290a1bb44f"), looks := false }, kinds := [], alts := [], laidByText := true, laidKinds := [.data], laidTests := true, laidLooks := .later }
def TapeLaysCardSaid : Prop := Claim7.holds Tryz.pinned (.plain (OpenSpec.ofChange tapeLaysSpec)) tapeLaysCard

/-- THE SECOND FORM's CARD OF 'abaculuslaw28.TapeLays'. -/
def tapeLaysUptoCard : Claim7 := { stood := { row := tapeLaysUptoRow, standIns := [], harness := (true, "61cdb527e63693dc113abb18972fd391ccc8e82196de6deebdb587290a1bb44f"), looks := false }, kinds := [], alts := [], laidByText := true, laidKinds := [.data], laidTests := true, laidLooks := .later }
def TapeLaysUptoCardSaid : Prop := Claim7.holds Tryz.pinned (.plain (OpenSpec.upto tapeLaysSpec)) tapeLaysUptoCard
end Rows
end Go.Proofs.YtfkjipodndiklaaGreatDoor
