/-
  DERIVED. GIVEN WITH THE SEED: THE CARDS: each row of YtnflfcbfifhpaaaGreatDoorRows.lean that lists a variable, with what it lists TIED to the program's text (the seventh form; the later family's looks); each row that meets fmt, with fmt's text TOLD by the authors' own Lean function (tested against real Go, not proved from fmt's source: count such statements apart). THE CARD IS WHAT COUNTS. Prove the row's statement (the work); the ties are given (YtnflfcbfifhpaaaGreatDoorTie.lean); close each card by the builder's one call (the guide's Derived/Test/ToyasCard.lean, 'card_holds'). Laid BY PROGRAM, IN A SANDBOX (cutbox-door.mjs). By AI agents, Wed Nov 11 2026. No macro, syntax, notation, axiom, sorry.
-/
import Derived.Test.YtnflfcbfifhpaaaGreatDoorRows
import GoSem.ClaimSeven
namespace Go.Proofs.YtnflfcbfifhpaaaGreatDoor
namespace Rows

/-- THE TIED CARD OF 'abaculuslaw26.TermPlains'. -/
def termPlainsCard : Claim7 := { stood := { row := termPlainsRow, standIns := [], harness := (true, "db0dd5574618d7dcf4056b2de3f015c9d67149d29f38323794ff8a8a5b4ecc92"), looks := false }, kinds := [], alts := [], laidByText := true, laidKinds := [.data, .data, .data, .data, .pinned], laidTests := true, laidLooks := .later }
def TermPlainsCardSaid : Prop := Claim7.holds Tryz.pinned (.plain (OpenSpec.ofChange termPlainsSpec)) termPlainsCard

/-- THE SECOND FORM's CARD OF 'abaculuslaw26.TermPlains'. -/
def termPlainsUptoCard : Claim7 := { stood := { row := termPlainsUptoRow, standIns := [], harness := (true, "db0dd5574618d7dcf4056b2de3f015c9d67149d29f38323794ff8a8a5b4ecc92"), looks := false }, kinds := [], alts := [], laidByText := true, laidKinds := [.data, .data, .data, .data, .pinned], laidTests := true, laidLooks := .later }
def TermPlainsUptoCardSaid : Prop := Claim7.holds Tryz.pinned (.plain (OpenSpec.upto termPlainsSpec)) termPlainsUptoCard
end Rows
end Go.Proofs.YtnflfcbfifhpaaaGreatDoor
