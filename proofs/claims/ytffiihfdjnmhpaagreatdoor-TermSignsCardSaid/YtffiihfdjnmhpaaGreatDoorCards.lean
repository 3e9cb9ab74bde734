/-
  DERIVED. GIVEN WITH THE SEED: THE CARDS: each row of YtffiihfdjnmhpaaGreatDoorRows.lean that lists a variable, with what it lists TIED to the program's text (the seventh form; the later family's looks); each row that meets fmt, with fmt's text TOLD by the authors' own Lean function (tested against real Go, not proved from fmt's source: count such statements apart). THE CARD IS WHAT COUNTS. Prove the row's statement (the work); the ties are given (YtffiihfdjnmhpaaGreatDoorTie.lean); close each card by the builder's one call (the guide's Derived/Test/ToyasCard.lean, 'card_holds'). Laid BY PROGRAM, IN A SANDBOX (cutbox-door.mjs). By AI agents, Wed Nov 11 2026. No macro, syntax, notation, axiom, sorry.
-/
import Derived.Test.YtffiihfdjnmhpaaGreatDoorRows
import GoSem.ClaimSeven
namespace Go.Proofs.YtffiihfdjnmhpaaGreatDoor
namespace Rows

/-- THE TIED CARD OF 'abaculuslaw26.TermSigns'. -/
def termSignsCard : Claim7 := { stood := { row := termSignsRow, standIns := [], harness := (true, "c2ed84b977735e35a257440f6d37cad112bde0cc6695f9ec4e70cf419868b6e7"), looks := false }, kinds := [], alts := [], laidByText := true, laidKinds := [.data, .data, .data, .data, .pinned], laidTests := true, laidLooks := .later }
def TermSignsCardSaid : Prop := Claim7.holds Tryz.pinned (.plain (OpenSpec.ofChange termSignsSpec)) termSignsCard

/-- THE SECOND FORM's CARD OF 'abaculuslaw26.TermSigns'. -/
def termSignsUptoCard : Claim7 := { stood := { row := termSignsUptoRow, standIns := [], harness := (true, "c2ed84b977735e35a257440f6d37cad112bde0cc6695f9ec4e70cf419868b6e7"), looks := false }, kinds := [], alts := [], laidByText := true, laidKinds := [.data, .data, .data, .data, .pinned], laidTests := true, laidLooks := .later }
def TermSignsUptoCardSaid : Prop := Claim7.holds Tryz.pinned (.plain (OpenSpec.upto termSignsSpec)) termSignsUptoCard
end Rows
end Go.Proofs.YtffiihfdjnmhpaaGreatDoor
