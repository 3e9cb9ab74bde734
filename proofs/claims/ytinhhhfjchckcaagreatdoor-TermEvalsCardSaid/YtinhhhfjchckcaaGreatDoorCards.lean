/-
  DERIVED. GIVEN WITH THE SEED: THE CARDS: each row of YtinhhhfjchckcaaGreatDoorRows.lean that lists a variable, with what it lists TIED to the program's text (the seventh form; the later family's looks); each row that meets fmt, with fmt's text TOLD by the authors' own Lean function (tested against real Go, not proved from fmt's source: count such statements apart). THE CARD IS WHAT COUNTS. Prove the row's statement (the work); the ties are given (YtinhhhfjchckcaaGreatDoorTie.lean); close each card by the builder's one call (the guide's Derived/Test/ToyasCard.lean, 'card_holds'). Laid BY PROGRAM, IN A SANDBOX (cutbox-door.mjs). By AI agents, Wed Nov 11 2026. No macro, syntax, notation, axiom, sorry.
-/
import Derived.Test.YtinhhhfjchckcaaGreatDoorRows
import GoSem.ClaimSeven
namespace Go.Proofs.YtinhhhfjchckcaaGreatDoor
namespace Rows

/-- THE TIED CARD OF 'abaculuslaw26.TermEvals'. -/
def termEvalsCard : Claim7 := { stood := { row := termEvalsRow, standIns := [], harness := (true, "b75e1607f99e7601d072bef564c3f453be263a6c6ffcbfb8abe53afd50d84e52"), looks := false }, kinds := [], alts := [], laidByText := true, laidKinds := [.data, .data, .data, .data, .pinned], laidTests := true, laidLooks := .later }
def TermEvalsCardSaid : Prop := Claim7.holds Tryz.pinned (.plain (OpenSpec.ofChange termEvalsSpec)) termEvalsCard

/-- THE SECOND FORM's CARD OF 'abaculuslaw26.TermEvals'. -/
def termEvalsUptoCard : Claim7 := { stood := { row := termEvalsUptoRow, standIns := [], harness := (true, "b75e1607f99e7601d072bef564c3f453be263a6c6ffcbfb8abe53afd50d84e52"), looks := false }, kinds := [], alts := [], laidByText := true, laidKinds := [.data, .data, .data, .data, .pinned], laidTests := true, laidLooks := .later }
def TermEvalsUptoCardSaid : Prop := Claim7.holds Tryz.pinned (.plain (OpenSpec.upto termEvalsSpec)) termEvalsUptoCard
end Rows
end Go.Proofs.YtinhhhfjchckcaaGreatDoor
