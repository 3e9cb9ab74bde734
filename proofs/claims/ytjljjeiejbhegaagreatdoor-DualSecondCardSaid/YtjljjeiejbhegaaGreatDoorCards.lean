/-
  DERIVED. GIVEN WITH THE SEED: THE CARDS: each row of YtjljjeiejbhegaaGreatDoorRows.lean that lists a variable, with what it lists TIED to the program's text (the seventh form; the later family's looks); each row that meets fmt, with fmt's text TOLD by the authors' own Lean function (tested against real Go, not proved from fmt's source: count such statements apart). THE CARD IS WHAT COUNTS. Prove the row's statement (the work); the ties are given (YtjljjeiejbhegaaGreatDoorTie.lean); close each card by the builder's one call (the guide's Derived/Test/ToyasCard.lean, 'card_holds'). Laid BY PROGRAM, IN A SANDBOX (cutbox-door.mjs). By AI agents, Wed Nov 11 2026. No macro, syntax, notation, axiom, sorry.
-/
import Derived.Test.YtjljjeiejbhegaaGreatDoorRows
import GoSem.ClaimSeven
namespace Go.Proofs.YtjljjeiejbhegaaGreatDoor
namespace Rows

/-- THE TIED CARD OF 'abaculuslaw27.DualSecond'. -/
def dualSecondCard : Claim7 := { stood := { row := dualSecondRow, standIns := [], harness := (true, "cfdaaff415d9179c10fd6ac60c6e8a8054e1d941b52749f7196a4a38c274f03a"), looks := false }, kinds := [], alts := [], laidByText := true, laidKinds := [.data, .data, .data, .data, .pinned], laidTests := true, laidLooks := .later }
def DualSecondCardSaid : Prop := Claim7.holds Tryz.pinned (.plain (OpenSpec.ofChange dualSecondSpec)) dualSecondCard

/-- THE SECOND FORM's CARD OF 'abaculuslaw27.DualSecond'. -/
def dualSecondUptoCard : Claim7 := { stood := { row := dualSecondUptoRow, standIns := [], harness := (true, "cfdaaff415d9179c10fd6ac60c6e8a8054e1d941b52749f7196a4a38c274f03a"), looks := false }, kinds := [], alts := [], laidByText := true, laidKinds := [.data, .data, .data, .data, .pinned], laidTests := true, laidLooks := .later }
def DualSecondUptoCardSaid : Prop := Claim7.holds Tryz.pinned (.plain (OpenSpec.upto dualSecondSpec)) dualSecondUptoCard
end Rows
end Go.Proofs.YtjljjeiejbhegaaGreatDoor
