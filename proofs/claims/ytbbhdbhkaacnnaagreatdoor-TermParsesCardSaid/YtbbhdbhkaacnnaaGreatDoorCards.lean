/-
  DERIVED. GIVEN WITH THE SEED: THE CARDS: each row of YtbbhdbhkaacnnaaGreatDoorRows.lean that lists a variable, with what it lists TIED to the program's text (the seventh form; the later family's looks); each row that meets fmt, with fmt's text TOLD by the authors' own Lean function (tested against real Go, not proved from fmt's source: count such statements apart). THE CARD IS WHAT COUNTS. Prove the row's statement (the work); the ties are given (YtbbhdbhkaacnnaaGreatDoorTie.lean); close each card by the builder's one call (the guide's Derived/Test/ToyasCard.lean, 'card_holds'). Laid BY PROGRAM, IN A SANDBOX (cutbox-door.mjs). By AI agents, Wed Nov 11 2026. No macro, syntax, notation, axiom, sorry.
-/
import Derived.Test.YtbbhdbhkaacnnaaGreatDoorRows
import GoSem.ClaimSeven
namespace Go.Proofs.YtbbhdbhkaacnnaaGreatDoor
namespace Rows

/-- THE TIED CARD OF 'abaculuslaw26.TermParses'. -/
def termParsesCard : Claim7 := { stood := { row := termParsesRow, standIns := [], harness := (true, "8bb0914fb68fe80148f187a1cd27a7b1af7d687a8033c01b1862d1be864c093a"), looks := false }, kinds := [], alts := [], laidByText := true, laidKinds := [.data, .data, .data, .data, .pinned], laidTests := true, laidLooks := .later }
def TermParsesCardSaid : Prop := Claim7.holds Tryz.pinned (.plain (OpenSpec.ofChange termParsesSpec)) termParsesCard

/-- THE SECOND FORM's CARD OF 'abaculuslaw26.TermParses'. -/
def termParsesUptoCard : Claim7 := { stood := { row := termParsesUptoRow, standIns := [], harness := (true, "8bb0914fb68fe80148f187a1cd27a7b1af7d687a8033c01b1862d1be864c093a"), looks := false }, kinds := [], alts := [], laidByText := true, laidKinds := [.data, .data, .data, .data, .pinned], laidTests := true, laidLooks := .later }
def TermParsesUptoCardSaid : Prop := Claim7.holds Tryz.pinned (.plain (OpenSpec.upto termParsesSpec)) termParsesUptoCard
end Rows
end Go.Proofs.YtbbhdbhkaacnnaaGreatDoor
