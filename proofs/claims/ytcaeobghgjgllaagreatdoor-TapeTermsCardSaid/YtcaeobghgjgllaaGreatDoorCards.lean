/-
  DERIVED. GIVEN WITH THE SEED: THE CARDS: each row of YtcaeobghgjgllaaGreatDoorRows.lean that lists a variable, with what it lists TIED to the program's text (the seventh form; the later family's looks); each row that meets fmt, with fmt's text TOLD by the authors' own Lean function (tested against real Go, not proved from fmt's source: count such statements apart). THE CARD IS WHAT COUNTS. Prove the row's statement (the work); the ties are given (YtcaeobghgjgllaaGreatDoorTie.lean); close each card by the builder's one call (the guide's Derived/Test/ToyasCard.lean, 'card_holds'). Laid BY PROGRAM, IN A SANDBOX (cutbox-door.mjs). By AI agents, Wed Nov 11 2026. No macro, syntax, notation, axiom, sorry.
-/
import Derived.Test.YtcaeobghgjgllaaGreatDoorRows
import GoSem.ClaimSeven
namespace Go.Proofs.YtcaeobghgjgllaaGreatDoor
namespace Rows

/-- THE TIED CARD OF 'abaculuslaw28.TapeTerms'. -/
def tapeTermsCard : Claim7 := { stood := { row := tapeTermsRow, standIns := [], harness := (true, "8da17d5acfe9cf115a1bbc15afd4a4ec350db5aa62d4214cb15f8dfaabaa7d6f"), looks := false }, kinds := [], alts := [], laidByText := true, laidKinds := [.data], laidTests := true, laidLooks := .later }
def TapeTermsCardSaid : Prop := Claim7.holds Tryz.pinned (.plain (OpenSpec.ofChange tapeTermsSpec)) tapeTermsCard

/-- THE SECOND FORM's CARD OF 'abaculuslaw28.TapeTerms'. -/
def tapeTermsUptoCard : Claim7 := { stood := { row := tapeTermsUptoRow, standIns := [], harness := (true, "8da17d5acfe9cf115a1bbc15afd4a4ec350db5aa62d4214cb15f8dfaabaa7d6f"), looks := false }, kinds := [], alts := [], laidByText := true, laidKinds := [.data], laidTests := true, laidLooks := .later }
def TapeTermsUptoCardSaid : Prop := Claim7.holds Tryz.pinned (.plain (OpenSpec.upto tapeTermsSpec)) tapeTermsUptoCard
end Rows
end Go.Proofs.YtcaeobghgjgllaaGreatDoor
