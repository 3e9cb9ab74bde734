/-
  DERIVED. GIVEN WITH THE SEED: THE CARDS: each row of YtmniajdkjpcfjaaGreatDoorRows.lean that lists a variable, with what it lists TIED to the program's text (the seventh form; the later family's looks); each row that meets fmt, with fmt's text TOLD by the authors' own Lean function (tested against real Go, not proved from fmt's source: count such statements apart). THE CARD IS WHAT COUNTS. Prove the row's statement (the work); the ties are given (YtmniajdkjpcfjaaGreatDoorTie.lean); close each card by the builder's one call (the guide's Derived/Test/ToyasCard.lean, 'card_holds'). Laid BY PROGRAM, IN A SANDBOX (cutbox-door.mjs). By AI agents, Wed Nov 11 2026. No macro, syntax, notation, axiom, sorry.
-/
import Derived.Test.YtmniajdkjpcfjaaGreatDoorRows
import GoSem.ClaimSeven
namespace Go.Proofs.YtmniajdkjpcfjaaGreatDoor
namespace Rows

/-- THE TIED CARD OF 'abaculuslaw29.DescentSome'. -/
def descentSomeCard : Claim7 := { stood := { row := descentSomeRow, standIns := [], harness := (true, "df38c3b162a9160a9f674e2d7c07a2826d05a450cf95173229355d342264ac73"), looks := false }, kinds := [], alts := [], laidByText := true, laidKinds := [.data], laidTests := true, laidLooks := .later }
def DescentSomeCardSaid : Prop := Claim7.holds Tryz.pinned (.plain (OpenSpec.ofChange descentSomeSpec)) descentSomeCard

/-- THE SECOND FORM's CARD OF 'abaculuslaw29.DescentSome'. -/
def descentSomeUptoCard : Claim7 := { stood := { row := descentSomeUptoRow, standIns := [], harness := (true, "df38c3b162a9160a9f674e2d7c07a2826d05a450cf95173229355d342264ac73"), looks := false }, kinds := [], alts := [], laidByText := true, laidKinds := [.data], laidTests := true, laidLooks := .later }
def DescentSomeUptoCardSaid : Prop := Claim7.holds Tryz.pinned (.plain (OpenSpec.upto descentSomeSpec)) descentSomeUptoCard
end Rows
end Go.Proofs.YtmniajdkjpcfjaaGreatDoor
