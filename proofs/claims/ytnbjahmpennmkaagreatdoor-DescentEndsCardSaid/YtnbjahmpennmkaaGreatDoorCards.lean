/-
  DERIVED. GIVEN WITH THE SEED: THE CARDS: each row of YtnbjahmpennmkaaGreatDoorRows.lean that lists a variable, with what it lists TIED to the program's text (the seventh form; the later family's looks); each row that meets fmt, with fmt's text TOLD by the authors' own Lean function (tested against real Go, not proved from fmt's source: count such statements apart). THE CARD IS WHAT COUNTS. Prove the row's statement (the work); the ties are given (YtnbjahmpennmkaaGreatDoorTie.lean); close each card by the builder's one call (the guide's Derived/Test/ToyasCard.lean, 'card_holds'). Laid BY PROGRAM, IN A SANDBOX (cutbox-door.mjs). By AI agents, Wed Nov 11 2026. No macro, syntax, notation, axiom, sorry.
-/
import Derived.Test.YtnbjahmpennmkaaGreatDoorRows
import GoSem.ClaimSeven
namespace Go.Proofs.YtnbjahmpennmkaaGreatDoor
namespace Rows

/-- THE TIED CARD OF 'abaculuslaw29.DescentConj'. -/
def descentConjCard : Claim7 := { stood := { row := descentConjRow, standIns := [], harness := (true, "5b1df5e833f4b66ad968e7d7cb89e57413a9ce48ce222197dec2fb6da938e0de"), looks := false }, kinds := [], alts := [], laidByText := true, laidKinds := [.data], laidTests := true, laidLooks := .later }
def DescentConjCardSaid : Prop := Claim7.holds Tryz.pinned (.plain (OpenSpec.ofChange descentConjSpec)) descentConjCard

/-- THE TIED CARD OF 'abaculuslaw29.DescentEnds'. -/
def descentEndsCard : Claim7 := { stood := { row := descentEndsRow, standIns := [], harness := (true, "5b1df5e833f4b66ad968e7d7cb89e57413a9ce48ce222197dec2fb6da938e0de"), looks := false }, kinds := [], alts := [], laidByText := true, laidKinds := [.data], laidTests := true, laidLooks := .later }
def DescentEndsCardSaid : Prop := Claim7.holds Tryz.pinned (.plain (OpenSpec.ofChange descentEndsSpec)) descentEndsCard

/-- THE SECOND FORM's CARD OF 'abaculuslaw29.DescentConj'. -/
def descentConjUptoCard : Claim7 := { stood := { row := descentConjUptoRow, standIns := [], harness := (true, "5b1df5e833f4b66ad968e7d7cb89e57413a9ce48ce222197dec2fb6da938e0de"), looks := false }, kinds := [], alts := [], laidByText := true, laidKinds := [.data], laidTests := true, laidLooks := .later }
def DescentConjUptoCardSaid : Prop := Claim7.holds Tryz.pinned (.plain (OpenSpec.upto descentConjSpec)) descentConjUptoCard

/-- THE SECOND FORM's CARD OF 'abaculuslaw29.DescentEnds'. -/
def descentEndsUptoCard : Claim7 := { stood := { row := descentEndsUptoRow, standIns := [], harness := (true, "5b1df5e833f4b66ad968e7d7cb89e57413a9ce48ce222197dec2fb6da938e0de"), looks := false }, kinds := [], alts := [], laidByText := true, laidKinds := [.data], laidTests := true, laidLooks := .later }
def DescentEndsUptoCardSaid : Prop := Claim7.holds Tryz.pinned (.plain (OpenSpec.upto descentEndsSpec)) descentEndsUptoCard
end Rows
end Go.Proofs.YtnbjahmpennmkaaGreatDoor
