/-
  DERIVED. GIVEN WITH THE SEED: THE CARDS: each row of YtpnchlalmgmkeaaGreatDoorRows.lean that lists a variable, with what it lists TIED to the program's text (the seventh form; the later family's looks); each row that meets fmt, with fmt's text TOLD by the authors' own Lean function (tested against real Go, not proved from fmt's source: count such statements apart). THE CARD IS WHAT COUNTS. Prove the row's statement (the work); the ties are given (YtpnchlalmgmkeaaGreatDoorTie.lean); close each card by the builder's one call (the guide's Derived/Test/ToyasCard.lean, 'card_holds'). Laid BY PROGRAM, IN A SANDBOX (cutbox-door.mjs). By AI agents, Wed Nov 11 2026. No macro, syntax, notation, axiom, sorry.
-/
import Derived.Test.YtpnchlalmgmkeaaGreatDoorRows
import GoSem.ClaimSeven
namespace Go.Proofs.YtpnchlalmgmkeaaGreatDoor
namespace Rows

/-- THE TIED CARD OF 'abaculuslaw27.DualRule'. -/
def dualRuleCard : Claim7 := { stood := { row := dualRuleRow, standIns := [], harness := (true, "62cdebe043cb75485b7dbca4843b234c5185cda35c5c15df3095e8430152b2b9"), looks := false }, kinds := [], alts := [], laidByText := true, laidKinds := [.data, .data, .data, .data, .pinned], laidTests := true, laidLooks := .later }
def DualRuleCardSaid : Prop := Claim7.holds Tryz.pinned (.plain (OpenSpec.ofChange dualRuleSpec)) dualRuleCard

/-- THE SECOND FORM's CARD OF 'abaculuslaw27.DualRule'. -/
def dualRuleUptoCard : Claim7 := { stood := { row := dualRuleUptoRow, standIns := [], harness := (true, "62cdebe043cb75485b7dbca4843b234c5185cda35c5c15df3095e8430152b2b9"), looks := false }, kinds := [], alts := [], laidByText := true, laidKinds := [.data, .data, .data, .data, .pinned], laidTests := true, laidLooks := .later }
def DualRuleUptoCardSaid : Prop := Claim7.holds Tryz.pinned (.plain (OpenSpec.upto dualRuleSpec)) dualRuleUptoCard
end Rows
end Go.Proofs.YtpnchlalmgmkeaaGreatDoor
