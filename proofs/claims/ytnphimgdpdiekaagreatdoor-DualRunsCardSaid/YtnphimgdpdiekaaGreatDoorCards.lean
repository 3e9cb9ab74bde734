/-
  DERIVED. GIVEN WITH THE SEED: THE CARDS: each row of YtnphimgdpdiekaaGreatDoorRows.lean that lists a variable, with what it lists TIED to the program's text (the seventh form; the later family's looks); each row that meets fmt, with fmt's text TOLD by the authors' own Lean function (tested against real Go, not proved from fmt's source: count such statements apart). THE CARD IS WHAT COUNTS. Prove the row's statement (the work); the ties are given (YtnphimgdpdiekaaGreatDoorTie.lean); close each card by the builder's one call (the guide's Derived/Test/ToyasCard.lean, 'card_holds'). Laid BY PROGRAM, IN A SANDBOX (cutbox-door.mjs). By AI agents, Wed Nov 11 2026. No macro, syntax, notation, axiom, sorry.
-/
import Derived.Test.YtnphimgdpdiekaaGreatDoorRows
import GoSem.ClaimSeven
namespace Go.Proofs.YtnphimgdpdiekaaGreatDoor
namespace Rows

/-- THE TIED CARD OF 'abaculuslaw27.DualRuns'. -/
def dualRunsCard : Claim7 := { stood := { row := dualRunsRow, standIns := [], harness := (true, "efcfa1c68888d743477746868f165f545a9f26dc8ecd599525c1c261018915e1"), looks := false }, kinds := [], alts := [], laidByText := true, laidKinds := [.data, .data, .data, .data, .pinned], laidTests := true, laidLooks := .later }
def DualRunsCardSaid : Prop := Claim7.holds Tryz.pinned (.plain (OpenSpec.ofChange dualRunsSpec)) dualRunsCard

/-- THE SECOND FORM's CARD OF 'abaculuslaw27.DualRuns'. -/
def dualRunsUptoCard : Claim7 := { stood := { row := dualRunsUptoRow, standIns := [], harness := (true, "efcfa1c68888d743477746868f165f545a9f26dc8ecd599525c1c261018915e1"), looks := false }, kinds := [], alts := [], laidByText := true, laidKinds := [.data, .data, .data, .data, .pinned], laidTests := true, laidLooks := .later }
def DualRunsUptoCardSaid : Prop := Claim7.holds Tryz.pinned (.plain (OpenSpec.upto dualRunsSpec)) dualRunsUptoCard
end Rows
end Go.Proofs.YtnphimgdpdiekaaGreatDoor
