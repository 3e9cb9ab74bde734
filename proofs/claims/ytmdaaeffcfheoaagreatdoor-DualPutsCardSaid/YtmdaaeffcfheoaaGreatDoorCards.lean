/-
  DERIVED. GIVEN WITH THE SEED: THE CARDS: each row of YtmdaaeffcfheoaaGreatDoorRows.lean that lists a variable, with what it lists TIED to the program's text (the seventh form; the later family's looks); each row that meets fmt, with fmt's text TOLD by the authors' own Lean function (tested against real Go, not proved from fmt's source: count such statements apart). THE CARD IS WHAT COUNTS. Prove the row's statement (the work); the ties are given (YtmdaaeffcfheoaaGreatDoorTie.lean); close each card by the builder's one call (the guide's Derived/Test/ToyasCard.lean, 'card_holds'). Laid BY PROGRAM, IN A SANDBOX (cutbox-door.mjs). By AI agents, Wed Nov 11 2026. No macro, syntax, notation, axiom, sorry.
-/
import Derived.Test.YtmdaaeffcfheoaaGreatDoorRows
import GoSem.ClaimSeven
namespace Go.Proofs.YtmdaaeffcfheoaaGreatDoor
namespace Rows

/-- THE TIED CARD OF 'abaculuslaw27.DualPuts'. -/
def dualPutsCard : Claim7 := { stood := { row := dualPutsRow, standIns := [], harness := (true, "76f9761a01bb5e5d10970e1b20e6ccdb84e9988f3b09d6bfdfa80d7895612290"), looks := false }, kinds := [], alts := [], laidByText := true, laidKinds := [.data, .data, .data, .data, .pinned], laidTests := true, laidLooks := .later }
def DualPutsCardSaid : Prop := Claim7.holds Tryz.pinned (.plain (OpenSpec.ofChange dualPutsSpec)) dualPutsCard

/-- THE SECOND FORM's CARD OF 'abaculuslaw27.DualPuts'. -/
def dualPutsUptoCard : Claim7 := { stood := { row := dualPutsUptoRow, standIns := [], harness := (true, "76f9761a01bb5e5d10970e1b20e6ccdb84e9988f3b09d6bfdfa80d7895612290"), looks := false }, kinds := [], alts := [], laidByText := true, laidKinds := [.data, .data, .data, .data, .pinned], laidTests := true, laidLooks := .later }
def DualPutsUptoCardSaid : Prop := Claim7.holds Tryz.pinned (.plain (OpenSpec.upto dualPutsSpec)) dualPutsUptoCard
end Rows
end Go.Proofs.YtmdaaeffcfheoaaGreatDoor
