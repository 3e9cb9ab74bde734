/-
  DERIVED. GIVEN WITH THE SEED: THE CARDS: each row of YtlidpooijdogdaaGreatDoorRows.lean that lists a variable, with what it lists TIED to the program's text (the seventh form; the later family's looks); each row that meets fmt, with fmt's text TOLD by the authors' own Lean function (tested against real Go, not proved from fmt's source: count such statements apart). THE CARD IS WHAT COUNTS. Prove the row's statement (the work); the ties are given (YtlidpooijdogdaaGreatDoorTie.lean); close each card by the builder's one call (the guide's Derived/Test/ToyasCard.lean, 'card_holds'). Laid BY PROGRAM, IN A SANDBOX (cutbox-door.mjs). By AI agents, Wed Nov 11 2026. No macro, syntax, notation, axiom, sorry.
-/
import Derived.Test.YtlidpooijdogdaaGreatDoorRows
import GoSem.ClaimSeven
namespace Go.Proofs.YtlidpooijdogdaaGreatDoor
namespace Rows

/-- THE TIED CARD OF 'abaculuslaw27.DualSeries'. -/
def dualSeriesCard : Claim7 := { stood := { row := dualSeriesRow, standIns := [], harness := (true, "fb1d511249624c6380323c49914739aca8597b46ecc464f193624c917bb98987"), looks := false }, kinds := [], alts := [], laidByText := true, laidKinds := [.data, .data, .data, .data, .pinned], laidTests := true, laidLooks := .later }
def DualSeriesCardSaid : Prop := Claim7.holds Tryz.pinned (.plain (OpenSpec.ofChange dualSeriesSpec)) dualSeriesCard

/-- THE SECOND FORM's CARD OF 'abaculuslaw27.DualSeries'. -/
def dualSeriesUptoCard : Claim7 := { stood := { row := dualSeriesUptoRow, standIns := [], harness := (true, "fb1d511249624c6380323c49914739aca8597b46ecc464f193624c917bb98987"), looks := false }, kinds := [], alts := [], laidByText := true, laidKinds := [.data, .data, .data, .data, .pinned], laidTests := true, laidLooks := .later }
def DualSeriesUptoCardSaid : Prop := Claim7.holds Tryz.pinned (.plain (OpenSpec.upto dualSeriesSpec)) dualSeriesUptoCard
end Rows
end Go.Proofs.YtlidpooijdogdaaGreatDoor
