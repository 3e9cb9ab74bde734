/-
  DERIVED. GIVEN WITH THE SEED: THE CARDS: each row of YtmkcmnhnmajheaaGreatDoorRows.lean that lists a variable, with what it lists TIED to the program's text (the seventh form; the later family's looks); each row that meets fmt, with fmt's text TOLD by the authors' own Lean function (tested against real Go, not proved from fmt's source: count such statements apart). THE CARD IS WHAT COUNTS. Prove the row's statement (the work); the ties are given (YtmkcmnhnmajheaaGreatDoorTie.lean); close each card by the builder's one call (the guide's Derived/Test/ToyasCard.lean, 'card_holds'). Laid BY PROGRAM, IN A SANDBOX (cutbox-door.mjs). By AI agents, Wed Nov 11 2026. No macro, syntax, notation, axiom, sorry.
-/
import Derived.Test.YtmkcmnhnmajheaaGreatDoorRows
import GoSem.ClaimSeven
namespace Go.Proofs.YtmkcmnhnmajheaaGreatDoor
namespace Rows

/-- THE TIED CARD OF 'abaculuslaw28.TapeRuns'. -/
def tapeRunsCard : Claim7 := { stood := { row := tapeRunsRow, standIns := [], harness := (true, "5769004ea6211a14569c54ebacd6d8b5d534cb49dc3e48c80ae0e9fd52dcac56"), looks := false }, kinds := [], alts := [], laidByText := true, laidKinds := [.data], laidTests := true, laidLooks := .later }
def TapeRunsCardSaid : Prop := Claim7.holds Tryz.pinned (.plain (OpenSpec.ofChange tapeRunsSpec)) tapeRunsCard

/-- THE TIED CARD OF 'abaculuslaw28.TapeBacks'. -/
def tapeBacksCard : Claim7 := { stood := { row := tapeBacksRow, standIns := [], harness := (true, "5769004ea6211a14569c54ebacd6d8b5d534cb49dc3e48c80ae0e9fd52dcac56"), looks := false }, kinds := [], alts := [], laidByText := true, laidKinds := [.data], laidTests := true, laidLooks := .later }
def TapeBacksCardSaid : Prop := Claim7.holds Tryz.pinned (.plain (OpenSpec.ofChange tapeBacksSpec)) tapeBacksCard

/-- THE TIED CARD OF 'abaculuslaw28.TapeTurns'. -/
def tapeTurnsCard : Claim7 := { stood := { row := tapeTurnsRow, standIns := [], harness := (true, "5769004ea6211a14569c54ebacd6d8b5d534cb49dc3e48c80ae0e9fd52dcac56"), looks := false }, kinds := [], alts := [], laidByText := true, laidKinds := [.data], laidTests := true, laidLooks := .later }
def TapeTurnsCardSaid : Prop := Claim7.holds Tryz.pinned (.plain (OpenSpec.ofChange tapeTurnsSpec)) tapeTurnsCard

/-- THE TIED CARD OF 'abaculuslaw30.NetTapes'. -/
def netTapesCard : Claim7 := { stood := { row := netTapesRow, standIns := [], harness := (true, "5769004ea6211a14569c54ebacd6d8b5d534cb49dc3e48c80ae0e9fd52dcac56"), looks := false }, kinds := [], alts := [], laidByText := true, laidKinds := [.data], laidTests := true, laidLooks := .later }
def NetTapesCardSaid : Prop := Claim7.holds Tryz.pinned (.plain (OpenSpec.ofChange netTapesSpec)) netTapesCard

/-- THE TIED CARD OF 'abaculuslaw30.NetBack'. -/
def netBackCard : Claim7 := { stood := { row := netBackRow, standIns := [], harness := (true, "5769004ea6211a14569c54ebacd6d8b5d534cb49dc3e48c80ae0e9fd52dcac56"), looks := false }, kinds := [], alts := [], laidByText := true, laidKinds := [.data], laidTests := true, laidLooks := .later }
def NetBackCardSaid : Prop := Claim7.holds Tryz.pinned (.plain (OpenSpec.ofChange netBackSpec)) netBackCard

/-- THE SECOND FORM's CARD OF 'abaculuslaw28.TapeRuns'. -/
def tapeRunsUptoCard : Claim7 := { stood := { row := tapeRunsUptoRow, standIns := [], harness := (true, "5769004ea6211a14569c54ebacd6d8b5d534cb49dc3e48c80ae0e9fd52dcac56"), looks := false }, kinds := [], alts := [], laidByText := true, laidKinds := [.data], laidTests := true, laidLooks := .later }
def TapeRunsUptoCardSaid : Prop := Claim7.holds Tryz.pinned (.plain (OpenSpec.upto tapeRunsSpec)) tapeRunsUptoCard

/-- THE SECOND FORM's CARD OF 'abaculuslaw28.TapeBacks'. -/
def tapeBacksUptoCard : Claim7 := { stood := { row := tapeBacksUptoRow, standIns := [], harness := (true, "5769004ea6211a14569c54ebacd6d8b5d534cb49dc3e48c80ae0e9fd52dcac56"), looks := false }, kinds := [], alts := [], laidByText := true, laidKinds := [.data], laidTests := true, laidLooks := .later }
def TapeBacksUptoCardSaid : Prop := Claim7.holds Tryz.pinned (.plain (OpenSpec.upto tapeBacksSpec)) tapeBacksUptoCard

/-- THE SECOND FORM's CARD OF 'abaculuslaw28.TapeTurns'. -/
def tapeTurnsUptoCard : Claim7 := { stood := { row := tapeTurnsUptoRow, standIns := [], harness := (true, "5769004ea6211a14569c54ebacd6d8b5d534cb49dc3e48c80ae0e9fd52dcac56"), looks := false }, kinds := [], alts := [], laidByText := true, laidKinds := [.data], laidTests := true, laidLooks := .later }
def TapeTurnsUptoCardSaid : Prop := Claim7.holds Tryz.pinned (.plain (OpenSpec.upto tapeTurnsSpec)) tapeTurnsUptoCard

/-- THE SECOND FORM's CARD OF 'abaculuslaw30.NetTapes'. -/
def netTapesUptoCard : Claim7 := { stood := { row := netTapesUptoRow, standIns := [], harness := (true, "5769004ea6211a14569c54ebacd6d8b5d534cb49dc3e48c80ae0e9fd52dcac56"), looks := false }, kinds := [], alts := [], laidByText := true, laidKinds := [.data], laidTests := true, laidLooks := .later }
def NetTapesUptoCardSaid : Prop := Claim7.holds Tryz.pinned (.plain (OpenSpec.upto netTapesSpec)) netTapesUptoCard

/-- THE SECOND FORM's CARD OF 'abaculuslaw30.NetBack'. -/
def netBackUptoCard : Claim7 := { stood := { row := netBackUptoRow, standIns := [], harness := (true, "5769004ea6211a14569c54ebacd6d8b5d534cb49dc3e48c80ae0e9fd52dcac56"), looks := false }, kinds := [], alts := [], laidByText := true, laidKinds := [.data], laidTests := true, laidLooks := .later }
def NetBackUptoCardSaid : Prop := Claim7.holds Tryz.pinned (.plain (OpenSpec.upto netBackSpec)) netBackUptoCard
end Rows
end Go.Proofs.YtmkcmnhnmajheaaGreatDoor
