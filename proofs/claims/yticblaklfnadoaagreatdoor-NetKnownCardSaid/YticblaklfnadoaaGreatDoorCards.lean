/-
  DERIVED. GIVEN WITH THE SEED: THE CARDS: each row of YticblaklfnadoaaGreatDoorRows.lean that lists a variable, with what it lists TIED to the program's text (the seventh form; the later family's looks); each row that meets fmt, with fmt's text TOLD by the authors' own Lean function (tested against real Go, not proved from fmt's source: count such statements apart). THE CARD IS WHAT COUNTS. Prove the row's statement (the work); the ties are given (YticblaklfnadoaaGreatDoorTie.lean); close each card by the builder's one call (the guide's Derived/Test/ToyasCard.lean, 'card_holds'). Laid BY PROGRAM, IN A SANDBOX (cutbox-door.mjs). By AI agents, Wed Nov 11 2026. No macro, syntax, notation, axiom, sorry.
-/
import Derived.Test.YticblaklfnadoaaGreatDoorRows
import GoSem.ClaimSeven
namespace Go.Proofs.YticblaklfnadoaaGreatDoor
namespace Rows

/-- THE TIED CARD OF 'abaculuslaw30.NetMakes'. -/
def netMakesCard : Claim7 := { stood := { row := netMakesRow, standIns := [], harness := (true, "043f342e0541a148fe5bc9df4a52b6468bb0b5901ca17264c3af5c4eecfe5dfc"), looks := false }, kinds := [], alts := [], laidByText := true, laidKinds := [.data], laidTests := true, laidLooks := .later }
def NetMakesCardSaid : Prop := Claim7.holds Tryz.pinned (.plain (OpenSpec.ofChange netMakesSpec)) netMakesCard

/-- THE TIED CARD OF 'abaculuslaw30.NetTapes'. -/
def netTapesCard : Claim7 := { stood := { row := netTapesRow, standIns := [], harness := (true, "043f342e0541a148fe5bc9df4a52b6468bb0b5901ca17264c3af5c4eecfe5dfc"), looks := false }, kinds := [], alts := [], laidByText := true, laidKinds := [.data], laidTests := true, laidLooks := .later }
def NetTapesCardSaid : Prop := Claim7.holds Tryz.pinned (.plain (OpenSpec.ofChange netTapesSpec)) netTapesCard

/-- THE TIED CARD OF 'abaculuslaw30.NetKnown'. -/
def netKnownCard : Claim7 := { stood := { row := netKnownRow, standIns := [], harness := (true, "043f342e0541a148fe5bc9df4a52b6468bb0b5901ca17264c3af5c4eecfe5dfc"), looks := false }, kinds := [], alts := [], laidByText := true, laidKinds := [.data], laidTests := true, laidLooks := .later }
def NetKnownCardSaid : Prop := Claim7.holds Tryz.pinned (.plain (OpenSpec.ofChange netKnownSpec)) netKnownCard

/-- THE TIED CARD OF 'abaculuslaw30.NetLosses'. -/
def netLossesCard : Claim7 := { stood := { row := netLossesRow, standIns := [], harness := (true, "043f342e0541a148fe5bc9df4a52b6468bb0b5901ca17264c3af5c4eecfe5dfc"), looks := false }, kinds := [], alts := [], laidByText := true, laidKinds := [.data], laidTests := true, laidLooks := .later }
def NetLossesCardSaid : Prop := Claim7.holds Tryz.pinned (.plain (OpenSpec.ofChange netLossesSpec)) netLossesCard

/-- THE TIED CARD OF 'abaculuslaw28.TapeRuns'. -/
def tapeRunsCard : Claim7 := { stood := { row := tapeRunsRow, standIns := [], harness := (true, "043f342e0541a148fe5bc9df4a52b6468bb0b5901ca17264c3af5c4eecfe5dfc"), looks := false }, kinds := [], alts := [], laidByText := true, laidKinds := [.data], laidTests := true, laidLooks := .later }
def TapeRunsCardSaid : Prop := Claim7.holds Tryz.pinned (.plain (OpenSpec.ofChange tapeRunsSpec)) tapeRunsCard

/-- THE SECOND FORM's CARD OF 'abaculuslaw30.NetMakes'. -/
def netMakesUptoCard : Claim7 := { stood := { row := netMakesUptoRow, standIns := [], harness := (true, "043f342e0541a148fe5bc9df4a52b6468bb0b5901ca17264c3af5c4eecfe5dfc"), looks := false }, kinds := [], alts := [], laidByText := true, laidKinds := [.data], laidTests := true, laidLooks := .later }
def NetMakesUptoCardSaid : Prop := Claim7.holds Tryz.pinned (.plain (OpenSpec.upto netMakesSpec)) netMakesUptoCard

/-- THE SECOND FORM's CARD OF 'abaculuslaw30.NetTapes'. -/
def netTapesUptoCard : Claim7 := { stood := { row := netTapesUptoRow, standIns := [], harness := (true, "043f342e0541a148fe5bc9df4a52b6468bb0b5901ca17264c3af5c4eecfe5dfc"), looks := false }, kinds := [], alts := [], laidByText := true, laidKinds := [.data], laidTests := true, laidLooks := .later }
def NetTapesUptoCardSaid : Prop := Claim7.holds Tryz.pinned (.plain (OpenSpec.upto netTapesSpec)) netTapesUptoCard

/-- THE SECOND FORM's CARD OF 'abaculuslaw30.NetKnown'. -/
def netKnownUptoCard : Claim7 := { stood := { row := netKnownUptoRow, standIns := [], harness := (true, "043f342e0541a148fe5bc9df4a52b6468bb0b5901ca17264c3af5c4eecfe5dfc"), looks := false }, kinds := [], alts := [], laidByText := true, laidKinds := [.data], laidTests := true, laidLooks := .later }
def NetKnownUptoCardSaid : Prop := Claim7.holds Tryz.pinned (.plain (OpenSpec.upto netKnownSpec)) netKnownUptoCard

/-- THE SECOND FORM's CARD OF 'abaculuslaw30.NetLosses'. -/
def netLossesUptoCard : Claim7 := { stood := { row := netLossesUptoRow, standIns := [], harness := (true, "043f342e0541a148fe5bc9df4a52b6468bb0b5901ca17264c3af5c4eecfe5dfc"), looks := false }, kinds := [], alts := [], laidByText := true, laidKinds := [.data], laidTests := true, laidLooks := .later }
def NetLossesUptoCardSaid : Prop := Claim7.holds Tryz.pinned (.plain (OpenSpec.upto netLossesSpec)) netLossesUptoCard

/-- THE SECOND FORM's CARD OF 'abaculuslaw28.TapeRuns'. -/
def tapeRunsUptoCard : Claim7 := { stood := { row := tapeRunsUptoRow, standIns := [], harness := (true, "043f342e0541a148fe5bc9df4a52b6468bb0b5901ca17264c3af5c4eecfe5dfc"), looks := false }, kinds := [], alts := [], laidByText := true, laidKinds := [.data], laidTests := true, laidLooks := .later }
def TapeRunsUptoCardSaid : Prop := Claim7.holds Tryz.pinned (.plain (OpenSpec.upto tapeRunsSpec)) tapeRunsUptoCard
end Rows
end Go.Proofs.YticblaklfnadoaaGreatDoor
