/-
  DERIVED. GIVEN WITH THE SEED: THE CARDS: each row of YtbhpcpkcjgkcpaaGreatDoorRows.lean that lists a variable, with what it lists TIED to the program's text (the seventh form; the later family's looks); each row that meets fmt, with fmt's text TOLD by the authors' own Lean function (tested against real Go, not proved from fmt's source: count such statements apart). THE CARD IS WHAT COUNTS. Prove the row's statement (the work); the ties are given (YtbhpcpkcjgkcpaaGreatDoorTie.lean); close each card by the builder's one call (the guide's Derived/Test/ToyasCard.lean, 'card_holds'). Laid BY PROGRAM, IN A SANDBOX (cutbox-door.mjs). By AI agents, Wed Nov 11 2026. No macro, syntax, notation, axiom, sorry.
-/
import Derived.Test.YtbhpcpkcjgkcpaaGreatDoorRows
import GoSem.ClaimSeven
namespace Go.Proofs.YtbhpcpkcjgkcpaaGreatDoor
namespace Rows

/-- THE TIED CARD OF 'abaculuslaw30.NetStraight'. -/
def netStraightCard : Claim7 := { stood := { row := netStraightRow, standIns := [], harness := (true, "7d2cedf5f1b26f2ab8b688f96d4e52841aec82168a5826a878b861beafd62871"), looks := false }, kinds := [], alts := [], laidByText := true, laidKinds := [.data], laidTests := true, laidLooks := .later }
def NetStraightCardSaid : Prop := Claim7.holds Tryz.pinned (.plain (OpenSpec.ofChange netStraightSpec)) netStraightCard

/-- THE TIED CARD OF 'abaculuslaw30.NetStays'. -/
def netStaysCard : Claim7 := { stood := { row := netStaysRow, standIns := [], harness := (true, "7d2cedf5f1b26f2ab8b688f96d4e52841aec82168a5826a878b861beafd62871"), looks := false }, kinds := [], alts := [], laidByText := true, laidKinds := [.data], laidTests := true, laidLooks := .later }
def NetStaysCardSaid : Prop := Claim7.holds Tryz.pinned (.plain (OpenSpec.ofChange netStaysSpec)) netStaysCard

/-- THE TIED CARD OF 'abaculuslaw30.NetKnown'. -/
def netKnownCard : Claim7 := { stood := { row := netKnownRow, standIns := [], harness := (true, "7d2cedf5f1b26f2ab8b688f96d4e52841aec82168a5826a878b861beafd62871"), looks := false }, kinds := [], alts := [], laidByText := true, laidKinds := [.data], laidTests := true, laidLooks := .later }
def NetKnownCardSaid : Prop := Claim7.holds Tryz.pinned (.plain (OpenSpec.ofChange netKnownSpec)) netKnownCard

/-- THE TIED CARD OF 'abaculuslaw30.NetChecks'. -/
def netChecksCard : Claim7 := { stood := { row := netChecksRow, standIns := [], harness := (true, "7d2cedf5f1b26f2ab8b688f96d4e52841aec82168a5826a878b861beafd62871"), looks := false }, kinds := [], alts := [], laidByText := true, laidKinds := [.data], laidTests := true, laidLooks := .later }
def NetChecksCardSaid : Prop := Claim7.holds Tryz.pinned (.plain (OpenSpec.ofChange netChecksSpec)) netChecksCard

/-- THE TIED CARD OF 'abaculuslaw30.NetMakes'. -/
def netMakesCard : Claim7 := { stood := { row := netMakesRow, standIns := [], harness := (true, "7d2cedf5f1b26f2ab8b688f96d4e52841aec82168a5826a878b861beafd62871"), looks := false }, kinds := [], alts := [], laidByText := true, laidKinds := [.data], laidTests := true, laidLooks := .later }
def NetMakesCardSaid : Prop := Claim7.holds Tryz.pinned (.plain (OpenSpec.ofChange netMakesSpec)) netMakesCard

/-- THE TIED CARD OF 'abaculuslaw30.NetAnswers'. -/
def netAnswersCard : Claim7 := { stood := { row := netAnswersRow, standIns := [], harness := (true, "7d2cedf5f1b26f2ab8b688f96d4e52841aec82168a5826a878b861beafd62871"), looks := false }, kinds := [], alts := [], laidByText := true, laidKinds := [.data], laidTests := true, laidLooks := .later }
def NetAnswersCardSaid : Prop := Claim7.holds Tryz.pinned (.plain (OpenSpec.ofChange netAnswersSpec)) netAnswersCard

/-- THE SECOND FORM's CARD OF 'abaculuslaw30.NetStraight'. -/
def netStraightUptoCard : Claim7 := { stood := { row := netStraightUptoRow, standIns := [], harness := (true, "7d2cedf5f1b26f2ab8b688f96d4e52841aec82168a5826a878b861beafd62871"), looks := false }, kinds := [], alts := [], laidByText := true, laidKinds := [.data], laidTests := true, laidLooks := .later }
def NetStraightUptoCardSaid : Prop := Claim7.holds Tryz.pinned (.plain (OpenSpec.upto netStraightSpec)) netStraightUptoCard

/-- THE SECOND FORM's CARD OF 'abaculuslaw30.NetStays'. -/
def netStaysUptoCard : Claim7 := { stood := { row := netStaysUptoRow, standIns := [], harness := (true, "7d2cedf5f1b26f2ab8b688f96d4e52841aec82168a5826a878b861beafd62871"), looks := false }, kinds := [], alts := [], laidByText := true, laidKinds := [.data], laidTests := true, laidLooks := .later }
def NetStaysUptoCardSaid : Prop := Claim7.holds Tryz.pinned (.plain (OpenSpec.upto netStaysSpec)) netStaysUptoCard

/-- THE SECOND FORM's CARD OF 'abaculuslaw30.NetKnown'. -/
def netKnownUptoCard : Claim7 := { stood := { row := netKnownUptoRow, standIns := [], harness := (true, "7d2cedf5f1b26f2ab8b688f96d4e52841aec82168a5826a878b861beafd62871"), looks := false }, kinds := [], alts := [], laidByText := true, laidKinds := [.data], laidTests := true, laidLooks := .later }
def NetKnownUptoCardSaid : Prop := Claim7.holds Tryz.pinned (.plain (OpenSpec.upto netKnownSpec)) netKnownUptoCard

/-- THE SECOND FORM's CARD OF 'abaculuslaw30.NetChecks'. -/
def netChecksUptoCard : Claim7 := { stood := { row := netChecksUptoRow, standIns := [], harness := (true, "7d2cedf5f1b26f2ab8b688f96d4e52841aec82168a5826a878b861beafd62871"), looks := false }, kinds := [], alts := [], laidByText := true, laidKinds := [.data], laidTests := true, laidLooks := .later }
def NetChecksUptoCardSaid : Prop := Claim7.holds Tryz.pinned (.plain (OpenSpec.upto netChecksSpec)) netChecksUptoCard

/-- THE SECOND FORM's CARD OF 'abaculuslaw30.NetMakes'. -/
def netMakesUptoCard : Claim7 := { stood := { row := netMakesUptoRow, standIns := [], harness := (true, "7d2cedf5f1b26f2ab8b688f96d4e52841aec82168a5826a878b861beafd62871"), looks := false }, kinds := [], alts := [], laidByText := true, laidKinds := [.data], laidTests := true, laidLooks := .later }
def NetMakesUptoCardSaid : Prop := Claim7.holds Tryz.pinned (.plain (OpenSpec.upto netMakesSpec)) netMakesUptoCard

/-- THE SECOND FORM's CARD OF 'abaculuslaw30.NetAnswers'. -/
def netAnswersUptoCard : Claim7 := { stood := { row := netAnswersUptoRow, standIns := [], harness := (true, "7d2cedf5f1b26f2ab8b688f96d4e52841aec82168a5826a878b861beafd62871"), looks := false }, kinds := [], alts := [], laidByText := true, laidKinds := [.data], laidTests := true, laidLooks := .later }
def NetAnswersUptoCardSaid : Prop := Claim7.holds Tryz.pinned (.plain (OpenSpec.upto netAnswersSpec)) netAnswersUptoCard
end Rows
end Go.Proofs.YtbhpcpkcjgkcpaaGreatDoor
