/-
  DERIVED. GIVEN WITH THE SEED: THE CARDS: each row of YtphakaomkmhbaaaGreatDoorRows.lean that lists a variable, with what it lists TIED to the program's text (the seventh form; the later family's looks); each row that meets fmt, with fmt's text TOLD by the authors' own Lean function (tested against real Go, not proved from fmt's source: count such statements apart). THE CARD IS WHAT COUNTS. Prove the row's statement (the work); the ties are given (YtphakaomkmhbaaaGreatDoorTie.lean); close each card by the builder's one call (the guide's Derived/Test/ToyasCard.lean, 'card_holds'). Laid BY PROGRAM, IN A SANDBOX (cutbox-door.mjs). By AI agents, Wed Nov 11 2026. No macro, syntax, notation, axiom, sorry.
-/
import Derived.Test.YtphakaomkmhbaaaGreatDoorRows
import GoSem.ClaimSeven
namespace Go.Proofs.YtphakaomkmhbaaaGreatDoor
namespace Rows

/-- THE TIED CARD OF 'abaculuslaw29.DescentConj'. -/
def descentConjCard : Claim7 := { stood := { row := descentConjRow, standIns := [], harness := (true, "407799b4f1c31e2fa7a693a131a42354a3aea4a00adc50032135a24a5a66cecf"), looks := false }, kinds := [], alts := [], laidByText := true, laidKinds := [.data], laidTests := true, laidLooks := .later }
def DescentConjCardSaid : Prop := Claim7.holds Tryz.pinned (.plain (OpenSpec.ofChange descentConjSpec)) descentConjCard

/-- THE TIED CARD OF 'abaculuslaw30.NetAnswers'. -/
def netAnswersCard : Claim7 := { stood := { row := netAnswersRow, standIns := [], harness := (true, "407799b4f1c31e2fa7a693a131a42354a3aea4a00adc50032135a24a5a66cecf"), looks := false }, kinds := [], alts := [], laidByText := true, laidKinds := [.data], laidTests := true, laidLooks := .later }
def NetAnswersCardSaid : Prop := Claim7.holds Tryz.pinned (.plain (OpenSpec.ofChange netAnswersSpec)) netAnswersCard

/-- THE TIED CARD OF 'abaculuslaw30.NetLosses'. -/
def netLossesCard : Claim7 := { stood := { row := netLossesRow, standIns := [], harness := (true, "407799b4f1c31e2fa7a693a131a42354a3aea4a00adc50032135a24a5a66cecf"), looks := false }, kinds := [], alts := [], laidByText := true, laidKinds := [.data], laidTests := true, laidLooks := .later }
def NetLossesCardSaid : Prop := Claim7.holds Tryz.pinned (.plain (OpenSpec.ofChange netLossesSpec)) netLossesCard

/-- THE TIED CARD OF 'abaculuslaw28.TapeBacks'. -/
def tapeBacksCard : Claim7 := { stood := { row := tapeBacksRow, standIns := [], harness := (true, "407799b4f1c31e2fa7a693a131a42354a3aea4a00adc50032135a24a5a66cecf"), looks := false }, kinds := [], alts := [], laidByText := true, laidKinds := [.data], laidTests := true, laidLooks := .later }
def TapeBacksCardSaid : Prop := Claim7.holds Tryz.pinned (.plain (OpenSpec.ofChange tapeBacksSpec)) tapeBacksCard

/-- THE TIED CARD OF 'abaculuslaw30.NetTapes'. -/
def netTapesCard : Claim7 := { stood := { row := netTapesRow, standIns := [], harness := (true, "407799b4f1c31e2fa7a693a131a42354a3aea4a00adc50032135a24a5a66cecf"), looks := false }, kinds := [], alts := [], laidByText := true, laidKinds := [.data], laidTests := true, laidLooks := .later }
def NetTapesCardSaid : Prop := Claim7.holds Tryz.pinned (.plain (OpenSpec.ofChange netTapesSpec)) netTapesCard

/-- THE TIED CARD OF 'abaculuslaw28.TapeRuns'. -/
def tapeRunsCard : Claim7 := { stood := { row := tapeRunsRow, standIns := [], harness := (true, "407799b4f1c31e2fa7a693a131a42354a3aea4a00adc50032135a24a5a66cecf"), looks := false }, kinds := [], alts := [], laidByText := true, laidKinds := [.data], laidTests := true, laidLooks := .later }
def TapeRunsCardSaid : Prop := Claim7.holds Tryz.pinned (.plain (OpenSpec.ofChange tapeRunsSpec)) tapeRunsCard

/-- THE TIED CARD OF 'abaculuslaw30.NetKnown'. -/
def netKnownCard : Claim7 := { stood := { row := netKnownRow, standIns := [], harness := (true, "407799b4f1c31e2fa7a693a131a42354a3aea4a00adc50032135a24a5a66cecf"), looks := false }, kinds := [], alts := [], laidByText := true, laidKinds := [.data], laidTests := true, laidLooks := .later }
def NetKnownCardSaid : Prop := Claim7.holds Tryz.pinned (.plain (OpenSpec.ofChange netKnownSpec)) netKnownCard

/-- THE TIED CARD OF 'abaculuslaw28.TapeTurns'. -/
def tapeTurnsCard : Claim7 := { stood := { row := tapeTurnsRow, standIns := [], harness := (true, "407799b4f1c31e2fa7a693a131a42354a3aea4a00adc50032135a24a5a66cecf"), looks := false }, kinds := [], alts := [], laidByText := true, laidKinds := [.data], laidTests := true, laidLooks := .later }
def TapeTurnsCardSaid : Prop := Claim7.holds Tryz.pinned (.plain (OpenSpec.ofChange tapeTurnsSpec)) tapeTurnsCard

/-- THE TIED CARD OF 'abaculuslaw30.NetBack'. -/
def netBackCard : Claim7 := { stood := { row := netBackRow, standIns := [], harness := (true, "407799b4f1c31e2fa7a693a131a42354a3aea4a00adc50032135a24a5a66cecf"), looks := false }, kinds := [], alts := [], laidByText := true, laidKinds := [.data], laidTests := true, laidLooks := .later }
def NetBackCardSaid : Prop := Claim7.holds Tryz.pinned (.plain (OpenSpec.ofChange netBackSpec)) netBackCard

/-- THE TIED CARD OF 'abaculuslaw30.NetChecks'. -/
def netChecksCard : Claim7 := { stood := { row := netChecksRow, standIns := [], harness := (true, "407799b4f1c31e2fa7a693a131a42354a3aea4a00adc50032135a24a5a66cecf"), looks := false }, kinds := [], alts := [], laidByText := true, laidKinds := [.data], laidTests := true, laidLooks := .later }
def NetChecksCardSaid : Prop := Claim7.holds Tryz.pinned (.plain (OpenSpec.ofChange netChecksSpec)) netChecksCard

/-- THE TIED CARD OF 'abaculuslaw30.NetMakes'. -/
def netMakesCard : Claim7 := { stood := { row := netMakesRow, standIns := [], harness := (true, "407799b4f1c31e2fa7a693a131a42354a3aea4a00adc50032135a24a5a66cecf"), looks := false }, kinds := [], alts := [], laidByText := true, laidKinds := [.data], laidTests := true, laidLooks := .later }
def NetMakesCardSaid : Prop := Claim7.holds Tryz.pinned (.plain (OpenSpec.ofChange netMakesSpec)) netMakesCard

/-- THE SECOND FORM's CARD OF 'abaculuslaw29.DescentConj'. -/
def descentConjUptoCard : Claim7 := { stood := { row := descentConjUptoRow, standIns := [], harness := (true, "407799b4f1c31e2fa7a693a131a42354a3aea4a00adc50032135a24a5a66cecf"), looks := false }, kinds := [], alts := [], laidByText := true, laidKinds := [.data], laidTests := true, laidLooks := .later }
def DescentConjUptoCardSaid : Prop := Claim7.holds Tryz.pinned (.plain (OpenSpec.upto descentConjSpec)) descentConjUptoCard

/-- THE SECOND FORM's CARD OF 'abaculuslaw30.NetAnswers'. -/
def netAnswersUptoCard : Claim7 := { stood := { row := netAnswersUptoRow, standIns := [], harness := (true, "407799b4f1c31e2fa7a693a131a42354a3aea4a00adc50032135a24a5a66cecf"), looks := false }, kinds := [], alts := [], laidByText := true, laidKinds := [.data], laidTests := true, laidLooks := .later }
def NetAnswersUptoCardSaid : Prop := Claim7.holds Tryz.pinned (.plain (OpenSpec.upto netAnswersSpec)) netAnswersUptoCard

/-- THE SECOND FORM's CARD OF 'abaculuslaw30.NetLosses'. -/
def netLossesUptoCard : Claim7 := { stood := { row := netLossesUptoRow, standIns := [], harness := (true, "407799b4f1c31e2fa7a693a131a42354a3aea4a00adc50032135a24a5a66cecf"), looks := false }, kinds := [], alts := [], laidByText := true, laidKinds := [.data], laidTests := true, laidLooks := .later }
def NetLossesUptoCardSaid : Prop := Claim7.holds Tryz.pinned (.plain (OpenSpec.upto netLossesSpec)) netLossesUptoCard

/-- THE SECOND FORM's CARD OF 'abaculuslaw28.TapeBacks'. -/
def tapeBacksUptoCard : Claim7 := { stood := { row := tapeBacksUptoRow, standIns := [], harness := (true, "407799b4f1c31e2fa7a693a131a42354a3aea4a00adc50032135a24a5a66cecf"), looks := false }, kinds := [], alts := [], laidByText := true, laidKinds := [.data], laidTests := true, laidLooks := .later }
def TapeBacksUptoCardSaid : Prop := Claim7.holds Tryz.pinned (.plain (OpenSpec.upto tapeBacksSpec)) tapeBacksUptoCard

/-- THE SECOND FORM's CARD OF 'abaculuslaw30.NetTapes'. -/
def netTapesUptoCard : Claim7 := { stood := { row := netTapesUptoRow, standIns := [], harness := (true, "407799b4f1c31e2fa7a693a131a42354a3aea4a00adc50032135a24a5a66cecf"), looks := false }, kinds := [], alts := [], laidByText := true, laidKinds := [.data], laidTests := true, laidLooks := .later }
def NetTapesUptoCardSaid : Prop := Claim7.holds Tryz.pinned (.plain (OpenSpec.upto netTapesSpec)) netTapesUptoCard

/-- THE SECOND FORM's CARD OF 'abaculuslaw28.TapeRuns'. -/
def tapeRunsUptoCard : Claim7 := { stood := { row := tapeRunsUptoRow, standIns := [], harness := (true, "407799b4f1c31e2fa7a693a131a42354a3aea4a00adc50032135a24a5a66cecf"), looks := false }, kinds := [], alts := [], laidByText := true, laidKinds := [.data], laidTests := true, laidLooks := .later }
def TapeRunsUptoCardSaid : Prop := Claim7.holds Tryz.pinned (.plain (OpenSpec.upto tapeRunsSpec)) tapeRunsUptoCard

/-- THE SECOND FORM's CARD OF 'abaculuslaw30.NetKnown'. -/
def netKnownUptoCard : Claim7 := { stood := { row := netKnownUptoRow, standIns := [], harness := (true, "407799b4f1c31e2fa7a693a131a42354a3aea4a00adc50032135a24a5a66cecf"), looks := false }, kinds := [], alts := [], laidByText := true, laidKinds := [.data], laidTests := true, laidLooks := .later }
def NetKnownUptoCardSaid : Prop := Claim7.holds Tryz.pinned (.plain (OpenSpec.upto netKnownSpec)) netKnownUptoCard

/-- THE SECOND FORM's CARD OF 'abaculuslaw28.TapeTurns'. -/
def tapeTurnsUptoCard : Claim7 := { stood := { row := tapeTurnsUptoRow, standIns := [], harness := (true, "407799b4f1c31e2fa7a693a131a42354a3aea4a00adc50032135a24a5a66cecf"), looks := false }, kinds := [], alts := [], laidByText := true, laidKinds := [.data], laidTests := true, laidLooks := .later }
def TapeTurnsUptoCardSaid : Prop := Claim7.holds Tryz.pinned (.plain (OpenSpec.upto tapeTurnsSpec)) tapeTurnsUptoCard

/-- THE SECOND FORM's CARD OF 'abaculuslaw30.NetBack'. -/
def netBackUptoCard : Claim7 := { stood := { row := netBackUptoRow, standIns := [], harness := (true, "407799b4f1c31e2fa7a693a131a42354a3aea4a00adc50032135a24a5a66cecf"), looks := false }, kinds := [], alts := [], laidByText := true, laidKinds := [.data], laidTests := true, laidLooks := .later }
def NetBackUptoCardSaid : Prop := Claim7.holds Tryz.pinned (.plain (OpenSpec.upto netBackSpec)) netBackUptoCard

/-- THE SECOND FORM's CARD OF 'abaculuslaw30.NetChecks'. -/
def netChecksUptoCard : Claim7 := { stood := { row := netChecksUptoRow, standIns := [], harness := (true, "407799b4f1c31e2fa7a693a131a42354a3aea4a00adc50032135a24a5a66cecf"), looks := false }, kinds := [], alts := [], laidByText := true, laidKinds := [.data], laidTests := true, laidLooks := .later }
def NetChecksUptoCardSaid : Prop := Claim7.holds Tryz.pinned (.plain (OpenSpec.upto netChecksSpec)) netChecksUptoCard

/-- THE SECOND FORM's CARD OF 'abaculuslaw30.NetMakes'. -/
def netMakesUptoCard : Claim7 := { stood := { row := netMakesUptoRow, standIns := [], harness := (true, "407799b4f1c31e2fa7a693a131a42354a3aea4a00adc50032135a24a5a66cecf"), looks := false }, kinds := [], alts := [], laidByText := true, laidKinds := [.data], laidTests := true, laidLooks := .later }
def NetMakesUptoCardSaid : Prop := Claim7.holds Tryz.pinned (.plain (OpenSpec.upto netMakesSpec)) netMakesUptoCard
end Rows
end Go.Proofs.YtphakaomkmhbaaaGreatDoor
