/-
  DERIVED. GIVEN WITH THE SEED: THE CARDS: each row of YtmglkghngkbioaaGreatDoorRows.lean that lists a variable, with what it lists TIED to the program's text (the seventh form; the later family's looks); each row that meets fmt, with fmt's text TOLD by the authors' own Lean function (tested against real Go, not proved from fmt's source: count such statements apart). THE CARD IS WHAT COUNTS. Prove the row's statement (the work); the ties are given (YtmglkghngkbioaaGreatDoorTie.lean); close each card by the builder's one call (the guide's Derived/Test/ToyasCard.lean, 'card_holds'). Laid BY PROGRAM, IN A SANDBOX (cutbox-door.mjs). By AI agents, Wed Nov 11 2026. No macro, syntax, notation, axiom, sorry.
-/
import Derived.Test.YtmglkghngkbioaaGreatDoorRows
import GoSem.ClaimSeven
namespace Go.Proofs.YtmglkghngkbioaaGreatDoor
namespace Rows

/-- THE TIED CARD OF 'paymasterlaw10.CheckKinds'. -/
def checkKindsCard : Claim7 := { stood := { row := checkKindsRow, standIns := [], harness := (true, "67c1f0b54be810e699e6cb9e1de96ceec1d95e5a1ae2609bb7a7d8438971333c"), looks := true }, kinds := [], alts := [], laidByText := true, laidKinds := [.data, .data, .data, .data, .sentinel, .sentinel, .pinned], laidTests := true, laidLooks := .later }
def CheckKindsCardSaid : Prop := Claim7.holds Tryz.pinned (.plain (OpenSpec.ofChange checkKindsSpec)) checkKindsCard

/-- THE TIED CARD OF 'paymasterlaw10.CheckMore'. -/
def checkMoreCard : Claim7 := { stood := { row := checkMoreRow, standIns := [], harness := (true, "67c1f0b54be810e699e6cb9e1de96ceec1d95e5a1ae2609bb7a7d8438971333c"), looks := true }, kinds := [], alts := [], laidByText := true, laidKinds := [.data, .data, .data, .data, .sentinel, .sentinel, .pinned], laidTests := true, laidLooks := .later }
def CheckMoreCardSaid : Prop := Claim7.holds Tryz.pinned (.plain (OpenSpec.ofChange checkMoreSpec)) checkMoreCard

/-- THE TIED CARD OF 'paymasterlaw10.CheckTwice'. -/
def checkTwiceCard : Claim7 := { stood := { row := checkTwiceRow, standIns := [], harness := (true, "67c1f0b54be810e699e6cb9e1de96ceec1d95e5a1ae2609bb7a7d8438971333c"), looks := true }, kinds := [], alts := [], laidByText := true, laidKinds := [.data, .data, .data, .data, .sentinel, .sentinel, .pinned], laidTests := true, laidLooks := .later }
def CheckTwiceCardSaid : Prop := Claim7.holds Tryz.pinned (.plain (OpenSpec.ofChange checkTwiceSpec)) checkTwiceCard

/-- THE TIED CARD OF 'paymasterlaw10.CheckNames'. -/
def checkNamesCard : Claim7 := { stood := { row := checkNamesRow, standIns := [], harness := (true, "67c1f0b54be810e699e6cb9e1de96ceec1d95e5a1ae2609bb7a7d8438971333c"), looks := true }, kinds := [], alts := [], laidByText := true, laidKinds := [.data, .data, .data, .data, .sentinel, .sentinel, .pinned], laidTests := true, laidLooks := .later }
def CheckNamesCardSaid : Prop := Claim7.holds Tryz.pinned (.plain (OpenSpec.ofChange checkNamesSpec)) checkNamesCard

/-- THE TIED CARD OF 'paymasterlaw10.CheckNeg'. -/
def checkNegCard : Claim7 := { stood := { row := checkNegRow, standIns := [], harness := (true, "67c1f0b54be810e699e6cb9e1de96ceec1d95e5a1ae2609bb7a7d8438971333c"), looks := true }, kinds := [], alts := [], laidByText := true, laidKinds := [.data, .data, .data, .data, .sentinel, .sentinel, .pinned], laidTests := true, laidLooks := .later }
def CheckNegCardSaid : Prop := Claim7.holds Tryz.pinned (.plain (OpenSpec.ofChange checkNegSpec)) checkNegCard

/-- THE TIED CARD OF 'paymasterlaw10.CheckIf'. -/
def checkIfCard : Claim7 := { stood := { row := checkIfRow, standIns := [], harness := (true, "67c1f0b54be810e699e6cb9e1de96ceec1d95e5a1ae2609bb7a7d8438971333c"), looks := true }, kinds := [], alts := [], laidByText := true, laidKinds := [.data, .data, .data, .data, .sentinel, .sentinel, .pinned], laidTests := true, laidLooks := .later }
def CheckIfCardSaid : Prop := Claim7.holds Tryz.pinned (.plain (OpenSpec.ofChange checkIfSpec)) checkIfCard

/-- THE TIED CARD OF 'paymasterlaw09.ShowTells'. -/
def showTellsCard : Claim7 := { stood := { row := showTellsRow, standIns := [], harness := (true, "67c1f0b54be810e699e6cb9e1de96ceec1d95e5a1ae2609bb7a7d8438971333c"), looks := true }, kinds := [], alts := [], laidByText := true, laidKinds := [.data, .data, .data, .data, .sentinel, .sentinel, .pinned], laidTests := true, laidLooks := .later }
def ShowTellsCardSaid : Prop := Claim7.holds Tryz.pinned (.plain (OpenSpec.ofChange showTellsSpec)) showTellsCard

/-- THE TIED CARD OF 'paymasterlaw09.ShowBack'. -/
def showBackCard : Claim7 := { stood := { row := showBackRow, standIns := [], harness := (true, "67c1f0b54be810e699e6cb9e1de96ceec1d95e5a1ae2609bb7a7d8438971333c"), looks := true }, kinds := [], alts := [], laidByText := true, laidKinds := [.data, .data, .data, .data, .sentinel, .sentinel, .pinned], laidTests := true, laidLooks := .later }
def ShowBackCardSaid : Prop := Claim7.holds Tryz.pinned (.plain (OpenSpec.ofChange showBackSpec)) showBackCard

/-- THE TIED CARD OF 'paymasterlaw09.ShowWrong'. -/
def showWrongCard : Claim7 := { stood := { row := showWrongRow, standIns := [], harness := (true, "67c1f0b54be810e699e6cb9e1de96ceec1d95e5a1ae2609bb7a7d8438971333c"), looks := true }, kinds := [], alts := [], laidByText := true, laidKinds := [.data, .data, .data, .data, .sentinel, .sentinel, .pinned], laidTests := true, laidLooks := .later }
def ShowWrongCardSaid : Prop := Claim7.holds Tryz.pinned (.plain (OpenSpec.ofChange showWrongSpec)) showWrongCard

/-- THE TIED CARD OF 'paymasterlaw09.ShowBare'. -/
def showBareCard : Claim7 := { stood := { row := showBareRow, standIns := [], harness := (true, "67c1f0b54be810e699e6cb9e1de96ceec1d95e5a1ae2609bb7a7d8438971333c"), looks := true }, kinds := [], alts := [], laidByText := true, laidKinds := [.data, .data, .data, .data, .sentinel, .sentinel, .pinned], laidTests := true, laidLooks := .later }
def ShowBareCardSaid : Prop := Claim7.holds Tryz.pinned (.plain (OpenSpec.ofChange showBareSpec)) showBareCard

/-- THE TIED CARD OF 'paymasterlaw09.ShowRules'. -/
def showRulesCard : Claim7 := { stood := { row := showRulesRow, standIns := [], harness := (true, "67c1f0b54be810e699e6cb9e1de96ceec1d95e5a1ae2609bb7a7d8438971333c"), looks := true }, kinds := [], alts := [], laidByText := true, laidKinds := [.data, .data, .data, .data, .sentinel, .sentinel, .pinned], laidTests := true, laidLooks := .later }
def ShowRulesCardSaid : Prop := Claim7.holds Tryz.pinned (.plain (OpenSpec.ofChange showRulesSpec)) showRulesCard

/-- THE TIED CARD OF 'paymasterlaw09.ShowExprs'. -/
def showExprsCard : Claim7 := { stood := { row := showExprsRow, standIns := [], harness := (true, "67c1f0b54be810e699e6cb9e1de96ceec1d95e5a1ae2609bb7a7d8438971333c"), looks := true }, kinds := [], alts := [], laidByText := true, laidKinds := [.data, .data, .data, .data, .sentinel, .sentinel, .pinned], laidTests := true, laidLooks := .later }
def ShowExprsCardSaid : Prop := Claim7.holds Tryz.pinned (.plain (OpenSpec.ofChange showExprsSpec)) showExprsCard

/-- THE SECOND FORM's CARD OF 'paymasterlaw10.CheckKinds'. -/
def checkKindsUptoCard : Claim7 := { stood := { row := checkKindsUptoRow, standIns := [], harness := (true, "67c1f0b54be810e699e6cb9e1de96ceec1d95e5a1ae2609bb7a7d8438971333c"), looks := true }, kinds := [], alts := [], laidByText := true, laidKinds := [.data, .data, .data, .data, .sentinel, .sentinel, .pinned], laidTests := true, laidLooks := .later }
def CheckKindsUptoCardSaid : Prop := Claim7.holds Tryz.pinned (.plain (OpenSpec.upto checkKindsSpec)) checkKindsUptoCard

/-- THE SECOND FORM's CARD OF 'paymasterlaw10.CheckMore'. -/
def checkMoreUptoCard : Claim7 := { stood := { row := checkMoreUptoRow, standIns := [], harness := (true, "67c1f0b54be810e699e6cb9e1de96ceec1d95e5a1ae2609bb7a7d8438971333c"), looks := true }, kinds := [], alts := [], laidByText := true, laidKinds := [.data, .data, .data, .data, .sentinel, .sentinel, .pinned], laidTests := true, laidLooks := .later }
def CheckMoreUptoCardSaid : Prop := Claim7.holds Tryz.pinned (.plain (OpenSpec.upto checkMoreSpec)) checkMoreUptoCard

/-- THE SECOND FORM's CARD OF 'paymasterlaw10.CheckTwice'. -/
def checkTwiceUptoCard : Claim7 := { stood := { row := checkTwiceUptoRow, standIns := [], harness := (true, "67c1f0b54be810e699e6cb9e1de96ceec1d95e5a1ae2609bb7a7d8438971333c"), looks := true }, kinds := [], alts := [], laidByText := true, laidKinds := [.data, .data, .data, .data, .sentinel, .sentinel, .pinned], laidTests := true, laidLooks := .later }
def CheckTwiceUptoCardSaid : Prop := Claim7.holds Tryz.pinned (.plain (OpenSpec.upto checkTwiceSpec)) checkTwiceUptoCard

/-- THE SECOND FORM's CARD OF 'paymasterlaw10.CheckNames'. -/
def checkNamesUptoCard : Claim7 := { stood := { row := checkNamesUptoRow, standIns := [], harness := (true, "67c1f0b54be810e699e6cb9e1de96ceec1d95e5a1ae2609bb7a7d8438971333c"), looks := true }, kinds := [], alts := [], laidByText := true, laidKinds := [.data, .data, .data, .data, .sentinel, .sentinel, .pinned], laidTests := true, laidLooks := .later }
def CheckNamesUptoCardSaid : Prop := Claim7.holds Tryz.pinned (.plain (OpenSpec.upto checkNamesSpec)) checkNamesUptoCard

/-- THE SECOND FORM's CARD OF 'paymasterlaw10.CheckNeg'. -/
def checkNegUptoCard : Claim7 := { stood := { row := checkNegUptoRow, standIns := [], harness := (true, "67c1f0b54be810e699e6cb9e1de96ceec1d95e5a1ae2609bb7a7d8438971333c"), looks := true }, kinds := [], alts := [], laidByText := true, laidKinds := [.data, .data, .data, .data, .sentinel, .sentinel, .pinned], laidTests := true, laidLooks := .later }
def CheckNegUptoCardSaid : Prop := Claim7.holds Tryz.pinned (.plain (OpenSpec.upto checkNegSpec)) checkNegUptoCard

/-- THE SECOND FORM's CARD OF 'paymasterlaw10.CheckIf'. -/
def checkIfUptoCard : Claim7 := { stood := { row := checkIfUptoRow, standIns := [], harness := (true, "67c1f0b54be810e699e6cb9e1de96ceec1d95e5a1ae2609bb7a7d8438971333c"), looks := true }, kinds := [], alts := [], laidByText := true, laidKinds := [.data, .data, .data, .data, .sentinel, .sentinel, .pinned], laidTests := true, laidLooks := .later }
def CheckIfUptoCardSaid : Prop := Claim7.holds Tryz.pinned (.plain (OpenSpec.upto checkIfSpec)) checkIfUptoCard

/-- THE SECOND FORM's CARD OF 'paymasterlaw09.ShowTells'. -/
def showTellsUptoCard : Claim7 := { stood := { row := showTellsUptoRow, standIns := [], harness := (true, "67c1f0b54be810e699e6cb9e1de96ceec1d95e5a1ae2609bb7a7d8438971333c"), looks := true }, kinds := [], alts := [], laidByText := true, laidKinds := [.data, .data, .data, .data, .sentinel, .sentinel, .pinned], laidTests := true, laidLooks := .later }
def ShowTellsUptoCardSaid : Prop := Claim7.holds Tryz.pinned (.plain (OpenSpec.upto showTellsSpec)) showTellsUptoCard

/-- THE SECOND FORM's CARD OF 'paymasterlaw09.ShowBack'. -/
def showBackUptoCard : Claim7 := { stood := { row := showBackUptoRow, standIns := [], harness := (true, "67c1f0b54be810e699e6cb9e1de96ceec1d95e5a1ae2609bb7a7d8438971333c"), looks := true }, kinds := [], alts := [], laidByText := true, laidKinds := [.data, .data, .data, .data, .sentinel, .sentinel, .pinned], laidTests := true, laidLooks := .later }
def ShowBackUptoCardSaid : Prop := Claim7.holds Tryz.pinned (.plain (OpenSpec.upto showBackSpec)) showBackUptoCard

/-- THE SECOND FORM's CARD OF 'paymasterlaw09.ShowWrong'. -/
def showWrongUptoCard : Claim7 := { stood := { row := showWrongUptoRow, standIns := [], harness := (true, "67c1f0b54be810e699e6cb9e1de96ceec1d95e5a1ae2609bb7a7d8438971333c"), looks := true }, kinds := [], alts := [], laidByText := true, laidKinds := [.data, .data, .data, .data, .sentinel, .sentinel, .pinned], laidTests := true, laidLooks := .later }
def ShowWrongUptoCardSaid : Prop := Claim7.holds Tryz.pinned (.plain (OpenSpec.upto showWrongSpec)) showWrongUptoCard

/-- THE SECOND FORM's CARD OF 'paymasterlaw09.ShowBare'. -/
def showBareUptoCard : Claim7 := { stood := { row := showBareUptoRow, standIns := [], harness := (true, "67c1f0b54be810e699e6cb9e1de96ceec1d95e5a1ae2609bb7a7d8438971333c"), looks := true }, kinds := [], alts := [], laidByText := true, laidKinds := [.data, .data, .data, .data, .sentinel, .sentinel, .pinned], laidTests := true, laidLooks := .later }
def ShowBareUptoCardSaid : Prop := Claim7.holds Tryz.pinned (.plain (OpenSpec.upto showBareSpec)) showBareUptoCard

/-- THE SECOND FORM's CARD OF 'paymasterlaw09.ShowRules'. -/
def showRulesUptoCard : Claim7 := { stood := { row := showRulesUptoRow, standIns := [], harness := (true, "67c1f0b54be810e699e6cb9e1de96ceec1d95e5a1ae2609bb7a7d8438971333c"), looks := true }, kinds := [], alts := [], laidByText := true, laidKinds := [.data, .data, .data, .data, .sentinel, .sentinel, .pinned], laidTests := true, laidLooks := .later }
def ShowRulesUptoCardSaid : Prop := Claim7.holds Tryz.pinned (.plain (OpenSpec.upto showRulesSpec)) showRulesUptoCard

/-- THE SECOND FORM's CARD OF 'paymasterlaw09.ShowExprs'. -/
def showExprsUptoCard : Claim7 := { stood := { row := showExprsUptoRow, standIns := [], harness := (true, "67c1f0b54be810e699e6cb9e1de96ceec1d95e5a1ae2609bb7a7d8438971333c"), looks := true }, kinds := [], alts := [], laidByText := true, laidKinds := [.data, .data, .data, .data, .sentinel, .sentinel, .pinned], laidTests := true, laidLooks := .later }
def ShowExprsUptoCardSaid : Prop := Claim7.holds Tryz.pinned (.plain (OpenSpec.upto showExprsSpec)) showExprsUptoCard
end Rows
end Go.Proofs.YtmglkghngkbioaaGreatDoor
