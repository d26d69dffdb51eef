/-
  DERIVED. GIVEN WITH THE SEED: THE CARDS: each row of YtbhjjheefdilbaaDoorRows.lean that lists a variable, with what it lists TIED to the program's text (the seventh form; the later family's looks); each row that meets fmt, with fmt's text TOLD by the authors' own Lean function (tested against real Go, not proved from fmt's source: count such statements apart). THE CARD IS WHAT COUNTS. Prove the row's statement (the work); the ties are given (YtbhjjheefdilbaaDoorTie.lean); close each card by the builder's one call (the guide's Derived/Test/ToyasCard.lean, 'card_holds'). Laid BY PROGRAM, IN A SANDBOX (cutbox-door.mjs). By AI agents, Wed Nov 11 2026. No macro, syntax, notation, axiom, sorry.
-/
import Derived.Test.YtbhjjheefdilbaaDoorRows
import GoSem.ClaimSeven
namespace Go.Proofs.YtbhjjheefdilbaaDoor
namespace Rows

/-- THE TIED CARD OF 'paymasterlaw01.MoneyTexts'. -/
def moneyTextsCard : Claim7 := { stood := { row := moneyTextsRow, standIns := [], harness := (true, "a826ae901de321fd6dcf9a55917159886fa4cbbb8f67da7539a834638658d7f8"), looks := true }, kinds := [], alts := [], laidByText := true, laidKinds := [.data, .data, .data, .data, .sentinel, .sentinel, .pinned], laidTests := true, laidLooks := .later }
def MoneyTextsCardSaid : Prop := Claim7.holds Tryd.pinned (.plain (OpenSpec.ofChange moneyTextsSpec)) moneyTextsCard

/-- THE TIED CARD OF 'paymasterlaw01.MoneyPlaces'. -/
def moneyPlacesCard : Claim7 := { stood := { row := moneyPlacesRow, standIns := [], harness := (true, "a826ae901de321fd6dcf9a55917159886fa4cbbb8f67da7539a834638658d7f8"), looks := true }, kinds := [], alts := [], laidByText := true, laidKinds := [.data, .data, .data, .data, .sentinel, .sentinel, .pinned], laidTests := true, laidLooks := .later }
def MoneyPlacesCardSaid : Prop := Claim7.holds Tryd.pinned (.plain (OpenSpec.ofChange moneyPlacesSpec)) moneyPlacesCard

/-- THE TIED CARD OF 'paymasterlaw01.MoneySigns'. -/
def moneySignsCard : Claim7 := { stood := { row := moneySignsRow, standIns := [], harness := (true, "a826ae901de321fd6dcf9a55917159886fa4cbbb8f67da7539a834638658d7f8"), looks := true }, kinds := [], alts := [], laidByText := true, laidKinds := [.data, .data, .data, .data, .sentinel, .sentinel, .pinned], laidTests := true, laidLooks := .later }
def MoneySignsCardSaid : Prop := Claim7.holds Tryd.pinned (.plain (OpenSpec.ofChange moneySignsSpec)) moneySignsCard

/-- THE TIED CARD OF 'paymasterlaw01.MoneyLists'. -/
def moneyListsCard : Claim7 := { stood := { row := moneyListsRow, standIns := [], harness := (true, "a826ae901de321fd6dcf9a55917159886fa4cbbb8f67da7539a834638658d7f8"), looks := true }, kinds := [], alts := [], laidByText := true, laidKinds := [.data, .data, .data, .data, .sentinel, .sentinel, .pinned], laidTests := true, laidLooks := .later }
def MoneyListsCardSaid : Prop := Claim7.holds Tryd.pinned (.plain (OpenSpec.ofChange moneyListsSpec)) moneyListsCard

/-- THE TIED CARD OF 'paymasterlaw01.MoneyFirst'. -/
def moneyFirstCard : Claim7 := { stood := { row := moneyFirstRow, standIns := [], harness := (true, "a826ae901de321fd6dcf9a55917159886fa4cbbb8f67da7539a834638658d7f8"), looks := true }, kinds := [], alts := [], laidByText := true, laidKinds := [.data, .data, .data, .data, .sentinel, .sentinel, .pinned], laidTests := true, laidLooks := .later }
def MoneyFirstCardSaid : Prop := Claim7.holds Tryd.pinned (.plain (OpenSpec.ofChange moneyFirstSpec)) moneyFirstCard

/-- THE TIED CARD OF 'paymasterlaw01.MoneyBack'. -/
def moneyBackCard : Claim7 := { stood := { row := moneyBackRow, standIns := [], harness := (true, "a826ae901de321fd6dcf9a55917159886fa4cbbb8f67da7539a834638658d7f8"), looks := true }, kinds := [], alts := [], laidByText := true, laidKinds := [.data, .data, .data, .data, .sentinel, .sentinel, .pinned], laidTests := true, laidLooks := .later }
def MoneyBackCardSaid : Prop := Claim7.holds Tryd.pinned (.plain (OpenSpec.ofChange moneyBackSpec)) moneyBackCard

/-- THE TIED CARD OF 'paymasterlaw01.MoneySums'. -/
def moneySumsCard : Claim7 := { stood := { row := moneySumsRow, standIns := [], harness := (true, "a826ae901de321fd6dcf9a55917159886fa4cbbb8f67da7539a834638658d7f8"), looks := true }, kinds := [], alts := [], laidByText := true, laidKinds := [.data, .data, .data, .data, .sentinel, .sentinel, .pinned], laidTests := true, laidLooks := .later }
def MoneySumsCardSaid : Prop := Claim7.holds Tryd.pinned (.plain (OpenSpec.ofChange moneySumsSpec)) moneySumsCard

/-- THE SECOND FORM's CARD OF 'paymasterlaw01.MoneyTexts'. -/
def moneyTextsUptoCard : Claim7 := { stood := { row := moneyTextsUptoRow, standIns := [], harness := (true, "a826ae901de321fd6dcf9a55917159886fa4cbbb8f67da7539a834638658d7f8"), looks := true }, kinds := [], alts := [], laidByText := true, laidKinds := [.data, .data, .data, .data, .sentinel, .sentinel, .pinned], laidTests := true, laidLooks := .later }
def MoneyTextsUptoCardSaid : Prop := Claim7.holds Tryd.pinned (.plain (OpenSpec.upto moneyTextsSpec)) moneyTextsUptoCard

/-- THE SECOND FORM's CARD OF 'paymasterlaw01.MoneyPlaces'. -/
def moneyPlacesUptoCard : Claim7 := { stood := { row := moneyPlacesUptoRow, standIns := [], harness := (true, "a826ae901de321fd6dcf9a55917159886fa4cbbb8f67da7539a834638658d7f8"), looks := true }, kinds := [], alts := [], laidByText := true, laidKinds := [.data, .data, .data, .data, .sentinel, .sentinel, .pinned], laidTests := true, laidLooks := .later }
def MoneyPlacesUptoCardSaid : Prop := Claim7.holds Tryd.pinned (.plain (OpenSpec.upto moneyPlacesSpec)) moneyPlacesUptoCard

/-- THE SECOND FORM's CARD OF 'paymasterlaw01.MoneySigns'. -/
def moneySignsUptoCard : Claim7 := { stood := { row := moneySignsUptoRow, standIns := [], harness := (true, "a826ae901de321fd6dcf9a55917159886fa4cbbb8f67da7539a834638658d7f8"), looks := true }, kinds := [], alts := [], laidByText := true, laidKinds := [.data, .data, .data, .data, .sentinel, .sentinel, .pinned], laidTests := true, laidLooks := .later }
def MoneySignsUptoCardSaid : Prop := Claim7.holds Tryd.pinned (.plain (OpenSpec.upto moneySignsSpec)) moneySignsUptoCard

/-- THE SECOND FORM's CARD OF 'paymasterlaw01.MoneyLists'. -/
def moneyListsUptoCard : Claim7 := { stood := { row := moneyListsUptoRow, standIns := [], harness := (true, "a826ae901de321fd6dcf9a55917159886fa4cbbb8f67da7539a834638658d7f8"), looks := true }, kinds := [], alts := [], laidByText := true, laidKinds := [.data, .data, .data, .data, .sentinel, .sentinel, .pinned], laidTests := true, laidLooks := .later }
def MoneyListsUptoCardSaid : Prop := Claim7.holds Tryd.pinned (.plain (OpenSpec.upto moneyListsSpec)) moneyListsUptoCard

/-- THE SECOND FORM's CARD OF 'paymasterlaw01.MoneyFirst'. -/
def moneyFirstUptoCard : Claim7 := { stood := { row := moneyFirstUptoRow, standIns := [], harness := (true, "a826ae901de321fd6dcf9a55917159886fa4cbbb8f67da7539a834638658d7f8"), looks := true }, kinds := [], alts := [], laidByText := true, laidKinds := [.data, .data, .data, .data, .sentinel, .sentinel, .pinned], laidTests := true, laidLooks := .later }
def MoneyFirstUptoCardSaid : Prop := Claim7.holds Tryd.pinned (.plain (OpenSpec.upto moneyFirstSpec)) moneyFirstUptoCard

/-- THE SECOND FORM's CARD OF 'paymasterlaw01.MoneyBack'. -/
def moneyBackUptoCard : Claim7 := { stood := { row := moneyBackUptoRow, standIns := [], harness := (true, "a826ae901de321fd6dcf9a55917159886fa4cbbb8f67da7539a834638658d7f8"), looks := true }, kinds := [], alts := [], laidByText := true, laidKinds := [.data, .data, .data, .data, .sentinel, .sentinel, .pinned], laidTests := true, laidLooks := .later }
def MoneyBackUptoCardSaid : Prop := Claim7.holds Tryd.pinned (.plain (OpenSpec.upto moneyBackSpec)) moneyBackUptoCard

/-- THE SECOND FORM's CARD OF 'paymasterlaw01.MoneySums'. -/
def moneySumsUptoCard : Claim7 := { stood := { row := moneySumsUptoRow, standIns := [], harness := (true, "a826ae901de321fd6dcf9a55917159886fa4cbbb8f67da7539a834638658d7f8"), looks := true }, kinds := [], alts := [], laidByText := true, laidKinds := [.data, .data, .data, .data, .sentinel, .sentinel, .pinned], laidTests := true, laidLooks := .later }
def MoneySumsUptoCardSaid : Prop := Claim7.holds Tryd.pinned (.plain (OpenSpec.upto moneySumsSpec)) moneySumsUptoCard
end Rows
end Go.Proofs.YtbhjjheefdilbaaDoor
