/-
  DERIVED. GIVEN WITH THE SEED: THE CARDS: each row of YthnddhfpkmbacaaDoorRows.lean that lists a variable, with what it lists TIED to the program's text (the seventh form; the later family's looks); each row that meets fmt, with fmt's text TOLD by the authors' own Lean function (tested against real Go, not proved from fmt's source: count such statements apart). THE CARD IS WHAT COUNTS. Prove the row's statement (the work); the ties are given (YthnddhfpkmbacaaDoorTie.lean); close each card by the builder's one call (the guide's Derived/Test/ToyasCard.lean, 'card_holds'). Laid BY PROGRAM, IN A SANDBOX (cutbox-door.mjs). By AI agents, Wed Nov 11 2026. No macro, syntax, notation, axiom, sorry.
-/
import Derived.Test.YthnddhfpkmbacaaDoorRows
import GoSem.ClaimSeven
namespace Go.Proofs.YthnddhfpkmbacaaDoor
namespace Rows

/-- THE TIED CARD OF 'paymasterlaw07.LexExact'. -/
def lexExactCard : Claim7 := { stood := { row := lexExactRow, standIns := [], harness := (true, "1ec15c184577fab0b8c0f086915acdf80fd408b446d95b7672e61e9546979aba"), looks := true }, kinds := [], alts := [], laidByText := true, laidKinds := [.data, .data, .data, .data, .sentinel, .sentinel, .pinned], laidTests := true, laidLooks := .later }
def LexExactCardSaid : Prop := Claim7.holds Tryd.pinned (.plain (OpenSpec.ofChange lexExactSpec)) lexExactCard

/-- THE TIED CARD OF 'paymasterlaw07.LexAgain'. -/
def lexAgainCard : Claim7 := { stood := { row := lexAgainRow, standIns := [], harness := (true, "1ec15c184577fab0b8c0f086915acdf80fd408b446d95b7672e61e9546979aba"), looks := true }, kinds := [], alts := [], laidByText := true, laidKinds := [.data, .data, .data, .data, .sentinel, .sentinel, .pinned], laidTests := true, laidLooks := .later }
def LexAgainCardSaid : Prop := Claim7.holds Tryd.pinned (.plain (OpenSpec.ofChange lexAgainSpec)) lexAgainCard

/-- THE TIED CARD OF 'paymasterlaw07.LexPlaces'. -/
def lexPlacesCard : Claim7 := { stood := { row := lexPlacesRow, standIns := [], harness := (true, "1ec15c184577fab0b8c0f086915acdf80fd408b446d95b7672e61e9546979aba"), looks := true }, kinds := [], alts := [], laidByText := true, laidKinds := [.data, .data, .data, .data, .sentinel, .sentinel, .pinned], laidTests := true, laidLooks := .later }
def LexPlacesCardSaid : Prop := Claim7.holds Tryd.pinned (.plain (OpenSpec.ofChange lexPlacesSpec)) lexPlacesCard

/-- THE TIED CARD OF 'paymasterlaw07.LexJoins'. -/
def lexJoinsCard : Claim7 := { stood := { row := lexJoinsRow, standIns := [], harness := (true, "1ec15c184577fab0b8c0f086915acdf80fd408b446d95b7672e61e9546979aba"), looks := true }, kinds := [], alts := [], laidByText := true, laidKinds := [.data, .data, .data, .data, .sentinel, .sentinel, .pinned], laidTests := true, laidLooks := .later }
def LexJoinsCardSaid : Prop := Claim7.holds Tryd.pinned (.plain (OpenSpec.ofChange lexJoinsSpec)) lexJoinsCard

/-- THE TIED CARD OF 'paymasterlaw07.LexKinds'. -/
def lexKindsCard : Claim7 := { stood := { row := lexKindsRow, standIns := [], harness := (true, "1ec15c184577fab0b8c0f086915acdf80fd408b446d95b7672e61e9546979aba"), looks := true }, kinds := [], alts := [], laidByText := true, laidKinds := [.data, .data, .data, .data, .sentinel, .sentinel, .pinned], laidTests := true, laidLooks := .later }
def LexKindsCardSaid : Prop := Claim7.holds Tryd.pinned (.plain (OpenSpec.ofChange lexKindsSpec)) lexKindsCard

/-- THE TIED CARD OF 'paymasterlaw03.RateParts'. -/
def ratePartsCard : Claim7 := { stood := { row := ratePartsRow, standIns := [], harness := (true, "1ec15c184577fab0b8c0f086915acdf80fd408b446d95b7672e61e9546979aba"), looks := true }, kinds := [], alts := [], laidByText := true, laidKinds := [.data, .data, .data, .data, .sentinel, .sentinel, .pinned], laidTests := true, laidLooks := .later }
def RatePartsCardSaid : Prop := Claim7.holds Tryd.pinned (.plain (OpenSpec.ofChange ratePartsSpec)) ratePartsCard

/-- THE TIED CARD OF 'paymasterlaw03.RateHalves'. -/
def rateHalvesCard : Claim7 := { stood := { row := rateHalvesRow, standIns := [], harness := (true, "1ec15c184577fab0b8c0f086915acdf80fd408b446d95b7672e61e9546979aba"), looks := true }, kinds := [], alts := [], laidByText := true, laidKinds := [.data, .data, .data, .data, .sentinel, .sentinel, .pinned], laidTests := true, laidLooks := .later }
def RateHalvesCardSaid : Prop := Claim7.holds Tryd.pinned (.plain (OpenSpec.ofChange rateHalvesSpec)) rateHalvesCard

/-- THE TIED CARD OF 'paymasterlaw03.RateSums'. -/
def rateSumsCard : Claim7 := { stood := { row := rateSumsRow, standIns := [], harness := (true, "1ec15c184577fab0b8c0f086915acdf80fd408b446d95b7672e61e9546979aba"), looks := true }, kinds := [], alts := [], laidByText := true, laidKinds := [.data, .data, .data, .data, .sentinel, .sentinel, .pinned], laidTests := true, laidLooks := .later }
def RateSumsCardSaid : Prop := Claim7.holds Tryd.pinned (.plain (OpenSpec.ofChange rateSumsSpec)) rateSumsCard

/-- THE TIED CARD OF 'paymasterlaw03.RateExact'. -/
def rateExactCard : Claim7 := { stood := { row := rateExactRow, standIns := [], harness := (true, "1ec15c184577fab0b8c0f086915acdf80fd408b446d95b7672e61e9546979aba"), looks := true }, kinds := [], alts := [], laidByText := true, laidKinds := [.data, .data, .data, .data, .sentinel, .sentinel, .pinned], laidTests := true, laidLooks := .later }
def RateExactCardSaid : Prop := Claim7.holds Tryd.pinned (.plain (OpenSpec.ofChange rateExactSpec)) rateExactCard

/-- THE TIED CARD OF 'paymasterlaw03.RateAll'. -/
def rateAllCard : Claim7 := { stood := { row := rateAllRow, standIns := [], harness := (true, "1ec15c184577fab0b8c0f086915acdf80fd408b446d95b7672e61e9546979aba"), looks := true }, kinds := [], alts := [], laidByText := true, laidKinds := [.data, .data, .data, .data, .sentinel, .sentinel, .pinned], laidTests := true, laidLooks := .later }
def RateAllCardSaid : Prop := Claim7.holds Tryd.pinned (.plain (OpenSpec.ofChange rateAllSpec)) rateAllCard

/-- THE TIED CARD OF 'paymasterlaw03.RateTexts'. -/
def rateTextsCard : Claim7 := { stood := { row := rateTextsRow, standIns := [], harness := (true, "1ec15c184577fab0b8c0f086915acdf80fd408b446d95b7672e61e9546979aba"), looks := true }, kinds := [], alts := [], laidByText := true, laidKinds := [.data, .data, .data, .data, .sentinel, .sentinel, .pinned], laidTests := true, laidLooks := .later }
def RateTextsCardSaid : Prop := Claim7.holds Tryd.pinned (.plain (OpenSpec.ofChange rateTextsSpec)) rateTextsCard

/-- THE TIED CARD OF 'paymasterlaw03.RateOrder'. -/
def rateOrderCard : Claim7 := { stood := { row := rateOrderRow, standIns := [], harness := (true, "1ec15c184577fab0b8c0f086915acdf80fd408b446d95b7672e61e9546979aba"), looks := true }, kinds := [], alts := [], laidByText := true, laidKinds := [.data, .data, .data, .data, .sentinel, .sentinel, .pinned], laidTests := true, laidLooks := .later }
def RateOrderCardSaid : Prop := Claim7.holds Tryd.pinned (.plain (OpenSpec.ofChange rateOrderSpec)) rateOrderCard

/-- THE SECOND FORM's CARD OF 'paymasterlaw07.LexExact'. -/
def lexExactUptoCard : Claim7 := { stood := { row := lexExactUptoRow, standIns := [], harness := (true, "1ec15c184577fab0b8c0f086915acdf80fd408b446d95b7672e61e9546979aba"), looks := true }, kinds := [], alts := [], laidByText := true, laidKinds := [.data, .data, .data, .data, .sentinel, .sentinel, .pinned], laidTests := true, laidLooks := .later }
def LexExactUptoCardSaid : Prop := Claim7.holds Tryd.pinned (.plain (OpenSpec.upto lexExactSpec)) lexExactUptoCard

/-- THE SECOND FORM's CARD OF 'paymasterlaw07.LexAgain'. -/
def lexAgainUptoCard : Claim7 := { stood := { row := lexAgainUptoRow, standIns := [], harness := (true, "1ec15c184577fab0b8c0f086915acdf80fd408b446d95b7672e61e9546979aba"), looks := true }, kinds := [], alts := [], laidByText := true, laidKinds := [.data, .data, .data, .data, .sentinel, .sentinel, .pinned], laidTests := true, laidLooks := .later }
def LexAgainUptoCardSaid : Prop := Claim7.holds Tryd.pinned (.plain (OpenSpec.upto lexAgainSpec)) lexAgainUptoCard

/-- THE SECOND FORM's CARD OF 'paymasterlaw07.LexPlaces'. -/
def lexPlacesUptoCard : Claim7 := { stood := { row := lexPlacesUptoRow, standIns := [], harness := (true, "1ec15c184577fab0b8c0f086915acdf80fd408b446d95b7672e61e9546979aba"), looks := true }, kinds := [], alts := [], laidByText := true, laidKinds := [.data, .data, .data, .data, .sentinel, .sentinel, .pinned], laidTests := true, laidLooks := .later }
def LexPlacesUptoCardSaid : Prop := Claim7.holds Tryd.pinned (.plain (OpenSpec.upto lexPlacesSpec)) lexPlacesUptoCard

/-- THE SECOND FORM's CARD OF 'paymasterlaw07.LexJoins'. -/
def lexJoinsUptoCard : Claim7 := { stood := { row := lexJoinsUptoRow, standIns := [], harness := (true, "1ec15c184577fab0b8c0f086915acdf80fd408b446d95b7672e61e9546979aba"), looks := true }, kinds := [], alts := [], laidByText := true, laidKinds := [.data, .data, .data, .data, .sentinel, .sentinel, .pinned], laidTests := true, laidLooks := .later }
def LexJoinsUptoCardSaid : Prop := Claim7.holds Tryd.pinned (.plain (OpenSpec.upto lexJoinsSpec)) lexJoinsUptoCard

/-- THE SECOND FORM's CARD OF 'paymasterlaw07.LexKinds'. -/
def lexKindsUptoCard : Claim7 := { stood := { row := lexKindsUptoRow, standIns := [], harness := (true, "1ec15c184577fab0b8c0f086915acdf80fd408b446d95b7672e61e9546979aba"), looks := true }, kinds := [], alts := [], laidByText := true, laidKinds := [.data, .data, .data, .data, .sentinel, .sentinel, .pinned], laidTests := true, laidLooks := .later }
def LexKindsUptoCardSaid : Prop := Claim7.holds Tryd.pinned (.plain (OpenSpec.upto lexKindsSpec)) lexKindsUptoCard

/-- THE SECOND FORM's CARD OF 'paymasterlaw03.RateParts'. -/
def ratePartsUptoCard : Claim7 := { stood := { row := ratePartsUptoRow, standIns := [], harness := (true, "1ec15c184577fab0b8c0f086915acdf80fd408b446d95b7672e61e9546979aba"), looks := true }, kinds := [], alts := [], laidByText := true, laidKinds := [.data, .data, .data, .data, .sentinel, .sentinel, .pinned], laidTests := true, laidLooks := .later }
def RatePartsUptoCardSaid : Prop := Claim7.holds Tryd.pinned (.plain (OpenSpec.upto ratePartsSpec)) ratePartsUptoCard

/-- THE SECOND FORM's CARD OF 'paymasterlaw03.RateHalves'. -/
def rateHalvesUptoCard : Claim7 := { stood := { row := rateHalvesUptoRow, standIns := [], harness := (true, "1ec15c184577fab0b8c0f086915acdf80fd408b446d95b7672e61e9546979aba"), looks := true }, kinds := [], alts := [], laidByText := true, laidKinds := [.data, .data, .data, .data, .sentinel, .sentinel, .pinned], laidTests := true, laidLooks := .later }
def RateHalvesUptoCardSaid : Prop := Claim7.holds Tryd.pinned (.plain (OpenSpec.upto rateHalvesSpec)) rateHalvesUptoCard

/-- THE SECOND FORM's CARD OF 'paymasterlaw03.RateSums'. -/
def rateSumsUptoCard : Claim7 := { stood := { row := rateSumsUptoRow, standIns := [], harness := (true, "1ec15c184577fab0b8c0f086915acdf80fd408b446d95b7672e61e9546979aba"), looks := true }, kinds := [], alts := [], laidByText := true, laidKinds := [.data, .data, .data, .data, .sentinel, .sentinel, .pinned], laidTests := true, laidLooks := .later }
def RateSumsUptoCardSaid : Prop := Claim7.holds Tryd.pinned (.plain (OpenSpec.upto rateSumsSpec)) rateSumsUptoCard

/-- THE SECOND FORM's CARD OF 'paymasterlaw03.RateExact'. -/
def rateExactUptoCard : Claim7 := { stood := { row := rateExactUptoRow, standIns := [], harness := (true, "1ec15c184577fab0b8c0f086915acdf80fd408b446d95b7672e61e9546979aba"), looks := true }, kinds := [], alts := [], laidByText := true, laidKinds := [.data, .data, .data, .data, .sentinel, .sentinel, .pinned], laidTests := true, laidLooks := .later }
def RateExactUptoCardSaid : Prop := Claim7.holds Tryd.pinned (.plain (OpenSpec.upto rateExactSpec)) rateExactUptoCard

/-- THE SECOND FORM's CARD OF 'paymasterlaw03.RateAll'. -/
def rateAllUptoCard : Claim7 := { stood := { row := rateAllUptoRow, standIns := [], harness := (true, "1ec15c184577fab0b8c0f086915acdf80fd408b446d95b7672e61e9546979aba"), looks := true }, kinds := [], alts := [], laidByText := true, laidKinds := [.data, .data, .data, .data, .sentinel, .sentinel, .pinned], laidTests := true, laidLooks := .later }
def RateAllUptoCardSaid : Prop := Claim7.holds Tryd.pinned (.plain (OpenSpec.upto rateAllSpec)) rateAllUptoCard

/-- THE SECOND FORM's CARD OF 'paymasterlaw03.RateTexts'. -/
def rateTextsUptoCard : Claim7 := { stood := { row := rateTextsUptoRow, standIns := [], harness := (true, "1ec15c184577fab0b8c0f086915acdf80fd408b446d95b7672e61e9546979aba"), looks := true }, kinds := [], alts := [], laidByText := true, laidKinds := [.data, .data, .data, .data, .sentinel, .sentinel, .pinned], laidTests := true, laidLooks := .later }
def RateTextsUptoCardSaid : Prop := Claim7.holds Tryd.pinned (.plain (OpenSpec.upto rateTextsSpec)) rateTextsUptoCard

/-- THE SECOND FORM's CARD OF 'paymasterlaw03.RateOrder'. -/
def rateOrderUptoCard : Claim7 := { stood := { row := rateOrderUptoRow, standIns := [], harness := (true, "1ec15c184577fab0b8c0f086915acdf80fd408b446d95b7672e61e9546979aba"), looks := true }, kinds := [], alts := [], laidByText := true, laidKinds := [.data, .data, .data, .data, .sentinel, .sentinel, .pinned], laidTests := true, laidLooks := .later }
def RateOrderUptoCardSaid : Prop := Claim7.holds Tryd.pinned (.plain (OpenSpec.upto rateOrderSpec)) rateOrderUptoCard
end Rows
end Go.Proofs.YthnddhfpkmbacaaDoor
