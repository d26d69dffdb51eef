/-
  DERIVED. GIVEN WITH THE SEED: THE CARDS: each row of YtcgeldjhobmijaaGreatDoorRows.lean that lists a variable, with what it lists TIED to the program's text (the seventh form; the later family's looks); each row that meets fmt, with fmt's text TOLD by the authors' own Lean function (tested against real Go, not proved from fmt's source: count such statements apart). THE CARD IS WHAT COUNTS. Prove the row's statement (the work); the ties are given (YtcgeldjhobmijaaGreatDoorTie.lean); close each card by the builder's one call (the guide's Derived/Test/ToyasCard.lean, 'card_holds'). Laid BY PROGRAM, IN A SANDBOX (cutbox-door.mjs). By AI agents, Wed Nov 11 2026. No macro, syntax, notation, axiom, sorry.
-/
import Derived.Test.YtcgeldjhobmijaaGreatDoorRows
import GoSem.ClaimSeven
namespace Go.Proofs.YtcgeldjhobmijaaGreatDoor
namespace Rows

/-- THE TIED CARD OF 'paymasterlaw08.TreeExact'. -/
def treeExactCard : Claim7 := { stood := { row := treeExactRow, standIns := [], harness := (true, "6863ebb11ea5e8b2263a2445fa4ff06cec398985351a4fb5577cfee8fb46d033"), looks := true }, kinds := [], alts := [], laidByText := true, laidKinds := [.data, .data, .data, .data, .sentinel, .sentinel, .pinned], laidTests := true, laidLooks := .later }
def TreeExactCardSaid : Prop := Claim7.holds Tryz.pinned (.plain (OpenSpec.ofChange treeExactSpec)) treeExactCard

/-- THE TIED CARD OF 'paymasterlaw20.SlipTexts'. -/
def slipTextsCard : Claim7 := { stood := { row := slipTextsRow, standIns := [], harness := (true, "6863ebb11ea5e8b2263a2445fa4ff06cec398985351a4fb5577cfee8fb46d033"), looks := true }, kinds := [], alts := [], laidByText := true, laidKinds := [.data, .data, .data, .data, .sentinel, .sentinel, .pinned], laidTests := true, laidLooks := .later }
def SlipTextsCardSaid : Prop := Claim7.holds Tryz.pinned (.plain (OpenSpec.ofChange slipTextsSpec)) slipTextsCard

/-- THE TIED CARD OF 'paymasterlaw20.SlipTurned'. -/
def slipTurnedCard : Claim7 := { stood := { row := slipTurnedRow, standIns := [], harness := (true, "6863ebb11ea5e8b2263a2445fa4ff06cec398985351a4fb5577cfee8fb46d033"), looks := true }, kinds := [], alts := [], laidByText := true, laidKinds := [.data, .data, .data, .data, .sentinel, .sentinel, .pinned], laidTests := true, laidLooks := .later }
def SlipTurnedCardSaid : Prop := Claim7.holds Tryz.pinned (.plain (OpenSpec.ofChange slipTurnedSpec)) slipTurnedCard

/-- THE TIED CARD OF 'paymasterlaw20.SlipRows'. -/
def slipRowsCard : Claim7 := { stood := { row := slipRowsRow, standIns := [], harness := (true, "6863ebb11ea5e8b2263a2445fa4ff06cec398985351a4fb5577cfee8fb46d033"), looks := true }, kinds := [], alts := [], laidByText := true, laidKinds := [.data, .data, .data, .data, .sentinel, .sentinel, .pinned], laidTests := true, laidLooks := .later }
def SlipRowsCardSaid : Prop := Claim7.holds Tryz.pinned (.plain (OpenSpec.ofChange slipRowsSpec)) slipRowsCard

/-- THE TIED CARD OF 'paymasterlaw20.SlipUnlike'. -/
def slipUnlikeCard : Claim7 := { stood := { row := slipUnlikeRow, standIns := [], harness := (true, "6863ebb11ea5e8b2263a2445fa4ff06cec398985351a4fb5577cfee8fb46d033"), looks := true }, kinds := [], alts := [], laidByText := true, laidKinds := [.data, .data, .data, .data, .sentinel, .sentinel, .pinned], laidTests := true, laidLooks := .later }
def SlipUnlikeCardSaid : Prop := Claim7.holds Tryz.pinned (.plain (OpenSpec.ofChange slipUnlikeSpec)) slipUnlikeCard

/-- THE TIED CARD OF 'paymasterlaw20.SlipPlain'. -/
def slipPlainCard : Claim7 := { stood := { row := slipPlainRow, standIns := [], harness := (true, "6863ebb11ea5e8b2263a2445fa4ff06cec398985351a4fb5577cfee8fb46d033"), looks := true }, kinds := [], alts := [], laidByText := true, laidKinds := [.data, .data, .data, .data, .sentinel, .sentinel, .pinned], laidTests := true, laidLooks := .later }
def SlipPlainCardSaid : Prop := Claim7.holds Tryz.pinned (.plain (OpenSpec.ofChange slipPlainSpec)) slipPlainCard

/-- THE SECOND FORM's CARD OF 'paymasterlaw08.TreeExact'. -/
def treeExactUptoCard : Claim7 := { stood := { row := treeExactUptoRow, standIns := [], harness := (true, "6863ebb11ea5e8b2263a2445fa4ff06cec398985351a4fb5577cfee8fb46d033"), looks := true }, kinds := [], alts := [], laidByText := true, laidKinds := [.data, .data, .data, .data, .sentinel, .sentinel, .pinned], laidTests := true, laidLooks := .later }
def TreeExactUptoCardSaid : Prop := Claim7.holds Tryz.pinned (.plain (OpenSpec.upto treeExactSpec)) treeExactUptoCard

/-- THE SECOND FORM's CARD OF 'paymasterlaw20.SlipTexts'. -/
def slipTextsUptoCard : Claim7 := { stood := { row := slipTextsUptoRow, standIns := [], harness := (true, "6863ebb11ea5e8b2263a2445fa4ff06cec398985351a4fb5577cfee8fb46d033"), looks := true }, kinds := [], alts := [], laidByText := true, laidKinds := [.data, .data, .data, .data, .sentinel, .sentinel, .pinned], laidTests := true, laidLooks := .later }
def SlipTextsUptoCardSaid : Prop := Claim7.holds Tryz.pinned (.plain (OpenSpec.upto slipTextsSpec)) slipTextsUptoCard

/-- THE SECOND FORM's CARD OF 'paymasterlaw20.SlipTurned'. -/
def slipTurnedUptoCard : Claim7 := { stood := { row := slipTurnedUptoRow, standIns := [], harness := (true, "6863ebb11ea5e8b2263a2445fa4ff06cec398985351a4fb5577cfee8fb46d033"), looks := true }, kinds := [], alts := [], laidByText := true, laidKinds := [.data, .data, .data, .data, .sentinel, .sentinel, .pinned], laidTests := true, laidLooks := .later }
def SlipTurnedUptoCardSaid : Prop := Claim7.holds Tryz.pinned (.plain (OpenSpec.upto slipTurnedSpec)) slipTurnedUptoCard

/-- THE SECOND FORM's CARD OF 'paymasterlaw20.SlipRows'. -/
def slipRowsUptoCard : Claim7 := { stood := { row := slipRowsUptoRow, standIns := [], harness := (true, "6863ebb11ea5e8b2263a2445fa4ff06cec398985351a4fb5577cfee8fb46d033"), looks := true }, kinds := [], alts := [], laidByText := true, laidKinds := [.data, .data, .data, .data, .sentinel, .sentinel, .pinned], laidTests := true, laidLooks := .later }
def SlipRowsUptoCardSaid : Prop := Claim7.holds Tryz.pinned (.plain (OpenSpec.upto slipRowsSpec)) slipRowsUptoCard

/-- THE SECOND FORM's CARD OF 'paymasterlaw20.SlipUnlike'. -/
def slipUnlikeUptoCard : Claim7 := { stood := { row := slipUnlikeUptoRow, standIns := [], harness := (true, "6863ebb11ea5e8b2263a2445fa4ff06cec398985351a4fb5577cfee8fb46d033"), looks := true }, kinds := [], alts := [], laidByText := true, laidKinds := [.data, .data, .data, .data, .sentinel, .sentinel, .pinned], laidTests := true, laidLooks := .later }
def SlipUnlikeUptoCardSaid : Prop := Claim7.holds Tryz.pinned (.plain (OpenSpec.upto slipUnlikeSpec)) slipUnlikeUptoCard

/-- THE SECOND FORM's CARD OF 'paymasterlaw20.SlipPlain'. -/
def slipPlainUptoCard : Claim7 := { stood := { row := slipPlainUptoRow, standIns := [], harness := (true, "6863ebb11ea5e8b2263a2445fa4ff06cec398985351a4fb5577cfee8fb46d033"), looks := true }, kinds := [], alts := [], laidByText := true, laidKinds := [.data, .data, .data, .data, .sentinel, .sentinel, .pinned], laidTests := true, laidLooks := .later }
def SlipPlainUptoCardSaid : Prop := Claim7.holds Tryz.pinned (.plain (OpenSpec.upto slipPlainSpec)) slipPlainUptoCard
end Rows
end Go.Proofs.YtcgeldjhobmijaaGreatDoor
