/- The layer of tokens, at this program: all functions' contracts. -/
import Derived.Test.YthnddhfpkmbacaaDoorPayC50
import Derived.Test.YthnddhfpkmbacaaDoorPayC51
import Derived.Test.YthnddhfpkmbacaaDoorPayLrLib
namespace Go.Proofs.YthnddhfpkmbacaaDoor.paylr
open Go.RowKit
set_option linter.unusedVariables false
set_option maxRecDepth 100000
theorem lexK : Pay.LexK ctx := by
  have hRt := fun n => Pay.moneyRight (C := ctx) Pay.ok_g_money_Right n
  have hText := fun n => Pay.moneyText (C := ctx) Pay.ok_g_money_Text hRt libK n
  have hParse := fun s hs => Pay.moneyParse (C := ctx) Pay.ok_g_money_Parse hRt hText libK s hs
  have hD := fun n hn => Pay.refDigits (C := ctx) Pay.ok_g_ref01_Digits n hn
  have hTx := fun n h0 h1 => Pay.refText (C := ctx) Pay.ok_g_ref01_Text hD n h0 h1
  have hRP := fun s hs => Pay.refParse (C := ctx) Pay.ok_g_ref01_Parse hTx s hs
  have hRR := fun n => Pay.rateRight (C := ctx) Pay.ok_g_rate_Right n
  have hCut := fun s p hs => Pay.cutSuffix (C := ctx) Pay.ok_g_strings_CutSuffix Pay.ok_g_internal_stringslite_CutSuffix Pay.ok_g_internal_stringslite_HasSuffix s p hs
  have hRaP := fun s hs => Pay.rateParse (C := ctx) Pay.ok_g_rate_Parse hCut hParse hRR s hs
  have hRT := fun n h0 h1 => Pay.refRateText (C := ctx) Pay.ok_g_ref03_Text hTx n h0 h1
  have hRRP := fun s => Pay.refRateParse (C := ctx) Pay.ok_g_ref03_Parse hRT s
  have hL := fun c => Pay.lexLetter (C := ctx) Pay.ok_g_lex_letter c
  have hDg := fun c => Pay.lexDigit (C := ctx) Pay.ok_g_lex_digit c
  have hW := fun c => Pay.lexWordB (C := ctx) Pay.ok_g_lex_one_1 hL hDg c
  have hN := fun c => Pay.lexNumB (C := ctx) Pay.ok_g_lex_one_2 hDg c
  have hLn := fun c => Pay.lexLineB (C := ctx) Pay.ok_g_lex_All_1 c
  have rD := fun s k hs hk => Pay.lexRun (C := ctx) Pay.ok_g_lex_run hDg s hs k hk
  have rW := fun s k hs hk => Pay.lexRun (C := ctx) Pay.ok_g_lex_run hW s hs k hk
  have rN := fun s k hs hk => Pay.lexRun (C := ctx) Pay.ok_g_lex_run hN s hs k hk
  have rL := fun s k hs hk => Pay.lexRun (C := ctx) Pay.ok_g_lex_run hLn s hs k hk
  have hFig := fun c s hc hs => Pay.lexFigure (C := ctx) Pay.ok_g_lex_figure hParse hRaP rD (c := c) (s := s) hc hs
  have hPre := fun s p => Pay.hasPrefix (C := ctx) Pay.ok_g_strings_HasPrefix Pay.ok_g_internal_stringslite_HasPrefix s p
  have hSg := fun c s hc => Pay.lexSign (C := ctx) Pay.ok_g_lex_sign hPre indexByteK (c := c) (s := s) hc
  have hOne := fun s k hk hs => Pay.lexOne (C := ctx) Pay.ok_g_lex_one hL hDg rW rN hFig hSg s k hk hs
  have hAll := fun s hs => Pay.lexAll (C := ctx) Pay.ok_g_lex_All hOne rL s hs
  have hIn := fun c l hl => Pay.refIn (C := ctx) Pay.ok_g_ref07_in c l hl
  have hEnd := fun s k l hk hl hs => Pay.refEnd (C := ctx) Pay.ok_g_ref07_end hIn s k l hk hl hs
  have hWh := fun s hs => Pay.refWhole (C := ctx) Pay.ok_g_ref07_whole hIn s hs
  have hKd := fun s hs => Pay.refKind (C := ctx) Pay.ok_g_ref07_kind hRP hRRP hWh s hs
  have hRef := fun s hs => Pay.refAll (C := ctx) Pay.ok_g_ref07_All hIn hEnd hKd s hs
  exact ⟨Pay.lawLexAwake Pay.ok_g_law07_awake hAll, hAll, hRef⟩
end Go.Proofs.YthnddhfpkmbacaaDoor.paylr
