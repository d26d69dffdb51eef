/- The layer of rates, at this program: all functions' contracts. -/
import Derived.Test.YthnddhfpkmbacaaDoorPayC54
import Derived.Test.YthnddhfpkmbacaaDoorPayLrLib
namespace Go.Proofs.YthnddhfpkmbacaaDoor.paylr
open Go.RowKit
set_option linter.unusedVariables false
set_option maxRecDepth 100000
theorem wideK : Pay.WideK ctx :=
  ⟨fun n => Pay.moneyRight (C := ctx) Pay.ok_g_money_Right n, mul64K, fun hi lo y h1 h2 h3 => Pay.div64 (C := ctx) Pay.ok_g_math_bits_Div64 lz64K hi lo y h1 h2 h3,
    fun n hn => Pay.wideSize (C := ctx) Pay.ok_g_wide_size n hn, fun m q l c h1 h2 => Pay.wideUp (C := ctx) Pay.ok_g_wide_up m q l c h1 h2⟩
theorem rateK : Pay.RateK ctx := by
  have hRt := fun n => Pay.moneyRight (C := ctx) Pay.ok_g_money_Right n
  have hText := fun n => Pay.moneyText (C := ctx) Pay.ok_g_money_Text hRt libK n
  have hParse := fun s hs => Pay.moneyParse (C := ctx) Pay.ok_g_money_Parse hRt hText libK s hs
  have hD := fun n hn => Pay.refDigits (C := ctx) Pay.ok_g_ref01_Digits n hn
  have hTx := fun n h0 h1 => Pay.refText (C := ctx) Pay.ok_g_ref01_Text hD n h0 h1
  have hRR := fun n => Pay.rateRight (C := ctx) Pay.ok_g_rate_Right n
  have hCut := fun s p hs => Pay.cutSuffix (C := ctx) Pay.ok_g_strings_CutSuffix Pay.ok_g_internal_stringslite_CutSuffix Pay.ok_g_internal_stringslite_HasSuffix s p hs
  have hRaP := fun s hs => Pay.rateParse (C := ctx) Pay.ok_g_rate_Parse hCut hParse hRR s hs
  have hRaT := fun n => Pay.rateText (C := ctx) Pay.ok_g_rate_Text hRR hText n
  have hRT := fun n h0 h1 => Pay.refRateText (C := ctx) Pay.ok_g_ref03_Text hTx n h0 h1
  have hRRP := fun s => Pay.refRateParse (C := ctx) Pay.ok_g_ref03_Parse hRT s
  have hM := fun a b c m ha hb hc => Pay.wideMulDiv (C := ctx) Pay.ok_g_wide_MulDiv wideK a b c m ha hb hc
  have hOf := fun a b m ha => Pay.rateOf (C := ctx) Pay.ok_g_rate_Of hRR hM a b m ha
  have hPr := fun a p w m ha hp hw => Pay.rateProrate (C := ctx) Pay.ok_g_rate_Prorate hM a p w m ha hp hw
  exact ⟨Pay.rateAwake Pay.ok_g_law03_awake hOf hRaP hRR, hOf, hPr, hRR, hRaT, hRaP, hRRP, hRT⟩
end Go.Proofs.YthnddhfpkmbacaaDoor.paylr
