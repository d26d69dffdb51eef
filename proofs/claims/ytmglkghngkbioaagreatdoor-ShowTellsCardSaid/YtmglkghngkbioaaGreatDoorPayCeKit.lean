/- The layer of kinds, at this program: all functions' contracts. -/
import Derived.Test.YtmglkghngkbioaaGreatDoorPayC66
import Derived.Test.YtmglkghngkbioaaGreatDoorPayCeLib
import Derived.Test.YtmglkghngkbioaaGreatDoorPayOk0
namespace Go.Proofs.YtmglkghngkbioaaGreatDoor.payce
open Go.RowKit
set_option linter.unusedVariables false
set_option maxRecDepth 100000
theorem treeP:Pay.HParse ctx:=by
  have hRt:=fun n=>Pay.moneyRight (C:=ctx) Pay.ok_g_money_Right n
  have hText:=fun n=>Pay.moneyText (C:=ctx) Pay.ok_g_money_Text hRt libK n
  have hParse:=fun s hs=>Pay.moneyParse (C:=ctx) Pay.ok_g_money_Parse hRt hText libK s hs
  have hRR:=fun n=>Pay.rateRight (C:=ctx) Pay.ok_g_rate_Right n
  have hCut:=fun s p hs=>Pay.cutSuffix (C:=ctx) Pay.ok_g_strings_CutSuffix Pay.ok_g_internal_stringslite_CutSuffix Pay.ok_g_internal_stringslite_HasSuffix s p hs
  have hRaP:=fun s hs=>Pay.rateParse (C:=ctx) Pay.ok_g_rate_Parse hCut hParse hRR s hs
  have hL:=fun c=>Pay.lexLetter (C:=ctx) Pay.ok_g_lex_letter c
  have hDg:=fun c=>Pay.lexDigit (C:=ctx) Pay.ok_g_lex_digit c
  have hW:=fun c=>Pay.lexWordB (C:=ctx) Pay.ok_g_lex_one_1 hL hDg c
  have hN:=fun c=>Pay.lexNumB (C:=ctx) Pay.ok_g_lex_one_2 hDg c
  have hLn:=fun c=>Pay.lexLineB (C:=ctx) Pay.ok_g_lex_All_1 c
  have rD:=fun s k hs hk=>Pay.lexRun (C:=ctx) Pay.ok_g_lex_run hDg s hs k hk
  have rW:=fun s k hs hk=>Pay.lexRun (C:=ctx) Pay.ok_g_lex_run hW s hs k hk
  have rN:=fun s k hs hk=>Pay.lexRun (C:=ctx) Pay.ok_g_lex_run hN s hs k hk
  have rL:=fun s k hs hk=>Pay.lexRun (C:=ctx) Pay.ok_g_lex_run hLn s hs k hk
  have hFig:=fun c s hc hs=>Pay.lexFigure (C:=ctx) Pay.ok_g_lex_figure hParse hRaP rD (c:=c) (s:=s) hc hs
  have hPre:=fun s p=>Pay.hasPrefix (C:=ctx) Pay.ok_g_strings_HasPrefix Pay.ok_g_internal_stringslite_HasPrefix s p
  have hSg:=fun c s hc=>Pay.lexSign (C:=ctx) Pay.ok_g_lex_sign hPre indexByteK (c:=c) (s:=s) hc
  have hOne:=fun s k hk hs=>Pay.lexOne (C:=ctx) Pay.ok_g_lex_one hL hDg rW rN hFig hSg s k hk hs
  have hAll:=fun s hs=>Pay.lexAll (C:=ctx) Pay.ok_g_lex_All hOne rL s hs
  have hIdx:=fun l s hl=>Pay.slIndex (C:=ctx) Pay.ok_g_slices_Index_string l s hl
  have hCon:Pay.HCon ctx:=fun l s hl=>Pay.slContains (C:=ctx) Pay.ok_g_slices_Contains_string hIdx l s hl
  have hKO:=Pay.treeKindsO (C:=ctx) Pay.ok_g_tree_kinds
  have hKi:=Pay.treeKinds (C:=ctx) Pay.ok_g_tree_kinds
  have hNm:=fun s=>Pay.treeNamed (C:=ctx) Pay.ok_g_tree_named hKO hCon s
  have hTok:Pay.HTok ctx:=Pay.treeToken (C:=ctx) Pay.ok_g_tree_parser_token
  have hFail:Pay.HFail ctx:=fun hp e=>Pay.treeFail (C:=ctx) Pay.ok_g_tree_parser_fail hTok hp e
  have hTake:Pay.HTake ctx:=Pay.treeTake (C:=ctx) Pay.ok_g_tree_parser_take hTok hCon
  have hNeed:Pay.HNeed ctx:=Pay.treeNeed (C:=ctx) Pay.ok_g_tree_parser_need hTake hFail
  have hPut:Pay.HPut ctx:=Pay.treePut (C:=ctx) Pay.ok_g_tree_parser_put
  have K:Pay.TreeK ctx:=⟨hTok,hFail,hTake,hNeed,hPut,hNm,fun s hs=>libK.atoi s hs,hParse,hRaP⟩
  have hE:Pay.HPr ctx 221 [Pay.vI 1] (fun en=>Pay.exprP en 20):=(Pay.treeExprs (C:=ctx) Pay.ok_g_tree_parser_factor Pay.ok_g_tree_parser_pair Pay.ok_g_tree_parser_product Pay.ok_g_tree_parser_sum Pay.ok_g_tree_parser_expression Pay.ok_g_tree_parser_leaf K 20 (Nat.le_refl _)).2
  exact fun s hs=>Pay.treeParse (C:=ctx) Pay.ok_g_tree_Parse hAll (fun hp=>Pay.treeRule (C:=ctx) Pay.ok_g_tree_parser_rule K hKi hCon hE hp) s hs
end Go.Proofs.YtmglkghngkbioaaGreatDoor.payce
