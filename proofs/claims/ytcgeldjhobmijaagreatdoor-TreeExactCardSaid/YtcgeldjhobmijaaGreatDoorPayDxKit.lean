/- The layer of rule sets, at this program: all functions' contracts. -/
import Derived.Test.YtcgeldjhobmijaaGreatDoorPayC112
import Derived.Test.YtcgeldjhobmijaaGreatDoorPayC31
import Derived.Test.YtcgeldjhobmijaaGreatDoorPayC32
import Derived.Test.YtcgeldjhobmijaaGreatDoorPayC33
import Derived.Test.YtcgeldjhobmijaaGreatDoorPayC34
import Derived.Test.YtcgeldjhobmijaaGreatDoorPayC41
import Derived.Test.YtcgeldjhobmijaaGreatDoorPayC42
import Derived.Test.YtcgeldjhobmijaaGreatDoorPayC43
import Derived.Test.YtcgeldjhobmijaaGreatDoorPayC44
import Derived.Test.YtcgeldjhobmijaaGreatDoorPayC45
import Derived.Test.YtcgeldjhobmijaaGreatDoorPayC46
import Derived.Test.YtcgeldjhobmijaaGreatDoorPayC61
import Derived.Test.YtcgeldjhobmijaaGreatDoorPayC62
import Derived.Test.YtcgeldjhobmijaaGreatDoorPayC63
import Derived.Test.YtcgeldjhobmijaaGreatDoorPayC64
import Derived.Test.YtcgeldjhobmijaaGreatDoorPayC65
import Derived.Test.YtcgeldjhobmijaaGreatDoorPayC66
import Derived.Test.YtcgeldjhobmijaaGreatDoorPayC72
import Derived.Test.YtcgeldjhobmijaaGreatDoorPayC73
import Derived.Test.YtcgeldjhobmijaaGreatDoorPayC74
import Derived.Test.YtcgeldjhobmijaaGreatDoorPayC76
import Derived.Test.YtcgeldjhobmijaaGreatDoorPayC77
import Derived.Test.YtcgeldjhobmijaaGreatDoorPayDxLib
import Derived.Test.YtcgeldjhobmijaaGreatDoorPayMTr1
import Derived.Test.YtcgeldjhobmijaaGreatDoorPayOk0
namespace Go.Proofs.YtcgeldjhobmijaaGreatDoor.paydx
open Go.RowKit
set_option linter.unusedVariables false
set_option maxRecDepth 100000
theorem treeP : Pay.HParse ctx := by
  have hRt := fun n => Pay.moneyRight (C := ctx) Pay.ok_g_money_Right n
  have hText := fun n => Pay.moneyText (C := ctx) Pay.ok_g_money_Text hRt libK n
  have hParse := fun s hs => Pay.moneyParse (C := ctx) Pay.ok_g_money_Parse hRt hText libK s hs
  have hRR := fun n => Pay.rateRight (C := ctx) Pay.ok_g_rate_Right n
  have hCut := fun s p hs => Pay.cutSuffix (C := ctx) Pay.ok_g_strings_CutSuffix Pay.ok_g_internal_stringslite_CutSuffix Pay.ok_g_internal_stringslite_HasSuffix s p hs
  have hRaP := fun s hs => Pay.rateParse (C := ctx) Pay.ok_g_rate_Parse hCut hParse hRR s hs
  have hL := fun c => Pay.lexLetter (C := ctx) Pay.ok_g_lex_letter c
  have hDg := fun c => Pay.lexDigit (C := ctx) Pay.ok_g_lex_digit c
  have hW := fun c => Pay.lexWordB (C := ctx) Pay.ok_g_lex_one_1 hL hDg c
  have hN := fun c => Pay.lexNumB (C := ctx) Pay.ok_g_lex_one_2 hDg c
  have hLn := fun c => Pay.lexLineB (C := ctx) Pay.ok_g_lex_All_1 c
  have rD := fun s k hs hk => Pay.lexRun (C := ctx) Pay.ok_g_lex_run hDg s hs k hk
  have rW := fun s k hs hk => Pay.lexRun (C := ctx) Pay.ok_g_lex_run hW s hs k hk
  have rN := fun s k hs hk => Pay.lexRun (C := ctx) Pay.ok_g_lex_run hN s hs k hk
  have rL := fun s k hs hk => Pay.lexRun (C := ctx) Pay.ok_g_lex_run hLn s hs k hk
  have hFig := fun c s hc hs => Pay.lexFigure (C := ctx) Pay.ok_g_lex_figure hParse hRaP rD (c := c) (s := s) hc hs
  have hPre := fun s p => Pay.hasPrefix (C := ctx) Pay.ok_g_strings_HasPrefix Pay.ok_g_internal_stringslite_HasPrefix s p
  have hSg := fun c s hc => Pay.lexSign (C := ctx) Pay.ok_g_lex_sign hPre indexByteK (c := c) (s := s) hc
  have hOne := fun s k hk hs => Pay.lexOne (C := ctx) Pay.ok_g_lex_one hL hDg rW rN hFig hSg s k hk hs
  have hAll := fun s hs => Pay.lexAll (C := ctx) Pay.ok_g_lex_All hOne rL s hs
  have hIdx := fun l s hl => Pay.slIndex (C := ctx) Pay.ok_g_slices_Index_string l s hl
  have hCon : Pay.HCon ctx := fun l s hl => Pay.slContains (C := ctx) Pay.ok_g_slices_Contains_string hIdx l s hl
  have hKO := Pay.treeKindsO (C := ctx) Pay.ok_g_tree_kinds
  have hKi := Pay.treeKinds (C := ctx) Pay.ok_g_tree_kinds
  have hNm := fun s => Pay.treeNamed (C := ctx) Pay.ok_g_tree_named hKO hCon s
  have hTok : Pay.HTok ctx := Pay.treeToken (C := ctx) Pay.ok_g_tree_parser_token
  have hFail : Pay.HFail ctx := fun hp e => Pay.treeFail (C := ctx) Pay.ok_g_tree_parser_fail hTok hp e
  have hTake : Pay.HTake ctx := Pay.treeTake (C := ctx) Pay.ok_g_tree_parser_take hTok hCon
  have hNeed : Pay.HNeed ctx := Pay.treeNeed (C := ctx) Pay.ok_g_tree_parser_need hTake hFail
  have hPut : Pay.HPut ctx := Pay.treePut (C := ctx) Pay.ok_g_tree_parser_put
  have K : Pay.TreeK ctx := ⟨hTok, hFail, hTake, hNeed, hPut, hNm, fun s hs => libK.atoi s hs, hParse, hRaP⟩
  have hE : Pay.HPr ctx 221 [Pay.vI 1] (fun en => Pay.exprP en 20) := (Pay.treeExprs (C := ctx) Pay.ok_g_tree_parser_factor Pay.ok_g_tree_parser_pair Pay.ok_g_tree_parser_product Pay.ok_g_tree_parser_sum Pay.ok_g_tree_parser_expression Pay.ok_g_tree_parser_leaf K 20 (Nat.le_refl _)).2
  exact fun s hs => Pay.treeParse (C := ctx) Pay.ok_g_tree_Parse hAll (fun hp => Pay.treeRule (C := ctx) Pay.ok_g_tree_parser_rule K hKi hCon hE hp) s hs
theorem parse8K : ∀ s : List UInt8, s.length < 100000 → Pay.SoundAt ctx 173 ⟨[Pay.vS s], Pay.looko []⟩ ⟨Pay.vParse (Pay.parseP s), Pay.looko []⟩ := by
  have hD := fun n hn => Pay.refDigits (C := ctx) Pay.ok_g_ref01_Digits n hn
  have hTx := fun n h0 h1 => Pay.refText (C := ctx) Pay.ok_g_ref01_Text hD n h0 h1
  have hRP := fun s hs => Pay.refParse (C := ctx) Pay.ok_g_ref01_Parse hTx s hs
  have hRT := fun n h0 h1 => Pay.refRateText (C := ctx) Pay.ok_g_ref03_Text hTx n h0 h1
  have hRRP := fun s => Pay.refRateParse (C := ctx) Pay.ok_g_ref03_Parse hRT s
  have hIn := fun c l hl => Pay.refIn (C := ctx) Pay.ok_g_ref07_in c l hl
  have hEnd := fun s k l hk hl hs => Pay.refEnd (C := ctx) Pay.ok_g_ref07_end hIn s k l hk hl hs
  have hWh := fun s hs => Pay.refWhole (C := ctx) Pay.ok_g_ref07_whole hIn s hs
  have hKd := fun s hs => Pay.refKind (C := ctx) Pay.ok_g_ref07_kind hRP hRRP hWh s hs
  have hRef := fun s hs => Pay.refAll (C := ctx) Pay.ok_g_ref07_All hIn hEnd hKd s hs
  have hOn := fun s l hl => Pay.refOne (C := ctx) Pay.ok_g_ref08_one s l hl
  have hTk : ∀ s : List UInt8, Pay.SoundAt ctx 152 ⟨[Pay.vS s], Pay.looko []⟩ ⟨Pay.vB (Pay.takenL.contains s), Pay.looko []⟩ := fun s => by
    have := Pay.refTaken (C := ctx) Pay.ok_g_ref08_Taken hOn s
    rwa [show (!Pay.namedB s) = Pay.takenL.contains s by unfold Pay.namedB; rw [Bool.not_not]] at this
  have hT : Pay.HText ctx := Pay.ref8Text (C := ctx) Pay.ok_g_ref08_text
  have hW : ∀ e : Int, Pay.HSt ctx 194 [Pay.vI e] (fun en x => Pay.failS en e x) := fun e => Pay.ref8Wrong (C := ctx) Pay.ok_g_ref08_wrong e
  have hM : ∀ s : List UInt8, s ≠ [] → Pay.HSt ctx 195 [Pay.vS s] (fun en x => Pay.needS en s x) := fun s hs => Pay.ref8Must (C := ctx) Pay.ok_g_ref08_must hT hW s hs
  have hP : ∀ e : Pay.Xpr, Pay.HEx ctx 209 [Pay.vX e] (fun _ x => Pay.putS e x) := fun e => Pay.ref8Put (C := ctx) Pay.ok_g_ref08_put e
  have K : Pay.R8K ctx := ⟨Pay.HText.c hT, fun e => Pay.HSt.c (hW e), fun s hs => Pay.HSt.c (hM s hs), fun e => Pay.HEx.c (hP e), Pay.ref8Level (C := ctx) Pay.ok_g_ref08_level, hOn, hTk,
    fun s hs hp => by
      have e := Pay.parse_same s
      have h2 : (Pay.parseR s).2 = true := by rw [← e.1]; exact hp
      have h := hRP s hs
      rwa [show Pay.parseR s = Pay.parseS s from Prod.ext (e.2.1 h2).symm e.1.symm] at h, fun s _ => by rw [← Pay.rate_same]; exact hRRP s⟩
  have hE : Pay.HExC ctx 196 [Pay.vI 1] (fun en => Pay.exprP en 20) := (Pay.ref8Levels (C := ctx) Pay.ok_g_ref08_whole Pay.ok_g_ref08_chain Pay.ok_g_ref08_factor K 20 (Nat.le_refl _)).2
  exact fun s hs => Pay.ref8Parse (C := ctx) Pay.ok_g_ref08_Parse K hE hRef s hs
theorem exactK : Pay.X8K ctx := ⟨Pay.lawTreeAwake Pay.ok_g_law08_awake treeP, treeP, parse8K, fun p q h1 h2 => Pay.treeSame (C := ctx) Pay.ok_g_ref08_Same p q h1 h2, fun p h1 h2 => Pay.treeRef (C := ctx) Pay.ok_g_law08_ref p h1 h2⟩
end Go.Proofs.YtcgeldjhobmijaaGreatDoor.paydx
