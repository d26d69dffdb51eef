/- The layer of kinds, at this program: all functions' contracts. -/
import Derived.Test.YtmglkghngkbioaaGreatDoorPayC31
import Derived.Test.YtmglkghngkbioaaGreatDoorPayC32
import Derived.Test.YtmglkghngkbioaaGreatDoorPayC41
import Derived.Test.YtmglkghngkbioaaGreatDoorPayC42
import Derived.Test.YtmglkghngkbioaaGreatDoorPayC43
import Derived.Test.YtmglkghngkbioaaGreatDoorPayC44
import Derived.Test.YtmglkghngkbioaaGreatDoorPayC61
import Derived.Test.YtmglkghngkbioaaGreatDoorPayC62
import Derived.Test.YtmglkghngkbioaaGreatDoorPayC63
import Derived.Test.YtmglkghngkbioaaGreatDoorPayC64
import Derived.Test.YtmglkghngkbioaaGreatDoorPayC65
import Derived.Test.YtmglkghngkbioaaGreatDoorPayC66
import Derived.Test.YtmglkghngkbioaaGreatDoorPayC79
import Derived.Test.YtmglkghngkbioaaGreatDoorPayC80
import Derived.Test.YtmglkghngkbioaaGreatDoorPayC81
import Derived.Test.YtmglkghngkbioaaGreatDoorPayC82
import Derived.Test.YtmglkghngkbioaaGreatDoorPayC83
import Derived.Test.YtmglkghngkbioaaGreatDoorPayC84
import Derived.Test.YtmglkghngkbioaaGreatDoorPayC85
import Derived.Test.YtmglkghngkbioaaGreatDoorPayC86
import Derived.Test.YtmglkghngkbioaaGreatDoorPayC87
import Derived.Test.YtmglkghngkbioaaGreatDoorPayC88
import Derived.Test.YtmglkghngkbioaaGreatDoorPayC89
import Derived.Test.YtmglkghngkbioaaGreatDoorPayC90
import Derived.Test.YtmglkghngkbioaaGreatDoorPayCeLib
import Derived.Test.YtmglkghngkbioaaGreatDoorPayCk1
import Derived.Test.YtmglkghngkbioaaGreatDoorPayCkC
import Derived.Test.YtmglkghngkbioaaGreatDoorPayOk0
import Derived.Test.YtmglkghngkbioaaGreatDoorPayOk1
import Derived.Test.YtmglkghngkbioaaGreatDoorPayTr1
namespace Go.Proofs.YtmglkghngkbioaaGreatDoor.payce
open Go.RowKit
set_option linter.unusedVariables false
set_option maxRecDepth 100000
theorem treeP : Pay.HParse ctx := by
  have hRt := fun n => Pay.moneyRight (C := ctx) Pay.ok_g_money_Right n
  have hText := fun n => Pay.moneyText (C := ctx) Pay.ok_g_money_Text hRt libK n
  have hParse := fun s hs => Pay.moneyParse (C := ctx) Pay.ok_g_money_Parse hRt hText libK s hs
  have hRR := fun n => Pay.rateRight (C := ctx) Pay.ok_g_rate_Right n
  have hCut := fun s p hs => Pay.cutSuffix (C := ctx) Pay.ok_g_strings_CutSuffix Pay.ok_g_internal_stringslite_CutSuffix Pay.ok_g_internal_stringslite_HasSuffix s p hs
  have hRaP := fun s hs => Pay.rateParse (C := ctx) Pay.ok_g_rate_Parse hCut hParse hRR s hs
  have hL := fun c => Pay.lexLetter (C := ctx) Pay.ok_g_lex_letter c
  have hDg := fun c => Pay.lexDigit (C := ctx) Pay.ok_g_lex_digit c
  have hW := fun c => Pay.lexWordB (C := ctx) Pay.ok_g_lex_one_1 hL hDg c
  have hN := fun c => Pay.lexNumB (C := ctx) Pay.ok_g_lex_one_2 hDg c
  have hLn := fun c => Pay.lexLineB (C := ctx) Pay.ok_g_lex_All_1 c
  have rD := fun s k hs hk => Pay.lexRun (C := ctx) Pay.ok_g_lex_run hDg s hs k hk
  have rW := fun s k hs hk => Pay.lexRun (C := ctx) Pay.ok_g_lex_run hW s hs k hk
  have rN := fun s k hs hk => Pay.lexRun (C := ctx) Pay.ok_g_lex_run hN s hs k hk
  have rL := fun s k hs hk => Pay.lexRun (C := ctx) Pay.ok_g_lex_run hLn s hs k hk
  have hFig := fun c s hc hs => Pay.lexFigure (C := ctx) Pay.ok_g_lex_figure hParse hRaP rD (c := c) (s := s) hc hs
  have hPre := fun s p => Pay.hasPrefix (C := ctx) Pay.ok_g_strings_HasPrefix Pay.ok_g_internal_stringslite_HasPrefix s p
  have hSg := fun c s hc => Pay.lexSign (C := ctx) Pay.ok_g_lex_sign hPre indexByteK (c := c) (s := s) hc
  have hOne := fun s k hk hs => Pay.lexOne (C := ctx) Pay.ok_g_lex_one hL hDg rW rN hFig hSg s k hk hs
  have hAll := fun s hs => Pay.lexAll (C := ctx) Pay.ok_g_lex_All hOne rL s hs
  have hIdx := fun l s hl => Pay.slIndex (C := ctx) Pay.ok_g_slices_Index_string l s hl
  have hCon : Pay.HCon ctx := fun l s hl => Pay.slContains (C := ctx) Pay.ok_g_slices_Contains_string hIdx l s hl
  have hKO := Pay.treeKindsO (C := ctx) Pay.ok_g_tree_kinds
  have hKi := Pay.treeKinds (C := ctx) Pay.ok_g_tree_kinds
  have hNm := fun s => Pay.treeNamed (C := ctx) Pay.ok_g_tree_named hKO hCon s
  have hTok : Pay.HTok ctx := Pay.treeToken (C := ctx) Pay.ok_g_tree_parser_token
  have hFail : Pay.HFail ctx := fun hp e => Pay.treeFail (C := ctx) Pay.ok_g_tree_parser_fail hTok hp e
  have hTake : Pay.HTake ctx := Pay.treeTake (C := ctx) Pay.ok_g_tree_parser_take hTok hCon
  have hNeed : Pay.HNeed ctx := Pay.treeNeed (C := ctx) Pay.ok_g_tree_parser_need hTake hFail
  have hPut : Pay.HPut ctx := Pay.treePut (C := ctx) Pay.ok_g_tree_parser_put
  have K : Pay.TreeK ctx := ⟨hTok, hFail, hTake, hNeed, hPut, hNm, fun s hs => libK.atoi s hs, hParse, hRaP⟩
  have hE : Pay.HPr ctx 221 [Pay.vI 1] (fun en => Pay.exprP en 20) := (Pay.treeExprs (C := ctx) Pay.ok_g_tree_parser_factor Pay.ok_g_tree_parser_pair Pay.ok_g_tree_parser_product Pay.ok_g_tree_parser_sum Pay.ok_g_tree_parser_expression Pay.ok_g_tree_parser_leaf K 20 (Nat.le_refl _)).2
  exact fun s hs => Pay.treeParse (C := ctx) Pay.ok_g_tree_Parse hAll (fun hp => Pay.treeRule (C := ctx) Pay.ok_g_tree_parser_rule K hKi hCon hE hp) s hs
theorem kindK : ∀ (p : Pay.Prog) (root : Int) (l : List Pay.Bnd), p.exprs.length < 100000 → l.length < 100000 → -9223372036854775808 ≤ root ∧ root < 9223372036854775808 → Pay.SoundAt ctx 163 ⟨[Pay.vProg p, Pay.vI root, Pay.vBns l], Pay.looko []⟩ ⟨.tup [Pay.vI (Pay.kindP p.exprs root l).1, Pay.vI (Pay.kindP p.exprs root l).2.1, Pay.vI (Pay.kindP p.exprs root l).2.2], Pay.looko []⟩ := by
  have hPr := fun {a b : Int} (ha : 0 ≤ a ∧ a ≤ 4) (hb : 0 ≤ b ∧ b ≤ 4) => Pay.ckProduct (C := ctx) Pay.ok_g_check_product ha hb
  have hTw := fun (op : List UInt8) {a b : Int} (ha : 0 ≤ a ∧ a ≤ 4) (hb : 0 ≤ b ∧ b ≤ 4) => Pay.ckTwo (C := ctx) Pay.ok_g_check_two hPr op ha hb
  have hPa := fun x => Pay.ckParts (C := ctx) Pay.ok_g_check_parts x
  have K : Pay.CkK ctx := ⟨fun x ks l hl hx hk => Pay.ckKind (C := ctx) Pay.ok_g_check_kind Pay.ok_g_slices_IndexFunc_Bind Pay.ok_g_check_kind_1 hTw x ks l hl hx hk,
    fun x l hl => Pay.bnHas (C := ctx) Pay.ok_g_slices_ContainsFunc_Bind Pay.ok_g_slices_IndexFunc_Bind (m := 14) (.inr rfl) (fun _ => rfl) (fun b _ => Pay.ckKind1' (C := ctx) Pay.ok_g_check_Kind_1 x b) hl,
    fun p root hE hr => Pay.ckNeeded (C := ctx) Pay.ok_g_check_needed hPa p hE root hr⟩
  exact fun p root l hE hl hr => Pay.ckKindAll (C := ctx) Pay.ok_g_check_Kind K p root l hE hl hr
theorem awakeK : Pay.SoundAt ctx 162 ⟨[], Pay.looko []⟩ ⟨Pay.vB true, Pay.looko []⟩ := Pay.lawCheckAwake Pay.ok_g_law10_awake treeP kindK
theorem lawK : Pay.LawK ctx := ⟨kindK, fun p h1 h2 => Pay.r10Ref (C := ctx) Pay.ok_g_law10_ref p h1 h2, fun p => Pay.r10Small (C := ctx) Pay.ok_g_ref10_Small p, awakeK⟩
theorem checkK : Pay.LawC ctx := by
  have hM := fun x => Pay.r10Many (C := ctx) Pay.ok_g_ref10_Many x
  have hP := fun x n => Pay.r10Part (C := ctx) Pay.ok_g_ref10_Part x n
  have hF := fun l s hl => Pay.r10Find (C := ctx) Pay.ok_g_ref10_find l s hl
  have hT := fun op => Pay.r10Table (C := ctx) Pay.ok_g_ref10_table op
  have R : Pay.RfK ctx := ⟨hM, hP, hF, fun x {ka kb kc} ha hb l hl => Pay.r10Of (C := ctx) Pay.ok_g_ref10_of hF hT x ha hb l hl, fun p root hE hr => Pay.r10Made (C := ctx) Pay.ok_g_ref10_Made hM hP p hE root hr⟩
  have hRK := fun p root l hE hl hr => Pay.r10Kind (C := ctx) Pay.ok_g_ref10_Kind R p root l hE hl hr
  exact ⟨kindK, hRK, fun p h1 h2 => Pay.r10Ref (C := ctx) Pay.ok_g_law10_ref p h1 h2, fun l hl => Pay.r10Refs (C := ctx) Pay.ok_g_law10_refs l hl, fun p => Pay.r10Small (C := ctx) Pay.ok_g_ref10_Small p, awakeK⟩
end Go.Proofs.YtmglkghngkbioaaGreatDoor.payce
