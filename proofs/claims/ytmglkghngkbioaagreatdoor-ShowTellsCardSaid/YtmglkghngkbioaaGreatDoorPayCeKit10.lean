/- The document's layer of texts, at this program: all functions' contracts. -/
import Derived.Test.YtmglkghngkbioaaGreatDoorPayC107
import Derived.Test.YtmglkghngkbioaaGreatDoorPayC111
import Derived.Test.YtmglkghngkbioaaGreatDoorPayC77
import Derived.Test.YtmglkghngkbioaaGreatDoorPayCeLib
import Derived.Test.YtmglkghngkbioaaGreatDoorPayOk0
namespace Go.Proofs.YtmglkghngkbioaaGreatDoor.payce
open Go.RowKit
set_option linter.unusedVariables false
set_option maxRecDepth 100000
theorem parse8K:Pay.HParse8 ctx:=by
  have hD:=fun n hn=>Pay.refDigits (C:=ctx) Pay.ok_g_ref01_Digits n hn
  have hTx:=fun n h0 h1=>Pay.refText (C:=ctx) Pay.ok_g_ref01_Text hD n h0 h1
  have hRP:=fun s hs=>Pay.refParse (C:=ctx) Pay.ok_g_ref01_Parse hTx s hs
  have hRT:=fun n h0 h1=>Pay.refRateText (C:=ctx) Pay.ok_g_ref03_Text hTx n h0 h1
  have hRRP:=fun s=>Pay.refRateParse (C:=ctx) Pay.ok_g_ref03_Parse hRT s
  have hIn:=fun c l hl=>Pay.refIn (C:=ctx) Pay.ok_g_ref07_in c l hl
  have hEnd:=fun s k l hk hl hs=>Pay.refEnd (C:=ctx) Pay.ok_g_ref07_end hIn s k l hk hl hs
  have hWh:=fun s hs=>Pay.refWhole (C:=ctx) Pay.ok_g_ref07_whole hIn s hs
  have hKd:=fun s hs=>Pay.refKind (C:=ctx) Pay.ok_g_ref07_kind hRP hRRP hWh s hs
  have hRef:=fun s hs=>Pay.refAll (C:=ctx) Pay.ok_g_ref07_All hIn hEnd hKd s hs
  have hOn:=fun s l hl=>Pay.refOne (C:=ctx) Pay.ok_g_ref08_one s l hl
  have hTk:∀ s:List UInt8,Pay.SoundAt ctx 152 ⟨[Pay.vS s],Pay.looko []⟩ ⟨Pay.vB (Pay.takenL.contains s),Pay.looko []⟩:=fun s=>by
    have:=Pay.refTaken (C:=ctx) Pay.ok_g_ref08_Taken hOn s
    rwa [show (!Pay.namedB s)=Pay.takenL.contains s by unfold Pay.namedB;rw [Bool.not_not]] at this
  have hT:Pay.HText ctx:=Pay.ref8Text (C:=ctx) Pay.ok_g_ref08_text
  have hW:∀ e:Int,Pay.HSt ctx 194 [Pay.vI e] (fun en x=>Pay.failS en e x):=fun e=>Pay.ref8Wrong (C:=ctx) Pay.ok_g_ref08_wrong e
  have hM:∀ s:List UInt8,s≠[]→Pay.HSt ctx 195 [Pay.vS s] (fun en x=>Pay.needS en s x):=fun s hs=>Pay.ref8Must (C:=ctx) Pay.ok_g_ref08_must hT hW s hs
  have hP:∀ e:Pay.Xpr,Pay.HEx ctx 209 [Pay.vX e] (fun _ x=>Pay.putS e x):=fun e=>Pay.ref8Put (C:=ctx) Pay.ok_g_ref08_put e
  have K:Pay.R8K ctx:=⟨Pay.HText.c hT,fun e=>Pay.HSt.c (hW e),fun s hs=>Pay.HSt.c (hM s hs),fun e=>Pay.HEx.c (hP e),Pay.ref8Level (C:=ctx) Pay.ok_g_ref08_level,hOn,hTk,
    fun s hs hp=>by
      have e:=Pay.parse_same s
      have h2:(Pay.parseR s).2=true:=by rw [← e.1];exact hp
      have h:=hRP s hs
      rwa [show Pay.parseR s=Pay.parseS s from Prod.ext (e.2.1 h2).symm e.1.symm] at h,fun s _=>by rw [← Pay.rate_same];exact hRRP s⟩
  have hE:Pay.HExC ctx 196 [Pay.vI 1] (fun en=>Pay.exprP en 20):=(Pay.ref8Levels (C:=ctx) Pay.ok_g_ref08_whole Pay.ok_g_ref08_chain Pay.ok_g_ref08_factor K 20 (Nat.le_refl _)).2
  exact fun s hs=>Pay.ref8Parse (C:=ctx) Pay.ok_g_ref08_Parse K hE hRef s hs
theorem tellsK:Pay.R9K ctx:=by
  have hD:=fun n hn=>Pay.refDigits (C:=ctx) Pay.ok_g_ref01_Digits n hn
  have hTx:=fun n h0 h1=>Pay.refText (C:=ctx) Pay.ok_g_ref01_Text hD n h0 h1
  exact ⟨parse8K,Pay.ok_g_ref09_Text,Pay.ok_g_ref09_Texts,⟨fun op=>Pay.ref9Level (C:=ctx) Pay.ok_g_ref09_level op,fun s a b hs=>Pay.ref9Held (C:=ctx) Pay.ok_g_ref09_held s a b hs,hD,hTx⟩⟩
end Go.Proofs.YtmglkghngkbioaaGreatDoor.payce
