/- The layer of texts, at this program: all functions' contracts. -/
import Derived.Test.YtmglkghngkbioaaGreatDoorPayC100
import Derived.Test.YtmglkghngkbioaaGreatDoorPayC102
import Derived.Test.YtmglkghngkbioaaGreatDoorPayC96
import Derived.Test.YtmglkghngkbioaaGreatDoorPayC97
import Derived.Test.YtmglkghngkbioaaGreatDoorPayC99
import Derived.Test.YtmglkghngkbioaaGreatDoorPayCeBs
import Derived.Test.YtmglkghngkbioaaGreatDoorPayCeKit
namespace Go.Proofs.YtmglkghngkbioaaGreatDoor.payce
open Go.RowKit
set_option linter.unusedVariables false
set_option maxRecDepth 100000
theorem showK:Pay.L9 ctx:=by
  have hRt:=fun n=>Pay.moneyRight (C:=ctx) Pay.ok_g_money_Right n
  have hText:=fun n=>Pay.moneyText (C:=ctx) Pay.ok_g_money_Text hRt libK n
  have hRR:=fun n=>Pay.rateRight (C:=ctx) Pay.ok_g_rate_Right n
  have hRaT:=fun n=>Pay.rateText (C:=ctx) Pay.ok_g_rate_Text hRR hText n
  have hLf:=fun x h0 h1=>Pay.showLeaf (C:=ctx) Pay.ok_g_show_leaf libK hText hRaT x h0 h1
  have hLv:=fun op=>Pay.showLevel (C:=ctx) Pay.ok_g_show_level op
  have hWr:∀ p:Pay.Prog,Pay.OkE p.exprs→Pay.WrK ctx p:=fun p hE=>⟨fun x hx m=>by
    obtain ⟨j,hj,rfl⟩:=List.mem_iff_getElem.1 hx
    have hs:=Pay.soundX_iff (Pay.soundXs_get hE.sound j _ (List.getElem?_eq_getElem hj))
    exact Pay.showParts (C:=ctx) Pay.ok_g_show_parts hLf hLv _ (hE.vals _ hx).1 (hE.vals _ hx).2 hs.2.2.2.1 m,
    hLv,fun n es h1 h2=>Pay.slReverse (C:=ctx) Pay.ok_g_slices_Reverse_item n es h1 h2,bdWK,bdSK⟩
  have hW:=fun (p:Pay.Prog) (hE:Pay.OkE p.exprs) (i:Int) (hi:0≤i∧i<(p.exprs.length:Int))=>Pay.showWrite (C:=ctx) Pay.ok_g_show_write (hWr p hE) hE hi
  have hTx:=fun (p:Pay.Prog) (hE:Pay.OkE p.exprs) (hs:Pay.soundP p=true)=>Pay.showTextK (C:=ctx) Pay.ok_g_show_text ⟨hW p hE,bdWK,bdSK⟩ hE hs
  have S:Pay.ShK ctx:=⟨fun p h1 h2=>Pay.showSound (C:=ctx) Pay.ok_g_show_sound p h1 h2,hTx,fun p q h1 h2=>Pay.showSame (C:=ctx) Pay.ok_g_show_same p q h1 h2,treeP,hW⟩
  have hT:=fun p h1 h2 hv ht=>Pay.showText (C:=ctx) Pay.ok_g_show_Text S p h1 h2 hv ht
  have S9:Pay.Sh9 ctx:=⟨treeP,hT,fun p i h1 hE ht=>Pay.showExpr (C:=ctx) Pay.ok_g_show_Expr p hE i (hT p h1 hE.len hE.vals ht) (hW p hE)⟩
  exact ⟨S9,fun p h1 h2=>Pay.r9Ref (C:=ctx) Pay.ok_g_law09_ref p h1 h2,fun p q h1 h2=>Pay.treeSame (C:=ctx) Pay.ok_g_ref08_Same p q h1 h2,Pay.lawShowAwake Pay.ok_g_law09_awake S9⟩
end Go.Proofs.YtmglkghngkbioaaGreatDoor.payce
