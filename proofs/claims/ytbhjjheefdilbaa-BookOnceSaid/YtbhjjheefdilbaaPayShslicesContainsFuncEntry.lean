/- What the code of one function comes to, without slots: an equation for each part; no condition. -/
import Derived.Test.YtbhjjheefdilbaaPayU
import Derived.Test.YtbhjjheefdilbaaPayBkCode
set_option maxRecDepth 20000
set_option maxHeartbeats 400000
set_option linter.unusedVariables false
namespace Pay
open Go
theorem g_slices_ContainsFunc_Entry_code_sh {C : Ctx} {I : Nat → Prop} {s : Nat → V} {o : Nat → Option Ob} {Q : Ex → St → Prop} : wpB C I (.seq (.region [0, 1] none none
    [⟨some 4, .mv (.c (.d (.bool false))), [], [], none, none⟩])
 (.seq (.region [4] none none
     [⟨some 5, .mv (.t 0), [], [], none, none⟩,
      ⟨some 6, .mv (.t 1), [], [], none, none⟩,
      ⟨some 7, .call 16 [(.t 5), (.t 6)], [], [], none, none⟩,
      ⟨some 8, .bin .geq (.t 7) (.c (.d (.int .i64 0))), [], [], none, none⟩,
      ⟨some 4, .mv (.t 8), [], [], none, none⟩])
  (.ret))) (St.mk s o) Q =
 (callK C I (St.mk (upd (upd (look [(0, (s 0)), (1, (s 1))]) 5 (s 0)) 6 (s 1)) o) (some 7) 16 [(s 0), (s 1)] (fun r1 or1 =>
demand (binV BinOp.geq r1 (V.d (.int .i64 0))) (fun x2 =>
Q .ret (St.mk (look [(4, x2)]) or1)))) := rfl


end Pay
