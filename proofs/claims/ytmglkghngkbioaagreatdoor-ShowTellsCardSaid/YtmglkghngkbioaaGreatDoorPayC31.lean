/- Contracts: sums of amounts. -/
import Derived.Test.YtmglkghngkbioaaGreatDoorPaySh0_0
set_option linter.unusedSimpArgs false
set_option linter.unusedVariables false
set_option maxHeartbeats 1000000
namespace Pay
open Go
attribute [local irreducible] wpB opsB treeB drawB
def amt (n:Int):Bool:=decide (n ≥ -9223372036854775807)
def w64' (n:Int):Int:=IntKind.i64.wrap n
theorem moneyRight {C:Ctx}(h:okFn C.P C.φ 58 g_money_Right=true)(n:Int):SoundAt C 58 ⟨[vI n],looko []⟩ ⟨vB (amt n),looko []⟩:=by
  refine SoundAt.of_run h rfl (fun Q hR hN => ?_)
  rw [entry1]
  repeat (first|simp only [go_sem]|refine Unf.h ?_)
  refine hR _ ?_
  simp only [go_sem]
  rfl
end Pay
