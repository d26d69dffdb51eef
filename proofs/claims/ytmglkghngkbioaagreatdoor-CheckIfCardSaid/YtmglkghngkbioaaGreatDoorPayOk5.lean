/- Each function's abstract code is the program's: each by the kernel; no condition. -/
import Derived.Test.YtmglkghngkbioaaGreatDoorPayCode5_0
import Derived.Test.YtmglkghngkbioaaGreatDoorPayPhi
set_option maxRecDepth 20000
namespace Pay
open Go
theorem ok_g_law10_CheckIf : okFn Go.Proofs.Tryz.prog phi 170 g_law10_CheckIf = true := by kernel_rfl
end Pay
