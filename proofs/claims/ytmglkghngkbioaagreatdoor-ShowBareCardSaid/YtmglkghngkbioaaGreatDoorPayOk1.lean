/- Each function's abstract code is the program's: each by the kernel; no condition. -/
import Derived.Test.YtmglkghngkbioaaGreatDoorPayCode1_0
import Derived.Test.YtmglkghngkbioaaGreatDoorPayPhi
set_option maxRecDepth 20000
namespace Pay
open Go
theorem ok_g_law09_ShowBare : okFn Go.Proofs.Tryz.prog phi 181 g_law09_ShowBare = true := by kernel_rfl
end Pay
