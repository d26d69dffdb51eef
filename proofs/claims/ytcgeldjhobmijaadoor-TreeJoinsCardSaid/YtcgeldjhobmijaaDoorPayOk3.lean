/- Each function's abstract code is the program's: each by the kernel; no condition. -/
import Derived.Test.YtcgeldjhobmijaaDoorPayCode3_0
import Derived.Test.YtcgeldjhobmijaaDoorPayPhi
set_option maxRecDepth 20000
namespace Pay
open Go
theorem ok_g_law08_TreeJoins : okFn Go.Proofs.Tryd.prog phi 148 g_law08_TreeJoins = true := by kernel_rfl
end Pay
