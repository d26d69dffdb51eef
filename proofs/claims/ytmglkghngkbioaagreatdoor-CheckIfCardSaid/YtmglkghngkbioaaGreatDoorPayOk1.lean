/- Each function's abstract code is the program's: each by the kernel; no condition. -/
import Derived.Test.YtmglkghngkbioaaGreatDoorPayCode1_0
import Derived.Test.YtmglkghngkbioaaGreatDoorPayPhi
set_option maxRecDepth 20000
namespace Pay
open Go
theorem ok_g_law10_CheckKinds : okFn Go.Proofs.Tryz.prog phi 159 g_law10_CheckKinds = true := by kernel_rfl
theorem ok_g_ref10_Kind : okFn Go.Proofs.Tryz.prog phi 165 g_ref10_Kind = true := by kernel_rfl
theorem ok_g_law10_refs : okFn Go.Proofs.Tryz.prog phi 164 g_law10_refs = true := by kernel_rfl
theorem ok_g_ref10_Made : okFn Go.Proofs.Tryz.prog phi 188 g_ref10_Made = true := by kernel_rfl
theorem ok_g_ref10_Many : okFn Go.Proofs.Tryz.prog phi 189 g_ref10_Many = true := by kernel_rfl
theorem ok_g_ref10_Part : okFn Go.Proofs.Tryz.prog phi 190 g_ref10_Part = true := by kernel_rfl
theorem ok_g_ref10_of : okFn Go.Proofs.Tryz.prog phi 191 g_ref10_of = true := by kernel_rfl
theorem ok_g_ref10_find : okFn Go.Proofs.Tryz.prog phi 192 g_ref10_find = true := by kernel_rfl
theorem ok_g_ref10_table : okFn Go.Proofs.Tryz.prog phi 207 g_ref10_table = true := by kernel_rfl
end Pay
