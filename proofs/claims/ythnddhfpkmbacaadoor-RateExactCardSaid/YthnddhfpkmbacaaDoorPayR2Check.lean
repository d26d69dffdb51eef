/- Each function's abstract code is the program's: each by the kernel; no condition. -/
import Derived.Test.YthnddhfpkmbacaaDoorPayCode0
import Derived.Test.YthnddhfpkmbacaaDoorProg
import Derived.KernelRfl
set_option maxRecDepth 20000
namespace Pay
open Go
def phi_tab : List (Nat × Nat) := [(22, 0), (23, 1), (24, 2), (72, 3), (76, 4), (77, 5), (78, 6), (79, 7), (80, 8), (83, 9), (84, 10), (85, 11), (89, 12), (90, 13), (95, 14), (73, 15), (74, 16), (75, 17), (81, 18), (82, 19), (86, 20), (87, 21), (88, 22), (91, 23), (92, 24), (93, 25), (94, 26), (102, 27), (103, 28), (104, 29), (96, 30), (97, 31), (98, 32), (99, 33), (53, 34), (100, 35), (50, 36), (101, 37), (51, 38), (54, 39), (105, 40), (106, 41), (107, 42), (108, 43), (109, 44), (110, 45), (52, 46), (111, 47), (58, 48), (113, 49), (112, 50), (114, 51), (115, 52), (117, 53), (116, 54), (118, 55), (119, 56), (120, 57), (121, 58), (68, 59), (122, 60), (70, 61), (69, 62), (71, 63), (123, 64), (124, 65), (133, 66), (141, 68), (125, 71), (126, 72), (127, 73), (128, 74), (129, 75), (130, 76), (131, 77), (132, 78), (134, 79), (135, 86), (136, 87), (137, 90), (138, 108), (139, 112), (140, 113), (33, 114), (34, 115), (35, 116), (36, 117), (37, 118), (38, 119), (39, 120), (40, 121), (41, 122), (42, 123), (43, 124), (44, 125), (45, 126), (46, 127), (47, 128)]
def phi (n : Nat) : FuncId := (phi_tab.lookup n).getD 0
theorem ok_g_law03_RateExact : okFn Go.Proofs.Tryd.prog phi 85 g_law03_RateExact = true := by kernel_rfl
theorem ok_g_law03_awake : okFn Go.Proofs.Tryd.prog phi 81 g_law03_awake = true := by kernel_rfl
theorem ok_g_rate_Of : okFn Go.Proofs.Tryd.prog phi 82 g_rate_Of = true := by kernel_rfl
theorem ok_g_rate_Prorate : okFn Go.Proofs.Tryd.prog phi 86 g_rate_Prorate = true := by kernel_rfl
theorem ok_g_law03_quotient : okFn Go.Proofs.Tryd.prog phi 87 g_law03_quotient = true := by kernel_rfl
theorem ok_g_rate_Right : okFn Go.Proofs.Tryd.prog phi 88 g_rate_Right = true := by kernel_rfl
theorem ok_g_rate_Text : okFn Go.Proofs.Tryd.prog phi 91 g_rate_Text = true := by kernel_rfl
theorem ok_g_rate_Parse : okFn Go.Proofs.Tryd.prog phi 92 g_rate_Parse = true := by kernel_rfl
theorem ok_g_ref03_Parse : okFn Go.Proofs.Tryd.prog phi 93 g_ref03_Parse = true := by kernel_rfl
theorem ok_g_ref03_Text : okFn Go.Proofs.Tryd.prog phi 94 g_ref03_Text = true := by kernel_rfl
theorem ok_g_wide_MulDiv : okFn Go.Proofs.Tryd.prog phi 99 g_wide_MulDiv = true := by kernel_rfl
theorem ok_g_ref01_Right : okFn Go.Proofs.Tryd.prog phi 53 g_ref01_Right = true := by kernel_rfl
theorem ok_g_ref02_MulDiv : okFn Go.Proofs.Tryd.prog phi 100 g_ref02_MulDiv = true := by kernel_rfl
theorem ok_g_money_Text : okFn Go.Proofs.Tryd.prog phi 50 g_money_Text = true := by kernel_rfl
theorem ok_g_strings_CutSuffix : okFn Go.Proofs.Tryd.prog phi 101 g_strings_CutSuffix = true := by kernel_rfl
theorem ok_g_money_Parse : okFn Go.Proofs.Tryd.prog phi 51 g_money_Parse = true := by kernel_rfl
theorem ok_g_ref01_Text : okFn Go.Proofs.Tryd.prog phi 54 g_ref01_Text = true := by kernel_rfl
theorem ok_g_money_Right : okFn Go.Proofs.Tryd.prog phi 58 g_money_Right = true := by kernel_rfl
theorem ok_g_wide_size : okFn Go.Proofs.Tryd.prog phi 112 g_wide_size = true := by kernel_rfl
theorem ok_g_math_bits_Div64 : okFn Go.Proofs.Tryd.prog phi 114 g_math_bits_Div64 = true := by kernel_rfl
theorem ok_g_wide_up : okFn Go.Proofs.Tryd.prog phi 115 g_wide_up = true := by kernel_rfl
theorem ok_g_ref02_Mul : okFn Go.Proofs.Tryd.prog phi 117 g_ref02_Mul = true := by kernel_rfl
theorem ok_g_ref02_Of : okFn Go.Proofs.Tryd.prog phi 116 g_ref02_Of = true := by kernel_rfl
theorem ok_g_ref02_trim : okFn Go.Proofs.Tryd.prog phi 118 g_ref02_trim = true := by kernel_rfl
theorem ok_g_ref02_size : okFn Go.Proofs.Tryd.prog phi 119 g_ref02_size = true := by kernel_rfl
theorem ok_g_ref02_less : okFn Go.Proofs.Tryd.prog phi 120 g_ref02_less = true := by kernel_rfl
theorem ok_g_ref02_double : okFn Go.Proofs.Tryd.prog phi 121 g_ref02_double = true := by kernel_rfl
theorem ok_g_internal_stringslite_CutSuffix : okFn Go.Proofs.Tryd.prog phi 122 g_internal_stringslite_CutSuffix = true := by kernel_rfl
theorem ok_g_ref01_Digits : okFn Go.Proofs.Tryd.prog phi 71 g_ref01_Digits = true := by kernel_rfl
theorem ok_g_internal_stringslite_HasSuffix : okFn Go.Proofs.Tryd.prog phi 141 g_internal_stringslite_HasSuffix = true := by kernel_rfl
end Pay
