/- Each function's abstract code is the program's: each by the kernel; no condition. -/
import Derived.Test.YthnddhfpkmbacaaDoorPayCode0
import Derived.Test.YthnddhfpkmbacaaDoorProg
import Derived.KernelRfl
set_option maxRecDepth 20000
namespace Pay
open Go
def phi_tab : List (Nat × Nat) := [(22, 0), (23, 1), (24, 2), (72, 3), (76, 4), (77, 5), (78, 6), (79, 7), (80, 8), (83, 9), (84, 10), (85, 11), (89, 12), (90, 13), (95, 14), (73, 15), (74, 16), (75, 17), (81, 18), (82, 19), (86, 20), (87, 21), (88, 22), (91, 23), (92, 24), (93, 25), (94, 26), (102, 27), (103, 28), (104, 29), (96, 30), (97, 31), (98, 32), (99, 33), (53, 34), (100, 35), (50, 36), (101, 37), (51, 38), (54, 39), (105, 40), (106, 41), (107, 42), (108, 43), (109, 44), (110, 45), (52, 46), (111, 47), (58, 48), (113, 49), (112, 50), (114, 51), (115, 52), (117, 53), (116, 54), (118, 55), (119, 56), (120, 57), (121, 58), (68, 59), (122, 60), (70, 61), (69, 62), (71, 63), (123, 64), (124, 65), (133, 66), (141, 68), (125, 71), (126, 72), (127, 73), (128, 74), (129, 75), (130, 76), (131, 77), (132, 78), (134, 79), (135, 86), (136, 87), (137, 90), (138, 108), (139, 112), (140, 113), (33, 114), (34, 115), (35, 116), (36, 117), (37, 118), (38, 119), (39, 120), (40, 121), (41, 122), (42, 123), (43, 124), (44, 125), (45, 126), (46, 127), (47, 128)]
def phi (n : Nat) : FuncId := (phi_tab.lookup n).getD 0
theorem ok_g_law07_LexExact : okFn Go.Proofs.Tryd.prog phi 72 g_law07_LexExact = true := by kernel_rfl
theorem ok_g_law07_LexAgain : okFn Go.Proofs.Tryd.prog phi 76 g_law07_LexAgain = true := by kernel_rfl
theorem ok_g_law07_LexPlaces : okFn Go.Proofs.Tryd.prog phi 77 g_law07_LexPlaces = true := by kernel_rfl
theorem ok_g_law07_LexJoins : okFn Go.Proofs.Tryd.prog phi 78 g_law07_LexJoins = true := by kernel_rfl
theorem ok_g_law07_LexKinds : okFn Go.Proofs.Tryd.prog phi 79 g_law07_LexKinds = true := by kernel_rfl
theorem ok_g_law07_awake : okFn Go.Proofs.Tryd.prog phi 73 g_law07_awake = true := by kernel_rfl
theorem ok_g_lex_All : okFn Go.Proofs.Tryd.prog phi 74 g_lex_All = true := by kernel_rfl
theorem ok_g_ref07_All : okFn Go.Proofs.Tryd.prog phi 75 g_ref07_All = true := by kernel_rfl
theorem ok_g_rate_Right : okFn Go.Proofs.Tryd.prog phi 88 g_rate_Right = true := by kernel_rfl
theorem ok_g_rate_Parse : okFn Go.Proofs.Tryd.prog phi 92 g_rate_Parse = true := by kernel_rfl
theorem ok_g_ref03_Parse : okFn Go.Proofs.Tryd.prog phi 93 g_ref03_Parse = true := by kernel_rfl
theorem ok_g_ref03_Text : okFn Go.Proofs.Tryd.prog phi 94 g_ref03_Text = true := by kernel_rfl
theorem ok_g_lex_run : okFn Go.Proofs.Tryd.prog phi 102 g_lex_run = true := by kernel_rfl
theorem ok_g_lex_All_1 : okFn Go.Proofs.Tryd.prog phi 103 g_lex_All_1 = true := by kernel_rfl
theorem ok_g_lex_one : okFn Go.Proofs.Tryd.prog phi 104 g_lex_one = true := by kernel_rfl
theorem ok_g_ref07_in : okFn Go.Proofs.Tryd.prog phi 96 g_ref07_in = true := by kernel_rfl
theorem ok_g_ref07_end : okFn Go.Proofs.Tryd.prog phi 97 g_ref07_end = true := by kernel_rfl
theorem ok_g_ref07_kind : okFn Go.Proofs.Tryd.prog phi 98 g_ref07_kind = true := by kernel_rfl
theorem ok_g_money_Text : okFn Go.Proofs.Tryd.prog phi 50 g_money_Text = true := by kernel_rfl
theorem ok_g_strings_CutSuffix : okFn Go.Proofs.Tryd.prog phi 101 g_strings_CutSuffix = true := by kernel_rfl
theorem ok_g_money_Parse : okFn Go.Proofs.Tryd.prog phi 51 g_money_Parse = true := by kernel_rfl
theorem ok_g_ref01_Text : okFn Go.Proofs.Tryd.prog phi 54 g_ref01_Text = true := by kernel_rfl
theorem ok_g_lex_letter : okFn Go.Proofs.Tryd.prog phi 105 g_lex_letter = true := by kernel_rfl
theorem ok_g_lex_one_1 : okFn Go.Proofs.Tryd.prog phi 106 g_lex_one_1 = true := by kernel_rfl
theorem ok_g_lex_digit : okFn Go.Proofs.Tryd.prog phi 107 g_lex_digit = true := by kernel_rfl
theorem ok_g_lex_one_2 : okFn Go.Proofs.Tryd.prog phi 108 g_lex_one_2 = true := by kernel_rfl
theorem ok_g_lex_figure : okFn Go.Proofs.Tryd.prog phi 109 g_lex_figure = true := by kernel_rfl
theorem ok_g_lex_sign : okFn Go.Proofs.Tryd.prog phi 110 g_lex_sign = true := by kernel_rfl
theorem ok_g_ref01_Parse : okFn Go.Proofs.Tryd.prog phi 52 g_ref01_Parse = true := by kernel_rfl
theorem ok_g_ref07_whole : okFn Go.Proofs.Tryd.prog phi 111 g_ref07_whole = true := by kernel_rfl
theorem ok_g_money_Right : okFn Go.Proofs.Tryd.prog phi 58 g_money_Right = true := by kernel_rfl
theorem ok_g_internal_stringslite_CutSuffix : okFn Go.Proofs.Tryd.prog phi 122 g_internal_stringslite_CutSuffix = true := by kernel_rfl
theorem ok_g_ref01_Digits : okFn Go.Proofs.Tryd.prog phi 71 g_ref01_Digits = true := by kernel_rfl
theorem ok_g_strings_HasPrefix : okFn Go.Proofs.Tryd.prog phi 123 g_strings_HasPrefix = true := by kernel_rfl
theorem ok_g_internal_stringslite_HasSuffix : okFn Go.Proofs.Tryd.prog phi 141 g_internal_stringslite_HasSuffix = true := by kernel_rfl
theorem ok_g_internal_stringslite_HasPrefix : okFn Go.Proofs.Tryd.prog phi 131 g_internal_stringslite_HasPrefix = true := by kernel_rfl
end Pay
