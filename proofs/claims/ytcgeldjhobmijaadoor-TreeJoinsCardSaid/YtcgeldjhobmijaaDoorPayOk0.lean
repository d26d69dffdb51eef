/- Each function's abstract code is the program's: each by the kernel; no condition. -/
import Derived.Test.YtcgeldjhobmijaaDoorPayCode0_0
import Derived.Test.YtcgeldjhobmijaaDoorPayPhi
set_option maxRecDepth 20000
namespace Pay
open Go
theorem ok_g_law08_awake : okFn Go.Proofs.Tryd.prog phi 143 g_law08_awake = true := by kernel_rfl
theorem ok_g_tree_Parse : okFn Go.Proofs.Tryd.prog phi 144 g_tree_Parse = true := by kernel_rfl
theorem ok_g_lex_All : okFn Go.Proofs.Tryd.prog phi 74 g_lex_All = true := by kernel_rfl
theorem ok_g_ref08_Same : okFn Go.Proofs.Tryd.prog phi 147 g_ref08_Same = true := by kernel_rfl
theorem ok_g_law08_ref : okFn Go.Proofs.Tryd.prog phi 146 g_law08_ref = true := by kernel_rfl
theorem ok_g_ref08_Taken : okFn Go.Proofs.Tryd.prog phi 152 g_ref08_Taken = true := by kernel_rfl
theorem ok_g_tree_parser_rule : okFn Go.Proofs.Tryd.prog phi 153 g_tree_parser_rule = true := by kernel_rfl
theorem ok_g_lex_run : okFn Go.Proofs.Tryd.prog phi 102 g_lex_run = true := by kernel_rfl
theorem ok_g_lex_All_1 : okFn Go.Proofs.Tryd.prog phi 103 g_lex_All_1 = true := by kernel_rfl
theorem ok_g_lex_one : okFn Go.Proofs.Tryd.prog phi 104 g_lex_one = true := by kernel_rfl
theorem ok_g_ref08_one : okFn Go.Proofs.Tryd.prog phi 154 g_ref08_one = true := by kernel_rfl
theorem ok_g_tree_parser_token : okFn Go.Proofs.Tryd.prog phi 217 g_tree_parser_token = true := by kernel_rfl
theorem ok_g_slices_Contains_string : okFn Go.Proofs.Tryd.prog phi 155 g_slices_Contains_string = true := by kernel_rfl
theorem ok_g_tree_kinds : okFn Go.Proofs.Tryd.prog phi 157 g_tree_kinds = true := by kernel_rfl
theorem ok_g_tree_parser_fail : okFn Go.Proofs.Tryd.prog phi 218 g_tree_parser_fail = true := by kernel_rfl
theorem ok_g_tree_parser_take : okFn Go.Proofs.Tryd.prog phi 219 g_tree_parser_take = true := by kernel_rfl
theorem ok_g_tree_named : okFn Go.Proofs.Tryd.prog phi 158 g_tree_named = true := by kernel_rfl
theorem ok_g_tree_parser_need : okFn Go.Proofs.Tryd.prog phi 220 g_tree_parser_need = true := by kernel_rfl
theorem ok_g_tree_parser_expression : okFn Go.Proofs.Tryd.prog phi 221 g_tree_parser_expression = true := by kernel_rfl
theorem ok_g_lex_letter : okFn Go.Proofs.Tryd.prog phi 105 g_lex_letter = true := by kernel_rfl
theorem ok_g_lex_one_1 : okFn Go.Proofs.Tryd.prog phi 106 g_lex_one_1 = true := by kernel_rfl
theorem ok_g_lex_digit : okFn Go.Proofs.Tryd.prog phi 107 g_lex_digit = true := by kernel_rfl
theorem ok_g_lex_one_2 : okFn Go.Proofs.Tryd.prog phi 108 g_lex_one_2 = true := by kernel_rfl
theorem ok_g_lex_figure : okFn Go.Proofs.Tryd.prog phi 109 g_lex_figure = true := by kernel_rfl
theorem ok_g_lex_sign : okFn Go.Proofs.Tryd.prog phi 110 g_lex_sign = true := by kernel_rfl
theorem ok_g_slices_Index_string : okFn Go.Proofs.Tryd.prog phi 156 g_slices_Index_string = true := by kernel_rfl
theorem ok_g_tree_parser_put : okFn Go.Proofs.Tryd.prog phi 222 g_tree_parser_put = true := by kernel_rfl
theorem ok_g_tree_parser_sum : okFn Go.Proofs.Tryd.prog phi 223 g_tree_parser_sum = true := by kernel_rfl
theorem ok_g_money_Parse : okFn Go.Proofs.Tryd.prog phi 51 g_money_Parse = true := by kernel_rfl
theorem ok_g_rate_Parse : okFn Go.Proofs.Tryd.prog phi 92 g_rate_Parse = true := by kernel_rfl
theorem ok_g_strings_HasPrefix : okFn Go.Proofs.Tryd.prog phi 123 g_strings_HasPrefix = true := by kernel_rfl
theorem ok_g_tree_parser_product : okFn Go.Proofs.Tryd.prog phi 224 g_tree_parser_product = true := by kernel_rfl
theorem ok_g_money_Right : okFn Go.Proofs.Tryd.prog phi 58 g_money_Right = true := by kernel_rfl
theorem ok_g_money_Text : okFn Go.Proofs.Tryd.prog phi 50 g_money_Text = true := by kernel_rfl
theorem ok_g_strings_CutSuffix : okFn Go.Proofs.Tryd.prog phi 101 g_strings_CutSuffix = true := by kernel_rfl
theorem ok_g_rate_Right : okFn Go.Proofs.Tryd.prog phi 88 g_rate_Right = true := by kernel_rfl
theorem ok_g_internal_stringslite_HasPrefix : okFn Go.Proofs.Tryd.prog phi 131 g_internal_stringslite_HasPrefix = true := by kernel_rfl
theorem ok_g_tree_parser_factor : okFn Go.Proofs.Tryd.prog phi 225 g_tree_parser_factor = true := by kernel_rfl
theorem ok_g_internal_stringslite_CutSuffix : okFn Go.Proofs.Tryd.prog phi 122 g_internal_stringslite_CutSuffix = true := by kernel_rfl
theorem ok_g_tree_parser_pair : okFn Go.Proofs.Tryd.prog phi 226 g_tree_parser_pair = true := by kernel_rfl
theorem ok_g_tree_parser_leaf : okFn Go.Proofs.Tryd.prog phi 227 g_tree_parser_leaf = true := by kernel_rfl
theorem ok_g_internal_stringslite_HasSuffix : okFn Go.Proofs.Tryd.prog phi 141 g_internal_stringslite_HasSuffix = true := by kernel_rfl
end Pay
