/- Each function's abstract code is the program's: each by the kernel; no condition. -/
import Derived.Test.YtcgeldjhobmijaaGreatDoorPayCode0_0
import Derived.Test.YtcgeldjhobmijaaGreatDoorPayPhi
set_option maxRecDepth 20000
namespace Pay
open Go
theorem ok_g_law08_TreeExact : okFn Go.Proofs.Tryz.prog phi 228 g_law08_TreeExact = true := by kernel_rfl
theorem ok_g_law08_awake : okFn Go.Proofs.Tryz.prog phi 143 g_law08_awake = true := by kernel_rfl
theorem ok_g_tree_Parse : okFn Go.Proofs.Tryz.prog phi 144 g_tree_Parse = true := by kernel_rfl
theorem ok_g_ref08_Parse : okFn Go.Proofs.Tryz.prog phi 173 g_ref08_Parse = true := by kernel_rfl
theorem ok_g_ref08_Same : okFn Go.Proofs.Tryz.prog phi 147 g_ref08_Same = true := by kernel_rfl
theorem ok_g_law08_ref : okFn Go.Proofs.Tryz.prog phi 146 g_law08_ref = true := by kernel_rfl
theorem ok_g_money_Text : okFn Go.Proofs.Tryz.prog phi 50 g_money_Text = true := by kernel_rfl
theorem ok_g_lex_All : okFn Go.Proofs.Tryz.prog phi 74 g_lex_All = true := by kernel_rfl
theorem ok_g_tree_parser_rule : okFn Go.Proofs.Tryz.prog phi 153 g_tree_parser_rule = true := by kernel_rfl
theorem ok_g_ref07_All : okFn Go.Proofs.Tryz.prog phi 75 g_ref07_All = true := by kernel_rfl
theorem ok_g_ref08_text : okFn Go.Proofs.Tryz.prog phi 193 g_ref08_text = true := by kernel_rfl
theorem ok_g_ref08_one : okFn Go.Proofs.Tryz.prog phi 154 g_ref08_one = true := by kernel_rfl
theorem ok_g_ref08_wrong : okFn Go.Proofs.Tryz.prog phi 194 g_ref08_wrong = true := by kernel_rfl
theorem ok_g_ref08_Taken : okFn Go.Proofs.Tryz.prog phi 152 g_ref08_Taken = true := by kernel_rfl
theorem ok_g_ref08_whole : okFn Go.Proofs.Tryz.prog phi 196 g_ref08_whole = true := by kernel_rfl
theorem ok_g_ref08_must : okFn Go.Proofs.Tryz.prog phi 195 g_ref08_must = true := by kernel_rfl
theorem ok_g_ref01_Digits : okFn Go.Proofs.Tryz.prog phi 71 g_ref01_Digits = true := by kernel_rfl
theorem ok_g_ref01_Text : okFn Go.Proofs.Tryz.prog phi 54 g_ref01_Text = true := by kernel_rfl
theorem ok_g_money_Right : okFn Go.Proofs.Tryz.prog phi 58 g_money_Right = true := by kernel_rfl
theorem ok_g_lex_run : okFn Go.Proofs.Tryz.prog phi 102 g_lex_run = true := by kernel_rfl
theorem ok_g_lex_All_1 : okFn Go.Proofs.Tryz.prog phi 103 g_lex_All_1 = true := by kernel_rfl
theorem ok_g_lex_one : okFn Go.Proofs.Tryz.prog phi 104 g_lex_one = true := by kernel_rfl
theorem ok_g_tree_parser_token : okFn Go.Proofs.Tryz.prog phi 217 g_tree_parser_token = true := by kernel_rfl
theorem ok_g_slices_Contains_string : okFn Go.Proofs.Tryz.prog phi 155 g_slices_Contains_string = true := by kernel_rfl
theorem ok_g_tree_kinds : okFn Go.Proofs.Tryz.prog phi 157 g_tree_kinds = true := by kernel_rfl
theorem ok_g_tree_parser_fail : okFn Go.Proofs.Tryz.prog phi 218 g_tree_parser_fail = true := by kernel_rfl
theorem ok_g_tree_parser_take : okFn Go.Proofs.Tryz.prog phi 219 g_tree_parser_take = true := by kernel_rfl
theorem ok_g_tree_named : okFn Go.Proofs.Tryz.prog phi 158 g_tree_named = true := by kernel_rfl
theorem ok_g_tree_parser_need : okFn Go.Proofs.Tryz.prog phi 220 g_tree_parser_need = true := by kernel_rfl
theorem ok_g_tree_parser_expression : okFn Go.Proofs.Tryz.prog phi 221 g_tree_parser_expression = true := by kernel_rfl
theorem ok_g_ref07_in : okFn Go.Proofs.Tryz.prog phi 96 g_ref07_in = true := by kernel_rfl
theorem ok_g_ref07_end : okFn Go.Proofs.Tryz.prog phi 97 g_ref07_end = true := by kernel_rfl
theorem ok_g_ref07_kind : okFn Go.Proofs.Tryz.prog phi 98 g_ref07_kind = true := by kernel_rfl
theorem ok_g_ref08_chain : okFn Go.Proofs.Tryz.prog phi 208 g_ref08_chain = true := by kernel_rfl
theorem ok_g_ref08_put : okFn Go.Proofs.Tryz.prog phi 209 g_ref08_put = true := by kernel_rfl
theorem ok_g_lex_letter : okFn Go.Proofs.Tryz.prog phi 105 g_lex_letter = true := by kernel_rfl
theorem ok_g_lex_one_1 : okFn Go.Proofs.Tryz.prog phi 106 g_lex_one_1 = true := by kernel_rfl
theorem ok_g_lex_digit : okFn Go.Proofs.Tryz.prog phi 107 g_lex_digit = true := by kernel_rfl
theorem ok_g_lex_one_2 : okFn Go.Proofs.Tryz.prog phi 108 g_lex_one_2 = true := by kernel_rfl
theorem ok_g_lex_figure : okFn Go.Proofs.Tryz.prog phi 109 g_lex_figure = true := by kernel_rfl
theorem ok_g_lex_sign : okFn Go.Proofs.Tryz.prog phi 110 g_lex_sign = true := by kernel_rfl
theorem ok_g_slices_Index_string : okFn Go.Proofs.Tryz.prog phi 156 g_slices_Index_string = true := by kernel_rfl
theorem ok_g_tree_parser_put : okFn Go.Proofs.Tryz.prog phi 222 g_tree_parser_put = true := by kernel_rfl
theorem ok_g_tree_parser_sum : okFn Go.Proofs.Tryz.prog phi 223 g_tree_parser_sum = true := by kernel_rfl
theorem ok_g_ref01_Parse : okFn Go.Proofs.Tryz.prog phi 52 g_ref01_Parse = true := by kernel_rfl
theorem ok_g_ref03_Parse : okFn Go.Proofs.Tryz.prog phi 93 g_ref03_Parse = true := by kernel_rfl
theorem ok_g_ref07_whole : okFn Go.Proofs.Tryz.prog phi 111 g_ref07_whole = true := by kernel_rfl
theorem ok_g_ref08_factor : okFn Go.Proofs.Tryz.prog phi 214 g_ref08_factor = true := by kernel_rfl
theorem ok_g_ref08_level : okFn Go.Proofs.Tryz.prog phi 215 g_ref08_level = true := by kernel_rfl
theorem ok_g_money_Parse : okFn Go.Proofs.Tryz.prog phi 51 g_money_Parse = true := by kernel_rfl
theorem ok_g_internal_stringslite_HasSuffix : okFn Go.Proofs.Tryz.prog phi 141 g_internal_stringslite_HasSuffix = true := by kernel_rfl
theorem ok_g_rate_Parse : okFn Go.Proofs.Tryz.prog phi 92 g_rate_Parse = true := by kernel_rfl
theorem ok_g_strings_HasPrefix : okFn Go.Proofs.Tryz.prog phi 123 g_strings_HasPrefix = true := by kernel_rfl
theorem ok_g_tree_parser_product : okFn Go.Proofs.Tryz.prog phi 224 g_tree_parser_product = true := by kernel_rfl
theorem ok_g_ref03_Text : okFn Go.Proofs.Tryz.prog phi 94 g_ref03_Text = true := by kernel_rfl
theorem ok_g_strings_CutSuffix : okFn Go.Proofs.Tryz.prog phi 101 g_strings_CutSuffix = true := by kernel_rfl
theorem ok_g_rate_Right : okFn Go.Proofs.Tryz.prog phi 88 g_rate_Right = true := by kernel_rfl
theorem ok_g_internal_stringslite_HasPrefix : okFn Go.Proofs.Tryz.prog phi 131 g_internal_stringslite_HasPrefix = true := by kernel_rfl
theorem ok_g_tree_parser_factor : okFn Go.Proofs.Tryz.prog phi 225 g_tree_parser_factor = true := by kernel_rfl
theorem ok_g_internal_stringslite_CutSuffix : okFn Go.Proofs.Tryz.prog phi 122 g_internal_stringslite_CutSuffix = true := by kernel_rfl
theorem ok_g_tree_parser_pair : okFn Go.Proofs.Tryz.prog phi 226 g_tree_parser_pair = true := by kernel_rfl
theorem ok_g_tree_parser_leaf : okFn Go.Proofs.Tryz.prog phi 227 g_tree_parser_leaf = true := by kernel_rfl
end Pay
