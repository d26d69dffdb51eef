/- Each function's abstract code is the program's: each by the kernel; no condition. -/
import Derived.Test.YtmglkghngkbioaaGreatDoorPayCode0_0
import Derived.Test.YtmglkghngkbioaaGreatDoorPayPhi
set_option maxRecDepth 20000
namespace Pay
open Go
theorem ok_g_law09_ShowWrong : okFn Go.Proofs.Tryz.prog phi 180 g_law09_ShowWrong = true := by kernel_rfl
theorem ok_g_law09_awake : okFn Go.Proofs.Tryz.prog phi 172 g_law09_awake = true := by kernel_rfl
theorem ok_g_tree_Parse : okFn Go.Proofs.Tryz.prog phi 144 g_tree_Parse = true := by kernel_rfl
theorem ok_g_show_Text : okFn Go.Proofs.Tryz.prog phi 174 g_show_Text = true := by kernel_rfl
theorem ok_g_show_Expr : okFn Go.Proofs.Tryz.prog phi 175 g_show_Expr = true := by kernel_rfl
theorem ok_g_ref08_Same : okFn Go.Proofs.Tryz.prog phi 147 g_ref08_Same = true := by kernel_rfl
theorem ok_g_law09_ref : okFn Go.Proofs.Tryz.prog phi 179 g_law09_ref = true := by kernel_rfl
theorem ok_g_lex_All : okFn Go.Proofs.Tryz.prog phi 74 g_lex_All = true := by kernel_rfl
theorem ok_g_tree_parser_rule : okFn Go.Proofs.Tryz.prog phi 153 g_tree_parser_rule = true := by kernel_rfl
theorem ok_g_show_sound : okFn Go.Proofs.Tryz.prog phi 197 g_show_sound = true := by kernel_rfl
theorem ok_g_show_text : okFn Go.Proofs.Tryz.prog phi 198 g_show_text = true := by kernel_rfl
theorem ok_g_show_same : okFn Go.Proofs.Tryz.prog phi 199 g_show_same = true := by kernel_rfl
theorem ok_g_show_write : okFn Go.Proofs.Tryz.prog phi 200 g_show_write = true := by kernel_rfl
theorem ok_g_lex_run : okFn Go.Proofs.Tryz.prog phi 102 g_lex_run = true := by kernel_rfl
theorem ok_g_lex_All_1 : okFn Go.Proofs.Tryz.prog phi 103 g_lex_All_1 = true := by kernel_rfl
theorem ok_g_lex_one : okFn Go.Proofs.Tryz.prog phi 104 g_lex_one = true := by kernel_rfl
theorem ok_g_tree_parser_token : okFn Go.Proofs.Tryz.prog phi 217 g_tree_parser_token = true := by kernel_rfl
theorem ok_g_slices_Contains_string : okFn Go.Proofs.Tryz.prog phi 155 g_slices_Contains_string = true := by kernel_rfl
theorem ok_g_tree_kinds : okFn Go.Proofs.Tryz.prog phi 157 g_tree_kinds = true := by kernel_rfl
theorem ok_g_tree_parser_fail : okFn Go.Proofs.Tryz.prog phi 218 g_tree_parser_fail = true := by kernel_rfl
theorem ok_g_tree_parser_take : okFn Go.Proofs.Tryz.prog phi 219 g_tree_parser_take = true := by kernel_rfl
theorem ok_g_tree_named : okFn Go.Proofs.Tryz.prog phi 158 g_tree_named = true := by kernel_rfl
theorem ok_g_tree_parser_need : okFn Go.Proofs.Tryz.prog phi 220 g_tree_parser_need = true := by kernel_rfl
theorem ok_g_tree_parser_expression : okFn Go.Proofs.Tryz.prog phi 221 g_tree_parser_expression = true := by kernel_rfl
theorem ok_g_show_parts : okFn Go.Proofs.Tryz.prog phi 210 g_show_parts = true := by kernel_rfl
theorem ok_g_show_level : okFn Go.Proofs.Tryz.prog phi 211 g_show_level = true := by kernel_rfl
theorem ok_g_slices_Reverse_item : okFn Go.Proofs.Tryz.prog phi 212 g_slices_Reverse_item = true := by kernel_rfl
theorem ok_g_lex_letter : okFn Go.Proofs.Tryz.prog phi 105 g_lex_letter = true := by kernel_rfl
theorem ok_g_lex_one_1 : okFn Go.Proofs.Tryz.prog phi 106 g_lex_one_1 = true := by kernel_rfl
theorem ok_g_lex_digit : okFn Go.Proofs.Tryz.prog phi 107 g_lex_digit = true := by kernel_rfl
theorem ok_g_lex_one_2 : okFn Go.Proofs.Tryz.prog phi 108 g_lex_one_2 = true := by kernel_rfl
theorem ok_g_lex_figure : okFn Go.Proofs.Tryz.prog phi 109 g_lex_figure = true := by kernel_rfl
theorem ok_g_lex_sign : okFn Go.Proofs.Tryz.prog phi 110 g_lex_sign = true := by kernel_rfl
theorem ok_g_slices_Index_string : okFn Go.Proofs.Tryz.prog phi 156 g_slices_Index_string = true := by kernel_rfl
theorem ok_g_tree_parser_put : okFn Go.Proofs.Tryz.prog phi 222 g_tree_parser_put = true := by kernel_rfl
theorem ok_g_tree_parser_sum : okFn Go.Proofs.Tryz.prog phi 223 g_tree_parser_sum = true := by kernel_rfl
theorem ok_g_show_leaf : okFn Go.Proofs.Tryz.prog phi 216 g_show_leaf = true := by kernel_rfl
theorem ok_g_money_Parse : okFn Go.Proofs.Tryz.prog phi 51 g_money_Parse = true := by kernel_rfl
theorem ok_g_rate_Parse : okFn Go.Proofs.Tryz.prog phi 92 g_rate_Parse = true := by kernel_rfl
theorem ok_g_strings_HasPrefix : okFn Go.Proofs.Tryz.prog phi 123 g_strings_HasPrefix = true := by kernel_rfl
theorem ok_g_tree_parser_product : okFn Go.Proofs.Tryz.prog phi 224 g_tree_parser_product = true := by kernel_rfl
theorem ok_g_money_Text : okFn Go.Proofs.Tryz.prog phi 50 g_money_Text = true := by kernel_rfl
theorem ok_g_rate_Text : okFn Go.Proofs.Tryz.prog phi 91 g_rate_Text = true := by kernel_rfl
theorem ok_g_money_Right : okFn Go.Proofs.Tryz.prog phi 58 g_money_Right = true := by kernel_rfl
theorem ok_g_strings_CutSuffix : okFn Go.Proofs.Tryz.prog phi 101 g_strings_CutSuffix = true := by kernel_rfl
theorem ok_g_rate_Right : okFn Go.Proofs.Tryz.prog phi 88 g_rate_Right = true := by kernel_rfl
theorem ok_g_internal_stringslite_HasPrefix : okFn Go.Proofs.Tryz.prog phi 131 g_internal_stringslite_HasPrefix = true := by kernel_rfl
theorem ok_g_tree_parser_factor : okFn Go.Proofs.Tryz.prog phi 225 g_tree_parser_factor = true := by kernel_rfl
theorem ok_g_internal_stringslite_CutSuffix : okFn Go.Proofs.Tryz.prog phi 122 g_internal_stringslite_CutSuffix = true := by kernel_rfl
theorem ok_g_tree_parser_pair : okFn Go.Proofs.Tryz.prog phi 226 g_tree_parser_pair = true := by kernel_rfl
theorem ok_g_tree_parser_leaf : okFn Go.Proofs.Tryz.prog phi 227 g_tree_parser_leaf = true := by kernel_rfl
theorem ok_g_internal_stringslite_HasSuffix : okFn Go.Proofs.Tryz.prog phi 141 g_internal_stringslite_HasSuffix = true := by kernel_rfl
end Pay
