/- Written by gen.py: each function's abstract code is the program's. -/
import Derived.Test.YtbhjjheefdilbaaDoorPayMoCode
import Derived.Test.YtbhjjheefdilbaaDoorProg
import Derived.KernelRfl
set_option maxRecDepth 20000
namespace Pay
open Go
def phi_tab : List (Nat × Nat) := [(22, 0), (23, 1), (24, 2), (48, 3), (55, 4), (56, 5), (59, 6), (61, 7), (64, 8), (66, 9), (49, 10), (50, 11), (51, 12), (52, 13), (53, 14), (54, 15), (57, 16), (58, 17), (60, 18), (62, 19), (63, 20), (65, 21), (67, 22), (68, 23), (70, 24), (69, 25), (71, 26), (33, 72), (34, 73), (35, 74), (36, 75), (37, 76), (38, 77), (39, 78), (40, 79), (41, 80), (42, 81), (43, 82), (44, 83), (45, 84), (46, 85), (47, 86)]
def phi (n : Nat) : FuncId := (phi_tab.lookup n).getD 0
theorem ok_g_law01_MoneyTexts : okFn Go.Proofs.Tryd.prog phi 48 g_law01_MoneyTexts = true := by kernel_rfl
theorem ok_g_law01_MoneyPlaces : okFn Go.Proofs.Tryd.prog phi 55 g_law01_MoneyPlaces = true := by kernel_rfl
theorem ok_g_law01_MoneySigns : okFn Go.Proofs.Tryd.prog phi 56 g_law01_MoneySigns = true := by kernel_rfl
theorem ok_g_law01_MoneyLists : okFn Go.Proofs.Tryd.prog phi 59 g_law01_MoneyLists = true := by kernel_rfl
theorem ok_g_law01_MoneyFirst : okFn Go.Proofs.Tryd.prog phi 61 g_law01_MoneyFirst = true := by kernel_rfl
theorem ok_g_law01_MoneyBack : okFn Go.Proofs.Tryd.prog phi 64 g_law01_MoneyBack = true := by kernel_rfl
theorem ok_g_law01_MoneySums : okFn Go.Proofs.Tryd.prog phi 66 g_law01_MoneySums = true := by kernel_rfl
theorem ok_g_law01_awake : okFn Go.Proofs.Tryd.prog phi 49 g_law01_awake = true := by kernel_rfl
theorem ok_g_money_Text : okFn Go.Proofs.Tryd.prog phi 50 g_money_Text = true := by kernel_rfl
theorem ok_g_money_Parse : okFn Go.Proofs.Tryd.prog phi 51 g_money_Parse = true := by kernel_rfl
theorem ok_g_ref01_Parse : okFn Go.Proofs.Tryd.prog phi 52 g_ref01_Parse = true := by kernel_rfl
theorem ok_g_ref01_Right : okFn Go.Proofs.Tryd.prog phi 53 g_ref01_Right = true := by kernel_rfl
theorem ok_g_ref01_Text : okFn Go.Proofs.Tryd.prog phi 54 g_ref01_Text = true := by kernel_rfl
theorem ok_g_money_Neg : okFn Go.Proofs.Tryd.prog phi 57 g_money_Neg = true := by kernel_rfl
theorem ok_g_money_Right : okFn Go.Proofs.Tryd.prog phi 58 g_money_Right = true := by kernel_rfl
theorem ok_g_money_Sum : okFn Go.Proofs.Tryd.prog phi 60 g_money_Sum = true := by kernel_rfl
theorem ok_g_law01_little : okFn Go.Proofs.Tryd.prog phi 62 g_law01_little = true := by kernel_rfl
theorem ok_g_money_Add : okFn Go.Proofs.Tryd.prog phi 63 g_money_Add = true := by kernel_rfl
theorem ok_g_money_Sub : okFn Go.Proofs.Tryd.prog phi 65 g_money_Sub = true := by kernel_rfl
theorem ok_g_ref01_Add : okFn Go.Proofs.Tryd.prog phi 67 g_ref01_Add = true := by kernel_rfl
theorem ok_g_ref01_Digits : okFn Go.Proofs.Tryd.prog phi 71 g_ref01_Digits = true := by kernel_rfl
end Pay
