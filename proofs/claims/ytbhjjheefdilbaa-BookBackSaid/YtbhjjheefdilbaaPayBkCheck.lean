/- Each function's abstract code is the program's: no condition. -/
import Derived.Test.YtbhjjheefdilbaaPayBkCode
import Derived.Test.YtbhjjheefdilbaaProg
import Derived.KernelRfl
set_option maxRecDepth 20000
namespace Pay
open Go
def phi_tab : List (Nat × Nat) := [(22, 0), (23, 1), (24, 2), (1, 3), (2, 4), (25, 5), (29, 6), (3, 7), (4, 8), (5, 9), (7, 10), (9, 11), (10, 12), (8, 13), (11, 14), (12, 15), (13, 16), (6, 17), (26, 18), (27, 19), (28, 20), (14, 21), (15, 22), (30, 23), (17, 24), (18, 25), (19, 26), (31, 27), (32, 28), (16, 29), (20, 30), (21, 31), (33, 32), (34, 33), (35, 34), (36, 35), (37, 36), (38, 37), (39, 38), (40, 39), (41, 40), (42, 41), (43, 42), (44, 43), (45, 44), (46, 45), (47, 46)]
def phi (n : Nat) : FuncId := (phi_tab.lookup n).getD 0
theorem ok_g_law17_BookBack : okFn Go.Proofs.Try.prog phi 25 g_law17_BookBack = true := by kernel_rfl
theorem ok_g_law17_BookMore : okFn Go.Proofs.Try.prog phi 29 g_law17_BookMore = true := by kernel_rfl
theorem ok_g_law17_refs : okFn Go.Proofs.Try.prog phi 3 g_law17_refs = true := by kernel_rfl
theorem ok_g_law17_awake : okFn Go.Proofs.Try.prog phi 4 g_law17_awake = true := by kernel_rfl
theorem ok_g_book_Add : okFn Go.Proofs.Try.prog phi 5 g_book_Add = true := by kernel_rfl
theorem ok_g_book_Reverse : okFn Go.Proofs.Try.prog phi 7 g_book_Reverse = true := by kernel_rfl
theorem ok_g_book_Live : okFn Go.Proofs.Try.prog phi 9 g_book_Live = true := by kernel_rfl
theorem ok_g_book_Find : okFn Go.Proofs.Try.prog phi 8 g_book_Find = true := by kernel_rfl
theorem ok_g_law17_Ref : okFn Go.Proofs.Try.prog phi 12 g_law17_Ref = true := by kernel_rfl
theorem ok_g_book_Year : okFn Go.Proofs.Try.prog phi 6 g_book_Year = true := by kernel_rfl
theorem ok_g_book_Balances : okFn Go.Proofs.Try.prog phi 26 g_book_Balances = true := by kernel_rfl
theorem ok_g_ref14_Same : okFn Go.Proofs.Try.prog phi 27 g_ref14_Same = true := by kernel_rfl
theorem ok_g_book_Known : okFn Go.Proofs.Try.prog phi 28 g_book_Known = true := by kernel_rfl
theorem ok_g_slices_Clone_Entry : okFn Go.Proofs.Try.prog phi 14 g_slices_Clone_Entry = true := by kernel_rfl
theorem ok_g_slices_ContainsFunc_Entry : okFn Go.Proofs.Try.prog phi 15 g_slices_ContainsFunc_Entry = true := by kernel_rfl
theorem ok_g_book_Live_1 : okFn Go.Proofs.Try.prog phi 30 g_book_Live_1 = true := by kernel_rfl
theorem ok_g_book_alive : okFn Go.Proofs.Try.prog phi 18 g_book_alive = true := by kernel_rfl
theorem ok_g_book_add : okFn Go.Proofs.Try.prog phi 19 g_book_add = true := by kernel_rfl
theorem ok_g_slices_Clone_Order : okFn Go.Proofs.Try.prog phi 31 g_slices_Clone_Order = true := by kernel_rfl
theorem ok_g_book_Known_1 : okFn Go.Proofs.Try.prog phi 32 g_book_Known_1 = true := by kernel_rfl
theorem ok_g_slices_IndexFunc_Entry : okFn Go.Proofs.Try.prog phi 16 g_slices_IndexFunc_Entry = true := by kernel_rfl
end Pay
