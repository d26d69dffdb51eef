/- What the code of the functions comes to, without slots: an equation for each part; no condition. -/
import Derived.Test.YtbhjjheefdilbaaPayU
import Derived.Test.YtbhjjheefdilbaaPayBkCode
set_option maxRecDepth 20000
set_option maxHeartbeats 400000
set_option linter.unusedVariables false
namespace Pay
open Go
theorem g_book_Year_l0_sh {R_l0 : ACode} {R_c5 : ACode} {R_c6 : ACode} {C : Ctx} {I : Nat → Prop} {s : Nat → V} {o : Nat → Option Ob} {Q : Ex → St → Prop} (hL : R_l0 = .loop [2, 8, 10, 23, 24, 25] (some [8, 10, 17, 19]) (.seq (.region [2, 8, 10, 23, 24, 25, 26] (some [8, 10, 17, 19]) none
     [⟨some 26, .bin .lss (.t 25) (.t 24), [], [], none, none⟩])
  (.seq (.cond (.t 26) (.skip)
    (.exit 0))
   (.seq (.block 1 [2, 8, 10, 23, 24, 25] (some [8, 10, 17, 19]) (.seq (.region [2, 8, 10, 12, 23, 24, 25] (some [8, 10, 12, 17, 19]) none
         [⟨some 27, .iaddr 22 (.t 23) (.t 25), [], [], none, none⟩,
          ⟨some 28, .load (some 22) (.t 27), [], [], none, none⟩,
          ⟨some 12, .alloc 12 [.d (.int .i64 0), .d (.int .i64 0), .d (.int .i64 0), .d (.int .i64 0), .d (.int .i64 0), .cap0, .d (.int .i64 0), .d (.int .i64 0), .d (.int .i64 0), .d (.int .i64 0), .d (.int .i64 0), .d (.int .i64 0), .d (.int .i64 0), .d (.int .i64 0), .d (.int .i64 0), .d (.int .i64 0), .d (.int .i64 0), .d (.int .i64 0), .cap0, .cap0, .cap0, .cap0], [], [], none, none⟩,
          ⟨none, .store 22 (.t 12) (.t 28), [], [], none, none⟩])
      (R_c5)))
    (R_c6)))))
 (h : demand (binV BinOp.lss (s 25) (s 24)) (fun x1 =>
condK x1
 (demand (iaddrV (looko ([8, 10, 17, 19].map fun n => (n, o n))) 22 (s 23) (s 25)) (fun x2 =>
demand (loadV (looko ([8, 10, 17, 19].map fun n => (n, o n))) (some 22) x2) (fun x3 =>
(¬ I 12 ∧ Fresh (St.mk (upd (upd (look [(2, (s 2)), (8, (s 8)), (10, (s 10)), (23, (s 23)), (24, (s 24)), (25, (s 25)), (26, x1)]) 27 x2) 28 x3) (looko ([8, 10, 17, 19].map fun n => (n, o n)))) 12 (some 12) ∧ V.refsL 12 [V.d (.int .i64 0), V.d (.int .i64 0), V.d (.int .i64 0), V.d (.int .i64 0), V.d (.int .i64 0), V.cap0, V.d (.int .i64 0), V.d (.int .i64 0), V.d (.int .i64 0), V.d (.int .i64 0), V.d (.int .i64 0), V.d (.int .i64 0), V.d (.int .i64 0), V.d (.int .i64 0), V.d (.int .i64 0), V.d (.int .i64 0), V.d (.int .i64 0), V.d (.int .i64 0), V.cap0, V.cap0, V.cap0, V.cap0] = false ∧
storeK (V.ptr 12 0) (cellsV x3) 22 (upd (looko ([8, 10, 17, 19].map fun n => (n, o n))) 12 (some (Ob.box [V.d (.int .i64 0), V.d (.int .i64 0), V.d (.int .i64 0), V.d (.int .i64 0), V.d (.int .i64 0), V.cap0, V.d (.int .i64 0), V.d (.int .i64 0), V.d (.int .i64 0), V.d (.int .i64 0), V.d (.int .i64 0), V.d (.int .i64 0), V.d (.int .i64 0), V.d (.int .i64 0), V.d (.int .i64 0), V.d (.int .i64 0), V.d (.int .i64 0), V.d (.int .i64 0), V.cap0, V.cap0, V.cap0, V.cap0]))) (fun m4 ob5 =>
wpB C I R_c5 (St.mk (look [(2, (s 2)), (8, (s 8)), (10, (s 10)), (12, (V.ptr 12 0)), (23, (s 23)), (24, (s 24)), (25, (s 25))]) (looko ([8, 10, 12, 17, 19].map fun n => (n, (upd (upd (looko ([8, 10, 17, 19].map fun n => (n, o n))) 12 (some (Ob.box [V.d (.int .i64 0), V.d (.int .i64 0), V.d (.int .i64 0), V.d (.int .i64 0), V.d (.int .i64 0), V.cap0, V.d (.int .i64 0), V.d (.int .i64 0), V.d (.int .i64 0), V.d (.int .i64 0), V.d (.int .i64 0), V.d (.int .i64 0), V.d (.int .i64 0), V.d (.int .i64 0), V.d (.int .i64 0), V.d (.int .i64 0), V.d (.int .i64 0), V.d (.int .i64 0), V.cap0, V.cap0, V.cap0, V.cap0]))) m4 (some ob5)) n)))) (blockK 1 [2, 8, 10, 23, 24, 25] (some [8, 10, 17, 19]) (seqK (fun st => wpB C I R_c6 st (seqK (fun s => wpB C I R_l0 s Q) Q)) (seqK (fun s => wpB C I R_l0 s Q) Q))))))))
 (Q (.exit 0) (St.mk (look [(2, (s 2)), (8, (s 8)), (10, (s 10)), (23, (s 23)), (24, (s 24)), (25, (s 25)), (26, x1)]) (looko ([8, 10, 17, 19].map fun n => (n, o n))))))) : wpB C I R_l0 (St.mk s o) Q := w_loopC hL h

theorem g_book_Year_c7_sh {R_l0 : ACode} {C : Ctx} {I : Nat → Prop} {s : Nat → V} {o : Nat → Option Ob} {Q : Ex → St → Prop} : wpB C I (.block 0 [8, 10] (some [8, 10, 17, 19]) (R_l0)) (St.mk s o) Q =
 (wpB C I R_l0 (St.mk s o) (blockK 0 [8, 10] (some [8, 10, 17, 19]) Q)) := rfl

theorem g_book_Year_c8_sh {C : Ctx} {I : Nat → Prop} {s : Nat → V} {o : Nat → Option Ob} {Q : Ex → St → Prop} : wpB C I (.seq (.region [8] (some [8, 17, 19]) none
    [⟨some 74, .load (some 5) (.t 10), [], [], none, none⟩,
     ⟨none, .store 5 (.t 8) (.t 74), [], [], none, none⟩])
 (.ret)) (St.mk s o) Q =
 (demand (loadV o (some 5) (s 10)) (fun x1 =>
storeK (s 8) (cellsV x1) 5 o (fun m2 ob3 =>
Q .ret (St.mk (look [(8, (s 8))]) (looko ([8, 17, 19].map fun n => (n, (upd o m2 (some ob3)) n))))))) := rfl

theorem g_book_Year_c9_sh {R_c7 : ACode} {R_c8 : ACode} {C : Ctx} {I : Nat → Prop} {s : Nat → V} {o : Nat → Option Ob} {Q : Ex → St → Prop} : wpB C I (.seq (.seq (.region [2, 8, 10, 23, 24, 25] (some [8, 10, 17, 19]) none
     [⟨some 21, .load (some 1) (.t 4), [], [], none, none⟩,
      ⟨some 22, .mv (.t 1), [], [], none, none⟩,
      ⟨some 23, .call 18 [(.t 21), (.t 22)], [], [], none, none⟩,
      ⟨some 24, .len (.t 23), [], [], none, none⟩,
      ⟨some 25, .mv (.c (.d (.int .i64 0))), [], [], none, none⟩])
  (R_c7))
 (R_c8)) (St.mk s o) Q =
 (demand (loadV o (some 1) (s 4)) (fun x1 =>
callK C I (St.mk (upd (upd s 21 x1) 22 (s 1)) o) (some 23) 18 [x1, (s 1)] (fun r2 or2 =>
demand (lenV or2 r2) (fun x3 =>
wpB C I R_c7 (St.mk (look [(2, (s 2)), (8, (s 8)), (10, (s 10)), (23, r2), (24, x3), (25, (V.d (.int .i64 0)))]) (looko ([8, 10, 17, 19].map fun n => (n, or2 n)))) (seqK (fun st => wpB C I R_c8 st Q) Q))))) := rfl

theorem g_book_Year_c10_sh {R_i1 : List Nat} {R_t17 : Tr} {R_c9 : ACode} {C : Ctx} {I : Nat → Prop} {s : Nat → V} {o : Nat → Option Ob} {Q : Ex → St → Prop} : wpB C I (.seq (.region [1, 2, 4, 8, 10] (some [4, 8, 10, 17, 19]) (some (0 :: R_i1, R_t17)) g_book_Year.a0)
 (R_c9)) (St.mk s o) Q =
 ((s 16) = V.undef ∧ (quietV o ((s 9) :: [(s 9)]) ∧
drawB C I g_book_Year.a0 R_i1 R_t17 (St.mk (upd s 16 (s 9)) o) (fun st => (seqK (fun st => wpB C I R_c9 st Q) Q) .normal (St.trim st [1, 2, 4, 8, 10] (some [4, 8, 10, 17, 19]))))) := rfl

theorem g_book_Year_code_sh {R_c10 : ACode} {C : Ctx} {I : Nat → Prop} {s : Nat → V} {o : Nat → Option Ob} {Q : Ex → St → Prop} : wpB C I (.seq (.region [1, 2, 3, 4, 8] (some [4, 8, 17, 19]) none
    [⟨some 4, .box 4 1 (.t 0), [], [], none, none⟩,
     ⟨some 8, .alloc 8 [.d (.int .i64 0), .d (.int .i64 0), .d (.int .i64 0), .cap0, .cap0], [], [], none, none⟩])
 (.seq (.region [1, 2, 4, 8, 9] (some [4, 8, 17, 19]) none
     [⟨some 13, .mv (.t 3), [], [], none, none⟩,
      ⟨some 14, .mm true [(.t 13), (.c (.d (.int .i64 0)))], [], [], none, none⟩,
      ⟨some 15, .mm false [(.t 14), (.c (.d (.int .i64 6)))], [], [], none, none⟩,
      ⟨some 9, .mv (.t 15), [], [], none, none⟩])
  (R_c10))) (St.mk s o) Q =
 (lstK (cellsV (s 0)) (fun c1 => c1.length = 1 ∧ ¬ I 4 ∧ Fresh (St.mk s o) 4 (some 4) ∧ V.refsL 4 c1 = false ∧
(¬ I 8 ∧ Fresh (St.mk (upd s 4 (V.ptr 4 0)) (upd o 4 (some (Ob.box c1)))) 8 (some 8) ∧ V.refsL 8 [V.d (.int .i64 0), V.d (.int .i64 0), V.d (.int .i64 0), V.cap0, V.cap0] = false ∧
demand (mmV true [(s 3), (V.d (.int .i64 0))]) (fun x2 =>
demand (mmV false [x2, (V.d (.int .i64 6))]) (fun x3 =>
wpB C I R_c10 (St.mk (look [(1, (s 1)), (2, (s 2)), (4, (V.ptr 4 0)), (8, (V.ptr 8 0)), (9, x3)]) (looko ([4, 8, 17, 19].map fun n => (n, (upd (upd o 4 (some (Ob.box c1))) 8 (some (Ob.box [V.d (.int .i64 0), V.d (.int .i64 0), V.d (.int .i64 0), V.cap0, V.cap0]))) n)))) Q))))) := rfl

theorem g_book_Balances_c0_sh {C : Ctx} {I : Nat → Prop} {s : Nat → V} {o : Nat → Option Ob} {Q : Ex → St → Prop} : wpB C I (.seq (.region [7, 10, 11, 16, 17, 18, 24, 25, 26, 34] (some [13]) none
    [⟨some 31, .mv (.t 10), [], [], none, none⟩,
     ⟨some 32, .mv (.t 7), [], [], none, none⟩,
     ⟨some 33, .len (.t 32), [], [], none, none⟩,
     ⟨some 34, .bin .lss (.t 31) (.t 33), [], [], none, none⟩])
 (.cond (.t 34) (.region [7, 16, 17, 18, 24, 25, 26] (some [13]) none
     [⟨some 35, .mv (.t 7), [], [], none, none⟩,
      ⟨some 36, .mv (.t 10), [], [], none, none⟩,
      ⟨some 37, .iaddr 4 (.t 35) (.t 36), [], [], none, none⟩,
      ⟨some 38, .faddr 3 (.t 37), [], [], none, none⟩,
      ⟨some 39, .load none (.t 38), [], [], none, none⟩,
      ⟨some 40, .mv (.t 11), [], [], none, none⟩,
      ⟨some 41, .bin .sub (.t 39) (.t 40), [], [], none, none⟩,
      ⟨some 42, .iaddr 4 (.t 35) (.t 36), [], [], none, none⟩,
      ⟨some 43, .faddr 3 (.t 42), [], [], none, none⟩,
      ⟨none, .store 1 (.t 43) (.t 41), [], [], none, none⟩])
  (.skip))) (St.mk s o) Q =
 (demand (lenV o (s 7)) (fun x1 =>
demand (binV BinOp.lss (s 10) x1) (fun x2 =>
condK x2
 (demand (iaddrV (looko ([13].map fun n => (n, o n))) 4 (s 7) (s 10)) (fun x3 =>
demand (faddrV 3 x3) (fun x4 =>
demand (loadV (looko ([13].map fun n => (n, o n))) none x4) (fun x5 =>
demand (binV BinOp.sub x5 (s 11)) (fun x6 =>
demand (iaddrV (looko ([13].map fun n => (n, o n))) 4 (s 7) (s 10)) (fun x7 =>
demand (faddrV 3 x7) (fun x8 =>
storeK x8 (cellsV x6) 1 (looko ([13].map fun n => (n, o n))) (fun m9 ob10 =>
Q .normal (St.mk (look [(7, (s 7)), (16, (s 16)), (17, (s 17)), (18, (s 18)), (24, (s 24)), (25, (s 25)), (26, (s 26))]) (looko ([13].map fun n => (n, (upd (looko ([13].map fun n => (n, o n))) m9 (some ob10)) n))))))))))))
 (Q .normal (St.mk (look [(7, (s 7)), (10, (s 10)), (11, (s 11)), (16, (s 16)), (17, (s 17)), (18, (s 18)), (24, (s 24)), (25, (s 25)), (26, (s 26)), (34, x2)]) (looko ([13].map fun n => (n, o n)))))))) := rfl

theorem g_book_Balances_c1_sh {C : Ctx} {I : Nat → Prop} {s : Nat → V} {o : Nat → Option Ob} {Q : Ex → St → Prop} : wpB C I (.region [7, 16, 17, 18, 24, 25, 26] (some [13]) none
   [⟨some 44, .bin .add (.t 26) (.c (.d (.int .i64 1))), [], [], none, none⟩,
    ⟨some 26, .mv (.t 44), [], [], none, none⟩]) (St.mk s o) Q =
 (demand (binV BinOp.add (s 26) (V.d (.int .i64 1))) (fun x1 =>
Q .normal (St.mk (look [(7, (s 7)), (16, (s 16)), (17, (s 17)), (18, (s 18)), (24, (s 24)), (25, (s 25)), (26, x1)]) (looko ([13].map fun n => (n, o n)))))) := rfl

theorem g_book_Balances_l1_sh {R_l1 : ACode} {R_c0 : ACode} {R_c1 : ACode} {C : Ctx} {I : Nat → Prop} {s : Nat → V} {o : Nat → Option Ob} {Q : Ex → St → Prop} (hL : R_l1 = .loop [7, 16, 17, 18, 24, 25, 26] (some [13]) (.seq (.region [7, 16, 17, 18, 24, 25, 26, 27] (some [13]) none
     [⟨some 27, .bin .lss (.t 26) (.t 25), [], [], none, none⟩])
  (.seq (.cond (.t 27) (.skip)
    (.exit 2))
   (.seq (.block 3 [7, 16, 17, 18, 24, 25, 26] (some [13]) (.seq (.region [7, 10, 11, 16, 17, 18, 24, 25, 26] (some [13]) none
         [⟨some 28, .mv (.t 26), [], [], none, none⟩,
          ⟨some 29, .iaddr 1 (.t 24) (.t 26), [], [], none, none⟩,
          ⟨some 30, .load none (.t 29), [], [], none, none⟩,
          ⟨some 10, .mv (.t 28), [], [], none, none⟩,
          ⟨some 11, .mv (.t 30), [], [], none, none⟩])
      (R_c0)))
    (R_c1)))))
 (h : demand (binV BinOp.lss (s 26) (s 25)) (fun x1 =>
condK x1
 (demand (iaddrV (looko ([13].map fun n => (n, o n))) 1 (s 24) (s 26)) (fun x2 =>
demand (loadV (looko ([13].map fun n => (n, o n))) none x2) (fun x3 =>
wpB C I R_c0 (St.mk (look [(7, (s 7)), (10, (s 26)), (11, x3), (16, (s 16)), (17, (s 17)), (18, (s 18)), (24, (s 24)), (25, (s 25)), (26, (s 26))]) (looko ([13].map fun n => (n, o n)))) (blockK 3 [7, 16, 17, 18, 24, 25, 26] (some [13]) (seqK (fun st => wpB C I R_c1 st (seqK (fun s => wpB C I R_l1 s Q) Q)) (seqK (fun s => wpB C I R_l1 s Q) Q))))))
 (Q (.exit 2) (St.mk (look [(7, (s 7)), (16, (s 16)), (17, (s 17)), (18, (s 18)), (24, (s 24)), (25, (s 25)), (26, (s 26)), (27, x1)]) (looko ([13].map fun n => (n, o n))))))) : wpB C I R_l1 (St.mk s o) Q := w_loopC hL h

theorem g_book_Balances_c2_sh {R_l1 : ACode} {C : Ctx} {I : Nat → Prop} {s : Nat → V} {o : Nat → Option Ob} {Q : Ex → St → Prop} : wpB C I (.block 2 [7, 16, 17, 18] (some [13]) (R_l1)) (St.mk s o) Q =
 (wpB C I R_l1 (St.mk s o) (blockK 2 [7, 16, 17, 18] (some [13]) Q)) := rfl

theorem g_book_Balances_c3_sh {R_c2 : ACode} {C : Ctx} {I : Nat → Prop} {s : Nat → V} {o : Nat → Option Ob} {Q : Ex → St → Prop} : wpB C I (.seq (.region [7, 16, 17, 18, 24, 25, 26] (some [13]) none
    [⟨some 22, .faddr 5 (.t 9), [], [], none, none⟩,
     ⟨some 23, .faddr 15 (.t 22), [], [], none, none⟩,
     ⟨some 24, .load none (.t 23), [], [], none, none⟩,
     ⟨some 25, .len (.t 24), [], [], none, none⟩,
     ⟨some 26, .mv (.c (.d (.int .i64 0))), [], [], none, none⟩])
 (R_c2)) (St.mk s o) Q =
 (demand (faddrV 5 (s 9)) (fun x1 =>
demand (faddrV 15 x1) (fun x2 =>
demand (loadV o none x2) (fun x3 =>
demand (lenV o x3) (fun x4 =>
wpB C I R_c2 (St.mk (look [(7, (s 7)), (16, (s 16)), (17, (s 17)), (18, (s 18)), (24, x3), (25, x4), (26, (V.d (.int .i64 0)))]) (looko ([13].map fun n => (n, o n)))) Q))))) := rfl

theorem g_book_Balances_c4_sh {C : Ctx} {I : Nat → Prop} {s : Nat → V} {o : Nat → Option Ob} {Q : Ex → St → Prop} : wpB C I (.region [7, 16, 17, 18] (some [13]) none
   [⟨some 45, .bin .add (.t 18) (.c (.d (.int .i64 1))), [], [], none, none⟩,
    ⟨some 18, .mv (.t 45), [], [], none, none⟩]) (St.mk s o) Q =
 (demand (binV BinOp.add (s 18) (V.d (.int .i64 1))) (fun x1 =>
Q .normal (St.mk (look [(7, (s 7)), (16, (s 16)), (17, (s 17)), (18, x1)]) (looko ([13].map fun n => (n, o n)))))) := rfl

theorem g_book_Balances_l0_sh {R_l0 : ACode} {R_c3 : ACode} {R_c4 : ACode} {C : Ctx} {I : Nat → Prop} {s : Nat → V} {o : Nat → Option Ob} {Q : Ex → St → Prop} (hL : R_l0 = .loop [7, 16, 17, 18] (some [13]) (.seq (.region [7, 16, 17, 18, 19] (some [13]) none
     [⟨some 19, .bin .lss (.t 18) (.t 17), [], [], none, none⟩])
  (.seq (.cond (.t 19) (.skip)
    (.exit 0))
   (.seq (.block 1 [7, 16, 17, 18] (some [13]) (.seq (.region [7, 9, 16, 17, 18] (some [9, 13]) none
         [⟨some 20, .iaddr 22 (.t 16) (.t 18), [], [], none, none⟩,
          ⟨some 21, .load (some 22) (.t 20), [], [], none, none⟩,
          ⟨some 9, .alloc 9 [.d (.int .i64 0), .d (.int .i64 0), .d (.int .i64 0), .d (.int .i64 0), .d (.int .i64 0), .cap0, .d (.int .i64 0), .d (.int .i64 0), .d (.int .i64 0), .d (.int .i64 0), .d (.int .i64 0), .d (.int .i64 0), .d (.int .i64 0), .d (.int .i64 0), .d (.int .i64 0), .d (.int .i64 0), .d (.int .i64 0), .d (.int .i64 0), .cap0, .cap0, .cap0, .cap0], [], [], none, none⟩,
          ⟨none, .store 22 (.t 9) (.t 21), [], [], none, none⟩])
      (R_c3)))
    (R_c4)))))
 (h : demand (binV BinOp.lss (s 18) (s 17)) (fun x1 =>
condK x1
 (demand (iaddrV (looko ([13].map fun n => (n, o n))) 22 (s 16) (s 18)) (fun x2 =>
demand (loadV (looko ([13].map fun n => (n, o n))) (some 22) x2) (fun x3 =>
(¬ I 9 ∧ Fresh (St.mk (upd (upd (look [(7, (s 7)), (16, (s 16)), (17, (s 17)), (18, (s 18)), (19, x1)]) 20 x2) 21 x3) (looko ([13].map fun n => (n, o n)))) 9 (some 9) ∧ V.refsL 9 [V.d (.int .i64 0), V.d (.int .i64 0), V.d (.int .i64 0), V.d (.int .i64 0), V.d (.int .i64 0), V.cap0, V.d (.int .i64 0), V.d (.int .i64 0), V.d (.int .i64 0), V.d (.int .i64 0), V.d (.int .i64 0), V.d (.int .i64 0), V.d (.int .i64 0), V.d (.int .i64 0), V.d (.int .i64 0), V.d (.int .i64 0), V.d (.int .i64 0), V.d (.int .i64 0), V.cap0, V.cap0, V.cap0, V.cap0] = false ∧
storeK (V.ptr 9 0) (cellsV x3) 22 (upd (looko ([13].map fun n => (n, o n))) 9 (some (Ob.box [V.d (.int .i64 0), V.d (.int .i64 0), V.d (.int .i64 0), V.d (.int .i64 0), V.d (.int .i64 0), V.cap0, V.d (.int .i64 0), V.d (.int .i64 0), V.d (.int .i64 0), V.d (.int .i64 0), V.d (.int .i64 0), V.d (.int .i64 0), V.d (.int .i64 0), V.d (.int .i64 0), V.d (.int .i64 0), V.d (.int .i64 0), V.d (.int .i64 0), V.d (.int .i64 0), V.cap0, V.cap0, V.cap0, V.cap0]))) (fun m4 ob5 =>
wpB C I R_c3 (St.mk (look [(7, (s 7)), (9, (V.ptr 9 0)), (16, (s 16)), (17, (s 17)), (18, (s 18))]) (looko ([9, 13].map fun n => (n, (upd (upd (looko ([13].map fun n => (n, o n))) 9 (some (Ob.box [V.d (.int .i64 0), V.d (.int .i64 0), V.d (.int .i64 0), V.d (.int .i64 0), V.d (.int .i64 0), V.cap0, V.d (.int .i64 0), V.d (.int .i64 0), V.d (.int .i64 0), V.d (.int .i64 0), V.d (.int .i64 0), V.d (.int .i64 0), V.d (.int .i64 0), V.d (.int .i64 0), V.d (.int .i64 0), V.d (.int .i64 0), V.d (.int .i64 0), V.d (.int .i64 0), V.cap0, V.cap0, V.cap0, V.cap0]))) m4 (some ob5)) n)))) (blockK 1 [7, 16, 17, 18] (some [13]) (seqK (fun st => wpB C I R_c4 st (seqK (fun s => wpB C I R_l0 s Q) Q)) (seqK (fun s => wpB C I R_l0 s Q) Q))))))))
 (Q (.exit 0) (St.mk (look [(7, (s 7)), (16, (s 16)), (17, (s 17)), (18, (s 18)), (19, x1)]) (looko ([13].map fun n => (n, o n))))))) : wpB C I R_l0 (St.mk s o) Q := w_loopC hL h

theorem g_book_Balances_c5_sh {R_l0 : ACode} {C : Ctx} {I : Nat → Prop} {s : Nat → V} {o : Nat → Option Ob} {Q : Ex → St → Prop} : wpB C I (.block 0 [7] (some [13]) (R_l0)) (St.mk s o) Q =
 (wpB C I R_l0 (St.mk s o) (blockK 0 [7] (some [13]) Q)) := rfl

theorem g_book_Balances_c6_sh {C : Ctx} {I : Nat → Prop} {s : Nat → V} {o : Nat → Option Ob} {Q : Ex → St → Prop} : wpB C I (.seq (.region [6] (some [13]) none
    [⟨some 46, .mv (.t 7), [], [], none, none⟩,
     ⟨some 6, .mv (.t 46), [], [], none, none⟩])
 (.ret)) (St.mk s o) Q =
 (Q .ret (St.mk (look [(6, (s 7))]) (looko ([13].map fun n => (n, o n))))) := rfl

theorem g_book_Balances_code_sh {R_c5 : ACode} {R_c6 : ACode} {C : Ctx} {I : Nat → Prop} {s : Nat → V} {o : Nat → Option Ob} {Q : Ex → St → Prop} : wpB C I (.seq (.region [1, 2, 3] (some [3]) none
    [⟨some 3, .box 3 1 (.t 0), [], [], none, none⟩,
     ⟨some 6, .mv (.c (.cap0)), [], [], none, none⟩])
 (.seq (.region [1, 3, 7] (some [3, 13]) none
     [⟨some 12, .mv (.t 2), [], [], none, none⟩,
      ⟨some 13, .call 31 [(.t 12)], [], [], none, none⟩,
      ⟨some 7, .mv (.t 13), [], [], none, none⟩])
  (.seq (.seq (.region [7, 16, 17, 18] (some [13]) none
       [⟨some 14, .load (some 1) (.t 3), [], [], none, none⟩,
        ⟨some 15, .mv (.t 1), [], [], none, none⟩,
        ⟨some 16, .call 18 [(.t 14), (.t 15)], [], [], none, none⟩,
        ⟨some 17, .len (.t 16), [], [], none, none⟩,
        ⟨some 18, .mv (.c (.d (.int .i64 0))), [], [], none, none⟩])
    (R_c5))
   (R_c6)))) (St.mk s o) Q =
 (lstK (cellsV (s 0)) (fun c1 => c1.length = 1 ∧ ¬ I 3 ∧ Fresh (St.mk s o) 3 (some 3) ∧ V.refsL 3 c1 = false ∧
callK C I (St.mk (upd (look [(1, (s 1)), (2, (s 2)), (3, (V.ptr 3 0))]) 12 (s 2)) (looko ([3].map fun n => (n, (upd o 3 (some (Ob.box c1))) n)))) (some 13) 31 [(s 2)] (fun r2 or2 =>
demand (loadV (looko ([3, 13].map fun n => (n, or2 n))) (some 1) (V.ptr 3 0)) (fun x3 =>
callK C I (St.mk (upd (upd (look [(1, (s 1)), (3, (V.ptr 3 0)), (7, r2)]) 14 x3) 15 (s 1)) (looko ([3, 13].map fun n => (n, or2 n)))) (some 16) 18 [x3, (s 1)] (fun r4 or4 =>
demand (lenV or4 r4) (fun x5 =>
wpB C I R_c5 (St.mk (look [(7, r2), (16, r4), (17, x5), (18, (V.d (.int .i64 0)))]) (looko ([13].map fun n => (n, or4 n)))) (seqK (fun st => wpB C I R_c6 st Q) Q))))))) := rfl

theorem g_ref14_Same_o7_sh {C : Ctx} {I : Nat → Prop} {s : Nat → V} {o : Nat → Option Ob} {K : St → Prop} : opsB C I [⟨some 43, .pick (.t 35) (.c (.d (.bool true))) (.t 42), [], [], none, none⟩] (St.mk s o) K =
 (demand (pickV (s 35) (V.d (.bool true)) (s 42)) (fun x1 =>
K (St.mk (upd s 43 x1) o))) := rfl

theorem g_ref14_Same_o6_sh {R_o7 : List AOper} {C : Ctx} {I : Nat → Prop} {s : Nat → V} {o : Nat → Option Ob} {K : St → Prop} : opsB C I (⟨some 36, .faddr 4 (.t 2), [], [], (some (28, 35, false)), none⟩ ::
     ⟨some 37, .load none (.t 36), [], [], (some (28, 35, false)), none⟩ ::
     ⟨some 38, .len (.t 37), [], [], (some (28, 35, false)), none⟩ ::
     ⟨some 39, .faddr 4 (.t 3), [], [], (some (28, 35, false)), none⟩ ::
     ⟨some 40, .load none (.t 39), [], [], (some (28, 35, false)), none⟩ ::
     ⟨some 41, .len (.t 40), [], [], (some (28, 35, false)), none⟩ ::
     ⟨some 42, .bin .neq (.t 38) (.t 41), [], [], (some (28, 35, false)), (some ([2, 3, 35, 42], (some [2, 3])))⟩ ::
     R_o7) (St.mk s o) K =
 (guardK (s 35) false
 (demand (faddrV 4 (s 2)) (fun x1 =>
demand (loadV o none x1) (fun x2 =>
demand (lenV o x2) (fun x3 =>
demand (faddrV 4 (s 3)) (fun x4 =>
demand (loadV o none x4) (fun x5 =>
demand (lenV o x5) (fun x6 =>
demand (binV BinOp.neq x3 x6) (fun x7 =>
opsB C I R_o7 (St.mk (look [(2, (s 2)), (3, (s 3)), (35, (V.d (D.bool false))), (42, x7)]) (looko ([2, 3].map fun n => (n, o n)))) K))))))))
 (opsB C I R_o7 (St.mk (look [(2, (s 2)), (3, (s 3)), (35, (V.d (D.bool true))), (42, (V.tup []))]) (looko ([2, 3].map fun n => (n, o n)))) K)
 (opsB C I R_o7 (St.mk (look [(2, (s 2)), (3, (s 3)), (35, (V.tup [])), (42, (V.tup []))]) (looko ([2, 3].map fun n => (n, o n)))) K)) := rfl

theorem g_ref14_Same_o5_sh {R_o6 : List AOper} {C : Ctx} {I : Nat → Prop} {s : Nat → V} {o : Nat → Option Ob} {K : St → Prop} : opsB C I (⟨some 34, .pick (.t 26) (.c (.d (.bool true))) (.t 33), [], [], none, none⟩ ::
     ⟨some 35, .mv (.t 34), [], [], none, (some ([2, 3, 35], (some [2, 3])))⟩ ::
     R_o6) (St.mk s o) K =
 (demand (pickV (s 26) (V.d (.bool true)) (s 33)) (fun x1 =>
opsB C I R_o6 (St.mk (look [(2, (s 2)), (3, (s 3)), (35, x1)]) (looko ([2, 3].map fun n => (n, o n)))) K)) := rfl

theorem g_ref14_Same_o4_sh {R_o5 : List AOper} {C : Ctx} {I : Nat → Prop} {s : Nat → V} {o : Nat → Option Ob} {K : St → Prop} : opsB C I (⟨some 27, .faddr 3 (.t 2), [], [], (some (19, 26, false)), none⟩ ::
     ⟨some 28, .load none (.t 27), [], [], (some (19, 26, false)), none⟩ ::
     ⟨some 29, .len (.t 28), [], [], (some (19, 26, false)), none⟩ ::
     ⟨some 30, .faddr 3 (.t 3), [], [], (some (19, 26, false)), none⟩ ::
     ⟨some 31, .load none (.t 30), [], [], (some (19, 26, false)), none⟩ ::
     ⟨some 32, .len (.t 31), [], [], (some (19, 26, false)), none⟩ ::
     ⟨some 33, .bin .neq (.t 29) (.t 32), [], [], (some (19, 26, false)), (some ([2, 3, 26, 33], (some [2, 3])))⟩ ::
     R_o5) (St.mk s o) K =
 (guardK (s 26) false
 (demand (faddrV 3 (s 2)) (fun x1 =>
demand (loadV o none x1) (fun x2 =>
demand (lenV o x2) (fun x3 =>
demand (faddrV 3 (s 3)) (fun x4 =>
demand (loadV o none x4) (fun x5 =>
demand (lenV o x5) (fun x6 =>
demand (binV BinOp.neq x3 x6) (fun x7 =>
opsB C I R_o5 (St.mk (look [(2, (s 2)), (3, (s 3)), (26, (V.d (D.bool false))), (33, x7)]) (looko ([2, 3].map fun n => (n, o n)))) K))))))))
 (opsB C I R_o5 (St.mk (look [(2, (s 2)), (3, (s 3)), (26, (V.d (D.bool true))), (33, (V.tup []))]) (looko ([2, 3].map fun n => (n, o n)))) K)
 (opsB C I R_o5 (St.mk (look [(2, (s 2)), (3, (s 3)), (26, (V.tup [])), (33, (V.tup []))]) (looko ([2, 3].map fun n => (n, o n)))) K)) := rfl

theorem g_ref14_Same_o3_sh {R_o4 : List AOper} {C : Ctx} {I : Nat → Prop} {s : Nat → V} {o : Nat → Option Ob} {K : St → Prop} : opsB C I (⟨some 25, .pick (.t 19) (.c (.d (.bool true))) (.t 24), [], [], none, none⟩ ::
     ⟨some 26, .mv (.t 25), [], [], none, (some ([2, 3, 26], (some [2, 3])))⟩ ::
     R_o4) (St.mk s o) K =
 (demand (pickV (s 19) (V.d (.bool true)) (s 24)) (fun x1 =>
opsB C I R_o4 (St.mk (look [(2, (s 2)), (3, (s 3)), (26, x1)]) (looko ([2, 3].map fun n => (n, o n)))) K)) := rfl

theorem g_ref14_Same_o2_sh {R_o3 : List AOper} {C : Ctx} {I : Nat → Prop} {s : Nat → V} {o : Nat → Option Ob} {K : St → Prop} : opsB C I (⟨some 20, .faddr 2 (.t 2), [], [], (some (12, 19, false)), none⟩ ::
     ⟨some 21, .load none (.t 20), [], [], (some (12, 19, false)), none⟩ ::
     ⟨some 22, .faddr 2 (.t 3), [], [], (some (12, 19, false)), none⟩ ::
     ⟨some 23, .load none (.t 22), [], [], (some (12, 19, false)), none⟩ ::
     ⟨some 24, .bin .neq (.t 21) (.t 23), [], [], (some (12, 19, false)), (some ([2, 3, 19, 24], (some [2, 3])))⟩ ::
     R_o3) (St.mk s o) K =
 (guardK (s 19) false
 (demand (faddrV 2 (s 2)) (fun x1 =>
demand (loadV o none x1) (fun x2 =>
demand (faddrV 2 (s 3)) (fun x3 =>
demand (loadV o none x3) (fun x4 =>
demand (binV BinOp.neq x2 x4) (fun x5 =>
opsB C I R_o3 (St.mk (look [(2, (s 2)), (3, (s 3)), (19, (V.d (D.bool false))), (24, x5)]) (looko ([2, 3].map fun n => (n, o n)))) K))))))
 (opsB C I R_o3 (St.mk (look [(2, (s 2)), (3, (s 3)), (19, (V.d (D.bool true))), (24, (V.tup []))]) (looko ([2, 3].map fun n => (n, o n)))) K)
 (opsB C I R_o3 (St.mk (look [(2, (s 2)), (3, (s 3)), (19, (V.tup [])), (24, (V.tup []))]) (looko ([2, 3].map fun n => (n, o n)))) K)) := rfl

theorem g_ref14_Same_o1_sh {R_o2 : List AOper} {C : Ctx} {I : Nat → Prop} {s : Nat → V} {o : Nat → Option Ob} {K : St → Prop} : opsB C I (⟨some 18, .pick (.t 12) (.c (.d (.bool true))) (.t 17), [], [], none, none⟩ ::
     ⟨some 19, .mv (.t 18), [], [], none, (some ([2, 3, 19], (some [2, 3])))⟩ ::
     R_o2) (St.mk s o) K =
 (demand (pickV (s 12) (V.d (.bool true)) (s 17)) (fun x1 =>
opsB C I R_o2 (St.mk (look [(2, (s 2)), (3, (s 3)), (19, x1)]) (looko ([2, 3].map fun n => (n, o n)))) K)) := rfl

theorem g_ref14_Same_o0_sh {R_o1 : List AOper} {C : Ctx} {I : Nat → Prop} {s : Nat → V} {o : Nat → Option Ob} {K : St → Prop} : opsB C I (⟨some 13, .faddr 1 (.t 2), [], [], (some (5, 12, false)), none⟩ ::
     ⟨some 14, .load none (.t 13), [], [], (some (5, 12, false)), none⟩ ::
     ⟨some 15, .faddr 1 (.t 3), [], [], (some (5, 12, false)), none⟩ ::
     ⟨some 16, .load none (.t 15), [], [], (some (5, 12, false)), none⟩ ::
     ⟨some 17, .bin .neq (.t 14) (.t 16), [], [], (some (5, 12, false)), (some ([2, 3, 12, 17], (some [2, 3])))⟩ ::
     R_o1) (St.mk s o) K =
 (guardK (s 12) false
 (demand (faddrV 1 (s 2)) (fun x1 =>
demand (loadV o none x1) (fun x2 =>
demand (faddrV 1 (s 3)) (fun x3 =>
demand (loadV o none x3) (fun x4 =>
demand (binV BinOp.neq x2 x4) (fun x5 =>
opsB C I R_o1 (St.mk (look [(2, (s 2)), (3, (s 3)), (12, (V.d (D.bool false))), (17, x5)]) (looko ([2, 3].map fun n => (n, o n)))) K))))))
 (opsB C I R_o1 (St.mk (look [(2, (s 2)), (3, (s 3)), (12, (V.d (D.bool true))), (17, (V.tup []))]) (looko ([2, 3].map fun n => (n, o n)))) K)
 (opsB C I R_o1 (St.mk (look [(2, (s 2)), (3, (s 3)), (12, (V.tup [])), (17, (V.tup []))]) (looko ([2, 3].map fun n => (n, o n)))) K)) := rfl

theorem g_ref14_Same_c0_sh {C : Ctx} {I : Nat → Prop} {s : Nat → V} {o : Nat → Option Ob} {Q : Ex → St → Prop} : wpB C I (.cond (.t 43) (.seq (.region [4] (some []) none
     [⟨some 4, .mv (.c (.d (.bool false))), [], [], none, none⟩])
  (.ret))
 (.skip)) (St.mk s o) Q =
 (condK (s 43)
 (Q .ret (St.mk (look [(4, (V.d (.bool false)))]) (looko ([].map fun n => (n, o n)))))
 (Q .normal (St.mk s o))) := rfl

theorem g_ref14_Same_c1_sh {C : Ctx} {I : Nat → Prop} {s : Nat → V} {o : Nat → Option Ob} {Q : Ex → St → Prop} : wpB C I (.region [2, 3, 5] (some [2, 3]) none
   [⟨some 49, .mv (.t 5), [], [], none, none⟩,
    ⟨some 50, .bin .add (.t 49) (.c (.d (.int .i64 1))), [], [], none, none⟩,
    ⟨some 5, .mv (.t 50), [], [], none, none⟩]) (St.mk s o) Q =
 (demand (binV BinOp.add (s 5) (V.d (.int .i64 1))) (fun x1 =>
Q .normal (St.mk (look [(2, (s 2)), (3, (s 3)), (5, x1)]) (looko ([2, 3].map fun n => (n, o n)))))) := rfl

theorem g_ref14_Same_c2_sh {R_c1 : ACode} {C : Ctx} {I : Nat → Prop} {s : Nat → V} {o : Nat → Option Ob} {Q : Ex → St → Prop} : wpB C I (.seq (.block 1 [2, 3, 5] (some [2, 3]) (.seq (.region [2, 3, 5, 61] (some [2, 3]) (some ([0, 1, 2, 3, 4, 5, 6, 7, 8, 9, 10], .done))
      [⟨some 51, .faddr 3 (.t 2), [], [], none, none⟩,
       ⟨some 52, .load none (.t 51), [], [0], none, none⟩,
       ⟨some 53, .mv (.t 5), [], [], none, none⟩,
       ⟨some 54, .iaddr 1 (.t 52) (.t 53), [], [1, 2], none, none⟩,
       ⟨some 55, .load none (.t 54), [], [3], none, none⟩,
       ⟨some 56, .faddr 3 (.t 3), [], [], none, none⟩,
       ⟨some 57, .load none (.t 56), [], [5], none, none⟩,
       ⟨some 58, .mv (.t 5), [], [], none, none⟩,
       ⟨some 59, .iaddr 1 (.t 57) (.t 58), [], [6, 7], none, none⟩,
       ⟨some 60, .load none (.t 59), [], [8], none, none⟩,
       ⟨some 61, .bin .neq (.t 55) (.t 60), [], [4, 9], none, none⟩])
   (.cond (.t 61) (.seq (.region [4] (some []) none
        [⟨some 4, .mv (.c (.d (.bool false))), [], [], none, none⟩])
     (.ret))
    (.skip))))
 (R_c1)) (St.mk s o) Q =
 ((s 51) = V.undef ∧ (demand (faddrV 3 (s 2)) (fun x1 => quietV o (x1 :: [(s 2)]) ∧
(s 52) = V.undef ∧ (demand (loadV o none x1) (fun x2 => quietV o (x2 :: [x1]) ∧
(s 53) = V.undef ∧ (quietV o ((s 5) :: [(s 5)]) ∧
(s 54) = V.undef ∧ (demand (iaddrV o 1 x2 (s 5)) (fun x4 => quietV o (x4 :: [x2, (s 5)]) ∧
(s 55) = V.undef ∧ (demand (loadV o none x4) (fun x5 => quietV o (x5 :: [x4]) ∧
(s 56) = V.undef ∧ (demand (faddrV 3 (s 3)) (fun x6 => quietV o (x6 :: [(s 3)]) ∧
(s 57) = V.undef ∧ (demand (loadV o none x6) (fun x7 => quietV o (x7 :: [x6]) ∧
(s 58) = V.undef ∧ (quietV o ((s 5) :: [(s 5)]) ∧
(s 59) = V.undef ∧ (demand (iaddrV o 1 x7 (s 5)) (fun x9 => quietV o (x9 :: [x7, (s 5)]) ∧
(s 60) = V.undef ∧ (demand (loadV o none x9) (fun x10 => quietV o (x10 :: [x9]) ∧
(s 61) = V.undef ∧ (demand (binV BinOp.neq x5 x10) (fun x11 => quietV o (x11 :: [x5, x10]) ∧
condK x11
 (Q .ret (St.mk (look [(4, (V.d (.bool false)))]) (looko ([].map fun n => (n, o n)))))
 (wpB C I R_c1 (St.mk (look [(2, (s 2)), (3, (s 3)), (5, (s 5))]) (looko ([2, 3].map fun n => (n, o n)))) Q)))))))))))))))))))))) := rfl

theorem g_ref14_Same_l0_sh {R_l0 : ACode} {R_c2 : ACode} {C : Ctx} {I : Nat → Prop} {s : Nat → V} {o : Nat → Option Ob} {Q : Ex → St → Prop} (hL : R_l0 = .loop [2, 3, 5] (some [2, 3]) (.seq (.seq (.region [2, 3, 5, 48] (some [2, 3]) none
      [⟨some 44, .mv (.t 5), [], [], none, none⟩,
       ⟨some 45, .faddr 3 (.t 2), [], [], none, none⟩,
       ⟨some 46, .load none (.t 45), [], [], none, none⟩,
       ⟨some 47, .len (.t 46), [], [], none, none⟩,
       ⟨some 48, .bin .lss (.t 44) (.t 47), [], [], none, none⟩])
   (.cond (.t 48) (.skip)
    (.exit 0)))
  (R_c2)))
 (h : demand (faddrV 3 (s 2)) (fun x1 =>
demand (loadV (looko ([2, 3].map fun n => (n, o n))) none x1) (fun x2 =>
demand (lenV (looko ([2, 3].map fun n => (n, o n))) x2) (fun x3 =>
demand (binV BinOp.lss (s 5) x3) (fun x4 =>
condK x4
 (wpB C I R_c2 (St.mk (look [(2, (s 2)), (3, (s 3)), (5, (s 5)), (48, x4)]) (looko ([2, 3].map fun n => (n, o n)))) (seqK (fun s => wpB C I R_l0 s Q) Q))
 (Q (.exit 0) (St.mk (look [(2, (s 2)), (3, (s 3)), (5, (s 5)), (48, x4)]) (looko ([2, 3].map fun n => (n, o n)))))))))) : wpB C I R_l0 (St.mk s o) Q := w_loopC hL h

theorem g_ref14_Same_c3_sh {C : Ctx} {I : Nat → Prop} {s : Nat → V} {o : Nat → Option Ob} {Q : Ex → St → Prop} : wpB C I (.region [2, 3, 6] (some [2, 3]) none
   [⟨some 67, .mv (.t 6), [], [], none, none⟩,
    ⟨some 68, .bin .add (.t 67) (.c (.d (.int .i64 1))), [], [], none, none⟩,
    ⟨some 6, .mv (.t 68), [], [], none, none⟩]) (St.mk s o) Q =
 (demand (binV BinOp.add (s 6) (V.d (.int .i64 1))) (fun x1 =>
Q .normal (St.mk (look [(2, (s 2)), (3, (s 3)), (6, x1)]) (looko ([2, 3].map fun n => (n, o n)))))) := rfl

theorem g_ref14_Same_c4_sh {R_c3 : ACode} {C : Ctx} {I : Nat → Prop} {s : Nat → V} {o : Nat → Option Ob} {Q : Ex → St → Prop} : wpB C I (.seq (.block 3 [2, 3, 6] (some [2, 3]) (.seq (.region [2, 3, 6, 79] (some [2, 3]) (some ([0, 1, 2, 3, 4, 5, 6, 7, 8, 9, 10], .done))
      [⟨some 69, .faddr 4 (.t 2), [], [], none, none⟩,
       ⟨some 70, .load none (.t 69), [], [0], none, none⟩,
       ⟨some 71, .mv (.t 6), [], [], none, none⟩,
       ⟨some 72, .iaddr 1 (.t 70) (.t 71), [], [1, 2], none, none⟩,
       ⟨some 73, .load none (.t 72), [], [3], none, none⟩,
       ⟨some 74, .faddr 4 (.t 3), [], [], none, none⟩,
       ⟨some 75, .load none (.t 74), [], [5], none, none⟩,
       ⟨some 76, .mv (.t 6), [], [], none, none⟩,
       ⟨some 77, .iaddr 1 (.t 75) (.t 76), [], [6, 7], none, none⟩,
       ⟨some 78, .load none (.t 77), [], [8], none, none⟩,
       ⟨some 79, .bin .neq (.t 73) (.t 78), [], [4, 9], none, none⟩])
   (.cond (.t 79) (.seq (.region [4] (some []) none
        [⟨some 4, .mv (.c (.d (.bool false))), [], [], none, none⟩])
     (.ret))
    (.skip))))
 (R_c3)) (St.mk s o) Q =
 ((s 69) = V.undef ∧ (demand (faddrV 4 (s 2)) (fun x1 => quietV o (x1 :: [(s 2)]) ∧
(s 70) = V.undef ∧ (demand (loadV o none x1) (fun x2 => quietV o (x2 :: [x1]) ∧
(s 71) = V.undef ∧ (quietV o ((s 6) :: [(s 6)]) ∧
(s 72) = V.undef ∧ (demand (iaddrV o 1 x2 (s 6)) (fun x4 => quietV o (x4 :: [x2, (s 6)]) ∧
(s 73) = V.undef ∧ (demand (loadV o none x4) (fun x5 => quietV o (x5 :: [x4]) ∧
(s 74) = V.undef ∧ (demand (faddrV 4 (s 3)) (fun x6 => quietV o (x6 :: [(s 3)]) ∧
(s 75) = V.undef ∧ (demand (loadV o none x6) (fun x7 => quietV o (x7 :: [x6]) ∧
(s 76) = V.undef ∧ (quietV o ((s 6) :: [(s 6)]) ∧
(s 77) = V.undef ∧ (demand (iaddrV o 1 x7 (s 6)) (fun x9 => quietV o (x9 :: [x7, (s 6)]) ∧
(s 78) = V.undef ∧ (demand (loadV o none x9) (fun x10 => quietV o (x10 :: [x9]) ∧
(s 79) = V.undef ∧ (demand (binV BinOp.neq x5 x10) (fun x11 => quietV o (x11 :: [x5, x10]) ∧
condK x11
 (Q .ret (St.mk (look [(4, (V.d (.bool false)))]) (looko ([].map fun n => (n, o n)))))
 (wpB C I R_c3 (St.mk (look [(2, (s 2)), (3, (s 3)), (6, (s 6))]) (looko ([2, 3].map fun n => (n, o n)))) Q)))))))))))))))))))))) := rfl

theorem g_ref14_Same_l1_sh {R_l1 : ACode} {R_c4 : ACode} {C : Ctx} {I : Nat → Prop} {s : Nat → V} {o : Nat → Option Ob} {Q : Ex → St → Prop} (hL : R_l1 = .loop [2, 3, 6] (some [2, 3]) (.seq (.seq (.region [2, 3, 6, 66] (some [2, 3]) none
      [⟨some 62, .mv (.t 6), [], [], none, none⟩,
       ⟨some 63, .faddr 4 (.t 2), [], [], none, none⟩,
       ⟨some 64, .load none (.t 63), [], [], none, none⟩,
       ⟨some 65, .len (.t 64), [], [], none, none⟩,
       ⟨some 66, .bin .lss (.t 62) (.t 65), [], [], none, none⟩])
   (.cond (.t 66) (.skip)
    (.exit 2)))
  (R_c4)))
 (h : demand (faddrV 4 (s 2)) (fun x1 =>
demand (loadV (looko ([2, 3].map fun n => (n, o n))) none x1) (fun x2 =>
demand (lenV (looko ([2, 3].map fun n => (n, o n))) x2) (fun x3 =>
demand (binV BinOp.lss (s 6) x3) (fun x4 =>
condK x4
 (wpB C I R_c4 (St.mk (look [(2, (s 2)), (3, (s 3)), (6, (s 6)), (66, x4)]) (looko ([2, 3].map fun n => (n, o n)))) (seqK (fun s => wpB C I R_l1 s Q) Q))
 (Q (.exit 2) (St.mk (look [(2, (s 2)), (3, (s 3)), (6, (s 6)), (66, x4)]) (looko ([2, 3].map fun n => (n, o n)))))))))) : wpB C I R_l1 (St.mk s o) Q := w_loopC hL h

theorem g_ref14_Same_c5_sh {C : Ctx} {I : Nat → Prop} {s : Nat → V} {o : Nat → Option Ob} {Q : Ex → St → Prop} : wpB C I (.seq (.region [4] (some []) none
    [⟨some 4, .mv (.c (.d (.bool true))), [], [], none, none⟩])
 (.ret)) (St.mk s o) Q =
 (Q .ret (St.mk (look [(4, (V.d (.bool true)))]) (looko ([].map fun n => (n, o n))))) := rfl

theorem g_ref14_Same_c6_sh {R_l1 : ACode} {R_c5 : ACode} {C : Ctx} {I : Nat → Prop} {s : Nat → V} {o : Nat → Option Ob} {Q : Ex → St → Prop} : wpB C I (.seq (.seq (.region [2, 3, 6] (some [2, 3]) none
     [⟨some 6, .mv (.c (.d (.int .i64 0))), [], [], none, none⟩])
  (.block 2 [] (some []) (R_l1)))
 (R_c5)) (St.mk s o) Q =
 (wpB C I R_l1 (St.mk (look [(2, (s 2)), (3, (s 3)), (6, (V.d (.int .i64 0)))]) (looko ([2, 3].map fun n => (n, o n)))) (blockK 2 [] (some []) (seqK (fun st => wpB C I R_c5 st Q) Q))) := rfl

theorem g_ref14_Same_c7_sh {R_l0 : ACode} {R_c6 : ACode} {C : Ctx} {I : Nat → Prop} {s : Nat → V} {o : Nat → Option Ob} {Q : Ex → St → Prop} : wpB C I (.seq (.seq (.region [2, 3, 5] (some [2, 3]) none
     [⟨some 5, .mv (.c (.d (.int .i64 0))), [], [], none, none⟩])
  (.block 0 [2, 3] (some [2, 3]) (R_l0)))
 (R_c6)) (St.mk s o) Q =
 (wpB C I R_l0 (St.mk (look [(2, (s 2)), (3, (s 3)), (5, (V.d (.int .i64 0)))]) (looko ([2, 3].map fun n => (n, o n)))) (blockK 0 [2, 3] (some [2, 3]) (seqK (fun st => wpB C I R_c6 st Q) Q))) := rfl

theorem g_ref14_Same_code_sh {R_o0 : List AOper} {R_c0 : ACode} {R_c7 : ACode} {C : Ctx} {I : Nat → Prop} {s : Nat → V} {o : Nat → Option Ob} {Q : Ex → St → Prop} : wpB C I (.seq (.region [2, 3] (some [2, 3]) none
    [⟨some 2, .box 2 5 (.t 0), [], [], none, none⟩,
     ⟨some 3, .box 3 5 (.t 1), [], [], none, none⟩,
     ⟨some 4, .mv (.c (.d (.bool false))), [], [], none, none⟩])
 (.seq (.seq (.region [2, 3, 43] (some [2, 3]) none
      (⟨some 7, .faddr 0 (.t 2), [], [], none, none⟩ ::
       ⟨some 8, .load none (.t 7), [], [], none, none⟩ ::
       ⟨some 9, .faddr 0 (.t 3), [], [], none, none⟩ ::
       ⟨some 10, .load none (.t 9), [], [], none, none⟩ ::
       ⟨some 11, .bin .neq (.t 8) (.t 10), [], [], none, none⟩ ::
       ⟨some 12, .mv (.t 11), [], [], none, (some ([2, 3, 12], (some [2, 3])))⟩ ::
       R_o0))
   (R_c0))
  (R_c7))) (St.mk s o) Q =
 (lstK (cellsV (s 0)) (fun c1 => c1.length = 5 ∧ ¬ I 2 ∧ Fresh (St.mk s o) 2 (some 2) ∧ V.refsL 2 c1 = false ∧
lstK (cellsV (s 1)) (fun c2 => c2.length = 5 ∧ ¬ I 3 ∧ Fresh (St.mk (upd s 2 (V.ptr 2 0)) (upd o 2 (some (Ob.box c1)))) 3 (some 3) ∧ V.refsL 3 c2 = false ∧
demand (faddrV 0 (V.ptr 2 0)) (fun x3 =>
demand (loadV (looko ([2, 3].map fun n => (n, (upd (upd o 2 (some (Ob.box c1))) 3 (some (Ob.box c2))) n))) none x3) (fun x4 =>
demand (faddrV 0 (V.ptr 3 0)) (fun x5 =>
demand (loadV (looko ([2, 3].map fun n => (n, (upd (upd o 2 (some (Ob.box c1))) 3 (some (Ob.box c2))) n))) none x5) (fun x6 =>
demand (binV BinOp.neq x4 x6) (fun x7 =>
opsB C I R_o0 (St.mk (look [(2, (V.ptr 2 0)), (3, (V.ptr 3 0)), (12, x7)]) (looko ([2, 3].map fun n => (n, (upd (upd o 2 (some (Ob.box c1))) 3 (some (Ob.box c2))) n)))) (fun st => (seqK (fun st => wpB C I R_c0 st (seqK (fun st => wpB C I R_c7 st Q) Q)) (seqK (fun st => wpB C I R_c7 st Q) Q)) .normal (St.trim st [2, 3, 43] (some [2, 3]))))))))))) := rfl

theorem g_book_Known_c0_sh {C : Ctx} {I : Nat → Prop} {s : Nat → V} {o : Nat → Option Ob} {Q : Ex → St → Prop} : wpB C I (.seq (.region [2, 6, 7, 8, 12, 16, 17, 18, 32, 33, 34, 41] (some [6, 7, 12]) none
    [⟨some 38, .faddr 0 (.t 12), [], [], none, none⟩,
     ⟨some 39, .load none (.t 38), [], [], none, none⟩,
     ⟨some 40, .mv (.t 2), [], [], none, none⟩,
     ⟨some 41, .bin .eql (.t 39) (.t 40), [], [], none, none⟩])
 (.cond (.t 41) (.region [2, 6, 7, 8, 16, 17, 18, 32, 33, 34] (some [6, 7]) none
     [⟨some 42, .mv (.t 8), [], [], none, none⟩,
      ⟨some 43, .faddr 1 (.t 12), [], [], none, none⟩,
      ⟨some 44, .load (some 3) (.t 43), [], [], none, none⟩,
      ⟨some 45, .callv (.t 42) [(.t 44)], [], [], none, none⟩])
  (.skip))) (St.mk s o) Q =
 (demand (faddrV 0 (s 12)) (fun x1 =>
demand (loadV o none x1) (fun x2 =>
demand (binV BinOp.eql x2 (s 2)) (fun x3 =>
condK x3
 (demand (faddrV 1 (s 12)) (fun x4 =>
demand (loadV (looko ([6, 7, 12].map fun n => (n, o n))) (some 3) x4) (fun x5 =>
fnK (s 8) (fun f7 cs8 => callK C I (St.mk (upd (upd (upd (look [(2, (s 2)), (6, (s 6)), (7, (s 7)), (8, (s 8)), (12, (s 12)), (16, (s 16)), (17, (s 17)), (18, (s 18)), (32, (s 32)), (33, (s 33)), (34, (s 34)), (41, x3)]) 42 (s 8)) 43 x4) 44 x5) (looko ([6, 7, 12].map fun n => (n, o n)))) (some 45) f7 ([x5] ++ cs8) (fun r6 or6 =>
Q .normal (St.mk (look [(2, (s 2)), (6, (s 6)), (7, (s 7)), (8, (s 8)), (16, (s 16)), (17, (s 17)), (18, (s 18)), (32, (s 32)), (33, (s 33)), (34, (s 34))]) (looko ([6, 7].map fun n => (n, or6 n)))))))))
 (Q .normal (St.mk (look [(2, (s 2)), (6, (s 6)), (7, (s 7)), (8, (s 8)), (12, (s 12)), (16, (s 16)), (17, (s 17)), (18, (s 18)), (32, (s 32)), (33, (s 33)), (34, (s 34)), (41, x3)]) (looko ([6, 7, 12].map fun n => (n, o n))))))))) := rfl

theorem g_book_Known_c1_sh {C : Ctx} {I : Nat → Prop} {s : Nat → V} {o : Nat → Option Ob} {Q : Ex → St → Prop} : wpB C I (.region [2, 6, 7, 8, 16, 17, 18, 32, 33, 34] (some [6, 7]) none
   [⟨some 46, .bin .add (.t 34) (.c (.d (.int .i64 1))), [], [], none, none⟩,
    ⟨some 34, .mv (.t 46), [], [], none, none⟩]) (St.mk s o) Q =
 (demand (binV BinOp.add (s 34) (V.d (.int .i64 1))) (fun x1 =>
Q .normal (St.mk (look [(2, (s 2)), (6, (s 6)), (7, (s 7)), (8, (s 8)), (16, (s 16)), (17, (s 17)), (18, (s 18)), (32, (s 32)), (33, (s 33)), (34, x1)]) (looko ([6, 7].map fun n => (n, o n)))))) := rfl

theorem g_book_Known_l1_sh {R_l1 : ACode} {R_c0 : ACode} {R_c1 : ACode} {C : Ctx} {I : Nat → Prop} {s : Nat → V} {o : Nat → Option Ob} {Q : Ex → St → Prop} (hL : R_l1 = .loop [2, 6, 7, 8, 16, 17, 18, 32, 33, 34] (some [6, 7]) (.seq (.region [2, 6, 7, 8, 16, 17, 18, 32, 33, 34, 35] (some [6, 7]) none
     [⟨some 35, .bin .lss (.t 34) (.t 33), [], [], none, none⟩])
  (.seq (.cond (.t 35) (.skip)
    (.exit 2))
   (.seq (.block 3 [2, 6, 7, 8, 16, 17, 18, 32, 33, 34] (some [6, 7]) (.seq (.region [2, 6, 7, 8, 12, 16, 17, 18, 32, 33, 34] (some [6, 7, 12]) none
         [⟨some 36, .iaddr 4 (.t 32) (.t 34), [], [], none, none⟩,
          ⟨some 37, .load (some 4) (.t 36), [], [], none, none⟩,
          ⟨some 12, .alloc 12 [.d (.int .i64 0), .d (.int .i64 0), .d (.int .i64 0), .d (.int .i64 0)], [], [], none, none⟩,
          ⟨none, .store 4 (.t 12) (.t 37), [], [], none, none⟩])
      (R_c0)))
    (R_c1)))))
 (h : demand (binV BinOp.lss (s 34) (s 33)) (fun x1 =>
condK x1
 (demand (iaddrV (looko ([6, 7].map fun n => (n, o n))) 4 (s 32) (s 34)) (fun x2 =>
demand (loadV (looko ([6, 7].map fun n => (n, o n))) (some 4) x2) (fun x3 =>
(¬ I 12 ∧ Fresh (St.mk (upd (upd (look [(2, (s 2)), (6, (s 6)), (7, (s 7)), (8, (s 8)), (16, (s 16)), (17, (s 17)), (18, (s 18)), (32, (s 32)), (33, (s 33)), (34, (s 34)), (35, x1)]) 36 x2) 37 x3) (looko ([6, 7].map fun n => (n, o n)))) 12 (some 12) ∧ V.refsL 12 [V.d (.int .i64 0), V.d (.int .i64 0), V.d (.int .i64 0), V.d (.int .i64 0)] = false ∧
storeK (V.ptr 12 0) (cellsV x3) 4 (upd (looko ([6, 7].map fun n => (n, o n))) 12 (some (Ob.box [V.d (.int .i64 0), V.d (.int .i64 0), V.d (.int .i64 0), V.d (.int .i64 0)]))) (fun m4 ob5 =>
wpB C I R_c0 (St.mk (look [(2, (s 2)), (6, (s 6)), (7, (s 7)), (8, (s 8)), (12, (V.ptr 12 0)), (16, (s 16)), (17, (s 17)), (18, (s 18)), (32, (s 32)), (33, (s 33)), (34, (s 34))]) (looko ([6, 7, 12].map fun n => (n, (upd (upd (looko ([6, 7].map fun n => (n, o n))) 12 (some (Ob.box [V.d (.int .i64 0), V.d (.int .i64 0), V.d (.int .i64 0), V.d (.int .i64 0)]))) m4 (some ob5)) n)))) (blockK 3 [2, 6, 7, 8, 16, 17, 18, 32, 33, 34] (some [6, 7]) (seqK (fun st => wpB C I R_c1 st (seqK (fun s => wpB C I R_l1 s Q) Q)) (seqK (fun s => wpB C I R_l1 s Q) Q))))))))
 (Q (.exit 2) (St.mk (look [(2, (s 2)), (6, (s 6)), (7, (s 7)), (8, (s 8)), (16, (s 16)), (17, (s 17)), (18, (s 18)), (32, (s 32)), (33, (s 33)), (34, (s 34)), (35, x1)]) (looko ([6, 7].map fun n => (n, o n))))))) : wpB C I R_l1 (St.mk s o) Q := w_loopC hL h

theorem g_book_Known_c2_sh {R_l1 : ACode} {C : Ctx} {I : Nat → Prop} {s : Nat → V} {o : Nat → Option Ob} {Q : Ex → St → Prop} : wpB C I (.block 2 [2, 6, 7, 8, 16, 17, 18] (some [6, 7]) (R_l1)) (St.mk s o) Q =
 (wpB C I R_l1 (St.mk s o) (blockK 2 [2, 6, 7, 8, 16, 17, 18] (some [6, 7]) Q)) := rfl

theorem g_book_Known_c3_sh {R_c2 : ACode} {C : Ctx} {I : Nat → Prop} {s : Nat → V} {o : Nat → Option Ob} {Q : Ex → St → Prop} : wpB C I (.seq (.region [2, 6, 7, 8, 16, 17, 18, 32, 33, 34] (some [6, 7]) none
    [⟨some 31, .faddr 21 (.t 10), [], [], none, none⟩,
     ⟨some 32, .load none (.t 31), [], [], none, none⟩,
     ⟨some 33, .len (.t 32), [], [], none, none⟩,
     ⟨some 34, .mv (.c (.d (.int .i64 0))), [], [], none, none⟩])
 (R_c2)) (St.mk s o) Q =
 (demand (faddrV 21 (s 10)) (fun x1 =>
demand (loadV o none x1) (fun x2 =>
demand (lenV o x2) (fun x3 =>
wpB C I R_c2 (St.mk (look [(2, (s 2)), (6, (s 6)), (7, (s 7)), (8, (s 8)), (16, (s 16)), (17, (s 17)), (18, (s 18)), (32, x2), (33, x3), (34, (V.d (.int .i64 0)))]) (looko ([6, 7].map fun n => (n, o n)))) Q)))) := rfl

theorem g_book_Known_c4_sh {R_c3 : ACode} {C : Ctx} {I : Nat → Prop} {s : Nat → V} {o : Nat → Option Ob} {Q : Ex → St → Prop} : wpB C I (.seq (.seq (.region [2, 6, 7, 8, 10, 16, 17, 18, 25] (some [6, 7, 10]) none
     [⟨some 22, .faddr 1 (.t 10), [], [], none, none⟩,
      ⟨some 23, .load none (.t 22), [], [], none, none⟩,
      ⟨some 24, .mv (.t 2), [], [], none, none⟩,
      ⟨some 25, .bin .eql (.t 23) (.t 24), [], [], none, none⟩])
  (.cond (.t 25) (.region [2, 6, 7, 8, 10, 16, 17, 18] (some [6, 7, 10]) none
      [⟨some 26, .mv (.t 8), [], [], none, none⟩,
       ⟨some 27, .faddr 5 (.t 10), [], [], none, none⟩,
       ⟨some 28, .faddr 1 (.t 27), [], [], none, none⟩,
       ⟨some 29, .load (some 3) (.t 28), [], [], none, none⟩,
       ⟨some 30, .callv (.t 26) [(.t 29)], [], [], none, none⟩])
   (.skip)))
 (R_c3)) (St.mk s o) Q =
 (demand (faddrV 1 (s 10)) (fun x1 =>
demand (loadV o none x1) (fun x2 =>
demand (binV BinOp.eql x2 (s 2)) (fun x3 =>
condK x3
 (demand (faddrV 5 (s 10)) (fun x4 =>
demand (faddrV 1 x4) (fun x5 =>
demand (loadV (looko ([6, 7, 10].map fun n => (n, o n))) (some 3) x5) (fun x6 =>
fnK (s 8) (fun f8 cs9 => callK C I (St.mk (upd (upd (upd (upd (look [(2, (s 2)), (6, (s 6)), (7, (s 7)), (8, (s 8)), (10, (s 10)), (16, (s 16)), (17, (s 17)), (18, (s 18)), (25, x3)]) 26 (s 8)) 27 x4) 28 x5) 29 x6) (looko ([6, 7, 10].map fun n => (n, o n)))) (some 30) f8 ([x6] ++ cs9) (fun r7 or7 =>
wpB C I R_c3 (St.mk (look [(2, (s 2)), (6, (s 6)), (7, (s 7)), (8, (s 8)), (10, (s 10)), (16, (s 16)), (17, (s 17)), (18, (s 18))]) (looko ([6, 7, 10].map fun n => (n, or7 n)))) Q))))))
 (wpB C I R_c3 (St.mk (look [(2, (s 2)), (6, (s 6)), (7, (s 7)), (8, (s 8)), (10, (s 10)), (16, (s 16)), (17, (s 17)), (18, (s 18)), (25, x3)]) (looko ([6, 7, 10].map fun n => (n, o n)))) Q))))) := rfl

theorem g_book_Known_c5_sh {C : Ctx} {I : Nat → Prop} {s : Nat → V} {o : Nat → Option Ob} {Q : Ex → St → Prop} : wpB C I (.region [2, 6, 7, 8, 16, 17, 18] (some [6, 7]) none
   [⟨some 47, .bin .add (.t 18) (.c (.d (.int .i64 1))), [], [], none, none⟩,
    ⟨some 18, .mv (.t 47), [], [], none, none⟩]) (St.mk s o) Q =
 (demand (binV BinOp.add (s 18) (V.d (.int .i64 1))) (fun x1 =>
Q .normal (St.mk (look [(2, (s 2)), (6, (s 6)), (7, (s 7)), (8, (s 8)), (16, (s 16)), (17, (s 17)), (18, x1)]) (looko ([6, 7].map fun n => (n, o n)))))) := rfl

theorem g_book_Known_l0_sh {R_l0 : ACode} {R_c4 : ACode} {R_c5 : ACode} {C : Ctx} {I : Nat → Prop} {s : Nat → V} {o : Nat → Option Ob} {Q : Ex → St → Prop} (hL : R_l0 = .loop [2, 6, 7, 8, 16, 17, 18] (some [6, 7]) (.seq (.region [2, 6, 7, 8, 16, 17, 18, 19] (some [6, 7]) none
     [⟨some 19, .bin .lss (.t 18) (.t 17), [], [], none, none⟩])
  (.seq (.cond (.t 19) (.skip)
    (.exit 0))
   (.seq (.block 1 [2, 6, 7, 8, 16, 17, 18] (some [6, 7]) (.seq (.region [2, 6, 7, 8, 10, 16, 17, 18] (some [6, 7, 10]) none
         [⟨some 20, .iaddr 22 (.t 16) (.t 18), [], [], none, none⟩,
          ⟨some 21, .load (some 22) (.t 20), [], [], none, none⟩,
          ⟨some 10, .alloc 10 [.d (.int .i64 0), .d (.int .i64 0), .d (.int .i64 0), .d (.int .i64 0), .d (.int .i64 0), .cap0, .d (.int .i64 0), .d (.int .i64 0), .d (.int .i64 0), .d (.int .i64 0), .d (.int .i64 0), .d (.int .i64 0), .d (.int .i64 0), .d (.int .i64 0), .d (.int .i64 0), .d (.int .i64 0), .d (.int .i64 0), .d (.int .i64 0), .cap0, .cap0, .cap0, .cap0], [], [], none, none⟩,
          ⟨none, .store 22 (.t 10) (.t 21), [], [], none, none⟩])
      (R_c4)))
    (R_c5)))))
 (h : demand (binV BinOp.lss (s 18) (s 17)) (fun x1 =>
condK x1
 (demand (iaddrV (looko ([6, 7].map fun n => (n, o n))) 22 (s 16) (s 18)) (fun x2 =>
demand (loadV (looko ([6, 7].map fun n => (n, o n))) (some 22) x2) (fun x3 =>
(¬ I 10 ∧ Fresh (St.mk (upd (upd (look [(2, (s 2)), (6, (s 6)), (7, (s 7)), (8, (s 8)), (16, (s 16)), (17, (s 17)), (18, (s 18)), (19, x1)]) 20 x2) 21 x3) (looko ([6, 7].map fun n => (n, o n)))) 10 (some 10) ∧ V.refsL 10 [V.d (.int .i64 0), V.d (.int .i64 0), V.d (.int .i64 0), V.d (.int .i64 0), V.d (.int .i64 0), V.cap0, V.d (.int .i64 0), V.d (.int .i64 0), V.d (.int .i64 0), V.d (.int .i64 0), V.d (.int .i64 0), V.d (.int .i64 0), V.d (.int .i64 0), V.d (.int .i64 0), V.d (.int .i64 0), V.d (.int .i64 0), V.d (.int .i64 0), V.d (.int .i64 0), V.cap0, V.cap0, V.cap0, V.cap0] = false ∧
storeK (V.ptr 10 0) (cellsV x3) 22 (upd (looko ([6, 7].map fun n => (n, o n))) 10 (some (Ob.box [V.d (.int .i64 0), V.d (.int .i64 0), V.d (.int .i64 0), V.d (.int .i64 0), V.d (.int .i64 0), V.cap0, V.d (.int .i64 0), V.d (.int .i64 0), V.d (.int .i64 0), V.d (.int .i64 0), V.d (.int .i64 0), V.d (.int .i64 0), V.d (.int .i64 0), V.d (.int .i64 0), V.d (.int .i64 0), V.d (.int .i64 0), V.d (.int .i64 0), V.d (.int .i64 0), V.cap0, V.cap0, V.cap0, V.cap0]))) (fun m4 ob5 =>
wpB C I R_c4 (St.mk (look [(2, (s 2)), (6, (s 6)), (7, (s 7)), (8, (s 8)), (10, (V.ptr 10 0)), (16, (s 16)), (17, (s 17)), (18, (s 18))]) (looko ([6, 7, 10].map fun n => (n, (upd (upd (looko ([6, 7].map fun n => (n, o n))) 10 (some (Ob.box [V.d (.int .i64 0), V.d (.int .i64 0), V.d (.int .i64 0), V.d (.int .i64 0), V.d (.int .i64 0), V.cap0, V.d (.int .i64 0), V.d (.int .i64 0), V.d (.int .i64 0), V.d (.int .i64 0), V.d (.int .i64 0), V.d (.int .i64 0), V.d (.int .i64 0), V.d (.int .i64 0), V.d (.int .i64 0), V.d (.int .i64 0), V.d (.int .i64 0), V.d (.int .i64 0), V.cap0, V.cap0, V.cap0, V.cap0]))) m4 (some ob5)) n)))) (blockK 1 [2, 6, 7, 8, 16, 17, 18] (some [6, 7]) (seqK (fun st => wpB C I R_c5 st (seqK (fun s => wpB C I R_l0 s Q) Q)) (seqK (fun s => wpB C I R_l0 s Q) Q))))))))
 (Q (.exit 0) (St.mk (look [(2, (s 2)), (6, (s 6)), (7, (s 7)), (8, (s 8)), (16, (s 16)), (17, (s 17)), (18, (s 18)), (19, x1)]) (looko ([6, 7].map fun n => (n, o n))))))) : wpB C I R_l0 (St.mk s o) Q := w_loopC hL h

theorem g_book_Known_c6_sh {R_l0 : ACode} {C : Ctx} {I : Nat → Prop} {s : Nat → V} {o : Nat → Option Ob} {Q : Ex → St → Prop} : wpB C I (.block 0 [6, 7] (some [6, 7]) (R_l0)) (St.mk s o) Q =
 (wpB C I R_l0 (St.mk s o) (blockK 0 [6, 7] (some [6, 7]) Q)) := rfl

theorem g_book_Known_c7_sh {C : Ctx} {I : Nat → Prop} {s : Nat → V} {o : Nat → Option Ob} {Q : Ex → St → Prop} : wpB C I (.seq (.region [6] (some [6]) none
    [⟨some 48, .load (some 3) (.t 7), [], [], none, none⟩,
     ⟨none, .store 3 (.t 6) (.t 48), [], [], none, none⟩])
 (.ret)) (St.mk s o) Q =
 (demand (loadV o (some 3) (s 7)) (fun x1 =>
storeK (s 6) (cellsV x1) 3 o (fun m2 ob3 =>
Q .ret (St.mk (look [(6, (s 6))]) (looko ([6].map fun n => (n, (upd o m2 (some ob3)) n))))))) := rfl

theorem g_book_Known_code_sh {R_c6 : ACode} {R_c7 : ACode} {C : Ctx} {I : Nat → Prop} {s : Nat → V} {o : Nat → Option Ob} {Q : Ex → St → Prop} : wpB C I (.seq (.region [1, 2, 3, 6] (some [3, 6]) none
    [⟨some 3, .box 3 1 (.t 0), [], [], none, none⟩,
     ⟨some 6, .alloc 6 [.d (.int .i64 0), .d (.int .i64 0), .d (.int .i64 0)], [], [], none, none⟩])
 (.seq (.region [1, 2, 3, 6, 7] (some [3, 6, 7]) none
     [⟨some 7, .alloc 7 [.d (.int .i64 0), .d (.int .i64 0), .d (.int .i64 0)], [], [], none, none⟩])
  (.seq (.region [1, 2, 3, 6, 7, 8] (some [3, 6, 7]) none
      [⟨some 13, .fnv 32 [(.t 7)], [], [], none, none⟩,
       ⟨some 8, .mv (.t 13), [], [], none, none⟩])
   (.seq (.seq (.region [2, 6, 7, 8, 16, 17, 18] (some [6, 7]) none
        [⟨some 14, .load (some 1) (.t 3), [], [], none, none⟩,
         ⟨some 15, .mv (.t 1), [], [], none, none⟩,
         ⟨some 16, .call 18 [(.t 14), (.t 15)], [], [], none, none⟩,
         ⟨some 17, .len (.t 16), [], [], none, none⟩,
         ⟨some 18, .mv (.c (.d (.int .i64 0))), [], [], none, none⟩])
     (R_c6))
    (R_c7))))) (St.mk s o) Q =
 (lstK (cellsV (s 0)) (fun c1 => c1.length = 1 ∧ ¬ I 3 ∧ Fresh (St.mk s o) 3 (some 3) ∧ V.refsL 3 c1 = false ∧
(¬ I 6 ∧ Fresh (St.mk (upd s 3 (V.ptr 3 0)) (upd o 3 (some (Ob.box c1)))) 6 (some 6) ∧ V.refsL 6 [V.d (.int .i64 0), V.d (.int .i64 0), V.d (.int .i64 0)] = false ∧
(¬ I 7 ∧ Fresh (St.mk (look [(1, (s 1)), (2, (s 2)), (3, (V.ptr 3 0)), (6, (V.ptr 6 0))]) (looko ([3, 6].map fun n => (n, (upd (upd o 3 (some (Ob.box c1))) 6 (some (Ob.box [V.d (.int .i64 0), V.d (.int .i64 0), V.d (.int .i64 0)]))) n)))) 7 (some 7) ∧ V.refsL 7 [V.d (.int .i64 0), V.d (.int .i64 0), V.d (.int .i64 0)] = false ∧
demand (loadV (looko ([3, 6, 7].map fun n => (n, (upd (looko ([3, 6].map fun n => (n, (upd (upd o 3 (some (Ob.box c1))) 6 (some (Ob.box [V.d (.int .i64 0), V.d (.int .i64 0), V.d (.int .i64 0)]))) n))) 7 (some (Ob.box [V.d (.int .i64 0), V.d (.int .i64 0), V.d (.int .i64 0)]))) n))) (some 1) (V.ptr 3 0)) (fun x2 =>
callK C I (St.mk (upd (upd (look [(1, (s 1)), (2, (s 2)), (3, (V.ptr 3 0)), (6, (V.ptr 6 0)), (7, (V.ptr 7 0)), (8, (V.fn 32 [(V.ptr 7 0)]))]) 14 x2) 15 (s 1)) (looko ([3, 6, 7].map fun n => (n, (upd (looko ([3, 6].map fun n => (n, (upd (upd o 3 (some (Ob.box c1))) 6 (some (Ob.box [V.d (.int .i64 0), V.d (.int .i64 0), V.d (.int .i64 0)]))) n))) 7 (some (Ob.box [V.d (.int .i64 0), V.d (.int .i64 0), V.d (.int .i64 0)]))) n)))) (some 16) 18 [x2, (s 1)] (fun r3 or3 =>
demand (lenV or3 r3) (fun x4 =>
wpB C I R_c6 (St.mk (look [(2, (s 2)), (6, (V.ptr 6 0)), (7, (V.ptr 7 0)), (8, (V.fn 32 [(V.ptr 7 0)])), (16, r3), (17, x4), (18, (V.d (.int .i64 0)))]) (looko ([6, 7].map fun n => (n, or3 n)))) (seqK (fun st => wpB C I R_c7 st Q) Q)))))))) := rfl

theorem g_slices_Clone_Entry_code_sh {C : Ctx} {I : Nat → Prop} {s : Nat → V} {o : Nat → Option Ob} {Q : Ex → St → Prop} : wpB C I (.seq (.region [0] (some []) none
    [⟨some 2, .mv (.c (.cap0)), [], [], none, none⟩])
 (.seq (.seq (.region [0, 4] (some []) none
      [⟨some 3, .mv (.t 0), [], [], none, none⟩,
       ⟨some 4, .nilS false (.t 3), [], [], none, none⟩])
   (.cond (.t 4) (.seq (.region [2] (some [5, 7]) none
        [⟨some 2, .mv (.c (.cap0)), [], [], none, none⟩])
     (.ret))
    (.skip)))
  (.seq (.region [2] (some [5, 7]) none
      [⟨some 5, .bsl (some 5) 22 [] 0 [], [], [], none, none⟩,
       ⟨some 6, .mv (.t 0), [], [], none, none⟩,
       ⟨some 7, .app (some 7) 22 256 (.t 5) (.t 6), [], [], none, none⟩,
       ⟨some 2, .mv (.t 7), [], [], none, none⟩])
   (.ret)))) (St.mk s o) Q =
 (nilSK false (s 0) (fun x1 =>
condK x1
 (Q .ret (St.mk (look [(2, (V.cap0))]) (looko ([5, 7].map fun n => (n, (looko ([].map fun n => (n, o n))) n)))))
 (lstK (readD (looko ([].map fun n => (n, o n))) (s 0)) (fun ys3 => (∀ e ∈ ys3, e.length = 22) ∧ appK V.cap0
 (ys3.length * 256 ≤ 140737488355328 ∧ ys3.length ≤ 140737488355328 ∧ ¬ I 7 ∧ Fresh (St.mk (upd (upd (look [(0, (s 0)), (4, x1)]) 5 V.cap0) 6 (s 0)) (looko ([].map fun n => (n, o n)))) 7 (some 7) ∧
Q .ret (St.mk (look [(2, (V.own 7))]) (looko ([5, 7].map fun n => (n, (upd (looko ([].map fun n => (n, o n))) 7 (some (Ob.row 22 ys3))) n)))))
 (fun m4 => ¬ I m4 ∧ rowK ((looko ([].map fun n => (n, o n))) m4) (fun z5 es6 => z5 = 22 ∧ (es6.length + ys3.length) * 256 ≤ 140737488355328 ∧ es6.length + ys3.length ≤ 140737488355328 ∧
Q .ret (St.mk (look [(2, (V.own m4))]) (looko ([5, 7].map fun n => (n, (upd (fun n => ((looko ([].map fun n => (n, o n))) n).map (Ob.scrub m4)) m4 (some (Ob.row 22 (es6 ++ ys3)))) n)))))))))) := rfl

theorem g_slices_ContainsFunc_Entry_code_sh {C : Ctx} {I : Nat → Prop} {s : Nat → V} {o : Nat → Option Ob} {Q : Ex → St → Prop} : wpB C I (.seq (.region [0, 1] none none
    [⟨some 4, .mv (.c (.d (.bool false))), [], [], none, none⟩])
 (.seq (.region [4] none none
     [⟨some 5, .mv (.t 0), [], [], none, none⟩,
      ⟨some 6, .mv (.t 1), [], [], none, none⟩,
      ⟨some 7, .call 16 [(.t 5), (.t 6)], [], [], none, none⟩,
      ⟨some 8, .bin .geq (.t 7) (.c (.d (.int .i64 0))), [], [], none, none⟩,
      ⟨some 4, .mv (.t 8), [], [], none, none⟩])
  (.ret))) (St.mk s o) Q =
 (callK C I (St.mk (upd (upd (look [(0, (s 0)), (1, (s 1))]) 5 (s 0)) 6 (s 1)) o) (some 7) 16 [(s 0), (s 1)] (fun r1 or1 =>
demand (binV BinOp.geq r1 (V.d (.int .i64 0))) (fun x2 =>
Q .ret (St.mk (look [(4, x2)]) or1)))) := rfl

theorem g_book_Live_1_code_sh {C : Ctx} {I : Nat → Prop} {s : Nat → V} {o : Nat → Option Ob} {Q : Ex → St → Prop} : wpB C I (.seq (.region [1, 2] none none
    [⟨some 2, .box 2 22 (.t 0), [], [], none, none⟩,
     ⟨some 3, .mv (.c (.d (.bool false))), [], [], none, none⟩])
 (.seq (.region [3] none none
     [⟨some 4, .faddr 4 (.t 2), [], [], none, none⟩,
      ⟨some 5, .load none (.t 4), [], [], none, none⟩,
      ⟨some 6, .load none (.t 1), [], [], none, none⟩,
      ⟨some 7, .bin .add (.t 6) (.c (.d (.int .i64 1))), [], [], none, none⟩,
      ⟨some 8, .bin .eql (.t 5) (.t 7), [], [], none, none⟩,
      ⟨some 3, .mv (.t 8), [], [], none, none⟩])
  (.ret))) (St.mk s o) Q =
 (lstK (cellsV (s 0)) (fun c1 => c1.length = 22 ∧ ¬ I 2 ∧ Fresh (St.mk s o) 2 (some 2) ∧ V.refsL 2 c1 = false ∧
demand (faddrV 4 (V.ptr 2 0)) (fun x2 =>
demand (loadV (upd o 2 (some (Ob.box c1))) none x2) (fun x3 =>
demand (loadV (upd o 2 (some (Ob.box c1))) none (s 1)) (fun x4 =>
demand (binV BinOp.add x4 (V.d (.int .i64 1))) (fun x5 =>
demand (binV BinOp.eql x3 x5) (fun x6 =>
Q .ret (St.mk (look [(3, x6)]) (upd o 2 (some (Ob.box c1))))))))))) := rfl

theorem g_book_alive_c0_sh {C : Ctx} {I : Nat → Prop} {s : Nat → V} {o : Nat → Option Ob} {Q : Ex → St → Prop} : wpB C I (.region [1, 2, 5, 13, 14, 15] (some [2, 11]) none
   [⟨some 19, .mv (.t 5), [], [], none, none⟩,
    ⟨some 20, .faddr 4 (.t 7), [], [], none, none⟩,
    ⟨some 21, .load none (.t 20), [], [], none, none⟩,
    ⟨some 22, .mget false ((.int .i64 0)) (.t 19) (.t 21) false, [], [], none, none⟩,
    ⟨some 23, .bin .add (.t 22) (.c (.d (.int .i64 1))), [], [], none, none⟩,
    ⟨none, .mset false (.t 19) (.t 21) (.t 23), [], [], none, none⟩]) (St.mk s o) Q =
 (demand (faddrV 4 (s 7)) (fun x1 =>
demand (loadV o none x1) (fun x2 =>
mapK (s 5) (toD x2) o (fun n3 k4 kv5 => keyIs false k4 = true ∧ optK (kvGet k4 kv5) (fun r6 =>
demand (binV BinOp.add (if false = true then V.tup [V.d (r6.getD ((.int .i64 0))), V.d (D.bool r6.isSome)] else V.d (r6.getD ((.int .i64 0)))) (V.d (.int .i64 1))) (fun x7 =>
mapK (s 5) (toD x2) o (fun n8 k9 kv10 => keyIs false k9 = true ∧ optK (toD x7) (fun x11 => lstK (kvSet k9 x11 kv10) (fun kv12 =>
Q .normal (St.mk (look [(1, (s 1)), (2, (s 2)), (5, (s 5)), (13, (s 13)), (14, (s 14)), (15, (s 15))]) (looko ([2, 11].map fun n => (n, (upd o n8 (some (Ob.map kv12))) n))))))))))))) := rfl

theorem g_book_alive_c1_sh {C : Ctx} {I : Nat → Prop} {s : Nat → V} {o : Nat → Option Ob} {Q : Ex → St → Prop} : wpB C I (.region [1, 2, 5, 13, 14, 15] (some [2, 11]) none
   [⟨some 24, .bin .add (.t 15) (.c (.d (.int .i64 1))), [], [], none, none⟩,
    ⟨some 15, .mv (.t 24), [], [], none, none⟩]) (St.mk s o) Q =
 (demand (binV BinOp.add (s 15) (V.d (.int .i64 1))) (fun x1 =>
Q .normal (St.mk (look [(1, (s 1)), (2, (s 2)), (5, (s 5)), (13, (s 13)), (14, (s 14)), (15, x1)]) (looko ([2, 11].map fun n => (n, o n)))))) := rfl

theorem g_book_alive_l0_sh {R_l0 : ACode} {R_c0 : ACode} {R_c1 : ACode} {C : Ctx} {I : Nat → Prop} {s : Nat → V} {o : Nat → Option Ob} {Q : Ex → St → Prop} (hL : R_l0 = .loop [1, 2, 5, 13, 14, 15] (some [2, 11]) (.seq (.region [1, 2, 5, 13, 14, 15, 16] (some [2, 11]) none
     [⟨some 16, .bin .lss (.t 15) (.t 14), [], [], none, none⟩])
  (.seq (.cond (.t 16) (.skip)
    (.exit 0))
   (.seq (.block 1 [1, 2, 5, 13, 14, 15] (some [2, 11]) (.seq (.region [1, 2, 5, 7, 13, 14, 15] (some [2, 7, 11]) none
         [⟨some 17, .iaddr 22 (.t 13) (.t 15), [], [], none, none⟩,
          ⟨some 18, .load (some 22) (.t 17), [], [], none, none⟩,
          ⟨some 7, .alloc 7 [.d (.int .i64 0), .d (.int .i64 0), .d (.int .i64 0), .d (.int .i64 0), .d (.int .i64 0), .cap0, .d (.int .i64 0), .d (.int .i64 0), .d (.int .i64 0), .d (.int .i64 0), .d (.int .i64 0), .d (.int .i64 0), .d (.int .i64 0), .d (.int .i64 0), .d (.int .i64 0), .d (.int .i64 0), .d (.int .i64 0), .d (.int .i64 0), .cap0, .cap0, .cap0, .cap0], [], [], none, none⟩,
          ⟨none, .store 22 (.t 7) (.t 18), [], [], none, none⟩])
      (R_c0)))
    (R_c1)))))
 (h : demand (binV BinOp.lss (s 15) (s 14)) (fun x1 =>
condK x1
 (demand (iaddrV (looko ([2, 11].map fun n => (n, o n))) 22 (s 13) (s 15)) (fun x2 =>
demand (loadV (looko ([2, 11].map fun n => (n, o n))) (some 22) x2) (fun x3 =>
(¬ I 7 ∧ Fresh (St.mk (upd (upd (look [(1, (s 1)), (2, (s 2)), (5, (s 5)), (13, (s 13)), (14, (s 14)), (15, (s 15)), (16, x1)]) 17 x2) 18 x3) (looko ([2, 11].map fun n => (n, o n)))) 7 (some 7) ∧ V.refsL 7 [V.d (.int .i64 0), V.d (.int .i64 0), V.d (.int .i64 0), V.d (.int .i64 0), V.d (.int .i64 0), V.cap0, V.d (.int .i64 0), V.d (.int .i64 0), V.d (.int .i64 0), V.d (.int .i64 0), V.d (.int .i64 0), V.d (.int .i64 0), V.d (.int .i64 0), V.d (.int .i64 0), V.d (.int .i64 0), V.d (.int .i64 0), V.d (.int .i64 0), V.d (.int .i64 0), V.cap0, V.cap0, V.cap0, V.cap0] = false ∧
storeK (V.ptr 7 0) (cellsV x3) 22 (upd (looko ([2, 11].map fun n => (n, o n))) 7 (some (Ob.box [V.d (.int .i64 0), V.d (.int .i64 0), V.d (.int .i64 0), V.d (.int .i64 0), V.d (.int .i64 0), V.cap0, V.d (.int .i64 0), V.d (.int .i64 0), V.d (.int .i64 0), V.d (.int .i64 0), V.d (.int .i64 0), V.d (.int .i64 0), V.d (.int .i64 0), V.d (.int .i64 0), V.d (.int .i64 0), V.d (.int .i64 0), V.d (.int .i64 0), V.d (.int .i64 0), V.cap0, V.cap0, V.cap0, V.cap0]))) (fun m4 ob5 =>
wpB C I R_c0 (St.mk (look [(1, (s 1)), (2, (s 2)), (5, (s 5)), (7, (V.ptr 7 0)), (13, (s 13)), (14, (s 14)), (15, (s 15))]) (looko ([2, 7, 11].map fun n => (n, (upd (upd (looko ([2, 11].map fun n => (n, o n))) 7 (some (Ob.box [V.d (.int .i64 0), V.d (.int .i64 0), V.d (.int .i64 0), V.d (.int .i64 0), V.d (.int .i64 0), V.cap0, V.d (.int .i64 0), V.d (.int .i64 0), V.d (.int .i64 0), V.d (.int .i64 0), V.d (.int .i64 0), V.d (.int .i64 0), V.d (.int .i64 0), V.d (.int .i64 0), V.d (.int .i64 0), V.d (.int .i64 0), V.d (.int .i64 0), V.d (.int .i64 0), V.cap0, V.cap0, V.cap0, V.cap0]))) m4 (some ob5)) n)))) (blockK 1 [1, 2, 5, 13, 14, 15] (some [2, 11]) (seqK (fun st => wpB C I R_c1 st (seqK (fun s => wpB C I R_l0 s Q) Q)) (seqK (fun s => wpB C I R_l0 s Q) Q))))))))
 (Q (.exit 0) (St.mk (look [(1, (s 1)), (2, (s 2)), (5, (s 5)), (13, (s 13)), (14, (s 14)), (15, (s 15)), (16, x1)]) (looko ([2, 11].map fun n => (n, o n))))))) : wpB C I R_l0 (St.mk s o) Q := w_loopC hL h

theorem g_book_alive_c2_sh {R_l0 : ACode} {C : Ctx} {I : Nat → Prop} {s : Nat → V} {o : Nat → Option Ob} {Q : Ex → St → Prop} : wpB C I (.block 0 [1, 2, 5] (some [2, 11]) (R_l0)) (St.mk s o) Q =
 (wpB C I R_l0 (St.mk s o) (blockK 0 [1, 2, 5] (some [2, 11]) Q)) := rfl

theorem g_book_alive_o3_sh {C : Ctx} {I : Nat → Prop} {s : Nat → V} {o : Nat → Option Ob} {K : St → Prop} : opsB C I [⟨some 48, .pick (.t 42) (.t 47) (.c (.d (.bool false))), [], [], none, none⟩] (St.mk s o) K =
 (demand (pickV (s 42) (s 47) (V.d (.bool false))) (fun x1 =>
K (St.mk (upd s 48 x1) o))) := rfl

theorem g_book_alive_o2_sh {R_o3 : List AOper} {C : Ctx} {I : Nat → Prop} {s : Nat → V} {o : Nat → Option Ob} {K : St → Prop} : opsB C I (⟨some 43, .mv (.t 5), [], [], (some (9, 42, true)), none⟩ ::
     ⟨some 44, .mv (.t 9), [], [], (some (9, 42, true)), none⟩ ::
     ⟨some 45, .bin .add (.t 44) (.c (.d (.int .i64 1))), [], [], (some (9, 42, true)), none⟩ ::
     ⟨some 46, .mget false ((.int .i64 0)) (.t 43) (.t 45) false, [], [], (some (9, 42, true)), none⟩ ::
     ⟨some 47, .bin .eql (.t 46) (.c (.d (.int .i64 0))), [], [], (some (9, 42, true)), (some ([1, 5, 8, 10, 26, 27, 28, 42, 47], (some [10, 11, 52])))⟩ ::
     R_o3) (St.mk s o) K =
 (guardK (s 42) true
 (demand (binV BinOp.add (s 9) (V.d (.int .i64 1))) (fun x1 =>
mapK (s 5) (toD x1) o (fun n2 k3 kv4 => keyIs false k3 = true ∧ optK (kvGet k3 kv4) (fun r5 =>
demand (binV BinOp.eql (if false = true then V.tup [V.d (r5.getD ((.int .i64 0))), V.d (D.bool r5.isSome)] else V.d (r5.getD ((.int .i64 0)))) (V.d (.int .i64 0))) (fun x6 =>
opsB C I R_o3 (St.mk (look [(1, (s 1)), (5, (s 5)), (8, (s 8)), (10, (s 10)), (26, (s 26)), (27, (s 27)), (28, (s 28)), (42, (V.d (D.bool true))), (47, x6)]) (looko ([10, 11, 52].map fun n => (n, o n)))) K)))))
 (opsB C I R_o3 (St.mk (look [(1, (s 1)), (5, (s 5)), (8, (s 8)), (10, (s 10)), (26, (s 26)), (27, (s 27)), (28, (s 28)), (42, (V.d (D.bool false))), (47, (V.tup []))]) (looko ([10, 11, 52].map fun n => (n, o n)))) K)
 (opsB C I R_o3 (St.mk (look [(1, (s 1)), (5, (s 5)), (8, (s 8)), (10, (s 10)), (26, (s 26)), (27, (s 27)), (28, (s 28)), (42, (V.tup [])), (47, (V.tup []))]) (looko ([10, 11, 52].map fun n => (n, o n)))) K)) := rfl

theorem g_book_alive_o1_sh {R_o2 : List AOper} {C : Ctx} {I : Nat → Prop} {s : Nat → V} {o : Nat → Option Ob} {K : St → Prop} : opsB C I (⟨some 41, .pick (.t 37) (.t 40) (.c (.d (.bool false))), [], [], none, none⟩ ::
     ⟨some 42, .mv (.t 41), [], [], none, (some ([1, 5, 8, 9, 10, 26, 27, 28, 42], (some [10, 11, 52])))⟩ ::
     R_o2) (St.mk s o) K =
 (demand (pickV (s 37) (s 40) (V.d (.bool false))) (fun x1 =>
opsB C I R_o2 (St.mk (look [(1, (s 1)), (5, (s 5)), (8, (s 8)), (9, (s 9)), (10, (s 10)), (26, (s 26)), (27, (s 27)), (28, (s 28)), (42, x1)]) (looko ([10, 11, 52].map fun n => (n, o n)))) K)) := rfl

theorem g_book_alive_o0_sh {R_o1 : List AOper} {C : Ctx} {I : Nat → Prop} {s : Nat → V} {o : Nat → Option Ob} {K : St → Prop} : opsB C I (⟨some 38, .faddr 4 (.t 10), [], [], (some (4, 37, true)), none⟩ ::
     ⟨some 39, .load none (.t 38), [], [], (some (4, 37, true)), none⟩ ::
     ⟨some 40, .bin .eql (.t 39) (.c (.d (.int .i64 0))), [], [], (some (4, 37, true)), (some ([1, 5, 8, 9, 10, 26, 27, 28, 37, 40], (some [10, 11, 52])))⟩ ::
     R_o1) (St.mk s o) K =
 (guardK (s 37) true
 (demand (faddrV 4 (s 10)) (fun x1 =>
demand (loadV o none x1) (fun x2 =>
demand (binV BinOp.eql x2 (V.d (.int .i64 0))) (fun x3 =>
opsB C I R_o1 (St.mk (look [(1, (s 1)), (5, (s 5)), (8, (s 8)), (9, (s 9)), (10, (s 10)), (26, (s 26)), (27, (s 27)), (28, (s 28)), (37, (V.d (D.bool true))), (40, x3)]) (looko ([10, 11, 52].map fun n => (n, o n)))) K))))
 (opsB C I R_o1 (St.mk (look [(1, (s 1)), (5, (s 5)), (8, (s 8)), (9, (s 9)), (10, (s 10)), (26, (s 26)), (27, (s 27)), (28, (s 28)), (37, (V.d (D.bool false))), (40, (V.tup []))]) (looko ([10, 11, 52].map fun n => (n, o n)))) K)
 (opsB C I R_o1 (St.mk (look [(1, (s 1)), (5, (s 5)), (8, (s 8)), (9, (s 9)), (10, (s 10)), (26, (s 26)), (27, (s 27)), (28, (s 28)), (37, (V.tup [])), (40, (V.tup []))]) (looko ([10, 11, 52].map fun n => (n, o n)))) K)) := rfl

theorem g_book_alive_c3_sh {C : Ctx} {I : Nat → Prop} {s : Nat → V} {o : Nat → Option Ob} {Q : Ex → St → Prop} : wpB C I (.cond (.t 48) (.region [1, 5, 8, 26, 27, 28] (some [11, 52]) none
    [⟨some 49, .mv (.t 8), [], [], none, none⟩,
     ⟨some 50, .load (some 22) (.t 10), [], [], none, none⟩,
     ⟨some 51, .bsl none 22 [] 1 [(0, (.t 50))], [], [], none, none⟩,
     ⟨some 52, .app (some 52) 22 256 (.t 49) (.t 51), [], [], none, none⟩,
     ⟨some 8, .mv (.t 52), [], [], none, none⟩])
 (.skip)) (St.mk s o) Q =
 (condK (s 48)
 (demand (loadV o (some 22) (s 10)) (fun x1 =>
lstK (partsN 22 [x1]) (fun es2 =>
lstK (readD o (V.d (D.sl es2))) (fun ys3 => (∀ e ∈ ys3, e.length = 22) ∧ appK (s 8)
 (ys3.length * 256 ≤ 140737488355328 ∧ ys3.length ≤ 140737488355328 ∧ ¬ I 52 ∧ Fresh (St.mk (upd (upd (upd s 49 (s 8)) 50 x1) 51 (V.d (D.sl es2))) o) 52 (some 52) ∧
Q .normal (St.mk (look [(1, (s 1)), (5, (s 5)), (8, (V.own 52)), (26, (s 26)), (27, (s 27)), (28, (s 28))]) (looko ([11, 52].map fun n => (n, (upd o 52 (some (Ob.row 22 ys3))) n)))))
 (fun m4 => ¬ I m4 ∧ rowK (o m4) (fun z5 es6 => z5 = 22 ∧ (es6.length + ys3.length) * 256 ≤ 140737488355328 ∧ es6.length + ys3.length ≤ 140737488355328 ∧
Q .normal (St.mk (look [(1, ((fun t => scrubV m4 (s t)) 1)), (5, ((fun t => scrubV m4 (s t)) 5)), (8, (V.own m4)), (26, ((fun t => scrubV m4 (s t)) 26)), (27, ((fun t => scrubV m4 (s t)) 27)), (28, ((fun t => scrubV m4 (s t)) 28))]) (looko ([11, 52].map fun n => (n, (upd (fun n => (o n).map (Ob.scrub m4)) m4 (some (Ob.row 22 (es6 ++ ys3)))) n))))))))))
 (Q .normal (St.mk s o))) := rfl

theorem g_book_alive_c4_sh {R_o0 : List AOper} {R_c3 : ACode} {C : Ctx} {I : Nat → Prop} {s : Nat → V} {o : Nat → Option Ob} {Q : Ex → St → Prop} : wpB C I (.seq (.region [1, 5, 8, 10, 26, 27, 28, 48] (some [10, 11, 52]) none
    (⟨some 33, .faddr 2 (.t 10), [], [], none, none⟩ ::
     ⟨some 34, .load none (.t 33), [], [], none, none⟩ ::
     ⟨some 35, .mv (.t 1), [], [], none, none⟩ ::
     ⟨some 36, .bin .eql (.t 34) (.t 35), [], [], none, none⟩ ::
     ⟨some 37, .mv (.t 36), [], [], none, (some ([1, 5, 8, 9, 10, 26, 27, 28, 37], (some [10, 11, 52])))⟩ ::
     R_o0))
 (R_c3)) (St.mk s o) Q =
 (demand (faddrV 2 (s 10)) (fun x1 =>
demand (loadV o none x1) (fun x2 =>
demand (binV BinOp.eql x2 (s 1)) (fun x3 =>
opsB C I R_o0 (St.mk (look [(1, (s 1)), (5, (s 5)), (8, (s 8)), (9, (s 9)), (10, (s 10)), (26, (s 26)), (27, (s 27)), (28, (s 28)), (37, x3)]) (looko ([10, 11, 52].map fun n => (n, o n)))) (fun st => (seqK (fun st => wpB C I R_c3 st Q) Q) .normal (St.trim st [1, 5, 8, 10, 26, 27, 28, 48] (some [10, 11, 52]))))))) := rfl

theorem g_book_alive_c5_sh {C : Ctx} {I : Nat → Prop} {s : Nat → V} {o : Nat → Option Ob} {Q : Ex → St → Prop} : wpB C I (.region [1, 5, 8, 26, 27, 28] (some [11, 52]) none
   [⟨some 53, .bin .add (.t 28) (.c (.d (.int .i64 1))), [], [], none, none⟩,
    ⟨some 28, .mv (.t 53), [], [], none, none⟩]) (St.mk s o) Q =
 (demand (binV BinOp.add (s 28) (V.d (.int .i64 1))) (fun x1 =>
Q .normal (St.mk (look [(1, (s 1)), (5, (s 5)), (8, (s 8)), (26, (s 26)), (27, (s 27)), (28, x1)]) (looko ([11, 52].map fun n => (n, o n)))))) := rfl

theorem g_book_alive_l1_sh {R_l1 : ACode} {R_c4 : ACode} {R_c5 : ACode} {C : Ctx} {I : Nat → Prop} {s : Nat → V} {o : Nat → Option Ob} {Q : Ex → St → Prop} (hL : R_l1 = .loop [1, 5, 8, 26, 27, 28] (some [11, 52]) (.seq (.region [1, 5, 8, 26, 27, 28, 29] (some [11, 52]) none
     [⟨some 29, .bin .lss (.t 28) (.t 27), [], [], none, none⟩])
  (.seq (.cond (.t 29) (.skip)
    (.exit 2))
   (.seq (.block 3 [1, 5, 8, 26, 27, 28] (some [11, 52]) (.seq (.region [1, 5, 8, 9, 10, 26, 27, 28] (some [10, 11, 52]) none
         [⟨some 30, .mv (.t 28), [], [], none, none⟩,
          ⟨some 31, .iaddr 22 (.t 26) (.t 28), [], [], none, none⟩,
          ⟨some 32, .load (some 22) (.t 31), [], [], none, none⟩,
          ⟨some 10, .alloc 10 [.d (.int .i64 0), .d (.int .i64 0), .d (.int .i64 0), .d (.int .i64 0), .d (.int .i64 0), .cap0, .d (.int .i64 0), .d (.int .i64 0), .d (.int .i64 0), .d (.int .i64 0), .d (.int .i64 0), .d (.int .i64 0), .d (.int .i64 0), .d (.int .i64 0), .d (.int .i64 0), .d (.int .i64 0), .d (.int .i64 0), .d (.int .i64 0), .cap0, .cap0, .cap0, .cap0], [], [], none, none⟩,
          ⟨some 9, .mv (.t 30), [], [], none, none⟩,
          ⟨none, .store 22 (.t 10) (.t 32), [], [], none, none⟩])
      (R_c4)))
    (R_c5)))))
 (h : demand (binV BinOp.lss (s 28) (s 27)) (fun x1 =>
condK x1
 (demand (iaddrV (looko ([11, 52].map fun n => (n, o n))) 22 (s 26) (s 28)) (fun x2 =>
demand (loadV (looko ([11, 52].map fun n => (n, o n))) (some 22) x2) (fun x3 =>
(¬ I 10 ∧ Fresh (St.mk (upd (upd (upd (look [(1, (s 1)), (5, (s 5)), (8, (s 8)), (26, (s 26)), (27, (s 27)), (28, (s 28)), (29, x1)]) 30 (s 28)) 31 x2) 32 x3) (looko ([11, 52].map fun n => (n, o n)))) 10 (some 10) ∧ V.refsL 10 [V.d (.int .i64 0), V.d (.int .i64 0), V.d (.int .i64 0), V.d (.int .i64 0), V.d (.int .i64 0), V.cap0, V.d (.int .i64 0), V.d (.int .i64 0), V.d (.int .i64 0), V.d (.int .i64 0), V.d (.int .i64 0), V.d (.int .i64 0), V.d (.int .i64 0), V.d (.int .i64 0), V.d (.int .i64 0), V.d (.int .i64 0), V.d (.int .i64 0), V.d (.int .i64 0), V.cap0, V.cap0, V.cap0, V.cap0] = false ∧
storeK (V.ptr 10 0) (cellsV x3) 22 (upd (looko ([11, 52].map fun n => (n, o n))) 10 (some (Ob.box [V.d (.int .i64 0), V.d (.int .i64 0), V.d (.int .i64 0), V.d (.int .i64 0), V.d (.int .i64 0), V.cap0, V.d (.int .i64 0), V.d (.int .i64 0), V.d (.int .i64 0), V.d (.int .i64 0), V.d (.int .i64 0), V.d (.int .i64 0), V.d (.int .i64 0), V.d (.int .i64 0), V.d (.int .i64 0), V.d (.int .i64 0), V.d (.int .i64 0), V.d (.int .i64 0), V.cap0, V.cap0, V.cap0, V.cap0]))) (fun m4 ob5 =>
wpB C I R_c4 (St.mk (look [(1, (s 1)), (5, (s 5)), (8, (s 8)), (9, (s 28)), (10, (V.ptr 10 0)), (26, (s 26)), (27, (s 27)), (28, (s 28))]) (looko ([10, 11, 52].map fun n => (n, (upd (upd (looko ([11, 52].map fun n => (n, o n))) 10 (some (Ob.box [V.d (.int .i64 0), V.d (.int .i64 0), V.d (.int .i64 0), V.d (.int .i64 0), V.d (.int .i64 0), V.cap0, V.d (.int .i64 0), V.d (.int .i64 0), V.d (.int .i64 0), V.d (.int .i64 0), V.d (.int .i64 0), V.d (.int .i64 0), V.d (.int .i64 0), V.d (.int .i64 0), V.d (.int .i64 0), V.d (.int .i64 0), V.d (.int .i64 0), V.d (.int .i64 0), V.cap0, V.cap0, V.cap0, V.cap0]))) m4 (some ob5)) n)))) (blockK 3 [1, 5, 8, 26, 27, 28] (some [11, 52]) (seqK (fun st => wpB C I R_c5 st (seqK (fun s => wpB C I R_l1 s Q) Q)) (seqK (fun s => wpB C I R_l1 s Q) Q))))))))
 (Q (.exit 2) (St.mk (look [(1, (s 1)), (5, (s 5)), (8, (s 8)), (26, (s 26)), (27, (s 27)), (28, (s 28)), (29, x1)]) (looko ([11, 52].map fun n => (n, o n))))))) : wpB C I R_l1 (St.mk s o) Q := w_loopC hL h

theorem g_book_alive_c6_sh {R_l1 : ACode} {C : Ctx} {I : Nat → Prop} {s : Nat → V} {o : Nat → Option Ob} {Q : Ex → St → Prop} : wpB C I (.block 2 [8] (some [52]) (R_l1)) (St.mk s o) Q =
 (wpB C I R_l1 (St.mk s o) (blockK 2 [8] (some [52]) Q)) := rfl

theorem g_book_alive_c7_sh {C : Ctx} {I : Nat → Prop} {s : Nat → V} {o : Nat → Option Ob} {Q : Ex → St → Prop} : wpB C I (.seq (.region [4] (some [52]) none
    [⟨some 54, .mv (.t 8), [], [], none, none⟩,
     ⟨some 4, .mv (.t 54), [], [], none, none⟩])
 (.ret)) (St.mk s o) Q =
 (Q .ret (St.mk (look [(4, (s 8))]) (looko ([52].map fun n => (n, o n))))) := rfl

theorem g_book_alive_c8_sh {R_c6 : ACode} {R_c7 : ACode} {C : Ctx} {I : Nat → Prop} {s : Nat → V} {o : Nat → Option Ob} {Q : Ex → St → Prop} : wpB C I (.seq (.region [1, 2, 5, 8] (some [2, 11, 52]) none
    [⟨some 8, .mv (.c (.cap0)), [], [], none, none⟩])
 (.seq (.seq (.region [1, 5, 8, 26, 27, 28] (some [11, 52]) none
      [⟨some 25, .faddr 0 (.t 2), [], [], none, none⟩,
       ⟨some 26, .load none (.t 25), [], [], none, none⟩,
       ⟨some 27, .len (.t 26), [], [], none, none⟩,
       ⟨some 28, .mv (.c (.d (.int .i64 0))), [], [], none, none⟩])
   (R_c6))
  (R_c7))) (St.mk s o) Q =
 (demand (faddrV 0 (s 2)) (fun x1 =>
demand (loadV (looko ([2, 11, 52].map fun n => (n, o n))) none x1) (fun x2 =>
demand (lenV (looko ([2, 11, 52].map fun n => (n, o n))) x2) (fun x3 =>
wpB C I R_c6 (St.mk (look [(1, (s 1)), (5, (s 5)), (8, (V.cap0)), (26, x2), (27, x3), (28, (V.d (.int .i64 0)))]) (looko ([11, 52].map fun n => (n, o n)))) (seqK (fun st => wpB C I R_c7 st Q) Q))))) := rfl

theorem g_book_alive_code_sh {R_c2 : ACode} {R_c8 : ACode} {C : Ctx} {I : Nat → Prop} {s : Nat → V} {o : Nat → Option Ob} {Q : Ex → St → Prop} : wpB C I (.seq (.region [1, 2] (some [2]) none
    [⟨some 2, .box 2 1 (.t 0), [], [], none, none⟩,
     ⟨some 4, .mv (.c (.cap0)), [], [], none, none⟩])
 (.seq (.region [1, 2, 5] (some [2, 11]) none
     [⟨some 11, .mkmap 11, [], [], none, none⟩,
      ⟨some 5, .mv (.t 11), [], [], none, none⟩])
  (.seq (.seq (.region [1, 2, 5, 13, 14, 15] (some [2, 11]) none
       [⟨some 12, .faddr 0 (.t 2), [], [], none, none⟩,
        ⟨some 13, .load none (.t 12), [], [], none, none⟩,
        ⟨some 14, .len (.t 13), [], [], none, none⟩,
        ⟨some 15, .mv (.c (.d (.int .i64 0))), [], [], none, none⟩])
    (R_c2))
   (R_c8)))) (St.mk s o) Q =
 (lstK (cellsV (s 0)) (fun c1 => c1.length = 1 ∧ ¬ I 2 ∧ Fresh (St.mk s o) 2 (some 2) ∧ V.refsL 2 c1 = false ∧
(¬ I 11 ∧ Fresh (St.mk (look [(1, (s 1)), (2, (V.ptr 2 0))]) (looko ([2].map fun n => (n, (upd o 2 (some (Ob.box c1))) n)))) 11 (some 11) ∧
demand (faddrV 0 (V.ptr 2 0)) (fun x2 =>
demand (loadV (looko ([2, 11].map fun n => (n, (upd (looko ([2].map fun n => (n, (upd o 2 (some (Ob.box c1))) n))) 11 (some (Ob.map []))) n))) none x2) (fun x3 =>
demand (lenV (looko ([2, 11].map fun n => (n, (upd (looko ([2].map fun n => (n, (upd o 2 (some (Ob.box c1))) n))) 11 (some (Ob.map []))) n))) x3) (fun x4 =>
wpB C I R_c2 (St.mk (look [(1, (s 1)), (2, (V.ptr 2 0)), (5, (V.mref 11)), (13, x3), (14, x4), (15, (V.d (.int .i64 0)))]) (looko ([2, 11].map fun n => (n, (upd (looko ([2].map fun n => (n, (upd o 2 (some (Ob.box c1))) n))) 11 (some (Ob.map []))) n)))) (seqK (fun st => wpB C I R_c8 st Q) Q))))))) := rfl

theorem g_book_add_c0_sh {C : Ctx} {I : Nat → Prop} {s : Nat → V} {o : Nat → Option Ob} {Q : Ex → St → Prop} : wpB C I (.region [0, 1, 6, 7] none none
   [⟨some 24, .bin .add (.t 7) (.c (.d (.int .i64 1))), [], [], none, none⟩,
    ⟨some 7, .mv (.t 24), [], [], none, none⟩]) (St.mk s o) Q =
 (demand (binV BinOp.add (s 7) (V.d (.int .i64 1))) (fun x1 =>
Q .normal (St.mk (look [(0, (s 0)), (1, (s 1)), (6, (s 6)), (7, x1)]) o))) := rfl

theorem g_book_add_l0_sh {R_l0 : ACode} {R_c0 : ACode} {C : Ctx} {I : Nat → Prop} {s : Nat → V} {o : Nat → Option Ob} {Q : Ex → St → Prop} (hL : R_l0 = .loop [0, 1, 6, 7] none (.seq (.region [0, 1, 6, 7, 8] none none
     [⟨some 8, .bin .lss (.t 7) (.t 6), [], [], none, none⟩])
  (.seq (.cond (.t 8) (.skip)
    (.exit 0))
   (.seq (.block 1 [0, 1, 6, 7] none (.seq (.region [0, 1, 4, 6, 7] none none
         [⟨some 9, .mv (.t 7), [], [], none, none⟩,
          ⟨some 4, .mv (.t 9), [], [], none, none⟩])
      (.seq (.region [0, 1, 4, 6, 7, 13] none none
          [⟨some 10, .mv (.t 4), [], [], none, none⟩,
           ⟨some 11, .mv (.t 1), [], [], none, none⟩,
           ⟨some 12, .len (.t 11), [], [], none, none⟩,
           ⟨some 13, .bin .lss (.t 10) (.t 12), [], [], none, none⟩])
       (.cond (.t 13) (.region [0, 1, 6, 7] none (some ([1, 4, 5, 6, 7], .one 0 (.one 2 (.one 3 (.one 8 (.one 9 (.one 10 (.done))))))))
           [⟨some 14, .mv (.t 0), [], [], none, none⟩,
            ⟨some 15, .mv (.t 4), [], [], none, none⟩,
            ⟨some 16, .iaddr 1 (.t 14) (.t 15), [], [0, 1], none, none⟩,
            ⟨some 17, .load none (.t 16), [], [2], none, none⟩,
            ⟨some 18, .mv (.t 1), [], [], none, none⟩,
            ⟨some 19, .mv (.t 4), [], [], none, none⟩,
            ⟨some 20, .iaddr 1 (.t 18) (.t 19), [], [4, 5], none, none⟩,
            ⟨some 21, .load none (.t 20), [], [6], none, none⟩,
            ⟨some 22, .bin .add (.t 17) (.t 21), [], [3, 7], none, none⟩,
            ⟨some 23, .iaddr 1 (.t 14) (.t 15), [], [0, 1, 0, 1, 2, 3, 4, 5, 6, 7, 8], none, none⟩,
            ⟨none, .store 1 (.t 23) (.t 22), [], [9, 8, 0, 1, 2, 3, 4, 5, 6, 7, 8], none, none⟩])
        (.skip)))))
    (R_c0)))))
 (h : demand (binV BinOp.lss (s 7) (s 6)) (fun x1 =>
condK x1
 (demand (lenV o (s 1)) (fun x2 =>
demand (binV BinOp.lss (s 7) x2) (fun x3 =>
condK x3
 (V.undef = V.undef ∧ (quietV o ((s 7) :: [(s 7)]) ∧
V.undef = V.undef ∧ (quietV o ((s 1) :: [(s 1)]) ∧
V.undef = V.undef ∧ (quietV o ((s 7) :: [(s 7)]) ∧
V.undef = V.undef ∧ (demand (iaddrV o 1 (s 1) (s 7)) (fun x7 => quietV o (x7 :: [(s 1), (s 7)]) ∧
V.undef = V.undef ∧ (demand (loadV o none x7) (fun x8 => quietV o (x8 :: [x7]) ∧
(([] : List Nat) = [] ∧ ((([] : List Nat) = [] ∧ (demand (iaddrV o 1 (s 0) (s 7)) (fun x9 =>
(([] : List Nat) = [] ∧ (demand (loadV o none x9) (fun x10 =>
(([] : List Nat) = [] ∧ (demand (binV BinOp.add x10 x8) (fun x11 =>
(([] : List Nat) = [] ∧ (demand (iaddrV o 1 (s 0) (s 7)) (fun x12 =>
(([] : List Nat) = [] ∧ (storeK x12 (cellsV x11) 1 o (fun m13 ob14 =>
wpB C I R_c0 (St.mk (look [(0, (s 0)), (1, (s 1)), (6, (s 6)), (7, (s 7))]) (upd o m13 (some ob14))) (seqK (fun s => wpB C I R_l0 s Q) Q))))))))))))))))))))))))))
 (wpB C I R_c0 (St.mk (look [(0, (s 0)), (1, (s 1)), (6, (s 6)), (7, (s 7))]) o) (seqK (fun s => wpB C I R_l0 s Q) Q)))))
 (Q (.exit 0) (St.mk (look [(0, (s 0)), (1, (s 1)), (6, (s 6)), (7, (s 7)), (8, x1)]) o)))) : wpB C I R_l0 (St.mk s o) Q := w_loopC hL h

theorem g_book_add_code_sh {R_l0 : ACode} {C : Ctx} {I : Nat → Prop} {s : Nat → V} {o : Nat → Option Ob} {Q : Ex → St → Prop} : wpB C I (.seq (.region [0, 1, 6, 7] none none
    [⟨some 5, .mv (.t 0), [], [], none, none⟩,
     ⟨some 6, .len (.t 5), [], [], none, none⟩,
     ⟨some 7, .mv (.c (.d (.int .i64 0))), [], [], none, none⟩])
 (.block 0 [] none (R_l0))) (St.mk s o) Q =
 (demand (lenV o (s 0)) (fun x1 =>
wpB C I R_l0 (St.mk (look [(0, (s 0)), (1, (s 1)), (6, x1), (7, (V.d (.int .i64 0)))]) o) (blockK 0 [] none Q))) := rfl

theorem g_slices_Clone_Order_code_sh {C : Ctx} {I : Nat → Prop} {s : Nat → V} {o : Nat → Option Ob} {Q : Ex → St → Prop} : wpB C I (.seq (.region [0] (some []) none
    [⟨some 2, .mv (.c (.cap0)), [], [], none, none⟩])
 (.seq (.seq (.region [0, 4] (some []) none
      [⟨some 3, .mv (.t 0), [], [], none, none⟩,
       ⟨some 4, .nilS false (.t 3), [], [], none, none⟩])
   (.cond (.t 4) (.seq (.region [2] (some [5, 7]) none
        [⟨some 2, .mv (.c (.cap0)), [], [], none, none⟩])
     (.ret))
    (.skip)))
  (.seq (.region [2] (some [5, 7]) none
      [⟨some 5, .bsl (some 5) 4 [] 0 [], [], [], none, none⟩,
       ⟨some 6, .mv (.t 0), [], [], none, none⟩,
       ⟨some 7, .app (some 7) 4 32 (.t 5) (.t 6), [], [], none, none⟩,
       ⟨some 2, .mv (.t 7), [], [], none, none⟩])
   (.ret)))) (St.mk s o) Q =
 (nilSK false (s 0) (fun x1 =>
condK x1
 (Q .ret (St.mk (look [(2, (V.cap0))]) (looko ([5, 7].map fun n => (n, (looko ([].map fun n => (n, o n))) n)))))
 (lstK (readD (looko ([].map fun n => (n, o n))) (s 0)) (fun ys3 => (∀ e ∈ ys3, e.length = 4) ∧ appK V.cap0
 (ys3.length * 32 ≤ 140737488355328 ∧ ys3.length ≤ 140737488355328 ∧ ¬ I 7 ∧ Fresh (St.mk (upd (upd (look [(0, (s 0)), (4, x1)]) 5 V.cap0) 6 (s 0)) (looko ([].map fun n => (n, o n)))) 7 (some 7) ∧
Q .ret (St.mk (look [(2, (V.own 7))]) (looko ([5, 7].map fun n => (n, (upd (looko ([].map fun n => (n, o n))) 7 (some (Ob.row 4 ys3))) n)))))
 (fun m4 => ¬ I m4 ∧ rowK ((looko ([].map fun n => (n, o n))) m4) (fun z5 es6 => z5 = 4 ∧ (es6.length + ys3.length) * 32 ≤ 140737488355328 ∧ es6.length + ys3.length ≤ 140737488355328 ∧
Q .ret (St.mk (look [(2, (V.own m4))]) (looko ([5, 7].map fun n => (n, (upd (fun n => ((looko ([].map fun n => (n, o n))) n).map (Ob.scrub m4)) m4 (some (Ob.row 4 (es6 ++ ys3)))) n)))))))))) := rfl

theorem g_book_Known_1_code_sh {C : Ctx} {I : Nat → Prop} {s : Nat → V} {o : Nat → Option Ob} {Q : Ex → St → Prop} : wpB C I (.seq (.region [1, 2] none none
    [⟨some 2, .box 2 3 (.t 0), [], [], none, none⟩])
 (.region [] none none
    [⟨some 3, .faddr 0 (.t 1), [], [], none, none⟩,
     ⟨some 4, .load none (.t 3), [], [], none, none⟩,
     ⟨some 5, .faddr 0 (.t 2), [], [], none, none⟩,
     ⟨some 6, .load none (.t 5), [], [], none, none⟩,
     ⟨some 7, .bin .add (.t 4) (.t 6), [], [], none, none⟩,
     ⟨some 8, .faddr 1 (.t 1), [], [], none, none⟩,
     ⟨some 9, .load none (.t 8), [], [], none, none⟩,
     ⟨some 10, .faddr 1 (.t 2), [], [], none, none⟩,
     ⟨some 11, .load none (.t 10), [], [], none, none⟩,
     ⟨some 12, .bin .add (.t 9) (.t 11), [], [], none, none⟩,
     ⟨some 13, .faddr 2 (.t 1), [], [], none, none⟩,
     ⟨some 14, .load none (.t 13), [], [], none, none⟩,
     ⟨some 15, .faddr 2 (.t 2), [], [], none, none⟩,
     ⟨some 16, .load none (.t 15), [], [], none, none⟩,
     ⟨some 17, .bin .add (.t 14) (.t 16), [], [], none, none⟩,
     ⟨some 18, .build [.d (.int .i64 0), .d (.int .i64 0), .d (.int .i64 0)] [(0, 1, (.t 7)), (1, 1, (.t 12)), (2, 1, (.t 17))], [], [], none, none⟩,
     ⟨none, .store 3 (.t 1) (.t 18), [], [], none, none⟩])) (St.mk s o) Q =
 (lstK (cellsV (s 0)) (fun c1 => c1.length = 3 ∧ ¬ I 2 ∧ Fresh (St.mk s o) 2 (some 2) ∧ V.refsL 2 c1 = false ∧
demand (faddrV 0 (s 1)) (fun x2 =>
demand (loadV (upd o 2 (some (Ob.box c1))) none x2) (fun x3 =>
demand (faddrV 0 (V.ptr 2 0)) (fun x4 =>
demand (loadV (upd o 2 (some (Ob.box c1))) none x4) (fun x5 =>
demand (binV BinOp.add x3 x5) (fun x6 =>
demand (faddrV 1 (s 1)) (fun x7 =>
demand (loadV (upd o 2 (some (Ob.box c1))) none x7) (fun x8 =>
demand (faddrV 1 (V.ptr 2 0)) (fun x9 =>
demand (loadV (upd o 2 (some (Ob.box c1))) none x9) (fun x10 =>
demand (binV BinOp.add x8 x10) (fun x11 =>
demand (faddrV 2 (s 1)) (fun x12 =>
demand (loadV (upd o 2 (some (Ob.box c1))) none x12) (fun x13 =>
demand (faddrV 2 (V.ptr 2 0)) (fun x14 =>
demand (loadV (upd o 2 (some (Ob.box c1))) none x14) (fun x15 =>
demand (binV BinOp.add x13 x15) (fun x16 =>
demand ((buildN [V.d (.int .i64 0), V.d (.int .i64 0), V.d (.int .i64 0)] [(0, 1, x6), (1, 1, x11), (2, 1, x16)]).map V.agg) (fun x17 =>
storeK (s 1) (cellsV x17) 3 (upd o 2 (some (Ob.box c1))) (fun m18 ob19 =>
Q .normal (St.mk (look []) (upd (upd o 2 (some (Ob.box c1))) m18 (some ob19)))))))))))))))))))))) := rfl

theorem g_slices_IndexFunc_Entry_c0_sh {C : Ctx} {I : Nat → Prop} {s : Nat → V} {o : Nat → Option Ob} {Q : Ex → St → Prop} : wpB C I (.region [0, 1, 7, 8] none none
   [⟨some 18, .bin .add (.t 8) (.c (.d (.int .i64 1))), [], [], none, none⟩,
    ⟨some 8, .mv (.t 18), [], [], none, none⟩]) (St.mk s o) Q =
 (demand (binV BinOp.add (s 8) (V.d (.int .i64 1))) (fun x1 =>
Q .normal (St.mk (look [(0, (s 0)), (1, (s 1)), (7, (s 7)), (8, x1)]) o))) := rfl

theorem g_slices_IndexFunc_Entry_l0_sh {R_l0 : ACode} {R_c0 : ACode} {C : Ctx} {I : Nat → Prop} {s : Nat → V} {o : Nat → Option Ob} {Q : Ex → St → Prop} (hL : R_l0 = .loop [0, 1, 7, 8] none (.seq (.region [0, 1, 7, 8, 9] none none
     [⟨some 9, .bin .lss (.t 8) (.t 7), [], [], none, none⟩])
  (.seq (.cond (.t 9) (.skip)
    (.exit 0))
   (.seq (.block 1 [0, 1, 7, 8] none (.seq (.region [0, 1, 5, 7, 8] none none
         [⟨some 10, .mv (.t 8), [], [], none, none⟩,
          ⟨some 5, .mv (.t 10), [], [], none, none⟩])
      (.seq (.region [0, 1, 5, 7, 8, 16] none none
          [⟨some 11, .mv (.t 1), [], [], none, none⟩,
           ⟨some 12, .mv (.t 0), [], [], none, none⟩,
           ⟨some 13, .mv (.t 5), [], [], none, none⟩,
           ⟨some 14, .iaddr 22 (.t 12) (.t 13), [], [], none, none⟩,
           ⟨some 15, .load (some 22) (.t 14), [], [], none, none⟩,
           ⟨some 16, .callv (.t 11) [(.t 15)], [], [], none, none⟩])
       (.cond (.t 16) (.seq (.region [4] none none
            [⟨some 17, .mv (.t 5), [], [], none, none⟩,
             ⟨some 4, .mv (.t 17), [], [], none, none⟩])
         (.ret))
        (.skip)))))
    (R_c0)))))
 (h : demand (binV BinOp.lss (s 8) (s 7)) (fun x1 =>
condK x1
 (demand (iaddrV o 22 (s 0) (s 8)) (fun x2 =>
demand (loadV o (some 22) x2) (fun x3 =>
fnK (s 1) (fun f5 cs6 => callK C I (St.mk (upd (upd (upd (upd (upd (look [(0, (s 0)), (1, (s 1)), (5, (s 8)), (7, (s 7)), (8, (s 8))]) 11 (s 1)) 12 (s 0)) 13 (s 8)) 14 x2) 15 x3) o) (some 16) f5 ([x3] ++ cs6) (fun r4 or4 =>
condK r4
 (Q .ret (St.mk (look [(4, (s 8))]) or4))
 (wpB C I R_c0 (St.mk (look [(0, (s 0)), (1, (s 1)), (7, (s 7)), (8, (s 8))]) or4) (seqK (fun s => wpB C I R_l0 s Q) Q)))))))
 (Q (.exit 0) (St.mk (look [(0, (s 0)), (1, (s 1)), (7, (s 7)), (8, (s 8)), (9, x1)]) o)))) : wpB C I R_l0 (St.mk s o) Q := w_loopC hL h

theorem g_slices_IndexFunc_Entry_c1_sh {C : Ctx} {I : Nat → Prop} {s : Nat → V} {o : Nat → Option Ob} {Q : Ex → St → Prop} : wpB C I (.seq (.region [4] none none
    [⟨some 4, .mv (.c (.d (.int .i64 (-1)))), [], [], none, none⟩])
 (.ret)) (St.mk s o) Q =
 (Q .ret (St.mk (look [(4, (V.d (.int .i64 (-1))))]) o)) := rfl

theorem g_slices_IndexFunc_Entry_code_sh {R_l0 : ACode} {R_c1 : ACode} {C : Ctx} {I : Nat → Prop} {s : Nat → V} {o : Nat → Option Ob} {Q : Ex → St → Prop} : wpB C I (.seq (.region [0, 1] none none
    [⟨some 4, .mv (.c (.d (.int .i64 0))), [], [], none, none⟩])
 (.seq (.seq (.region [0, 1, 7, 8] none none
      [⟨some 6, .mv (.t 0), [], [], none, none⟩,
       ⟨some 7, .len (.t 6), [], [], none, none⟩,
       ⟨some 8, .mv (.c (.d (.int .i64 0))), [], [], none, none⟩])
   (.block 0 [] none (R_l0)))
  (R_c1))) (St.mk s o) Q =
 (demand (lenV o (s 0)) (fun x1 =>
wpB C I R_l0 (St.mk (look [(0, (s 0)), (1, (s 1)), (7, x1), (8, (V.d (.int .i64 0)))]) o) (blockK 0 [] none (seqK (fun st => wpB C I R_c1 st Q) Q)))) := rfl
end Pay
