/- What the code of one function comes to, without slots: an equation for each part; no condition. -/
import Derived.Test.YtbhjjheefdilbaaPayU
import Derived.Test.YtbhjjheefdilbaaPayBkCode
set_option maxRecDepth 20000
set_option maxHeartbeats 400000
set_option linter.unusedVariables false
namespace Pay
open Go
theorem g_book_add_c0_sh {C : Ctx} {I : Nat → Prop} {s : Nat → V} {o : Nat → Option Ob} {Q : Ex → St → Prop} : wpB C I (.region [0, 1, 6, 7] none none
   [⟨some 24, .bin .add (.t 7) (.c (.d (.int .i64 1))), [], [], none, none⟩,
    ⟨some 7, .mv (.t 24), [], [], none, none⟩]) (St.mk s o) Q =
 (demand (binV BinOp.add (s 7) (V.d (.int .i64 1))) (fun x1 =>
Q .normal (St.mk (look [(0, (s 0)), (1, (s 1)), (6, (s 6)), (7, x1)]) o))) := rfl

theorem g_book_add_l0_sh {R_l0 : ACode} {R_c0 : ACode} {C : Ctx} {I : Nat → Prop} {s : Nat → V} {o : Nat → Option Ob} {Q : Ex → St → Prop} (hL : R_l0 = .loop [0, 1, 6, 7] none (.seq (.region [0, 1, 6, 7, 8] none none
     [⟨some 8, .bin .lss (.t 7) (.t 6), [], [], none, none⟩])
  (.seq (.cond (.t 8) (.skip)
    (.exit 0))
   (.seq (.block 1 [0, 1, 6, 7] none (.seq (.region [0, 1, 4, 6, 7] none none
         [⟨some 9, .mv (.t 7), [], [], none, none⟩,
          ⟨some 4, .mv (.t 9), [], [], none, none⟩])
      (.seq (.region [0, 1, 4, 6, 7, 13] none none
          [⟨some 10, .mv (.t 4), [], [], none, none⟩,
           ⟨some 11, .mv (.t 1), [], [], none, none⟩,
           ⟨some 12, .len (.t 11), [], [], none, none⟩,
           ⟨some 13, .bin .lss (.t 10) (.t 12), [], [], none, none⟩])
       (.cond (.t 13) (.region [0, 1, 6, 7] none (some ([1, 4, 5, 6, 7], .one 0 (.one 2 (.one 3 (.one 8 (.one 9 (.one 10 (.done))))))))
           [⟨some 14, .mv (.t 0), [], [], none, none⟩,
            ⟨some 15, .mv (.t 4), [], [], none, none⟩,
            ⟨some 16, .iaddr 1 (.t 14) (.t 15), [], [0, 1], none, none⟩,
            ⟨some 17, .load none (.t 16), [], [2], none, none⟩,
            ⟨some 18, .mv (.t 1), [], [], none, none⟩,
            ⟨some 19, .mv (.t 4), [], [], none, none⟩,
            ⟨some 20, .iaddr 1 (.t 18) (.t 19), [], [4, 5], none, none⟩,
            ⟨some 21, .load none (.t 20), [], [6], none, none⟩,
            ⟨some 22, .bin .add (.t 17) (.t 21), [], [3, 7], none, none⟩,
            ⟨some 23, .iaddr 1 (.t 14) (.t 15), [], [0, 1, 0, 1, 2, 3, 4, 5, 6, 7, 8], none, none⟩,
            ⟨none, .store 1 (.t 23) (.t 22), [], [9, 8, 0, 1, 2, 3, 4, 5, 6, 7, 8], none, none⟩])
        (.skip)))))
    (R_c0)))))
 (h : demand (binV BinOp.lss (s 7) (s 6)) (fun x1 =>
condK x1
 (demand (lenV o (s 1)) (fun x2 =>
demand (binV BinOp.lss (s 7) x2) (fun x3 =>
condK x3
 (V.undef = V.undef ∧ (quietV o ((s 7) :: [(s 7)]) ∧
V.undef = V.undef ∧ (quietV o ((s 1) :: [(s 1)]) ∧
V.undef = V.undef ∧ (quietV o ((s 7) :: [(s 7)]) ∧
V.undef = V.undef ∧ (demand (iaddrV o 1 (s 1) (s 7)) (fun x7 => quietV o (x7 :: [(s 1), (s 7)]) ∧
V.undef = V.undef ∧ (demand (loadV o none x7) (fun x8 => quietV o (x8 :: [x7]) ∧
(([] : List Nat) = [] ∧ ((([] : List Nat) = [] ∧ (demand (iaddrV o 1 (s 0) (s 7)) (fun x9 =>
(([] : List Nat) = [] ∧ (demand (loadV o none x9) (fun x10 =>
(([] : List Nat) = [] ∧ (demand (binV BinOp.add x10 x8) (fun x11 =>
(([] : List Nat) = [] ∧ (demand (iaddrV o 1 (s 0) (s 7)) (fun x12 =>
(([] : List Nat) = [] ∧ (storeK x12 (cellsV x11) 1 o (fun m13 ob14 =>
wpB C I R_c0 (St.mk (look [(0, (s 0)), (1, (s 1)), (6, (s 6)), (7, (s 7))]) (upd o m13 (some ob14))) (seqK (fun s => wpB C I R_l0 s Q) Q))))))))))))))))))))))))))
 (wpB C I R_c0 (St.mk (look [(0, (s 0)), (1, (s 1)), (6, (s 6)), (7, (s 7))]) o) (seqK (fun s => wpB C I R_l0 s Q) Q)))))
 (Q (.exit 0) (St.mk (look [(0, (s 0)), (1, (s 1)), (6, (s 6)), (7, (s 7)), (8, x1)]) o)))) : wpB C I R_l0 (St.mk s o) Q := w_loopC hL h

theorem g_book_add_code_sh {R_l0 : ACode} {C : Ctx} {I : Nat → Prop} {s : Nat → V} {o : Nat → Option Ob} {Q : Ex → St → Prop} : wpB C I (.seq (.region [0, 1, 6, 7] none none
    [⟨some 5, .mv (.t 0), [], [], none, none⟩,
     ⟨some 6, .len (.t 5), [], [], none, none⟩,
     ⟨some 7, .mv (.c (.d (.int .i64 0))), [], [], none, none⟩])
 (.block 0 [] none (R_l0))) (St.mk s o) Q =
 (demand (lenV o (s 0)) (fun x1 =>
wpB C I R_l0 (St.mk (look [(0, (s 0)), (1, (s 1)), (6, x1), (7, (V.d (.int .i64 0)))]) o) (blockK 0 [] none Q))) := rfl


end Pay
