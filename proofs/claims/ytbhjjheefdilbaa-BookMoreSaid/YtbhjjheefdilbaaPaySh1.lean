/- What the code of the functions comes to, without slots: an equation for each part; no condition. -/
import Derived.Test.YtbhjjheefdilbaaPayU
import Derived.Test.YtbhjjheefdilbaaPayBkCode
set_option maxRecDepth 20000
set_option maxHeartbeats 400000
set_option linter.unusedVariables false
namespace Pay
open Go
theorem g_book_alive_c8_sh {R_c6 : ACode} {R_c7 : ACode} {C : Ctx} {I : Nat → Prop} {s : Nat → V} {o : Nat → Option Ob} {Q : Ex → St → Prop} : wpB C I (.seq (.region [1, 2, 5, 8] (some [2, 11, 52]) none
    [⟨some 8, .mv (.c (.cap0)), [], [], none, none⟩])
 (.seq (.seq (.region [1, 5, 8, 26, 27, 28] (some [11, 52]) none
      [⟨some 25, .faddr 0 (.t 2), [], [], none, none⟩,
       ⟨some 26, .load none (.t 25), [], [], none, none⟩,
       ⟨some 27, .len (.t 26), [], [], none, none⟩,
       ⟨some 28, .mv (.c (.d (.int .i64 0))), [], [], none, none⟩])
   (R_c6))
  (R_c7))) (St.mk s o) Q =
 (demand (faddrV 0 (s 2)) (fun x1 =>
demand (loadV (looko ([2, 11, 52].map fun n => (n, o n))) none x1) (fun x2 =>
demand (lenV (looko ([2, 11, 52].map fun n => (n, o n))) x2) (fun x3 =>
wpB C I R_c6 (St.mk (look [(1, (s 1)), (5, (s 5)), (8, (V.cap0)), (26, x2), (27, x3), (28, (V.d (.int .i64 0)))]) (looko ([11, 52].map fun n => (n, o n)))) (seqK (fun st => wpB C I R_c7 st Q) Q))))) := rfl

theorem g_book_alive_code_sh {R_c2 : ACode} {R_c8 : ACode} {C : Ctx} {I : Nat → Prop} {s : Nat → V} {o : Nat → Option Ob} {Q : Ex → St → Prop} : wpB C I (.seq (.region [1, 2] (some [2]) none
    [⟨some 2, .box 2 1 (.t 0), [], [], none, none⟩,
     ⟨some 4, .mv (.c (.cap0)), [], [], none, none⟩])
 (.seq (.region [1, 2, 5] (some [2, 11]) none
     [⟨some 11, .mkmap 11, [], [], none, none⟩,
      ⟨some 5, .mv (.t 11), [], [], none, none⟩])
  (.seq (.seq (.region [1, 2, 5, 13, 14, 15] (some [2, 11]) none
       [⟨some 12, .faddr 0 (.t 2), [], [], none, none⟩,
        ⟨some 13, .load none (.t 12), [], [], none, none⟩,
        ⟨some 14, .len (.t 13), [], [], none, none⟩,
        ⟨some 15, .mv (.c (.d (.int .i64 0))), [], [], none, none⟩])
    (R_c2))
   (R_c8)))) (St.mk s o) Q =
 (lstK (cellsV (s 0)) (fun c1 => c1.length = 1 ∧ ¬ I 2 ∧ Fresh (St.mk s o) 2 (some 2) ∧ V.refsL 2 c1 = false ∧
(¬ I 11 ∧ Fresh (St.mk (look [(1, (s 1)), (2, (V.ptr 2 0))]) (looko ([2].map fun n => (n, (upd o 2 (some (Ob.box c1))) n)))) 11 (some 11) ∧
demand (faddrV 0 (V.ptr 2 0)) (fun x2 =>
demand (loadV (looko ([2, 11].map fun n => (n, (upd (looko ([2].map fun n => (n, (upd o 2 (some (Ob.box c1))) n))) 11 (some (Ob.map []))) n))) none x2) (fun x3 =>
demand (lenV (looko ([2, 11].map fun n => (n, (upd (looko ([2].map fun n => (n, (upd o 2 (some (Ob.box c1))) n))) 11 (some (Ob.map []))) n))) x3) (fun x4 =>
wpB C I R_c2 (St.mk (look [(1, (s 1)), (2, (V.ptr 2 0)), (5, (V.mref 11)), (13, x3), (14, x4), (15, (V.d (.int .i64 0)))]) (looko ([2, 11].map fun n => (n, (upd (looko ([2].map fun n => (n, (upd o 2 (some (Ob.box c1))) n))) 11 (some (Ob.map []))) n)))) (seqK (fun st => wpB C I R_c8 st Q) Q))))))) := rfl

theorem g_book_add_c0_sh {C : Ctx} {I : Nat → Prop} {s : Nat → V} {o : Nat → Option Ob} {Q : Ex → St → Prop} : wpB C I (.region [0, 1, 6, 7] none none
   [⟨some 24, .bin .add (.t 7) (.c (.d (.int .i64 1))), [], [], none, none⟩,
    ⟨some 7, .mv (.t 24), [], [], none, none⟩]) (St.mk s o) Q =
 (demand (binV BinOp.add (s 7) (V.d (.int .i64 1))) (fun x1 =>
Q .normal (St.mk (look [(0, (s 0)), (1, (s 1)), (6, (s 6)), (7, x1)]) o))) := rfl

theorem g_book_add_l0_sh {R_l0 : ACode} {R_c0 : ACode} {C : Ctx} {I : Nat → Prop} {s : Nat → V} {o : Nat → Option Ob} {Q : Ex → St → Prop} (hL : R_l0 = .loop [0, 1, 6, 7] none (.seq (.region [0, 1, 6, 7, 8] none none
     [⟨some 8, .bin .lss (.t 7) (.t 6), [], [], none, none⟩])
  (.seq (.cond (.t 8) (.skip)
    (.exit 0))
   (.seq (.block 1 [0, 1, 6, 7] none (.seq (.region [0, 1, 4, 6, 7] none none
         [⟨some 9, .mv (.t 7), [], [], none, none⟩,
          ⟨some 4, .mv (.t 9), [], [], none, none⟩])
      (.seq (.region [0, 1, 4, 6, 7, 13] none none
          [⟨some 10, .mv (.t 4), [], [], none, none⟩,
           ⟨some 11, .mv (.t 1), [], [], none, none⟩,
           ⟨some 12, .len (.t 11), [], [], none, none⟩,
           ⟨some 13, .bin .lss (.t 10) (.t 12), [], [], none, none⟩])
       (.cond (.t 13) (.region [0, 1, 6, 7] none (some ([1, 4, 5, 6, 7], .one 0 (.one 2 (.one 3 (.one 8 (.one 9 (.one 10 (.done))))))))
           [⟨some 14, .mv (.t 0), [], [], none, none⟩,
            ⟨some 15, .mv (.t 4), [], [], none, none⟩,
            ⟨some 16, .iaddr 1 (.t 14) (.t 15), [], [0, 1], none, none⟩,
            ⟨some 17, .load none (.t 16), [], [2], none, none⟩,
            ⟨some 18, .mv (.t 1), [], [], none, none⟩,
            ⟨some 19, .mv (.t 4), [], [], none, none⟩,
            ⟨some 20, .iaddr 1 (.t 18) (.t 19), [], [4, 5], none, none⟩,
            ⟨some 21, .load none (.t 20), [], [6], none, none⟩,
            ⟨some 22, .bin .add (.t 17) (.t 21), [], [3, 7], none, none⟩,
            ⟨some 23, .iaddr 1 (.t 14) (.t 15), [], [0, 1, 0, 1, 2, 3, 4, 5, 6, 7, 8], none, none⟩,
            ⟨none, .store 1 (.t 23) (.t 22), [], [9, 8, 0, 1, 2, 3, 4, 5, 6, 7, 8], none, none⟩])
        (.skip)))))
    (R_c0)))))
 (h : demand (binV BinOp.lss (s 7) (s 6)) (fun x1 =>
condK x1
 (demand (lenV o (s 1)) (fun x2 =>
demand (binV BinOp.lss (s 7) x2) (fun x3 =>
condK x3
 (V.undef = V.undef ∧ (quietV o ((s 7) :: [(s 7)]) ∧
V.undef = V.undef ∧ (quietV o ((s 1) :: [(s 1)]) ∧
V.undef = V.undef ∧ (quietV o ((s 7) :: [(s 7)]) ∧
V.undef = V.undef ∧ (demand (iaddrV o 1 (s 1) (s 7)) (fun x7 => quietV o (x7 :: [(s 1), (s 7)]) ∧
V.undef = V.undef ∧ (demand (loadV o none x7) (fun x8 => quietV o (x8 :: [x7]) ∧
(([] : List Nat) = [] ∧ ((([] : List Nat) = [] ∧ (demand (iaddrV o 1 (s 0) (s 7)) (fun x9 =>
(([] : List Nat) = [] ∧ (demand (loadV o none x9) (fun x10 =>
(([] : List Nat) = [] ∧ (demand (binV BinOp.add x10 x8) (fun x11 =>
(([] : List Nat) = [] ∧ (demand (iaddrV o 1 (s 0) (s 7)) (fun x12 =>
(([] : List Nat) = [] ∧ (storeK x12 (cellsV x11) 1 o (fun m13 ob14 =>
wpB C I R_c0 (St.mk (look [(0, (s 0)), (1, (s 1)), (6, (s 6)), (7, (s 7))]) (upd o m13 (some ob14))) (seqK (fun s => wpB C I R_l0 s Q) Q))))))))))))))))))))))))))
 (wpB C I R_c0 (St.mk (look [(0, (s 0)), (1, (s 1)), (6, (s 6)), (7, (s 7))]) o) (seqK (fun s => wpB C I R_l0 s Q) Q)))))
 (Q (.exit 0) (St.mk (look [(0, (s 0)), (1, (s 1)), (6, (s 6)), (7, (s 7)), (8, x1)]) o)))) : wpB C I R_l0 (St.mk s o) Q := w_loopC hL h

theorem g_book_add_code_sh {R_l0 : ACode} {C : Ctx} {I : Nat → Prop} {s : Nat → V} {o : Nat → Option Ob} {Q : Ex → St → Prop} : wpB C I (.seq (.region [0, 1, 6, 7] none none
    [⟨some 5, .mv (.t 0), [], [], none, none⟩,
     ⟨some 6, .len (.t 5), [], [], none, none⟩,
     ⟨some 7, .mv (.c (.d (.int .i64 0))), [], [], none, none⟩])
 (.block 0 [] none (R_l0))) (St.mk s o) Q =
 (demand (lenV o (s 0)) (fun x1 =>
wpB C I R_l0 (St.mk (look [(0, (s 0)), (1, (s 1)), (6, x1), (7, (V.d (.int .i64 0)))]) o) (blockK 0 [] none Q))) := rfl

theorem g_slices_Clone_Order_code_sh {C : Ctx} {I : Nat → Prop} {s : Nat → V} {o : Nat → Option Ob} {Q : Ex → St → Prop} : wpB C I (.seq (.region [0] (some []) none
    [⟨some 2, .mv (.c (.cap0)), [], [], none, none⟩])
 (.seq (.seq (.region [0, 4] (some []) none
      [⟨some 3, .mv (.t 0), [], [], none, none⟩,
       ⟨some 4, .nilS false (.t 3), [], [], none, none⟩])
   (.cond (.t 4) (.seq (.region [2] (some [5, 7]) none
        [⟨some 2, .mv (.c (.cap0)), [], [], none, none⟩])
     (.ret))
    (.skip)))
  (.seq (.region [2] (some [5, 7]) none
      [⟨some 5, .bsl (some 5) 4 [] 0 [], [], [], none, none⟩,
       ⟨some 6, .mv (.t 0), [], [], none, none⟩,
       ⟨some 7, .app (some 7) 4 32 (.t 5) (.t 6), [], [], none, none⟩,
       ⟨some 2, .mv (.t 7), [], [], none, none⟩])
   (.ret)))) (St.mk s o) Q =
 (nilSK false (s 0) (fun x1 =>
condK x1
 (Q .ret (St.mk (look [(2, (V.cap0))]) (looko ([5, 7].map fun n => (n, (looko ([].map fun n => (n, o n))) n)))))
 (lstK (readD (looko ([].map fun n => (n, o n))) (s 0)) (fun ys3 => (∀ e ∈ ys3, e.length = 4) ∧ appK V.cap0
 (ys3.length * 32 ≤ 140737488355328 ∧ ys3.length ≤ 140737488355328 ∧ ¬ I 7 ∧ Fresh (St.mk (upd (upd (look [(0, (s 0)), (4, x1)]) 5 V.cap0) 6 (s 0)) (looko ([].map fun n => (n, o n)))) 7 (some 7) ∧
Q .ret (St.mk (look [(2, (V.own 7))]) (looko ([5, 7].map fun n => (n, (upd (looko ([].map fun n => (n, o n))) 7 (some (Ob.row 4 ys3))) n)))))
 (fun m4 => ¬ I m4 ∧ rowK ((looko ([].map fun n => (n, o n))) m4) (fun z5 es6 => z5 = 4 ∧ (es6.length + ys3.length) * 32 ≤ 140737488355328 ∧ es6.length + ys3.length ≤ 140737488355328 ∧
Q .ret (St.mk (look [(2, (V.own m4))]) (looko ([5, 7].map fun n => (n, (upd (fun n => ((looko ([].map fun n => (n, o n))) n).map (Ob.scrub m4)) m4 (some (Ob.row 4 (es6 ++ ys3)))) n)))))))))) := rfl

theorem g_book_Known_1_code_sh {C : Ctx} {I : Nat → Prop} {s : Nat → V} {o : Nat → Option Ob} {Q : Ex → St → Prop} : wpB C I (.seq (.region [1, 2] none none
    [⟨some 2, .box 2 3 (.t 0), [], [], none, none⟩])
 (.region [] none none
    [⟨some 3, .faddr 0 (.t 1), [], [], none, none⟩,
     ⟨some 4, .load none (.t 3), [], [], none, none⟩,
     ⟨some 5, .faddr 0 (.t 2), [], [], none, none⟩,
     ⟨some 6, .load none (.t 5), [], [], none, none⟩,
     ⟨some 7, .bin .add (.t 4) (.t 6), [], [], none, none⟩,
     ⟨some 8, .faddr 1 (.t 1), [], [], none, none⟩,
     ⟨some 9, .load none (.t 8), [], [], none, none⟩,
     ⟨some 10, .faddr 1 (.t 2), [], [], none, none⟩,
     ⟨some 11, .load none (.t 10), [], [], none, none⟩,
     ⟨some 12, .bin .add (.t 9) (.t 11), [], [], none, none⟩,
     ⟨some 13, .faddr 2 (.t 1), [], [], none, none⟩,
     ⟨some 14, .load none (.t 13), [], [], none, none⟩,
     ⟨some 15, .faddr 2 (.t 2), [], [], none, none⟩,
     ⟨some 16, .load none (.t 15), [], [], none, none⟩,
     ⟨some 17, .bin .add (.t 14) (.t 16), [], [], none, none⟩,
     ⟨some 18, .build [.d (.int .i64 0), .d (.int .i64 0), .d (.int .i64 0)] [(0, 1, (.t 7)), (1, 1, (.t 12)), (2, 1, (.t 17))], [], [], none, none⟩,
     ⟨none, .store 3 (.t 1) (.t 18), [], [], none, none⟩])) (St.mk s o) Q =
 (lstK (cellsV (s 0)) (fun c1 => c1.length = 3 ∧ ¬ I 2 ∧ Fresh (St.mk s o) 2 (some 2) ∧ V.refsL 2 c1 = false ∧
demand (faddrV 0 (s 1)) (fun x2 =>
demand (loadV (upd o 2 (some (Ob.box c1))) none x2) (fun x3 =>
demand (faddrV 0 (V.ptr 2 0)) (fun x4 =>
demand (loadV (upd o 2 (some (Ob.box c1))) none x4) (fun x5 =>
demand (binV BinOp.add x3 x5) (fun x6 =>
demand (faddrV 1 (s 1)) (fun x7 =>
demand (loadV (upd o 2 (some (Ob.box c1))) none x7) (fun x8 =>
demand (faddrV 1 (V.ptr 2 0)) (fun x9 =>
demand (loadV (upd o 2 (some (Ob.box c1))) none x9) (fun x10 =>
demand (binV BinOp.add x8 x10) (fun x11 =>
demand (faddrV 2 (s 1)) (fun x12 =>
demand (loadV (upd o 2 (some (Ob.box c1))) none x12) (fun x13 =>
demand (faddrV 2 (V.ptr 2 0)) (fun x14 =>
demand (loadV (upd o 2 (some (Ob.box c1))) none x14) (fun x15 =>
demand (binV BinOp.add x13 x15) (fun x16 =>
demand ((buildN [V.d (.int .i64 0), V.d (.int .i64 0), V.d (.int .i64 0)] [(0, 1, x6), (1, 1, x11), (2, 1, x16)]).map V.agg) (fun x17 =>
storeK (s 1) (cellsV x17) 3 (upd o 2 (some (Ob.box c1))) (fun m18 ob19 =>
Q .normal (St.mk (look []) (upd (upd o 2 (some (Ob.box c1))) m18 (some ob19)))))))))))))))))))))) := rfl

theorem g_slices_IndexFunc_Entry_c0_sh {C : Ctx} {I : Nat → Prop} {s : Nat → V} {o : Nat → Option Ob} {Q : Ex → St → Prop} : wpB C I (.region [0, 1, 7, 8] none none
   [⟨some 18, .bin .add (.t 8) (.c (.d (.int .i64 1))), [], [], none, none⟩,
    ⟨some 8, .mv (.t 18), [], [], none, none⟩]) (St.mk s o) Q =
 (demand (binV BinOp.add (s 8) (V.d (.int .i64 1))) (fun x1 =>
Q .normal (St.mk (look [(0, (s 0)), (1, (s 1)), (7, (s 7)), (8, x1)]) o))) := rfl

theorem g_slices_IndexFunc_Entry_l0_sh {R_l0 : ACode} {R_c0 : ACode} {C : Ctx} {I : Nat → Prop} {s : Nat → V} {o : Nat → Option Ob} {Q : Ex → St → Prop} (hL : R_l0 = .loop [0, 1, 7, 8] none (.seq (.region [0, 1, 7, 8, 9] none none
     [⟨some 9, .bin .lss (.t 8) (.t 7), [], [], none, none⟩])
  (.seq (.cond (.t 9) (.skip)
    (.exit 0))
   (.seq (.block 1 [0, 1, 7, 8] none (.seq (.region [0, 1, 5, 7, 8] none none
         [⟨some 10, .mv (.t 8), [], [], none, none⟩,
          ⟨some 5, .mv (.t 10), [], [], none, none⟩])
      (.seq (.region [0, 1, 5, 7, 8, 16] none none
          [⟨some 11, .mv (.t 1), [], [], none, none⟩,
           ⟨some 12, .mv (.t 0), [], [], none, none⟩,
           ⟨some 13, .mv (.t 5), [], [], none, none⟩,
           ⟨some 14, .iaddr 22 (.t 12) (.t 13), [], [], none, none⟩,
           ⟨some 15, .load (some 22) (.t 14), [], [], none, none⟩,
           ⟨some 16, .callv (.t 11) [(.t 15)], [], [], none, none⟩])
       (.cond (.t 16) (.seq (.region [4] none none
            [⟨some 17, .mv (.t 5), [], [], none, none⟩,
             ⟨some 4, .mv (.t 17), [], [], none, none⟩])
         (.ret))
        (.skip)))))
    (R_c0)))))
 (h : demand (binV BinOp.lss (s 8) (s 7)) (fun x1 =>
condK x1
 (demand (iaddrV o 22 (s 0) (s 8)) (fun x2 =>
demand (loadV o (some 22) x2) (fun x3 =>
fnK (s 1) (fun f5 cs6 => callK C I (St.mk (upd (upd (upd (upd (upd (look [(0, (s 0)), (1, (s 1)), (5, (s 8)), (7, (s 7)), (8, (s 8))]) 11 (s 1)) 12 (s 0)) 13 (s 8)) 14 x2) 15 x3) o) (some 16) f5 ([x3] ++ cs6) (fun r4 or4 =>
condK r4
 (Q .ret (St.mk (look [(4, (s 8))]) or4))
 (wpB C I R_c0 (St.mk (look [(0, (s 0)), (1, (s 1)), (7, (s 7)), (8, (s 8))]) or4) (seqK (fun s => wpB C I R_l0 s Q) Q)))))))
 (Q (.exit 0) (St.mk (look [(0, (s 0)), (1, (s 1)), (7, (s 7)), (8, (s 8)), (9, x1)]) o)))) : wpB C I R_l0 (St.mk s o) Q := w_loopC hL h

theorem g_slices_IndexFunc_Entry_c1_sh {C : Ctx} {I : Nat → Prop} {s : Nat → V} {o : Nat → Option Ob} {Q : Ex → St → Prop} : wpB C I (.seq (.region [4] none none
    [⟨some 4, .mv (.c (.d (.int .i64 (-1)))), [], [], none, none⟩])
 (.ret)) (St.mk s o) Q =
 (Q .ret (St.mk (look [(4, (V.d (.int .i64 (-1))))]) o)) := rfl

theorem g_slices_IndexFunc_Entry_code_sh {R_l0 : ACode} {R_c1 : ACode} {C : Ctx} {I : Nat → Prop} {s : Nat → V} {o : Nat → Option Ob} {Q : Ex → St → Prop} : wpB C I (.seq (.region [0, 1] none none
    [⟨some 4, .mv (.c (.d (.int .i64 0))), [], [], none, none⟩])
 (.seq (.seq (.region [0, 1, 7, 8] none none
      [⟨some 6, .mv (.t 0), [], [], none, none⟩,
       ⟨some 7, .len (.t 6), [], [], none, none⟩,
       ⟨some 8, .mv (.c (.d (.int .i64 0))), [], [], none, none⟩])
   (.block 0 [] none (R_l0)))
  (R_c1))) (St.mk s o) Q =
 (demand (lenV o (s 0)) (fun x1 =>
wpB C I R_l0 (St.mk (look [(0, (s 0)), (1, (s 1)), (7, x1), (8, (V.d (.int .i64 0)))]) o) (blockK 0 [] none (seqK (fun st => wpB C I R_c1 st Q) Q)))) := rfl
end Pay
