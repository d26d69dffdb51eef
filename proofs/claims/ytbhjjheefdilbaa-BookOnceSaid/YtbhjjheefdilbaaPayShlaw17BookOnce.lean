/- What the code of one function comes to, without slots: an equation for each part; no condition. -/
import Derived.Test.YtbhjjheefdilbaaPayU
import Derived.Test.YtbhjjheefdilbaaPayBkCode
set_option maxRecDepth 20000
set_option maxHeartbeats 400000
set_option linter.unusedVariables false
namespace Pay
open Go
theorem g_law17_BookOnce_o1_sh {C : Ctx} {I : Nat → Prop} {s : Nat → V} {o : Nat → Option Ob} {K : St → Prop} : opsB C I [⟨some 20, .pick (.t 17) (.t 19) (.c (.d (.bool false))), [], [], none, none⟩] (St.mk s o) K =
 (demand (pickV (s 17) (s 19) (V.d (.bool false))) (fun x1 =>
K (St.mk (upd s 20 x1) o))) := rfl

theorem g_law17_BookOnce_o0_sh {R_o1 : List AOper} {C : Ctx} {I : Nat → Prop} {s : Nat → V} {o : Nat → Option Ob} {K : St → Prop} : opsB C I (⟨some 18, .mv (.t 5), [], [], (some (4, 17, true)), none⟩ ::
     ⟨some 19, .bin .lss (.t 18) (.c (.d (.int .i64 60))), [], [], (some (4, 17, true)), (some ([0, 3, 4, 5, 17, 19], (some [3, 4])))⟩ ::
     R_o1) (St.mk s o) K =
 (guardK (s 17) true
 (demand (binV BinOp.lss (s 5) (V.d (.int .i64 60))) (fun x1 =>
opsB C I R_o1 (St.mk (look [(0, (s 0)), (3, (s 3)), (4, (s 4)), (5, (s 5)), (17, (V.d (D.bool true))), (19, x1)]) (looko ([3, 4].map fun n => (n, o n)))) K))
 (opsB C I R_o1 (St.mk (look [(0, (s 0)), (3, (s 3)), (4, (s 4)), (5, (s 5)), (17, (V.d (D.bool false))), (19, (V.tup []))]) (looko ([3, 4].map fun n => (n, o n)))) K)
 (opsB C I R_o1 (St.mk (look [(0, (s 0)), (3, (s 3)), (4, (s 4)), (5, (s 5)), (17, (V.tup [])), (19, (V.tup []))]) (looko ([3, 4].map fun n => (n, o n)))) K)) := rfl

theorem g_law17_BookOnce_c0_sh {C : Ctx} {I : Nat → Prop} {s : Nat → V} {o : Nat → Option Ob} {Q : Ex → St → Prop} : wpB C I (.cond (.t 20) (.skip)
 (.exit 0)) (St.mk s o) Q =
 (condK (s 20)
 (Q .normal (St.mk s o))
 (Q (.exit 0) (St.mk s o))) := rfl

theorem g_law17_BookOnce_c1_sh {C : Ctx} {I : Nat → Prop} {s : Nat → V} {o : Nat → Option Ob} {Q : Ex → St → Prop} : wpB C I (.seq (.region [0, 3, 4, 5, 8] (some [3, 4, 8]) none
    [⟨some 55, .mv (.t 6), [], [], none, none⟩,
     ⟨some 56, .iaddrA 4 1 (.t 4) (.t 55), [], [], none, none⟩,
     ⟨none, .store 1 (.t 56) (.c (.d (.int .i64 1))), [], [], none, none⟩])
 (.region [0, 3, 4, 5] (some [3, 4]) none
    [⟨some 57, .load (some 1) (.t 8), [], [], none, none⟩,
     ⟨none, .store 1 (.t 3) (.t 57), [], [], none, none⟩])) (St.mk s o) Q =
 (demand (iaddrAV 4 1 (s 4) (s 6)) (fun x1 =>
storeK x1 (cellsV (V.d (.int .i64 1))) 1 o (fun m2 ob3 =>
demand (loadV (looko ([3, 4, 8].map fun n => (n, (upd o m2 (some ob3)) n))) (some 1) (s 8)) (fun x4 =>
storeK (s 3) (cellsV x4) 1 (looko ([3, 4, 8].map fun n => (n, (upd o m2 (some ob3)) n))) (fun m5 ob6 =>
Q .normal (St.mk (look [(0, (s 0)), (3, (s 3)), (4, (s 4)), (5, (s 5))]) (looko ([3, 4].map fun n => (n, (upd (looko ([3, 4, 8].map fun n => (n, (upd o m2 (some ob3)) n))) m5 (some ob6)) n))))))))) := rfl

theorem g_law17_BookOnce_c2_sh {R_c1 : ACode} {C : Ctx} {I : Nat → Prop} {s : Nat → V} {o : Nat → Option Ob} {Q : Ex → St → Prop} : wpB C I (.seq (.seq (.region [0, 3, 4, 5, 6, 8, 54] (some [3, 4, 8]) none
     [⟨some 48, .mv (.t 9), [], [], none, none⟩,
      ⟨some 49, .bin .eql (.t 48) (.c (.d (.int .i64 0))), [], [], none, none⟩,
      ⟨some 50, .mv (.t 6), [], [], none, none⟩,
      ⟨some 51, .iaddrA 4 1 (.t 4) (.t 50), [], [], none, none⟩,
      ⟨some 52, .load none (.t 51), [], [], none, none⟩,
      ⟨some 53, .bin .eql (.t 52) (.c (.d (.int .i64 0))), [], [], none, none⟩,
      ⟨some 54, .beq true (.t 49) (.t 53), [], [], none, none⟩])
  (.cond (.t 54) (.seq (.region [2] (some []) none
       [⟨some 2, .mv (.c (.d (.bool false))), [], [], none, none⟩])
    (.ret))
   (.skip)))
 (R_c1)) (St.mk s o) Q =
 (demand (binV BinOp.eql (s 9) (V.d (.int .i64 0))) (fun x1 =>
demand (iaddrAV 4 1 (s 4) (s 6)) (fun x2 =>
demand (loadV o none x2) (fun x3 =>
demand (binV BinOp.eql x3 (V.d (.int .i64 0))) (fun x4 =>
demand (beqV true x1 x4) (fun x5 =>
condK x5
 (Q .ret (St.mk (look [(2, (V.d (.bool false)))]) (looko ([].map fun n => (n, o n)))))
 (wpB C I R_c1 (St.mk (look [(0, (s 0)), (3, (s 3)), (4, (s 4)), (5, (s 5)), (6, (s 6)), (8, (s 8)), (54, x5)]) (looko ([3, 4, 8].map fun n => (n, o n)))) Q))))))) := rfl

theorem g_law17_BookOnce_c3_sh {C : Ctx} {I : Nat → Prop} {s : Nat → V} {o : Nat → Option Ob} {Q : Ex → St → Prop} : wpB C I (.seq (.region [0, 3, 4, 5, 10] (some [3, 4, 10]) none
    [⟨some 71, .mv (.t 6), [], [], none, none⟩,
     ⟨some 72, .iaddrA 4 1 (.t 4) (.t 71), [], [], none, none⟩,
     ⟨none, .store 1 (.t 72) (.c (.d (.int .i64 0))), [], [], none, none⟩])
 (.region [0, 3, 4, 5] (some [3, 4]) none
    [⟨some 73, .load (some 1) (.t 10), [], [], none, none⟩,
     ⟨none, .store 1 (.t 3) (.t 73), [], [], none, none⟩])) (St.mk s o) Q =
 (demand (iaddrAV 4 1 (s 4) (s 6)) (fun x1 =>
storeK x1 (cellsV (V.d (.int .i64 0))) 1 o (fun m2 ob3 =>
demand (loadV (looko ([3, 4, 10].map fun n => (n, (upd o m2 (some ob3)) n))) (some 1) (s 10)) (fun x4 =>
storeK (s 3) (cellsV x4) 1 (looko ([3, 4, 10].map fun n => (n, (upd o m2 (some ob3)) n))) (fun m5 ob6 =>
Q .normal (St.mk (look [(0, (s 0)), (3, (s 3)), (4, (s 4)), (5, (s 5))]) (looko ([3, 4].map fun n => (n, (upd (looko ([3, 4, 10].map fun n => (n, (upd o m2 (some ob3)) n))) m5 (some ob6)) n))))))))) := rfl

theorem g_law17_BookOnce_c4_sh {R_c3 : ACode} {C : Ctx} {I : Nat → Prop} {s : Nat → V} {o : Nat → Option Ob} {Q : Ex → St → Prop} : wpB C I (.seq (.seq (.region [0, 3, 4, 5, 6, 10, 70] (some [3, 4, 10]) none
     [⟨some 64, .mv (.t 11), [], [], none, none⟩,
      ⟨some 65, .bin .eql (.t 64) (.c (.d (.int .i64 0))), [], [], none, none⟩,
      ⟨some 66, .mv (.t 6), [], [], none, none⟩,
      ⟨some 67, .iaddrA 4 1 (.t 4) (.t 66), [], [], none, none⟩,
      ⟨some 68, .load none (.t 67), [], [], none, none⟩,
      ⟨some 69, .bin .eql (.t 68) (.c (.d (.int .i64 1))), [], [], none, none⟩,
      ⟨some 70, .beq true (.t 65) (.t 69), [], [], none, none⟩])
  (.cond (.t 70) (.seq (.region [2] (some []) none
       [⟨some 2, .mv (.c (.d (.bool false))), [], [], none, none⟩])
    (.ret))
   (.skip)))
 (R_c3)) (St.mk s o) Q =
 (demand (binV BinOp.eql (s 11) (V.d (.int .i64 0))) (fun x1 =>
demand (iaddrAV 4 1 (s 4) (s 6)) (fun x2 =>
demand (loadV o none x2) (fun x3 =>
demand (binV BinOp.eql x3 (V.d (.int .i64 1))) (fun x4 =>
demand (beqV true x1 x4) (fun x5 =>
condK x5
 (Q .ret (St.mk (look [(2, (V.d (.bool false)))]) (looko ([].map fun n => (n, o n)))))
 (wpB C I R_c3 (St.mk (look [(0, (s 0)), (3, (s 3)), (4, (s 4)), (5, (s 5)), (6, (s 6)), (10, (s 10)), (70, x5)]) (looko ([3, 4, 10].map fun n => (n, o n)))) Q))))))) := rfl

theorem g_law17_BookOnce_c5_sh {C : Ctx} {I : Nat → Prop} {s : Nat → V} {o : Nat → Option Ob} {Q : Ex → St → Prop} : wpB C I (.seq (.region [0, 3, 4, 5, 92] (some [3, 4]) none
    [⟨some 76, .faddr 0 (.t 12), [], [], none, none⟩,
     ⟨some 77, .load none (.t 76), [], [], none, none⟩,
     ⟨some 78, .iaddrA 4 1 (.t 4) (.c (.d (.int .i64 0))), [], [], none, none⟩,
     ⟨some 79, .load none (.t 78), [], [], none, none⟩,
     ⟨some 80, .iaddrA 4 1 (.t 4) (.c (.d (.int .i64 1))), [], [], none, none⟩,
     ⟨some 81, .load none (.t 80), [], [], none, none⟩,
     ⟨some 82, .bin .mul (.c (.d (.int .i64 2))) (.t 81), [], [], none, none⟩,
     ⟨some 83, .bin .add (.t 79) (.t 82), [], [], none, none⟩,
     ⟨some 84, .iaddrA 4 1 (.t 4) (.c (.d (.int .i64 2))), [], [], none, none⟩,
     ⟨some 85, .load none (.t 84), [], [], none, none⟩,
     ⟨some 86, .bin .mul (.c (.d (.int .i64 4))) (.t 85), [], [], none, none⟩,
     ⟨some 87, .bin .add (.t 83) (.t 86), [], [], none, none⟩,
     ⟨some 88, .iaddrA 4 1 (.t 4) (.c (.d (.int .i64 3))), [], [], none, none⟩,
     ⟨some 89, .load none (.t 88), [], [], none, none⟩,
     ⟨some 90, .bin .mul (.c (.d (.int .i64 8))) (.t 89), [], [], none, none⟩,
     ⟨some 91, .bin .add (.t 87) (.t 90), [], [], none, none⟩,
     ⟨some 92, .bin .neq (.t 77) (.t 91), [], [], none, none⟩])
 (.cond (.t 92) (.seq (.region [2] (some []) none
      [⟨some 2, .mv (.c (.d (.bool false))), [], [], none, none⟩])
   (.ret))
  (.skip))) (St.mk s o) Q =
 (demand (faddrV 0 (s 12)) (fun x1 =>
demand (loadV o none x1) (fun x2 =>
demand (iaddrAV 4 1 (s 4) (V.d (.int .i64 0))) (fun x3 =>
demand (loadV o none x3) (fun x4 =>
demand (iaddrAV 4 1 (s 4) (V.d (.int .i64 1))) (fun x5 =>
demand (loadV o none x5) (fun x6 =>
demand (binV BinOp.mul (V.d (.int .i64 2)) x6) (fun x7 =>
demand (binV BinOp.add x4 x7) (fun x8 =>
demand (iaddrAV 4 1 (s 4) (V.d (.int .i64 2))) (fun x9 =>
demand (loadV o none x9) (fun x10 =>
demand (binV BinOp.mul (V.d (.int .i64 4)) x10) (fun x11 =>
demand (binV BinOp.add x8 x11) (fun x12 =>
demand (iaddrAV 4 1 (s 4) (V.d (.int .i64 3))) (fun x13 =>
demand (loadV o none x13) (fun x14 =>
demand (binV BinOp.mul (V.d (.int .i64 8)) x14) (fun x15 =>
demand (binV BinOp.add x12 x15) (fun x16 =>
demand (binV BinOp.neq x2 x16) (fun x17 =>
condK x17
 (Q .ret (St.mk (look [(2, (V.d (.bool false)))]) (looko ([].map fun n => (n, o n)))))
 (Q .normal (St.mk (look [(0, (s 0)), (3, (s 3)), (4, (s 4)), (5, (s 5)), (92, x17)]) (looko ([3, 4].map fun n => (n, o n))))))))))))))))))))))) := rfl

theorem g_law17_BookOnce_c6_sh {R_c5 : ACode} {C : Ctx} {I : Nat → Prop} {s : Nat → V} {o : Nat → Option Ob} {Q : Ex → St → Prop} : wpB C I (.seq (.region [0, 3, 4, 5, 12] (some [3, 4, 12]) none
    [⟨some 74, .load (some 1) (.t 3), [], [], none, none⟩,
     ⟨some 75, .call 6 [(.t 74), (.c (.d (.int .i64 1))), (.c (.d (.int .i64 0))), (.c (.d (.int .i64 0)))], [], [], none, none⟩,
     ⟨some 12, .alloc 12 [.d (.int .i64 0), .d (.int .i64 0), .d (.int .i64 0), .cap0, .cap0], [], [], none, none⟩,
     ⟨none, .store 5 (.t 12) (.t 75), [], [], none, none⟩])
 (R_c5)) (St.mk s o) Q =
 (demand (loadV o (some 1) (s 3)) (fun x1 =>
callK C I (St.mk (upd s 74 x1) o) (some 75) 6 [x1, (V.d (.int .i64 1)), (V.d (.int .i64 0)), (V.d (.int .i64 0))] (fun r2 or2 =>
(¬ I 12 ∧ Fresh (St.mk (upd (upd s 74 x1) 75 r2) or2) 12 (some 12) ∧ V.refsL 12 [V.d (.int .i64 0), V.d (.int .i64 0), V.d (.int .i64 0), V.cap0, V.cap0] = false ∧
storeK (V.ptr 12 0) (cellsV r2) 5 (upd or2 12 (some (Ob.box [V.d (.int .i64 0), V.d (.int .i64 0), V.d (.int .i64 0), V.cap0, V.cap0]))) (fun m3 ob4 =>
wpB C I R_c5 (St.mk (look [(0, (s 0)), (3, (s 3)), (4, (s 4)), (5, (s 5)), (12, (V.ptr 12 0))]) (looko ([3, 4, 12].map fun n => (n, (upd (upd or2 12 (some (Ob.box [V.d (.int .i64 0), V.d (.int .i64 0), V.d (.int .i64 0), V.cap0, V.cap0]))) m3 (some ob4)) n)))) Q))))) := rfl

theorem g_law17_BookOnce_c7_sh {R_c2 : ACode} {R_c6 : ACode} {R_c4 : ACode} {C : Ctx} {I : Nat → Prop} {s : Nat → V} {o : Nat → Option Ob} {Q : Ex → St → Prop} : wpB C I (.seq (.seq (.region [0, 3, 4, 5, 6, 7, 37] (some [3, 4]) none
     [⟨some 32, .mv (.t 0), [], [], none, none⟩,
      ⟨some 33, .mv (.t 5), [], [], none, none⟩,
      ⟨some 34, .iaddr 1 (.t 32) (.t 33), [], [], none, none⟩,
      ⟨some 35, .load none (.t 34), [], [], none, none⟩,
      ⟨some 36, .bin .rem (.t 35) (.c (.d (.int .u8 8))), [], [], none, none⟩,
      ⟨some 37, .bin .lss (.t 36) (.c (.d (.int .u8 4))), [], [], none, none⟩])
  (.cond (.t 37) (.seq (.region [0, 3, 4, 5, 6, 8, 9] (some [3, 4, 8]) (some ([0, 1, 2, 3, 4, 5, 6, 7, 8], .two 9 (.one 10 (.one 11 (.one 12 (.done)))) (.one 10 (.two 9 (.one 11 (.one 12 (.done))) (.one 11 (.one 9 (.one 12 (.done))))))))
       [⟨some 39, .load (some 1) (.t 3), [], [], none, none⟩,
        ⟨some 40, .mv (.t 6), [], [], none, none⟩,
        ⟨some 41, .mv (.t 6), [], [], none, none⟩,
        ⟨some 42, .bin .shl (.c (.d (.int .i64 1))) (.t 41), [], [2], none, none⟩,
        ⟨some 43, .build [.cap0, .d (.int .i64 0), .d (.int .i64 0), .d (.int .i64 0), .d (.int .i64 0), .d (.int .i64 0), .d (.int .i64 0), .d (.int .i64 0), .d (.int .i64 0), .d (.int .i64 0), .d (.int .i64 0), .d (.int .i64 0), .d (.int .i64 0), .cap0, .cap0, .cap0] [(7, 1, (.t 42))], [], [3], none, none⟩,
        ⟨some 44, .build [.d (.int .i64 0), .d (.int .i64 0), .d (.int .i64 0), .d (.int .i64 0), .d (.int .i64 0), .cap0, .d (.int .i64 0), .d (.int .i64 0), .d (.int .i64 0), .d (.int .i64 0), .d (.int .i64 0), .d (.int .i64 0), .d (.int .i64 0), .d (.int .i64 0), .d (.int .i64 0), .d (.int .i64 0), .d (.int .i64 0), .d (.int .i64 0), .cap0, .cap0, .cap0, .cap0] [(1, 1, (.t 40)), (2, 1, (.c (.d (.int .i64 1)))), (5, 16, (.t 43))], [], [1, 4], none, none⟩,
        ⟨some 45, .call 5 [(.t 39), (.t 44)], [], [0, 5], none, none⟩,
        ⟨some 38, .mv (.t 45), [], [6], none, none⟩,
        ⟨some 46, .ext (.t 38) 0, [], [7], none, none⟩,
        ⟨some 47, .ext (.t 38) 1, [], [7], none, none⟩,
        ⟨some 8, .alloc 8 [.cap0], [], [], none, none⟩,
        ⟨none, .store 1 (.t 8) (.t 46), [], [10, 8, 6, 0, 1, 2, 3, 4, 5, 6, 7, 8, 10], none, none⟩,
        ⟨some 9, .mv (.t 47), [], [9, 11, 0, 1, 2, 3, 4, 5, 6, 7, 8, 9, 10, 11], none, none⟩])
    (R_c2))
   (.seq (.region [0, 3, 4, 5, 6, 10, 11] (some [3, 4, 10]) none
       [⟨some 59, .load (some 1) (.t 3), [], [], none, none⟩,
        ⟨some 60, .mv (.t 7), [], [], none, none⟩,
        ⟨some 61, .call 7 [(.t 59), (.t 60)], [], [], none, none⟩,
        ⟨some 58, .mv (.t 61), [], [], none, none⟩,
        ⟨some 62, .ext (.t 58) 0, [], [], none, none⟩,
        ⟨some 63, .ext (.t 58) 1, [], [], none, none⟩,
        ⟨some 10, .alloc 10 [.cap0], [], [], none, none⟩,
        ⟨none, .store 1 (.t 10) (.t 62), [], [], none, none⟩,
        ⟨some 11, .mv (.t 63), [], [], none, none⟩])
    (R_c4))))
 (R_c6)) (St.mk s o) Q =
 (demand (iaddrV o 1 (s 0) (s 5)) (fun x1 =>
demand (loadV o none x1) (fun x2 =>
demand (binV BinOp.rem x2 (V.d (.int .u8 8))) (fun x3 =>
demand (binV BinOp.lss x3 (V.d (.int .u8 4))) (fun x4 =>
condK x4
 (V.undef = V.undef ∧ (demand (loadV (looko ([3, 4].map fun n => (n, o n))) (some 1) (s 3)) (fun x5 => quietV (looko ([3, 4].map fun n => (n, o n))) (x5 :: [(s 3)]) ∧
V.undef = V.undef ∧ (quietV (looko ([3, 4].map fun n => (n, o n))) ((s 6) :: [(s 6)]) ∧
V.undef = V.undef ∧ (quietV (looko ([3, 4].map fun n => (n, o n))) ((s 6) :: [(s 6)]) ∧
V.undef = V.undef ∧ (demand (binV BinOp.shl (V.d (.int .i64 1)) (s 6)) (fun x8 => quietV (looko ([3, 4].map fun n => (n, o n))) (x8 :: [(V.d (.int .i64 1)), (s 6)]) ∧
V.undef = V.undef ∧ (demand ((buildN [V.cap0, V.d (.int .i64 0), V.d (.int .i64 0), V.d (.int .i64 0), V.d (.int .i64 0), V.d (.int .i64 0), V.d (.int .i64 0), V.d (.int .i64 0), V.d (.int .i64 0), V.d (.int .i64 0), V.d (.int .i64 0), V.d (.int .i64 0), V.d (.int .i64 0), V.cap0, V.cap0, V.cap0] [(7, 1, x8)]).map V.agg) (fun x9 => quietV (looko ([3, 4].map fun n => (n, o n))) (x9 :: [x8]) ∧
V.undef = V.undef ∧ (demand ((buildN [V.d (.int .i64 0), V.d (.int .i64 0), V.d (.int .i64 0), V.d (.int .i64 0), V.d (.int .i64 0), V.cap0, V.d (.int .i64 0), V.d (.int .i64 0), V.d (.int .i64 0), V.d (.int .i64 0), V.d (.int .i64 0), V.d (.int .i64 0), V.d (.int .i64 0), V.d (.int .i64 0), V.d (.int .i64 0), V.d (.int .i64 0), V.d (.int .i64 0), V.d (.int .i64 0), V.cap0, V.cap0, V.cap0, V.cap0] [(1, 1, (s 6)), (2, 1, (V.d (.int .i64 1))), (5, 16, x9)]).map V.agg) (fun x10 => quietV (looko ([3, 4].map fun n => (n, o n))) (x10 :: [(s 6), (V.d (.int .i64 1)), x9]) ∧
V.undef = V.undef ∧ (∃ x11, SoundAt C 5 ⟨[x5, x10], fun _ => none⟩ ⟨x11, fun _ => none⟩ ∧ (∀ n, V.refs n x11 = false) ∧ quietV (looko ([3, 4].map fun n => (n, o n))) (x11 :: [x5, x10]) ∧
V.undef = V.undef ∧ (quietV (looko ([3, 4].map fun n => (n, o n))) (x11 :: [x11]) ∧
V.undef = V.undef ∧ (demand (extV x11 0) (fun x13 => quietV (looko ([3, 4].map fun n => (n, o n))) (x13 :: [x11]) ∧
(([] : List Nat) = [] ∧ (demand (extV x11 1) (fun x14 =>
(([] : List Nat) = [] ∧ ((¬ I 8 ∧ Fresh (St.mk (upd (upd (upd (upd (upd (upd (upd (upd (upd (upd (look [(0, (s 0)), (3, (s 3)), (4, (s 4)), (5, (s 5)), (6, (s 6)), (7, (s 7)), (37, x4)]) 39 x5) 40 (s 6)) 41 (s 6)) 42 x8) 43 x9) 44 x10) 45 x11) 38 x11) 46 x13) 47 x14) (looko ([3, 4].map fun n => (n, o n)))) 8 (some 8) ∧ V.refsL 8 [V.cap0] = false ∧
(([] : List Nat) = [] ∧ (storeK (V.ptr 8 0) (cellsV x13) 1 (upd (looko ([3, 4].map fun n => (n, o n))) 8 (some (Ob.box [V.cap0]))) (fun m15 ob16 =>
(([] : List Nat) = [] ∧ (wpB C I R_c2 (St.mk (look [(0, (s 0)), (3, (s 3)), (4, (s 4)), (5, (s 5)), (6, (s 6)), (8, (V.ptr 8 0)), (9, x14)]) (looko ([3, 4, 8].map fun n => (n, (upd (upd (looko ([3, 4].map fun n => (n, o n))) 8 (some (Ob.box [V.cap0]))) m15 (some ob16)) n)))) (seqK (fun st => wpB C I R_c6 st Q) Q)))))))))))) ∧
(([] : List Nat) = [] ∧ ((¬ I 8 ∧ Fresh (St.mk (upd (upd (upd (upd (upd (upd (upd (upd (upd (look [(0, (s 0)), (3, (s 3)), (4, (s 4)), (5, (s 5)), (6, (s 6)), (7, (s 7)), (37, x4)]) 39 x5) 40 (s 6)) 41 (s 6)) 42 x8) 43 x9) 44 x10) 45 x11) 38 x11) 46 x13) (looko ([3, 4].map fun n => (n, o n)))) 8 (some 8) ∧ V.refsL 8 [V.cap0] = false ∧
(([] : List Nat) = [] ∧ (demand (extV x11 1) (fun x17 =>
(([] : List Nat) = [] ∧ (storeK (V.ptr 8 0) (cellsV x13) 1 (upd (looko ([3, 4].map fun n => (n, o n))) 8 (some (Ob.box [V.cap0]))) (fun m18 ob19 =>
(([] : List Nat) = [] ∧ (wpB C I R_c2 (St.mk (look [(0, (s 0)), (3, (s 3)), (4, (s 4)), (5, (s 5)), (6, (s 6)), (8, (V.ptr 8 0)), (9, x17)]) (looko ([3, 4, 8].map fun n => (n, (upd (upd (looko ([3, 4].map fun n => (n, o n))) 8 (some (Ob.box [V.cap0]))) m18 (some ob19)) n)))) (seqK (fun st => wpB C I R_c6 st Q) Q))))))))) ∧
(([] : List Nat) = [] ∧ (storeK (V.ptr 8 0) (cellsV x13) 1 (upd (looko ([3, 4].map fun n => (n, o n))) 8 (some (Ob.box [V.cap0]))) (fun m20 ob21 =>
(([] : List Nat) = [] ∧ (demand (extV x11 1) (fun x22 =>
(([] : List Nat) = [] ∧ (wpB C I R_c2 (St.mk (look [(0, (s 0)), (3, (s 3)), (4, (s 4)), (5, (s 5)), (6, (s 6)), (8, (V.ptr 8 0)), (9, x22)]) (looko ([3, 4, 8].map fun n => (n, (upd (upd (looko ([3, 4].map fun n => (n, o n))) 8 (some (Ob.box [V.cap0]))) m20 (some ob21)) n)))) (seqK (fun st => wpB C I R_c6 st Q) Q)))))))))))))))))))))))))))
 (demand (loadV (looko ([3, 4].map fun n => (n, o n))) (some 1) (s 3)) (fun x23 =>
callK C I (St.mk (upd (upd (look [(0, (s 0)), (3, (s 3)), (4, (s 4)), (5, (s 5)), (6, (s 6)), (7, (s 7)), (37, x4)]) 59 x23) 60 (s 7)) (looko ([3, 4].map fun n => (n, o n)))) (some 61) 7 [x23, (s 7)] (fun r24 or24 =>
demand (extV r24 0) (fun x25 =>
demand (extV r24 1) (fun x26 =>
(¬ I 10 ∧ Fresh (St.mk (upd (upd (upd (upd (upd (upd (look [(0, (s 0)), (3, (s 3)), (4, (s 4)), (5, (s 5)), (6, (s 6)), (7, (s 7)), (37, x4)]) 59 x23) 60 (s 7)) 61 r24) 58 r24) 62 x25) 63 x26) or24) 10 (some 10) ∧ V.refsL 10 [V.cap0] = false ∧
storeK (V.ptr 10 0) (cellsV x25) 1 (upd or24 10 (some (Ob.box [V.cap0]))) (fun m27 ob28 =>
wpB C I R_c4 (St.mk (look [(0, (s 0)), (3, (s 3)), (4, (s 4)), (5, (s 5)), (6, (s 6)), (10, (V.ptr 10 0)), (11, x26)]) (looko ([3, 4, 10].map fun n => (n, (upd (upd or24 10 (some (Ob.box [V.cap0]))) m27 (some ob28)) n)))) (seqK (fun st => wpB C I R_c6 st Q) Q))))))))))))) := rfl

theorem g_law17_BookOnce_c8_sh {R_c7 : ACode} {C : Ctx} {I : Nat → Prop} {s : Nat → V} {o : Nat → Option Ob} {Q : Ex → St → Prop} : wpB C I (.seq (.region [0, 3, 4, 5, 6, 7] (some [3, 4]) none
    [⟨some 29, .load (some 1) (.t 3), [], [], none, none⟩,
     ⟨some 30, .mv (.t 6), [], [], none, none⟩,
     ⟨some 31, .call 8 [(.t 29), (.c (.d (.int .i64 1))), (.t 30)], [], [], none, none⟩,
     ⟨some 7, .mv (.t 31), [], [], none, none⟩])
 (R_c7)) (St.mk s o) Q =
 (demand (loadV o (some 1) (s 3)) (fun x1 =>
callK C I (St.mk (upd (upd s 29 x1) 30 (s 6)) o) (some 31) 8 [x1, (V.d (.int .i64 1)), (s 6)] (fun r2 or2 =>
wpB C I R_c7 (St.mk (look [(0, (s 0)), (3, (s 3)), (4, (s 4)), (5, (s 5)), (6, (s 6)), (7, r2)]) (looko ([3, 4].map fun n => (n, or2 n)))) Q))) := rfl

theorem g_law17_BookOnce_c9_sh {C : Ctx} {I : Nat → Prop} {s : Nat → V} {o : Nat → Option Ob} {Q : Ex → St → Prop} : wpB C I (.region [0, 3, 4, 5] (some [3, 4]) none
   [⟨some 21, .mv (.t 5), [], [], none, none⟩,
    ⟨some 22, .bin .add (.t 21) (.c (.d (.int .i64 1))), [], [], none, none⟩,
    ⟨some 5, .mv (.t 22), [], [], none, none⟩]) (St.mk s o) Q =
 (demand (binV BinOp.add (s 5) (V.d (.int .i64 1))) (fun x1 =>
Q .normal (St.mk (look [(0, (s 0)), (3, (s 3)), (4, (s 4)), (5, x1)]) (looko ([3, 4].map fun n => (n, o n)))))) := rfl

theorem g_law17_BookOnce_c10_sh {R_c8 : ACode} {R_c9 : ACode} {C : Ctx} {I : Nat → Prop} {s : Nat → V} {o : Nat → Option Ob} {Q : Ex → St → Prop} : wpB C I (.seq (.block 1 [0, 3, 4, 5] (some [3, 4]) (.seq (.region [0, 3, 4, 5, 6] (some [3, 4]) none
      [⟨some 23, .mv (.t 0), [], [], none, none⟩,
       ⟨some 24, .mv (.t 5), [], [], none, none⟩,
       ⟨some 25, .iaddr 1 (.t 23) (.t 24), [], [], none, none⟩,
       ⟨some 26, .load none (.t 25), [], [], none, none⟩,
       ⟨some 27, .bin .rem (.t 26) (.c (.d (.int .u8 4))), [], [], none, none⟩,
       ⟨some 28, .conv .i64 (.t 27), [], [], none, none⟩,
       ⟨some 6, .mv (.t 28), [], [], none, none⟩])
   (R_c8)))
 (R_c9)) (St.mk s o) Q =
 (demand (iaddrV o 1 (s 0) (s 5)) (fun x1 =>
demand (loadV o none x1) (fun x2 =>
demand (binV BinOp.rem x2 (V.d (.int .u8 4))) (fun x3 =>
demand (convV IntKind.i64 x3) (fun x4 =>
wpB C I R_c8 (St.mk (look [(0, (s 0)), (3, (s 3)), (4, (s 4)), (5, (s 5)), (6, x4)]) (looko ([3, 4].map fun n => (n, o n)))) (blockK 1 [0, 3, 4, 5] (some [3, 4]) (seqK (fun st => wpB C I R_c9 st Q) Q))))))) := rfl

theorem g_law17_BookOnce_l0_sh {R_l0 : ACode} {R_o0 : List AOper} {R_c0 : ACode} {R_c10 : ACode} {C : Ctx} {I : Nat → Prop} {s : Nat → V} {o : Nat → Option Ob} {Q : Ex → St → Prop} (hL : R_l0 = .loop [0, 3, 4, 5] (some [3, 4]) (.seq (.seq (.region [0, 3, 4, 5, 20] (some [3, 4]) none
      (⟨some 13, .mv (.t 5), [], [], none, none⟩ ::
       ⟨some 14, .mv (.t 0), [], [], none, none⟩ ::
       ⟨some 15, .len (.t 14), [], [], none, none⟩ ::
       ⟨some 16, .bin .lss (.t 13) (.t 15), [], [], none, none⟩ ::
       ⟨some 17, .mv (.t 16), [], [], none, (some ([0, 3, 4, 5, 17], (some [3, 4])))⟩ ::
       R_o0))
   (R_c0))
  (R_c10)))
 (h : demand (lenV (looko ([3, 4].map fun n => (n, o n))) (s 0)) (fun x1 =>
demand (binV BinOp.lss (s 5) x1) (fun x2 =>
opsB C I R_o0 (St.mk (look [(0, (s 0)), (3, (s 3)), (4, (s 4)), (5, (s 5)), (17, x2)]) (looko ([3, 4].map fun n => (n, o n)))) (fun st => (seqK (fun st => wpB C I R_c0 st (seqK (fun st => wpB C I R_c10 st (seqK (fun s => wpB C I R_l0 s Q) Q)) (seqK (fun s => wpB C I R_l0 s Q) Q))) (seqK (fun st => wpB C I R_c10 st (seqK (fun s => wpB C I R_l0 s Q) Q)) (seqK (fun s => wpB C I R_l0 s Q) Q))) .normal (St.trim st [0, 3, 4, 5, 20] (some [3, 4])))))) : wpB C I R_l0 (St.mk s o) Q := w_loopC hL h

theorem g_law17_BookOnce_c11_sh {C : Ctx} {I : Nat → Prop} {s : Nat → V} {o : Nat → Option Ob} {Q : Ex → St → Prop} : wpB C I (.seq (.region [2] (some []) none
    [⟨some 93, .call 4 [], [], [], none, none⟩,
     ⟨some 2, .mv (.t 93), [], [], none, none⟩])
 (.ret)) (St.mk s o) Q =
 (callK C I (St.mk s o) (some 93) 4 [] (fun r1 or1 =>
Q .ret (St.mk (look [(2, r1)]) (looko ([].map fun n => (n, or1 n)))))) := rfl

theorem g_law17_BookOnce_code_sh {R_l0 : ACode} {R_c11 : ACode} {C : Ctx} {I : Nat → Prop} {s : Nat → V} {o : Nat → Option Ob} {Q : Ex → St → Prop} : wpB C I (.seq (.region [0] (some []) none
    [⟨some 2, .mv (.c (.d (.bool false))), [], [], none, none⟩])
 (.seq (.region [0, 3] (some [3]) none
     [⟨some 3, .alloc 3 [.cap0], [], [], none, none⟩])
  (.seq (.region [0, 3, 4] (some [3, 4]) none
      [⟨some 4, .alloc 4 [.d (.int .i64 0), .d (.int .i64 0), .d (.int .i64 0), .d (.int .i64 0)], [], [], none, none⟩])
   (.seq (.seq (.region [0, 3, 4, 5] (some [3, 4]) none
        [⟨some 5, .mv (.c (.d (.int .i64 0))), [], [], none, none⟩])
     (.block 0 [] (some []) (R_l0)))
    (R_c11))))) (St.mk s o) Q =
 ((¬ I 3 ∧ Fresh (St.mk (look [(0, (s 0))]) (looko ([].map fun n => (n, o n)))) 3 (some 3) ∧ V.refsL 3 [V.cap0] = false ∧
(¬ I 4 ∧ Fresh (St.mk (look [(0, (s 0)), (3, (V.ptr 3 0))]) (looko ([3].map fun n => (n, (upd (looko ([].map fun n => (n, o n))) 3 (some (Ob.box [V.cap0]))) n)))) 4 (some 4) ∧ V.refsL 4 [V.d (.int .i64 0), V.d (.int .i64 0), V.d (.int .i64 0), V.d (.int .i64 0)] = false ∧
wpB C I R_l0 (St.mk (look [(0, (s 0)), (3, (V.ptr 3 0)), (4, (V.ptr 4 0)), (5, (V.d (.int .i64 0)))]) (looko ([3, 4].map fun n => (n, (upd (looko ([3].map fun n => (n, (upd (looko ([].map fun n => (n, o n))) 3 (some (Ob.box [V.cap0]))) n))) 4 (some (Ob.box [V.d (.int .i64 0), V.d (.int .i64 0), V.d (.int .i64 0), V.d (.int .i64 0)]))) n)))) (blockK 0 [] (some []) (seqK (fun st => wpB C I R_c11 st Q) Q))))) := rfl


end Pay
