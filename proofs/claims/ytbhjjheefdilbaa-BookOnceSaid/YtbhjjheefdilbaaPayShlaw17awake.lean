/- What the code of one function comes to, without slots: an equation for each part; no condition. -/
import Derived.Test.YtbhjjheefdilbaaPayU
import Derived.Test.YtbhjjheefdilbaaPayBkCode
set_option maxRecDepth 20000
set_option maxHeartbeats 400000
set_option linter.unusedVariables false
namespace Pay
open Go
theorem g_law17_awake_o15_sh {C : Ctx} {I : Nat → Prop} {s : Nat → V} {o : Nat → Option Ob} {K : St → Prop} : opsB C I [⟨some 67, .pick (.t 63) (.t 66) (.c (.d (.bool false))), [], [], none, none⟩,
     ⟨some 0, .mv (.t 67), [], [], none, none⟩] (St.mk s o) K =
 (demand (pickV (s 63) (s 66) (V.d (.bool false))) (fun x1 =>
K (St.mk (upd (upd s 67 x1) 0 x1) o))) := rfl

theorem g_law17_awake_o14_sh {R_o15 : List AOper} {C : Ctx} {I : Nat → Prop} {s : Nat → V} {o : Nat → Option Ob} {K : St → Prop} : opsB C I (⟨some 64, .load (some 1) (.t 4), [], [], (some (35, 63, true)), none⟩ ::
     ⟨some 65, .call 9 [(.t 64), (.c (.d (.int .i64 1)))], [], [], (some (35, 63, true)), none⟩ ::
     ⟨some 66, .un .not (.t 65), [], [], (some (35, 63, true)), (some ([63, 66], (some [])))⟩ ::
     R_o15) (St.mk s o) K =
 (guardK (s 63) true
 (demand (loadV o (some 1) (s 4)) (fun x1 =>
callK C I (St.mk (upd (upd (upd s 63 (V.d (D.bool true))) 64 x1) 63 (V.d (D.bool true))) o) (some 65) 9 [x1, (V.d (.int .i64 1))] (fun r2 or2 =>
demand (unV UnOp.not r2) (fun x3 =>
opsB C I R_o15 (St.mk (look [(63, (V.d (D.bool true))), (66, x3)]) (looko ([].map fun n => (n, or2 n)))) K))))
 (opsB C I R_o15 (St.mk (look [(63, (V.d (D.bool false))), (66, (V.tup []))]) (looko ([].map fun n => (n, o n)))) K)
 (opsB C I R_o15 (St.mk (look [(63, (V.tup [])), (66, (V.tup []))]) (looko ([].map fun n => (n, o n)))) K)) := rfl

theorem g_law17_awake_o13_sh {R_o14 : List AOper} {C : Ctx} {I : Nat → Prop} {s : Nat → V} {o : Nat → Option Ob} {K : St → Prop} : opsB C I (⟨some 62, .pick (.t 59) (.t 61) (.c (.d (.bool false))), [], [], none, none⟩ ::
     ⟨some 63, .mv (.t 62), [], [], none, (some ([4, 63], (some [4])))⟩ ::
     R_o14) (St.mk s o) K =
 (demand (pickV (s 59) (s 61) (V.d (.bool false))) (fun x1 =>
opsB C I R_o14 (St.mk (look [(4, (s 4)), (63, x1)]) (looko ([4].map fun n => (n, o n)))) K)) := rfl

theorem g_law17_awake_o12_sh {R_o13 : List AOper} {C : Ctx} {I : Nat → Prop} {s : Nat → V} {o : Nat → Option Ob} {K : St → Prop} : opsB C I (⟨some 60, .load (some 1) (.t 1), [], [], (some (31, 59, true)), none⟩ ::
     ⟨some 61, .call 9 [(.t 60), (.c (.d (.int .i64 0)))], [], [], (some (31, 59, true)), (some ([4, 59, 61], (some [4])))⟩ ::
     R_o13) (St.mk s o) K =
 (guardK (s 59) true
 (demand (loadV o (some 1) (s 1)) (fun x1 =>
callK C I (St.mk (upd (upd (upd s 59 (V.d (D.bool true))) 60 x1) 59 (V.d (D.bool true))) o) (some 61) 9 [x1, (V.d (.int .i64 0))] (fun r2 or2 =>
opsB C I R_o13 (St.mk (look [(4, (s 4)), (59, (V.d (D.bool true))), (61, r2)]) (looko ([4].map fun n => (n, or2 n)))) K)))
 (opsB C I R_o13 (St.mk (look [(4, (s 4)), (59, (V.d (D.bool false))), (61, (V.tup []))]) (looko ([4].map fun n => (n, o n)))) K)
 (opsB C I R_o13 (St.mk (look [(4, (s 4)), (59, (V.tup [])), (61, (V.tup []))]) (looko ([4].map fun n => (n, o n)))) K)) := rfl

theorem g_law17_awake_o11_sh {R_o12 : List AOper} {C : Ctx} {I : Nat → Prop} {s : Nat → V} {o : Nat → Option Ob} {K : St → Prop} : opsB C I (⟨some 58, .pick (.t 55) (.t 57) (.c (.d (.bool false))), [], [], none, none⟩ ::
     ⟨some 59, .mv (.t 58), [], [], none, (some ([1, 4, 59], (some [1, 4])))⟩ ::
     R_o12) (St.mk s o) K =
 (demand (pickV (s 55) (s 57) (V.d (.bool false))) (fun x1 =>
opsB C I R_o12 (St.mk (look [(1, (s 1)), (4, (s 4)), (59, x1)]) (looko ([1, 4].map fun n => (n, o n)))) K)) := rfl

theorem g_law17_awake_o10_sh {R_o11 : List AOper} {C : Ctx} {I : Nat → Prop} {s : Nat → V} {o : Nat → Option Ob} {K : St → Prop} : opsB C I (⟨some 56, .mv (.t 7), [], [], (some (27, 55, true)), none⟩ ::
     ⟨some 57, .bin .eql (.t 56) (.c (.d (.int .i64 6))), [], [], (some (27, 55, true)), (some ([1, 4, 55, 57], (some [1, 4])))⟩ ::
     R_o11) (St.mk s o) K =
 (guardK (s 55) true
 (demand (binV BinOp.eql (s 7) (V.d (.int .i64 6))) (fun x1 =>
opsB C I R_o11 (St.mk (look [(1, (s 1)), (4, (s 4)), (55, (V.d (D.bool true))), (57, x1)]) (looko ([1, 4].map fun n => (n, o n)))) K))
 (opsB C I R_o11 (St.mk (look [(1, (s 1)), (4, (s 4)), (55, (V.d (D.bool false))), (57, (V.tup []))]) (looko ([1, 4].map fun n => (n, o n)))) K)
 (opsB C I R_o11 (St.mk (look [(1, (s 1)), (4, (s 4)), (55, (V.tup [])), (57, (V.tup []))]) (looko ([1, 4].map fun n => (n, o n)))) K)) := rfl

theorem g_law17_awake_o9_sh {R_o10 : List AOper} {C : Ctx} {I : Nat → Prop} {s : Nat → V} {o : Nat → Option Ob} {K : St → Prop} : opsB C I (⟨some 54, .pick (.t 50) (.t 53) (.c (.d (.bool false))), [], [], none, none⟩ ::
     ⟨some 55, .mv (.t 54), [], [], none, (some ([1, 4, 7, 55], (some [1, 4])))⟩ ::
     R_o10) (St.mk s o) K =
 (demand (pickV (s 50) (s 53) (V.d (.bool false))) (fun x1 =>
opsB C I R_o10 (St.mk (look [(1, (s 1)), (4, (s 4)), (7, (s 7)), (55, x1)]) (looko ([1, 4].map fun n => (n, o n)))) K)) := rfl

theorem g_law17_awake_o8_sh {R_o9 : List AOper} {C : Ctx} {I : Nat → Prop} {s : Nat → V} {o : Nat → Option Ob} {K : St → Prop} : opsB C I (⟨some 51, .load (some 1) (.t 4), [], [], (some (22, 50, true)), none⟩ ::
     ⟨some 52, .call 8 [(.t 51), (.c (.d (.int .i64 1))), (.c (.d (.int .i64 24276)))], [], [], (some (22, 50, true)), none⟩ ::
     ⟨some 53, .bin .eql (.t 52) (.c (.d (.int .i64 (-1)))), [], [], (some (22, 50, true)), (some ([1, 4, 7, 50, 53], (some [1, 4])))⟩ ::
     R_o9) (St.mk s o) K =
 (guardK (s 50) true
 (demand (loadV o (some 1) (s 4)) (fun x1 =>
callK C I (St.mk (upd (upd (upd s 50 (V.d (D.bool true))) 51 x1) 50 (V.d (D.bool true))) o) (some 52) 8 [x1, (V.d (.int .i64 1)), (V.d (.int .i64 24276))] (fun r2 or2 =>
demand (binV BinOp.eql r2 (V.d (.int .i64 (-1)))) (fun x3 =>
opsB C I R_o9 (St.mk (look [(1, (s 1)), (4, (s 4)), (7, (s 7)), (50, (V.d (D.bool true))), (53, x3)]) (looko ([1, 4].map fun n => (n, or2 n)))) K))))
 (opsB C I R_o9 (St.mk (look [(1, (s 1)), (4, (s 4)), (7, (s 7)), (50, (V.d (D.bool false))), (53, (V.tup []))]) (looko ([1, 4].map fun n => (n, o n)))) K)
 (opsB C I R_o9 (St.mk (look [(1, (s 1)), (4, (s 4)), (7, (s 7)), (50, (V.tup [])), (53, (V.tup []))]) (looko ([1, 4].map fun n => (n, o n)))) K)) := rfl

theorem g_law17_awake_o7_sh {R_o8 : List AOper} {C : Ctx} {I : Nat → Prop} {s : Nat → V} {o : Nat → Option Ob} {K : St → Prop} : opsB C I (⟨some 49, .pick (.t 45) (.t 48) (.c (.d (.bool false))), [], [], none, none⟩ ::
     ⟨some 50, .mv (.t 49), [], [], none, (some ([1, 4, 7, 50], (some [1, 4])))⟩ ::
     R_o8) (St.mk s o) K =
 (demand (pickV (s 45) (s 48) (V.d (.bool false))) (fun x1 =>
opsB C I R_o8 (St.mk (look [(1, (s 1)), (4, (s 4)), (7, (s 7)), (50, x1)]) (looko ([1, 4].map fun n => (n, o n)))) K)) := rfl

theorem g_law17_awake_o6_sh {R_o7 : List AOper} {C : Ctx} {I : Nat → Prop} {s : Nat → V} {o : Nat → Option Ob} {K : St → Prop} : opsB C I (⟨some 46, .load (some 1) (.t 1), [], [], (some (17, 45, true)), none⟩ ::
     ⟨some 47, .call 8 [(.t 46), (.c (.d (.int .i64 1))), (.c (.d (.int .i64 24276)))], [], [], (some (17, 45, true)), none⟩ ::
     ⟨some 48, .bin .eql (.t 47) (.c (.d (.int .i64 0))), [], [], (some (17, 45, true)), (some ([1, 4, 7, 45, 48], (some [1, 4])))⟩ ::
     R_o7) (St.mk s o) K =
 (guardK (s 45) true
 (demand (loadV o (some 1) (s 1)) (fun x1 =>
callK C I (St.mk (upd (upd (upd s 45 (V.d (D.bool true))) 46 x1) 45 (V.d (D.bool true))) o) (some 47) 8 [x1, (V.d (.int .i64 1)), (V.d (.int .i64 24276))] (fun r2 or2 =>
demand (binV BinOp.eql r2 (V.d (.int .i64 0))) (fun x3 =>
opsB C I R_o7 (St.mk (look [(1, (s 1)), (4, (s 4)), (7, (s 7)), (45, (V.d (D.bool true))), (48, x3)]) (looko ([1, 4].map fun n => (n, or2 n)))) K))))
 (opsB C I R_o7 (St.mk (look [(1, (s 1)), (4, (s 4)), (7, (s 7)), (45, (V.d (D.bool false))), (48, (V.tup []))]) (looko ([1, 4].map fun n => (n, o n)))) K)
 (opsB C I R_o7 (St.mk (look [(1, (s 1)), (4, (s 4)), (7, (s 7)), (45, (V.tup [])), (48, (V.tup []))]) (looko ([1, 4].map fun n => (n, o n)))) K)) := rfl

theorem g_law17_awake_o5_sh {R_o6 : List AOper} {C : Ctx} {I : Nat → Prop} {s : Nat → V} {o : Nat → Option Ob} {K : St → Prop} : opsB C I (⟨some 44, .pick (.t 41) (.t 43) (.c (.d (.bool false))), [], [], none, none⟩ ::
     ⟨some 45, .mv (.t 44), [], [], none, (some ([1, 4, 7, 45], (some [1, 4])))⟩ ::
     R_o6) (St.mk s o) K =
 (demand (pickV (s 41) (s 43) (V.d (.bool false))) (fun x1 =>
opsB C I R_o6 (St.mk (look [(1, (s 1)), (4, (s 4)), (7, (s 7)), (45, x1)]) (looko ([1, 4].map fun n => (n, o n)))) K)) := rfl

theorem g_law17_awake_o4_sh {R_o5 : List AOper} {C : Ctx} {I : Nat → Prop} {s : Nat → V} {o : Nat → Option Ob} {K : St → Prop} : opsB C I (⟨some 42, .mv (.t 5), [], [], (some (13, 41, true)), none⟩ ::
     ⟨some 43, .bin .eql (.t 42) (.c (.d (.int .i64 0))), [], [], (some (13, 41, true)), (some ([1, 4, 7, 41, 43], (some [1, 4])))⟩ ::
     R_o5) (St.mk s o) K =
 (guardK (s 41) true
 (demand (binV BinOp.eql (s 5) (V.d (.int .i64 0))) (fun x1 =>
opsB C I R_o5 (St.mk (look [(1, (s 1)), (4, (s 4)), (7, (s 7)), (41, (V.d (D.bool true))), (43, x1)]) (looko ([1, 4].map fun n => (n, o n)))) K))
 (opsB C I R_o5 (St.mk (look [(1, (s 1)), (4, (s 4)), (7, (s 7)), (41, (V.d (D.bool false))), (43, (V.tup []))]) (looko ([1, 4].map fun n => (n, o n)))) K)
 (opsB C I R_o5 (St.mk (look [(1, (s 1)), (4, (s 4)), (7, (s 7)), (41, (V.tup [])), (43, (V.tup []))]) (looko ([1, 4].map fun n => (n, o n)))) K)) := rfl

theorem g_law17_awake_o3_sh {R_o4 : List AOper} {C : Ctx} {I : Nat → Prop} {s : Nat → V} {o : Nat → Option Ob} {K : St → Prop} : opsB C I (⟨some 40, .pick (.t 35) (.t 39) (.c (.d (.bool false))), [], [], none, none⟩ ::
     ⟨some 41, .mv (.t 40), [], [], none, (some ([1, 4, 5, 7, 41], (some [1, 4])))⟩ ::
     R_o4) (St.mk s o) K =
 (demand (pickV (s 35) (s 39) (V.d (.bool false))) (fun x1 =>
opsB C I R_o4 (St.mk (look [(1, (s 1)), (4, (s 4)), (5, (s 5)), (7, (s 7)), (41, x1)]) (looko ([1, 4].map fun n => (n, o n)))) K)) := rfl

theorem g_law17_awake_o2_sh {R_o3 : List AOper} {C : Ctx} {I : Nat → Prop} {s : Nat → V} {o : Nat → Option Ob} {K : St → Prop} : opsB C I (⟨some 36, .faddr 3 (.t 3), [], [], (some (7, 35, true)), none⟩ ::
     ⟨some 37, .load none (.t 36), [], [], (some (7, 35, true)), none⟩ ::
     ⟨some 38, .len (.t 37), [], [], (some (7, 35, true)), none⟩ ::
     ⟨some 39, .bin .eql (.t 38) (.c (.d (.int .i64 1))), [], [], (some (7, 35, true)), (some ([1, 4, 5, 7, 35, 39], (some [1, 4])))⟩ ::
     R_o3) (St.mk s o) K =
 (guardK (s 35) true
 (demand (faddrV 3 (s 3)) (fun x1 =>
demand (loadV o none x1) (fun x2 =>
demand (lenV o x2) (fun x3 =>
demand (binV BinOp.eql x3 (V.d (.int .i64 1))) (fun x4 =>
opsB C I R_o3 (St.mk (look [(1, (s 1)), (4, (s 4)), (5, (s 5)), (7, (s 7)), (35, (V.d (D.bool true))), (39, x4)]) (looko ([1, 4].map fun n => (n, o n)))) K)))))
 (opsB C I R_o3 (St.mk (look [(1, (s 1)), (4, (s 4)), (5, (s 5)), (7, (s 7)), (35, (V.d (D.bool false))), (39, (V.tup []))]) (looko ([1, 4].map fun n => (n, o n)))) K)
 (opsB C I R_o3 (St.mk (look [(1, (s 1)), (4, (s 4)), (5, (s 5)), (7, (s 7)), (35, (V.tup [])), (39, (V.tup []))]) (looko ([1, 4].map fun n => (n, o n)))) K)) := rfl

theorem g_law17_awake_o1_sh {R_o2 : List AOper} {C : Ctx} {I : Nat → Prop} {s : Nat → V} {o : Nat → Option Ob} {K : St → Prop} : opsB C I (⟨some 34, .pick (.t 30) (.t 33) (.c (.d (.bool false))), [], [], none, none⟩ ::
     ⟨some 35, .mv (.t 34), [], [], none, (some ([1, 3, 4, 5, 7, 35], (some [1, 3, 4])))⟩ ::
     R_o2) (St.mk s o) K =
 (demand (pickV (s 30) (s 33) (V.d (.bool false))) (fun x1 =>
opsB C I R_o2 (St.mk (look [(1, (s 1)), (3, (s 3)), (4, (s 4)), (5, (s 5)), (7, (s 7)), (35, x1)]) (looko ([1, 3, 4].map fun n => (n, o n)))) K)) := rfl

theorem g_law17_awake_o0_sh {R_o1 : List AOper} {C : Ctx} {I : Nat → Prop} {s : Nat → V} {o : Nat → Option Ob} {K : St → Prop} : opsB C I (⟨some 31, .faddr 0 (.t 3), [], [], (some (2, 30, true)), none⟩ ::
     ⟨some 32, .load none (.t 31), [], [], (some (2, 30, true)), none⟩ ::
     ⟨some 33, .bin .eql (.t 32) (.c (.d (.int .i64 7))), [], [], (some (2, 30, true)), (some ([1, 3, 4, 5, 7, 30, 33], (some [1, 3, 4])))⟩ ::
     R_o1) (St.mk s o) K =
 (guardK (s 30) true
 (demand (faddrV 0 (s 3)) (fun x1 =>
demand (loadV o none x1) (fun x2 =>
demand (binV BinOp.eql x2 (V.d (.int .i64 7))) (fun x3 =>
opsB C I R_o1 (St.mk (look [(1, (s 1)), (3, (s 3)), (4, (s 4)), (5, (s 5)), (7, (s 7)), (30, (V.d (D.bool true))), (33, x3)]) (looko ([1, 3, 4].map fun n => (n, o n)))) K))))
 (opsB C I R_o1 (St.mk (look [(1, (s 1)), (3, (s 3)), (4, (s 4)), (5, (s 5)), (7, (s 7)), (30, (V.d (D.bool false))), (33, (V.tup []))]) (looko ([1, 3, 4].map fun n => (n, o n)))) K)
 (opsB C I R_o1 (St.mk (look [(1, (s 1)), (3, (s 3)), (4, (s 4)), (5, (s 5)), (7, (s 7)), (30, (V.tup [])), (33, (V.tup []))]) (looko ([1, 3, 4].map fun n => (n, o n)))) K)) := rfl

theorem g_law17_awake_c0_sh {C : Ctx} {I : Nat → Prop} {s : Nat → V} {o : Nat → Option Ob} {Q : Ex → St → Prop} : wpB C I (.ret) (St.mk s o) Q =
 (Q .ret (St.mk s o)) := rfl

theorem g_law17_awake_c1_sh {R_o0 : List AOper} {R_c0 : ACode} {C : Ctx} {I : Nat → Prop} {s : Nat → V} {o : Nat → Option Ob} {Q : Ex → St → Prop} : wpB C I (.seq (.region [0] (some []) none
    (⟨some 28, .mv (.t 2), [], [], none, none⟩ ::
     ⟨some 29, .bin .eql (.t 28) (.c (.d (.int .i64 0))), [], [], none, none⟩ ::
     ⟨some 30, .mv (.t 29), [], [], none, (some ([1, 3, 4, 5, 7, 30], (some [1, 3, 4])))⟩ ::
     R_o0))
 (R_c0)) (St.mk s o) Q =
 (demand (binV BinOp.eql (s 2) (V.d (.int .i64 0))) (fun x1 =>
opsB C I R_o0 (St.mk (look [(1, (s 1)), (3, (s 3)), (4, (s 4)), (5, (s 5)), (7, (s 7)), (30, x1)]) (looko ([1, 3, 4].map fun n => (n, o n)))) (fun st => (seqK (fun st => wpB C I R_c0 st Q) Q) .normal (St.trim st [0] (some []))))) := rfl

theorem g_law17_awake_c2_sh {R_c1 : ACode} {C : Ctx} {I : Nat → Prop} {s : Nat → V} {o : Nat → Option Ob} {Q : Ex → St → Prop} : wpB C I (.seq (.region [1, 2, 3, 4, 5, 7] (some [1, 3, 4]) none
    [⟨some 23, .load (some 1) (.t 1), [], [], none, none⟩,
     ⟨some 24, .build [.d (.int .i64 0), .d (.int .i64 0), .d (.int .i64 0), .d (.int .i64 0), .d (.int .i64 0), .cap0, .d (.int .i64 0), .d (.int .i64 0), .d (.int .i64 0), .d (.int .i64 0), .d (.int .i64 0), .d (.int .i64 0), .d (.int .i64 0), .d (.int .i64 0), .d (.int .i64 0), .d (.int .i64 0), .d (.int .i64 0), .d (.int .i64 0), .cap0, .cap0, .cap0, .cap0] [(1, 1, (.c (.d (.int .i64 24276)))), (2, 1, (.c (.d (.int .i64 1))))], [], [], none, none⟩,
     ⟨some 25, .call 5 [(.t 23), (.t 24)], [], [], none, none⟩,
     ⟨some 22, .mv (.t 25), [], [], none, none⟩,
     ⟨some 26, .ext (.t 22) 0, [], [], none, none⟩,
     ⟨some 27, .ext (.t 22) 1, [], [], none, none⟩,
     ⟨some 6, .alloc 6 [.cap0], [], [], none, none⟩,
     ⟨none, .store 1 (.t 6) (.t 26), [], [], none, none⟩,
     ⟨some 7, .mv (.t 27), [], [], none, none⟩])
 (R_c1)) (St.mk s o) Q =
 (demand (loadV o (some 1) (s 1)) (fun x1 =>
demand ((buildN [V.d (.int .i64 0), V.d (.int .i64 0), V.d (.int .i64 0), V.d (.int .i64 0), V.d (.int .i64 0), V.cap0, V.d (.int .i64 0), V.d (.int .i64 0), V.d (.int .i64 0), V.d (.int .i64 0), V.d (.int .i64 0), V.d (.int .i64 0), V.d (.int .i64 0), V.d (.int .i64 0), V.d (.int .i64 0), V.d (.int .i64 0), V.d (.int .i64 0), V.d (.int .i64 0), V.cap0, V.cap0, V.cap0, V.cap0] [(1, 1, (V.d (.int .i64 24276))), (2, 1, (V.d (.int .i64 1)))]).map V.agg) (fun x2 =>
callK C I (St.mk (upd (upd s 23 x1) 24 x2) o) (some 25) 5 [x1, x2] (fun r3 or3 =>
demand (extV r3 0) (fun x4 =>
demand (extV r3 1) (fun x5 =>
(¬ I 6 ∧ Fresh (St.mk (upd (upd (upd (upd (upd (upd s 23 x1) 24 x2) 25 r3) 22 r3) 26 x4) 27 x5) or3) 6 (some 6) ∧ V.refsL 6 [V.cap0] = false ∧
storeK (V.ptr 6 0) (cellsV x4) 1 (upd or3 6 (some (Ob.box [V.cap0]))) (fun m6 ob7 =>
wpB C I R_c1 (St.mk (look [(1, (s 1)), (2, (s 2)), (3, (s 3)), (4, (s 4)), (5, (s 5)), (7, x5)]) (looko ([1, 3, 4].map fun n => (n, (upd (upd or3 6 (some (Ob.box [V.cap0]))) m6 (some ob7)) n)))) Q)))))))) := rfl

theorem g_law17_awake_c3_sh {R_c2 : ACode} {C : Ctx} {I : Nat → Prop} {s : Nat → V} {o : Nat → Option Ob} {Q : Ex → St → Prop} : wpB C I (.seq (.region [1, 2, 3, 4, 5] (some [1, 3, 4]) none
    [⟨some 18, .load (some 1) (.t 1), [], [], none, none⟩,
     ⟨some 19, .call 7 [(.t 18), (.c (.d (.int .i64 0)))], [], [], none, none⟩,
     ⟨some 17, .mv (.t 19), [], [], none, none⟩,
     ⟨some 20, .ext (.t 17) 0, [], [], none, none⟩,
     ⟨some 21, .ext (.t 17) 1, [], [], none, none⟩,
     ⟨some 4, .alloc 4 [.cap0], [], [], none, none⟩,
     ⟨none, .store 1 (.t 4) (.t 20), [], [], none, none⟩,
     ⟨some 5, .mv (.t 21), [], [], none, none⟩])
 (R_c2)) (St.mk s o) Q =
 (demand (loadV o (some 1) (s 1)) (fun x1 =>
callK C I (St.mk (upd s 18 x1) o) (some 19) 7 [x1, (V.d (.int .i64 0))] (fun r2 or2 =>
demand (extV r2 0) (fun x3 =>
demand (extV r2 1) (fun x4 =>
(¬ I 4 ∧ Fresh (St.mk (upd (upd (upd (upd (upd s 18 x1) 19 r2) 17 r2) 20 x3) 21 x4) or2) 4 (some 4) ∧ V.refsL 4 [V.cap0] = false ∧
storeK (V.ptr 4 0) (cellsV x3) 1 (upd or2 4 (some (Ob.box [V.cap0]))) (fun m5 ob6 =>
wpB C I R_c2 (St.mk (look [(1, (s 1)), (2, (s 2)), (3, (s 3)), (4, (V.ptr 4 0)), (5, x4)]) (looko ([1, 3, 4].map fun n => (n, (upd (upd or2 4 (some (Ob.box [V.cap0]))) m5 (some ob6)) n)))) Q))))))) := rfl

theorem g_law17_awake_c4_sh {R_c3 : ACode} {C : Ctx} {I : Nat → Prop} {s : Nat → V} {o : Nat → Option Ob} {Q : Ex → St → Prop} : wpB C I (.seq (.region [1, 2, 3] (some [1, 3]) none
    [⟨some 15, .load (some 1) (.t 1), [], [], none, none⟩,
     ⟨some 16, .call 6 [(.t 15), (.c (.d (.int .i64 1))), (.c (.d (.int .i64 2023))), (.c (.d (.int .i64 1)))], [], [], none, none⟩,
     ⟨some 3, .alloc 3 [.d (.int .i64 0), .d (.int .i64 0), .d (.int .i64 0), .cap0, .cap0], [], [], none, none⟩,
     ⟨none, .store 5 (.t 3) (.t 16), [], [], none, none⟩])
 (R_c3)) (St.mk s o) Q =
 (demand (loadV o (some 1) (s 1)) (fun x1 =>
callK C I (St.mk (upd s 15 x1) o) (some 16) 6 [x1, (V.d (.int .i64 1)), (V.d (.int .i64 2023)), (V.d (.int .i64 1))] (fun r2 or2 =>
(¬ I 3 ∧ Fresh (St.mk (upd (upd s 15 x1) 16 r2) or2) 3 (some 3) ∧ V.refsL 3 [V.d (.int .i64 0), V.d (.int .i64 0), V.d (.int .i64 0), V.cap0, V.cap0] = false ∧
storeK (V.ptr 3 0) (cellsV r2) 5 (upd or2 3 (some (Ob.box [V.d (.int .i64 0), V.d (.int .i64 0), V.d (.int .i64 0), V.cap0, V.cap0]))) (fun m3 ob4 =>
wpB C I R_c3 (St.mk (look [(1, (s 1)), (2, (s 2)), (3, (V.ptr 3 0))]) (looko ([1, 3].map fun n => (n, (upd (upd or2 3 (some (Ob.box [V.d (.int .i64 0), V.d (.int .i64 0), V.d (.int .i64 0), V.cap0, V.cap0]))) m3 (some ob4)) n)))) Q))))) := rfl

theorem g_law17_awake_code_sh {R_c4 : ACode} {C : Ctx} {I : Nat → Prop} {s : Nat → V} {o : Nat → Option Ob} {Q : Ex → St → Prop} : wpB C I (.seq (.region [] (some []) none
    [⟨some 0, .mv (.c (.d (.bool false))), [], [], none, none⟩])
 (.seq (.region [1, 2] (some [1]) none
     [⟨some 9, .build [.cap0] [], [], [], none, none⟩,
      ⟨some 10, .build [.cap0, .d (.int .i64 0), .d (.int .i64 0), .d (.int .i64 0), .d (.int .i64 0), .d (.int .i64 0), .d (.int .i64 0), .d (.int .i64 0), .d (.int .i64 0), .d (.int .i64 0), .d (.int .i64 0), .d (.int .i64 0), .d (.int .i64 0), .cap0, .cap0, .cap0] [(7, 1, (.c (.d (.int .i64 7))))], [], [], none, none⟩,
      ⟨some 11, .build [.d (.int .i64 0), .d (.int .i64 0), .d (.int .i64 0), .d (.int .i64 0), .d (.int .i64 0), .cap0, .d (.int .i64 0), .d (.int .i64 0), .d (.int .i64 0), .d (.int .i64 0), .d (.int .i64 0), .d (.int .i64 0), .d (.int .i64 0), .d (.int .i64 0), .d (.int .i64 0), .d (.int .i64 0), .d (.int .i64 0), .d (.int .i64 0), .cap0, .cap0, .cap0, .cap0] [(1, 1, (.c (.d (.int .i64 24276)))), (2, 1, (.c (.d (.int .i64 1)))), (5, 16, (.t 10))], [], [], none, none⟩,
      ⟨some 12, .call 5 [(.t 9), (.t 11)], [], [], none, none⟩,
      ⟨some 8, .mv (.t 12), [], [], none, none⟩,
      ⟨some 13, .ext (.t 8) 0, [], [], none, none⟩,
      ⟨some 14, .ext (.t 8) 1, [], [], none, none⟩,
      ⟨some 1, .alloc 1 [.cap0], [], [], none, none⟩,
      ⟨none, .store 1 (.t 1) (.t 13), [], [], none, none⟩,
      ⟨some 2, .mv (.t 14), [], [], none, none⟩])
  (R_c4))) (St.mk s o) Q =
 (demand ((buildN [V.cap0] []).map V.agg) (fun x1 =>
demand ((buildN [V.cap0, V.d (.int .i64 0), V.d (.int .i64 0), V.d (.int .i64 0), V.d (.int .i64 0), V.d (.int .i64 0), V.d (.int .i64 0), V.d (.int .i64 0), V.d (.int .i64 0), V.d (.int .i64 0), V.d (.int .i64 0), V.d (.int .i64 0), V.d (.int .i64 0), V.cap0, V.cap0, V.cap0] [(7, 1, (V.d (.int .i64 7)))]).map V.agg) (fun x2 =>
demand ((buildN [V.d (.int .i64 0), V.d (.int .i64 0), V.d (.int .i64 0), V.d (.int .i64 0), V.d (.int .i64 0), V.cap0, V.d (.int .i64 0), V.d (.int .i64 0), V.d (.int .i64 0), V.d (.int .i64 0), V.d (.int .i64 0), V.d (.int .i64 0), V.d (.int .i64 0), V.d (.int .i64 0), V.d (.int .i64 0), V.d (.int .i64 0), V.d (.int .i64 0), V.d (.int .i64 0), V.cap0, V.cap0, V.cap0, V.cap0] [(1, 1, (V.d (.int .i64 24276))), (2, 1, (V.d (.int .i64 1))), (5, 16, x2)]).map V.agg) (fun x3 =>
callK C I (St.mk (upd (upd (upd (look []) 9 x1) 10 x2) 11 x3) (looko ([].map fun n => (n, o n)))) (some 12) 5 [x1, x3] (fun r4 or4 =>
demand (extV r4 0) (fun x5 =>
demand (extV r4 1) (fun x6 =>
(¬ I 1 ∧ Fresh (St.mk (upd (upd (upd (upd (upd (upd (upd (look []) 9 x1) 10 x2) 11 x3) 12 r4) 8 r4) 13 x5) 14 x6) or4) 1 (some 1) ∧ V.refsL 1 [V.cap0] = false ∧
storeK (V.ptr 1 0) (cellsV x5) 1 (upd or4 1 (some (Ob.box [V.cap0]))) (fun m7 ob8 =>
wpB C I R_c4 (St.mk (look [(1, (V.ptr 1 0)), (2, x6)]) (looko ([1].map fun n => (n, (upd (upd or4 1 (some (Ob.box [V.cap0]))) m7 (some ob8)) n)))) Q))))))))) := rfl


end Pay
