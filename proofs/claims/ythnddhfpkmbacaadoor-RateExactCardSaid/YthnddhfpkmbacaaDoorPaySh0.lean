/- What the code of the functions comes to, without slots: an equation for each part; no condition. -/
import Derived.Test.YthnddhfpkmbacaaDoorPayU
import Derived.Test.YthnddhfpkmbacaaDoorPayCode0
set_option maxRecDepth 20000
set_option maxHeartbeats 400000
set_option linter.unusedVariables false
namespace Pay
open Go
theorem g_law03_RateExact_o1_sh {C : Ctx} {I : Nat → Prop} {s : Nat → V} {o : Nat → Option Ob} {K : St → Prop} : opsB C I [⟨some 39, .pick (.t 36) (.t 38) (.c (.d (.bool false))), [], [], none, none⟩] (St.mk s o) K =
 (demand (pickV (s 36) (s 38) (V.d (.bool false))) (fun x1 =>
K (St.mk (upd s 39 x1) o))) := rfl
theorem g_law03_RateExact_o0_sh {R_o1 : List AOper} {C : Ctx} {I : Nat → Prop} {s : Nat → V} {o : Nat → Option Ob} {K : St → Prop} : opsB C I (⟨some 37, .mv (.t 1), [], [], (some (2, 36, true)), none⟩ ::
     ⟨some 38, .bin .leq (.t 37) (.c (.d (.int .i64 10000))), [], [], (some (2, 36, true)), (some ([0, 1, 2, 3, 4, 11, 12, 13, 14, 15, 16, 36, 38], (some [])))⟩ ::
     R_o1) (St.mk s o) K =
 (guardK (s 36) true
 (demand (binV BinOp.leq (s 1) (V.d (.int .i64 10000))) (fun x1 =>
opsB C I R_o1 (St.mk (look [(0, (s 0)), (1, (s 1)), (2, (s 2)), (3, (s 3)), (4, (s 4)), (11, (s 11)), (12, (s 12)), (13, (s 13)), (14, (s 14)), (15, (s 15)), (16, (s 16)), (36, (V.d (D.bool true))), (38, x1)]) (looko ([].map fun n => (n, o n)))) K))
 (opsB C I R_o1 (St.mk (look [(0, (s 0)), (1, (s 1)), (2, (s 2)), (3, (s 3)), (4, (s 4)), (11, (s 11)), (12, (s 12)), (13, (s 13)), (14, (s 14)), (15, (s 15)), (16, (s 16)), (36, (V.d (D.bool false))), (38, (V.tup []))]) (looko ([].map fun n => (n, o n)))) K)
 (opsB C I R_o1 (St.mk (look [(0, (s 0)), (1, (s 1)), (2, (s 2)), (3, (s 3)), (4, (s 4)), (11, (s 11)), (12, (s 12)), (13, (s 13)), (14, (s 14)), (15, (s 15)), (16, (s 16)), (36, (V.tup [])), (38, (V.tup []))]) (looko ([].map fun n => (n, o n)))) K)) := rfl
theorem g_law03_RateExact_c0_sh {C : Ctx} {I : Nat → Prop} {s : Nat → V} {o : Nat → Option Ob} {Q : Ex → St → Prop} : wpB C I (.cond (.t 39) (.region [0, 1, 2, 3, 4, 11, 12, 13, 14, 15, 16] (some []) none
    [⟨some 41, .mv (.t 0), [], [], none, none⟩,
     ⟨some 42, .mv (.t 1), [], [], none, none⟩,
     ⟨some 43, .mv (.t 4), [], [], none, none⟩,
     ⟨some 44, .call 87 [(.t 41), (.t 42), (.c (.d (.int .i64 10000))), (.t 43)], [], [], none, none⟩,
     ⟨some 40, .mv (.t 44), [], [], none, none⟩,
     ⟨some 45, .ext (.t 40) 0, [], [], none, none⟩,
     ⟨some 46, .ext (.t 40) 1, [], [], none, none⟩,
     ⟨some 15, .mv (.t 45), [], [], none, none⟩,
     ⟨some 16, .mv (.t 46), [], [], none, none⟩])
 (.skip)) (St.mk s o) Q =
 (condK (s 39)
 (callK C I (St.mk (upd (upd (upd s 41 (s 0)) 42 (s 1)) 43 (s 4)) o) (some 44) 87 [(s 0), (s 1), (V.d (.int .i64 10000)), (s 4)] (fun r1 or1 =>
demand (extV r1 0) (fun x2 =>
demand (extV r1 1) (fun x3 =>
Q .normal (St.mk (look [(0, (s 0)), (1, (s 1)), (2, (s 2)), (3, (s 3)), (4, (s 4)), (11, (s 11)), (12, (s 12)), (13, (s 13)), (14, (s 14)), (15, x2), (16, x3)]) (looko ([].map fun n => (n, or1 n))))))))
 (Q .normal (St.mk s o))) := rfl
theorem g_law03_RateExact_o5_sh {C : Ctx} {I : Nat → Prop} {s : Nat → V} {o : Nat → Option Ob} {K : St → Prop} : opsB C I [⟨some 57, .pick (.t 53) (.t 56) (.c (.d (.bool false))), [], [], none, none⟩] (St.mk s o) K =
 (demand (pickV (s 53) (s 56) (V.d (.bool false))) (fun x1 =>
K (St.mk (upd s 57 x1) o))) := rfl
theorem g_law03_RateExact_o4_sh {R_o5 : List AOper} {C : Ctx} {I : Nat → Prop} {s : Nat → V} {o : Nat → Option Ob} {K : St → Prop} : opsB C I (⟨some 54, .mv (.t 2), [], [], (some (6, 53, true)), none⟩ ::
     ⟨some 55, .mv (.t 3), [], [], (some (6, 53, true)), none⟩ ::
     ⟨some 56, .bin .leq (.t 54) (.t 55), [], [], (some (6, 53, true)), (some ([0, 1, 2, 3, 4, 11, 12, 13, 14, 15, 16, 17, 18, 53, 56], (some [])))⟩ ::
     R_o5) (St.mk s o) K =
 (guardK (s 53) true
 (demand (binV BinOp.leq (s 2) (s 3)) (fun x1 =>
opsB C I R_o5 (St.mk (look [(0, (s 0)), (1, (s 1)), (2, (s 2)), (3, (s 3)), (4, (s 4)), (11, (s 11)), (12, (s 12)), (13, (s 13)), (14, (s 14)), (15, (s 15)), (16, (s 16)), (17, (s 17)), (18, (s 18)), (53, (V.d (D.bool true))), (56, x1)]) (looko ([].map fun n => (n, o n)))) K))
 (opsB C I R_o5 (St.mk (look [(0, (s 0)), (1, (s 1)), (2, (s 2)), (3, (s 3)), (4, (s 4)), (11, (s 11)), (12, (s 12)), (13, (s 13)), (14, (s 14)), (15, (s 15)), (16, (s 16)), (17, (s 17)), (18, (s 18)), (53, (V.d (D.bool false))), (56, (V.tup []))]) (looko ([].map fun n => (n, o n)))) K)
 (opsB C I R_o5 (St.mk (look [(0, (s 0)), (1, (s 1)), (2, (s 2)), (3, (s 3)), (4, (s 4)), (11, (s 11)), (12, (s 12)), (13, (s 13)), (14, (s 14)), (15, (s 15)), (16, (s 16)), (17, (s 17)), (18, (s 18)), (53, (V.tup [])), (56, (V.tup []))]) (looko ([].map fun n => (n, o n)))) K)) := rfl
theorem g_law03_RateExact_o3_sh {R_o4 : List AOper} {C : Ctx} {I : Nat → Prop} {s : Nat → V} {o : Nat → Option Ob} {K : St → Prop} : opsB C I (⟨some 52, .pick (.t 49) (.t 51) (.c (.d (.bool false))), [], [], none, none⟩ ::
     ⟨some 53, .mv (.t 52), [], [], none, (some ([0, 1, 2, 3, 4, 11, 12, 13, 14, 15, 16, 17, 18, 53], (some [])))⟩ ::
     R_o4) (St.mk s o) K =
 (demand (pickV (s 49) (s 51) (V.d (.bool false))) (fun x1 =>
opsB C I R_o4 (St.mk (look [(0, (s 0)), (1, (s 1)), (2, (s 2)), (3, (s 3)), (4, (s 4)), (11, (s 11)), (12, (s 12)), (13, (s 13)), (14, (s 14)), (15, (s 15)), (16, (s 16)), (17, (s 17)), (18, (s 18)), (53, x1)]) (looko ([].map fun n => (n, o n)))) K)) := rfl
theorem g_law03_RateExact_o2_sh {R_o3 : List AOper} {C : Ctx} {I : Nat → Prop} {s : Nat → V} {o : Nat → Option Ob} {K : St → Prop} : opsB C I (⟨some 50, .mv (.t 2), [], [], (some (2, 49, true)), none⟩ ::
     ⟨some 51, .bin .geq (.t 50) (.c (.d (.int .i64 0))), [], [], (some (2, 49, true)), (some ([0, 1, 2, 3, 4, 11, 12, 13, 14, 15, 16, 17, 18, 49, 51], (some [])))⟩ ::
     R_o3) (St.mk s o) K =
 (guardK (s 49) true
 (demand (binV BinOp.geq (s 2) (V.d (.int .i64 0))) (fun x1 =>
opsB C I R_o3 (St.mk (look [(0, (s 0)), (1, (s 1)), (2, (s 2)), (3, (s 3)), (4, (s 4)), (11, (s 11)), (12, (s 12)), (13, (s 13)), (14, (s 14)), (15, (s 15)), (16, (s 16)), (17, (s 17)), (18, (s 18)), (49, (V.d (D.bool true))), (51, x1)]) (looko ([].map fun n => (n, o n)))) K))
 (opsB C I R_o3 (St.mk (look [(0, (s 0)), (1, (s 1)), (2, (s 2)), (3, (s 3)), (4, (s 4)), (11, (s 11)), (12, (s 12)), (13, (s 13)), (14, (s 14)), (15, (s 15)), (16, (s 16)), (17, (s 17)), (18, (s 18)), (49, (V.d (D.bool false))), (51, (V.tup []))]) (looko ([].map fun n => (n, o n)))) K)
 (opsB C I R_o3 (St.mk (look [(0, (s 0)), (1, (s 1)), (2, (s 2)), (3, (s 3)), (4, (s 4)), (11, (s 11)), (12, (s 12)), (13, (s 13)), (14, (s 14)), (15, (s 15)), (16, (s 16)), (17, (s 17)), (18, (s 18)), (49, (V.tup [])), (51, (V.tup []))]) (looko ([].map fun n => (n, o n)))) K)) := rfl
theorem g_law03_RateExact_c1_sh {C : Ctx} {I : Nat → Prop} {s : Nat → V} {o : Nat → Option Ob} {Q : Ex → St → Prop} : wpB C I (.cond (.t 57) (.region [1, 11, 12, 13, 14, 15, 16, 17, 18] (some []) none
    [⟨some 59, .mv (.t 0), [], [], none, none⟩,
     ⟨some 60, .mv (.t 2), [], [], none, none⟩,
     ⟨some 61, .mv (.t 3), [], [], none, none⟩,
     ⟨some 62, .mv (.t 4), [], [], none, none⟩,
     ⟨some 63, .call 87 [(.t 59), (.t 60), (.t 61), (.t 62)], [], [], none, none⟩,
     ⟨some 58, .mv (.t 63), [], [], none, none⟩,
     ⟨some 64, .ext (.t 58) 0, [], [], none, none⟩,
     ⟨some 65, .ext (.t 58) 1, [], [], none, none⟩,
     ⟨some 17, .mv (.t 64), [], [], none, none⟩,
     ⟨some 18, .mv (.t 65), [], [], none, none⟩])
 (.skip)) (St.mk s o) Q =
 (condK (s 57)
 (callK C I (St.mk (upd (upd (upd (upd s 59 (s 0)) 60 (s 2)) 61 (s 3)) 62 (s 4)) o) (some 63) 87 [(s 0), (s 2), (s 3), (s 4)] (fun r1 or1 =>
demand (extV r1 0) (fun x2 =>
demand (extV r1 1) (fun x3 =>
Q .normal (St.mk (look [(1, (s 1)), (11, (s 11)), (12, (s 12)), (13, (s 13)), (14, (s 14)), (15, (s 15)), (16, (s 16)), (17, x2), (18, x3)]) (looko ([].map fun n => (n, or1 n))))))))
 (Q .normal (St.mk s o))) := rfl
theorem g_law03_RateExact_o17_sh {C : Ctx} {I : Nat → Prop} {s : Nat → V} {o : Nat → Option Ob} {K : St → Prop} : opsB C I [⟨some 97, .pick (.t 95) (.t 96) (.c (.d (.bool false))), [], [], none, none⟩,
     ⟨some 10, .mv (.t 97), [], [], none, none⟩] (St.mk s o) K =
 (demand (pickV (s 95) (s 96) (V.d (.bool false))) (fun x1 =>
K (St.mk (upd (upd s 97 x1) 10 x1) o))) := rfl
theorem g_law03_RateExact_o16_sh {R_o17 : List AOper} {C : Ctx} {I : Nat → Prop} {s : Nat → V} {o : Nat → Option Ob} {K : St → Prop} : opsB C I (⟨some 96, .call 81 [], [], [], (some (29, 95, true)), (some ([95, 96], (some [])))⟩ ::
     R_o17) (St.mk s o) K =
 (guardK (s 95) true
 (callK C I (St.mk (upd s 95 (V.d (D.bool true))) o) (some 96) 81 [] (fun r1 or1 =>
opsB C I R_o17 (St.mk (look [(95, (V.d (D.bool true))), (96, r1)]) (looko ([].map fun n => (n, or1 n)))) K))
 (opsB C I R_o17 (St.mk (look [(95, (V.d (D.bool false))), (96, (V.tup []))]) (looko ([].map fun n => (n, o n)))) K)
 (opsB C I R_o17 (St.mk (look [(95, (V.tup [])), (96, (V.tup []))]) (looko ([].map fun n => (n, o n)))) K)) := rfl
theorem g_law03_RateExact_o15_sh {R_o16 : List AOper} {C : Ctx} {I : Nat → Prop} {s : Nat → V} {o : Nat → Option Ob} {K : St → Prop} : opsB C I (⟨some 94, .pick (.t 84) (.t 93) (.c (.d (.bool false))), [], [], none, none⟩ ::
     ⟨some 95, .mv (.t 94), [], [], none, (some ([95], (some [])))⟩ ::
     R_o16) (St.mk s o) K =
 (demand (pickV (s 84) (s 93) (V.d (.bool false))) (fun x1 =>
opsB C I R_o16 (St.mk (look [(95, x1)]) (looko ([].map fun n => (n, o n)))) K)) := rfl
theorem g_law03_RateExact_o14_sh {R_o15 : List AOper} {C : Ctx} {I : Nat → Prop} {s : Nat → V} {o : Nat → Option Ob} {K : St → Prop} : opsB C I (⟨some 92, .pick (.t 89) (.t 91) (.c (.d (.bool false))), [], [], (some (18, 84, true)), none⟩ ::
     ⟨some 93, .beq false (.t 86) (.t 92), [], [], (some (18, 84, true)), (some ([84, 93], (some [])))⟩ ::
     R_o15) (St.mk s o) K =
 (guardK (s 84) true
 (demand (pickV (s 89) (s 91) (V.d (.bool false))) (fun x1 =>
demand (beqV false (s 86) x1) (fun x2 =>
opsB C I R_o15 (St.mk (look [(84, (V.d (D.bool true))), (93, x2)]) (looko ([].map fun n => (n, o n)))) K)))
 (opsB C I R_o15 (St.mk (look [(84, (V.d (D.bool false))), (93, (V.tup []))]) (looko ([].map fun n => (n, o n)))) K)
 (opsB C I R_o15 (St.mk (look [(84, (V.tup [])), (93, (V.tup []))]) (looko ([].map fun n => (n, o n)))) K)) := rfl
theorem g_law03_RateExact_o13_sh {R_o14 : List AOper} {C : Ctx} {I : Nat → Prop} {s : Nat → V} {o : Nat → Option Ob} {K : St → Prop} : opsB C I (⟨some 90, .mv (.t 1), [], [], (some (23, 89, true)), none⟩ ::
     ⟨some 91, .bin .leq (.t 90) (.c (.d (.int .i64 10000))), [], [], (some (23, 89, true)), (some ([84, 86, 89, 91], (some [])))⟩ ::
     R_o14) (St.mk s o) K =
 (guardK (s 89) true
 (demand (binV BinOp.leq (s 1) (V.d (.int .i64 10000))) (fun x1 =>
opsB C I R_o14 (St.mk (look [(84, (s 84)), (86, (s 86)), (89, (V.d (D.bool true))), (91, x1)]) (looko ([].map fun n => (n, o n)))) K))
 (opsB C I R_o14 (St.mk (look [(84, (s 84)), (86, (s 86)), (89, (V.d (D.bool false))), (91, (V.tup []))]) (looko ([].map fun n => (n, o n)))) K)
 (opsB C I R_o14 (St.mk (look [(84, (s 84)), (86, (s 86)), (89, (V.tup [])), (91, (V.tup []))]) (looko ([].map fun n => (n, o n)))) K)) := rfl
theorem g_law03_RateExact_o12_sh {R_o13 : List AOper} {C : Ctx} {I : Nat → Prop} {s : Nat → V} {o : Nat → Option Ob} {K : St → Prop} : opsB C I (⟨some 85, .mv (.t 1), [], [], (some (18, 84, true)), none⟩ ::
     ⟨some 86, .call 88 [(.t 85)], [], [], (some (18, 84, true)), none⟩ ::
     ⟨some 87, .mv (.t 1), [], [], (some (18, 84, true)), none⟩ ::
     ⟨some 88, .bin .geq (.t 87) (.c (.d (.int .i64 0))), [], [], (some (18, 84, true)), none⟩ ::
     ⟨some 89, .mv (.t 88), [], [], (some (18, 84, true)), (some ([1, 84, 86, 89], (some [])))⟩ ::
     R_o13) (St.mk s o) K =
 (guardK (s 84) true
 (callK C I (St.mk (upd (upd (upd s 84 (V.d (D.bool true))) 85 (s 1)) 84 (V.d (D.bool true))) o) (some 86) 88 [(s 1)] (fun r1 or1 =>
demand (binV BinOp.geq (s 1) (V.d (.int .i64 0))) (fun x2 =>
opsB C I R_o13 (St.mk (look [(1, (s 1)), (84, (V.d (D.bool true))), (86, r1), (89, x2)]) (looko ([].map fun n => (n, or1 n)))) K)))
 (opsB C I R_o13 (St.mk (look [(1, (s 1)), (84, (V.d (D.bool false))), (86, (V.tup [])), (89, (V.tup []))]) (looko ([].map fun n => (n, o n)))) K)
 (opsB C I R_o13 (St.mk (look [(1, (s 1)), (84, (V.tup [])), (86, (V.tup [])), (89, (V.tup []))]) (looko ([].map fun n => (n, o n)))) K)) := rfl
theorem g_law03_RateExact_o11_sh {R_o12 : List AOper} {C : Ctx} {I : Nat → Prop} {s : Nat → V} {o : Nat → Option Ob} {K : St → Prop} : opsB C I (⟨some 83, .pick (.t 79) (.t 82) (.c (.d (.bool false))), [], [], none, none⟩ ::
     ⟨some 84, .mv (.t 83), [], [], none, (some ([1, 84], (some [])))⟩ ::
     R_o12) (St.mk s o) K =
 (demand (pickV (s 79) (s 82) (V.d (.bool false))) (fun x1 =>
opsB C I R_o12 (St.mk (look [(1, (s 1)), (84, x1)]) (looko ([].map fun n => (n, o n)))) K)) := rfl
theorem g_law03_RateExact_o10_sh {R_o11 : List AOper} {C : Ctx} {I : Nat → Prop} {s : Nat → V} {o : Nat → Option Ob} {K : St → Prop} : opsB C I (⟨some 80, .mv (.t 14), [], [], (some (13, 79, true)), none⟩ ::
     ⟨some 81, .mv (.t 18), [], [], (some (13, 79, true)), none⟩ ::
     ⟨some 82, .bin .eql (.t 80) (.t 81), [], [], (some (13, 79, true)), (some ([1, 79, 82], (some [])))⟩ ::
     R_o11) (St.mk s o) K =
 (guardK (s 79) true
 (demand (binV BinOp.eql (s 14) (s 18)) (fun x1 =>
opsB C I R_o11 (St.mk (look [(1, (s 1)), (79, (V.d (D.bool true))), (82, x1)]) (looko ([].map fun n => (n, o n)))) K))
 (opsB C I R_o11 (St.mk (look [(1, (s 1)), (79, (V.d (D.bool false))), (82, (V.tup []))]) (looko ([].map fun n => (n, o n)))) K)
 (opsB C I R_o11 (St.mk (look [(1, (s 1)), (79, (V.tup [])), (82, (V.tup []))]) (looko ([].map fun n => (n, o n)))) K)) := rfl
theorem g_law03_RateExact_o9_sh {R_o10 : List AOper} {C : Ctx} {I : Nat → Prop} {s : Nat → V} {o : Nat → Option Ob} {K : St → Prop} : opsB C I (⟨some 78, .pick (.t 74) (.t 77) (.c (.d (.bool false))), [], [], none, none⟩ ::
     ⟨some 79, .mv (.t 78), [], [], none, (some ([1, 14, 18, 79], (some [])))⟩ ::
     R_o10) (St.mk s o) K =
 (demand (pickV (s 74) (s 77) (V.d (.bool false))) (fun x1 =>
opsB C I R_o10 (St.mk (look [(1, (s 1)), (14, (s 14)), (18, (s 18)), (79, x1)]) (looko ([].map fun n => (n, o n)))) K)) := rfl
theorem g_law03_RateExact_o8_sh {R_o9 : List AOper} {C : Ctx} {I : Nat → Prop} {s : Nat → V} {o : Nat → Option Ob} {K : St → Prop} : opsB C I (⟨some 75, .mv (.t 13), [], [], (some (8, 74, true)), none⟩ ::
     ⟨some 76, .mv (.t 17), [], [], (some (8, 74, true)), none⟩ ::
     ⟨some 77, .bin .eql (.t 75) (.t 76), [], [], (some (8, 74, true)), (some ([1, 14, 18, 74, 77], (some [])))⟩ ::
     R_o9) (St.mk s o) K =
 (guardK (s 74) true
 (demand (binV BinOp.eql (s 13) (s 17)) (fun x1 =>
opsB C I R_o9 (St.mk (look [(1, (s 1)), (14, (s 14)), (18, (s 18)), (74, (V.d (D.bool true))), (77, x1)]) (looko ([].map fun n => (n, o n)))) K))
 (opsB C I R_o9 (St.mk (look [(1, (s 1)), (14, (s 14)), (18, (s 18)), (74, (V.d (D.bool false))), (77, (V.tup []))]) (looko ([].map fun n => (n, o n)))) K)
 (opsB C I R_o9 (St.mk (look [(1, (s 1)), (14, (s 14)), (18, (s 18)), (74, (V.tup [])), (77, (V.tup []))]) (looko ([].map fun n => (n, o n)))) K)) := rfl
theorem g_law03_RateExact_o7_sh {R_o8 : List AOper} {C : Ctx} {I : Nat → Prop} {s : Nat → V} {o : Nat → Option Ob} {K : St → Prop} : opsB C I (⟨some 73, .pick (.t 69) (.t 72) (.c (.d (.bool false))), [], [], none, none⟩ ::
     ⟨some 74, .mv (.t 73), [], [], none, (some ([1, 13, 14, 17, 18, 74], (some [])))⟩ ::
     R_o8) (St.mk s o) K =
 (demand (pickV (s 69) (s 72) (V.d (.bool false))) (fun x1 =>
opsB C I R_o8 (St.mk (look [(1, (s 1)), (13, (s 13)), (14, (s 14)), (17, (s 17)), (18, (s 18)), (74, x1)]) (looko ([].map fun n => (n, o n)))) K)) := rfl
theorem g_law03_RateExact_o6_sh {R_o7 : List AOper} {C : Ctx} {I : Nat → Prop} {s : Nat → V} {o : Nat → Option Ob} {K : St → Prop} : opsB C I (⟨some 70, .mv (.t 12), [], [], (some (3, 69, true)), none⟩ ::
     ⟨some 71, .mv (.t 16), [], [], (some (3, 69, true)), none⟩ ::
     ⟨some 72, .bin .eql (.t 70) (.t 71), [], [], (some (3, 69, true)), (some ([1, 13, 14, 17, 18, 69, 72], (some [])))⟩ ::
     R_o7) (St.mk s o) K =
 (guardK (s 69) true
 (demand (binV BinOp.eql (s 12) (s 16)) (fun x1 =>
opsB C I R_o7 (St.mk (look [(1, (s 1)), (13, (s 13)), (14, (s 14)), (17, (s 17)), (18, (s 18)), (69, (V.d (D.bool true))), (72, x1)]) (looko ([].map fun n => (n, o n)))) K))
 (opsB C I R_o7 (St.mk (look [(1, (s 1)), (13, (s 13)), (14, (s 14)), (17, (s 17)), (18, (s 18)), (69, (V.d (D.bool false))), (72, (V.tup []))]) (looko ([].map fun n => (n, o n)))) K)
 (opsB C I R_o7 (St.mk (look [(1, (s 1)), (13, (s 13)), (14, (s 14)), (17, (s 17)), (18, (s 18)), (69, (V.tup [])), (72, (V.tup []))]) (looko ([].map fun n => (n, o n)))) K)) := rfl
theorem g_law03_RateExact_c2_sh {C : Ctx} {I : Nat → Prop} {s : Nat → V} {o : Nat → Option Ob} {Q : Ex → St → Prop} : wpB C I (.ret) (St.mk s o) Q =
 (Q .ret (St.mk s o)) := rfl
theorem g_law03_RateExact_c3_sh {R_o6 : List AOper} {R_c2 : ACode} {C : Ctx} {I : Nat → Prop} {s : Nat → V} {o : Nat → Option Ob} {Q : Ex → St → Prop} : wpB C I (.seq (.region [10] (some []) none
    (⟨some 66, .mv (.t 11), [], [], none, none⟩ ::
     ⟨some 67, .mv (.t 15), [], [], none, none⟩ ::
     ⟨some 68, .bin .eql (.t 66) (.t 67), [], [], none, none⟩ ::
     ⟨some 69, .mv (.t 68), [], [], none, (some ([1, 12, 13, 14, 16, 17, 18, 69], (some [])))⟩ ::
     R_o6))
 (R_c2)) (St.mk s o) Q =
 (demand (binV BinOp.eql (s 11) (s 15)) (fun x1 =>
opsB C I R_o6 (St.mk (look [(1, (s 1)), (12, (s 12)), (13, (s 13)), (14, (s 14)), (16, (s 16)), (17, (s 17)), (18, (s 18)), (69, x1)]) (looko ([].map fun n => (n, o n)))) (fun st => (seqK (fun st => wpB C I R_c2 st Q) Q) .normal (St.trim st [10] (some []))))) := rfl
theorem g_law03_RateExact_c4_sh {R_o2 : List AOper} {R_c1 : ACode} {R_c3 : ACode} {C : Ctx} {I : Nat → Prop} {s : Nat → V} {o : Nat → Option Ob} {Q : Ex → St → Prop} : wpB C I (.seq (.region [0, 1, 2, 3, 4, 11, 12, 13, 14, 15, 16, 17, 18] (some []) none
    [⟨some 17, .mv (.c (.d (.int .i64 0))), [], [], none, none⟩,
     ⟨some 18, .mv (.c (.d (.int .i64 1))), [], [], none, none⟩])
 (.seq (.seq (.region [0, 1, 2, 3, 4, 11, 12, 13, 14, 15, 16, 17, 18, 57] (some []) none
      (⟨some 47, .mv (.t 3), [], [], none, none⟩ ::
       ⟨some 48, .bin .geq (.t 47) (.c (.d (.int .i64 1))), [], [], none, none⟩ ::
       ⟨some 49, .mv (.t 48), [], [], none, (some ([0, 1, 2, 3, 4, 11, 12, 13, 14, 15, 16, 17, 18, 49], (some [])))⟩ ::
       R_o2))
   (R_c1))
  (R_c3))) (St.mk s o) Q =
 (demand (binV BinOp.geq (s 3) (V.d (.int .i64 1))) (fun x1 =>
opsB C I R_o2 (St.mk (look [(0, (s 0)), (1, (s 1)), (2, (s 2)), (3, (s 3)), (4, (s 4)), (11, (s 11)), (12, (s 12)), (13, (s 13)), (14, (s 14)), (15, (s 15)), (16, (s 16)), (17, (V.d (.int .i64 0))), (18, (V.d (.int .i64 1))), (49, x1)]) (looko ([].map fun n => (n, o n)))) (fun st => (seqK (fun st => wpB C I R_c1 st (seqK (fun st => wpB C I R_c3 st Q) Q)) (seqK (fun st => wpB C I R_c3 st Q) Q)) .normal (St.trim st [0, 1, 2, 3, 4, 11, 12, 13, 14, 15, 16, 17, 18, 57] (some []))))) := rfl
theorem g_law03_RateExact_c5_sh {R_o0 : List AOper} {R_c0 : ACode} {R_c4 : ACode} {C : Ctx} {I : Nat → Prop} {s : Nat → V} {o : Nat → Option Ob} {Q : Ex → St → Prop} : wpB C I (.seq (.region [0, 1, 2, 3, 4, 11, 12, 13, 14, 15, 16] (some []) none
    [⟨some 15, .mv (.c (.d (.int .i64 0))), [], [], none, none⟩,
     ⟨some 16, .mv (.c (.d (.int .i64 1))), [], [], none, none⟩])
 (.seq (.seq (.region [0, 1, 2, 3, 4, 11, 12, 13, 14, 15, 16, 39] (some []) none
      (⟨some 34, .mv (.t 1), [], [], none, none⟩ ::
       ⟨some 35, .bin .geq (.t 34) (.c (.d (.int .i64 0))), [], [], none, none⟩ ::
       ⟨some 36, .mv (.t 35), [], [], none, (some ([0, 1, 2, 3, 4, 11, 12, 13, 14, 15, 16, 36], (some [])))⟩ ::
       R_o0))
   (R_c0))
  (R_c4))) (St.mk s o) Q =
 (demand (binV BinOp.geq (s 1) (V.d (.int .i64 0))) (fun x1 =>
opsB C I R_o0 (St.mk (look [(0, (s 0)), (1, (s 1)), (2, (s 2)), (3, (s 3)), (4, (s 4)), (11, (s 11)), (12, (s 12)), (13, (s 13)), (14, (s 14)), (15, (V.d (.int .i64 0))), (16, (V.d (.int .i64 1))), (36, x1)]) (looko ([].map fun n => (n, o n)))) (fun st => (seqK (fun st => wpB C I R_c0 st (seqK (fun st => wpB C I R_c4 st Q) Q)) (seqK (fun st => wpB C I R_c4 st Q) Q)) .normal (St.trim st [0, 1, 2, 3, 4, 11, 12, 13, 14, 15, 16, 39] (some []))))) := rfl
theorem g_law03_RateExact_c6_sh {R_c5 : ACode} {C : Ctx} {I : Nat → Prop} {s : Nat → V} {o : Nat → Option Ob} {Q : Ex → St → Prop} : wpB C I (.seq (.region [0, 1, 2, 3, 4, 11, 12, 13, 14] (some []) none
    [⟨some 27, .mv (.t 0), [], [], none, none⟩,
     ⟨some 28, .mv (.t 2), [], [], none, none⟩,
     ⟨some 29, .mv (.t 3), [], [], none, none⟩,
     ⟨some 30, .mv (.t 4), [], [], none, none⟩,
     ⟨some 31, .call 86 [(.t 27), (.t 28), (.t 29), (.t 30)], [], [], none, none⟩,
     ⟨some 26, .mv (.t 31), [], [], none, none⟩,
     ⟨some 32, .ext (.t 26) 0, [], [], none, none⟩,
     ⟨some 33, .ext (.t 26) 1, [], [], none, none⟩,
     ⟨some 13, .mv (.t 32), [], [], none, none⟩,
     ⟨some 14, .mv (.t 33), [], [], none, none⟩])
 (R_c5)) (St.mk s o) Q =
 (callK C I (St.mk (upd (upd (upd (upd s 27 (s 0)) 28 (s 2)) 29 (s 3)) 30 (s 4)) o) (some 31) 86 [(s 0), (s 2), (s 3), (s 4)] (fun r1 or1 =>
demand (extV r1 0) (fun x2 =>
demand (extV r1 1) (fun x3 =>
wpB C I R_c5 (St.mk (look [(0, (s 0)), (1, (s 1)), (2, (s 2)), (3, (s 3)), (4, (s 4)), (11, (s 11)), (12, (s 12)), (13, x2), (14, x3)]) (looko ([].map fun n => (n, or1 n)))) Q)))) := rfl
theorem g_law03_RateExact_code_sh {R_c6 : ACode} {C : Ctx} {I : Nat → Prop} {s : Nat → V} {o : Nat → Option Ob} {Q : Ex → St → Prop} : wpB C I (.seq (.region [0, 1, 2, 3, 4] (some []) none
    [⟨some 10, .mv (.c (.d (.bool false))), [], [], none, none⟩])
 (.seq (.region [0, 1, 2, 3, 4, 11, 12] (some []) none
     [⟨some 20, .mv (.t 0), [], [], none, none⟩,
      ⟨some 21, .mv (.t 1), [], [], none, none⟩,
      ⟨some 22, .mv (.t 4), [], [], none, none⟩,
      ⟨some 23, .call 82 [(.t 20), (.t 21), (.t 22)], [], [], none, none⟩,
      ⟨some 19, .mv (.t 23), [], [], none, none⟩,
      ⟨some 24, .ext (.t 19) 0, [], [], none, none⟩,
      ⟨some 25, .ext (.t 19) 1, [], [], none, none⟩,
      ⟨some 11, .mv (.t 24), [], [], none, none⟩,
      ⟨some 12, .mv (.t 25), [], [], none, none⟩])
  (R_c6))) (St.mk s o) Q =
 (callK C I (St.mk (upd (upd (upd (look [(0, (s 0)), (1, (s 1)), (2, (s 2)), (3, (s 3)), (4, (s 4))]) 20 (s 0)) 21 (s 1)) 22 (s 4)) (looko ([].map fun n => (n, o n)))) (some 23) 82 [(s 0), (s 1), (s 4)] (fun r1 or1 =>
demand (extV r1 0) (fun x2 =>
demand (extV r1 1) (fun x3 =>
wpB C I R_c6 (St.mk (look [(0, (s 0)), (1, (s 1)), (2, (s 2)), (3, (s 3)), (4, (s 4)), (11, x2), (12, x3)]) (looko ([].map fun n => (n, or1 n)))) Q)))) := rfl
theorem g_law03_awake_o9_sh {C : Ctx} {I : Nat → Prop} {s : Nat → V} {o : Nat → Option Ob} {K : St → Prop} : opsB C I [⟨some 32, .pick (.t 29) (.t 31) (.c (.d (.bool false))), [], [], none, none⟩,
     ⟨some 0, .mv (.t 32), [], [], none, none⟩] (St.mk s o) K =
 (demand (pickV (s 29) (s 31) (V.d (.bool false))) (fun x1 =>
K (St.mk (upd (upd s 32 x1) 0 x1) o))) := rfl
theorem g_law03_awake_o8_sh {R_o9 : List AOper} {C : Ctx} {I : Nat → Prop} {s : Nat → V} {o : Nat → Option Ob} {K : St → Prop} : opsB C I (⟨some 30, .call 88 [(.c (.d (.int .i64 10001)))], [], [], (some (16, 29, true)), none⟩ ::
     ⟨some 31, .un .not (.t 30), [], [], (some (16, 29, true)), (some ([29, 31], (some [])))⟩ ::
     R_o9) (St.mk s o) K =
 (guardK (s 29) true
 (callK C I (St.mk (upd s 29 (V.d (D.bool true))) o) (some 30) 88 [(V.d (.int .i64 10001))] (fun r1 or1 =>
demand (unV UnOp.not r1) (fun x2 =>
opsB C I R_o9 (St.mk (look [(29, (V.d (D.bool true))), (31, x2)]) (looko ([].map fun n => (n, or1 n)))) K)))
 (opsB C I R_o9 (St.mk (look [(29, (V.d (D.bool false))), (31, (V.tup []))]) (looko ([].map fun n => (n, o n)))) K)
 (opsB C I R_o9 (St.mk (look [(29, (V.tup [])), (31, (V.tup []))]) (looko ([].map fun n => (n, o n)))) K)) := rfl
theorem g_law03_awake_o7_sh {R_o8 : List AOper} {C : Ctx} {I : Nat → Prop} {s : Nat → V} {o : Nat → Option Ob} {K : St → Prop} : opsB C I (⟨some 28, .pick (.t 26) (.t 27) (.c (.d (.bool false))), [], [], none, none⟩ ::
     ⟨some 29, .mv (.t 28), [], [], none, (some ([29], (some [])))⟩ ::
     R_o8) (St.mk s o) K =
 (demand (pickV (s 26) (s 27) (V.d (.bool false))) (fun x1 =>
opsB C I R_o8 (St.mk (look [(29, x1)]) (looko ([].map fun n => (n, o n)))) K)) := rfl
theorem g_law03_awake_o6_sh {R_o7 : List AOper} {C : Ctx} {I : Nat → Prop} {s : Nat → V} {o : Nat → Option Ob} {K : St → Prop} : opsB C I (⟨some 27, .call 88 [(.c (.d (.int .i64 10000)))], [], [], (some (13, 26, true)), (some ([26, 27], (some [])))⟩ ::
     R_o7) (St.mk s o) K =
 (guardK (s 26) true
 (callK C I (St.mk (upd s 26 (V.d (D.bool true))) o) (some 27) 88 [(V.d (.int .i64 10000))] (fun r1 or1 =>
opsB C I R_o7 (St.mk (look [(26, (V.d (D.bool true))), (27, r1)]) (looko ([].map fun n => (n, or1 n)))) K))
 (opsB C I R_o7 (St.mk (look [(26, (V.d (D.bool false))), (27, (V.tup []))]) (looko ([].map fun n => (n, o n)))) K)
 (opsB C I R_o7 (St.mk (look [(26, (V.tup [])), (27, (V.tup []))]) (looko ([].map fun n => (n, o n)))) K)) := rfl
theorem g_law03_awake_o5_sh {R_o6 : List AOper} {C : Ctx} {I : Nat → Prop} {s : Nat → V} {o : Nat → Option Ob} {K : St → Prop} : opsB C I (⟨some 25, .pick (.t 23) (.t 24) (.c (.d (.bool false))), [], [], none, none⟩ ::
     ⟨some 26, .mv (.t 25), [], [], none, (some ([26], (some [])))⟩ ::
     R_o6) (St.mk s o) K =
 (demand (pickV (s 23) (s 24) (V.d (.bool false))) (fun x1 =>
opsB C I R_o6 (St.mk (look [(26, x1)]) (looko ([].map fun n => (n, o n)))) K)) := rfl
theorem g_law03_awake_o4_sh {R_o5 : List AOper} {C : Ctx} {I : Nat → Prop} {s : Nat → V} {o : Nat → Option Ob} {K : St → Prop} : opsB C I (⟨some 24, .mv (.t 4), [], [], (some (10, 23, true)), (some ([23, 24], (some [])))⟩ ::
     R_o5) (St.mk s o) K =
 (guardK (s 23) true
 (opsB C I R_o5 (St.mk (look [(23, (V.d (D.bool true))), (24, (s 4))]) (looko ([].map fun n => (n, o n)))) K)
 (opsB C I R_o5 (St.mk (look [(23, (V.d (D.bool false))), (24, (V.tup []))]) (looko ([].map fun n => (n, o n)))) K)
 (opsB C I R_o5 (St.mk (look [(23, (V.tup [])), (24, (V.tup []))]) (looko ([].map fun n => (n, o n)))) K)) := rfl
theorem g_law03_awake_o3_sh {R_o4 : List AOper} {C : Ctx} {I : Nat → Prop} {s : Nat → V} {o : Nat → Option Ob} {K : St → Prop} : opsB C I (⟨some 22, .pick (.t 19) (.t 21) (.c (.d (.bool false))), [], [], none, none⟩ ::
     ⟨some 23, .mv (.t 22), [], [], none, (some ([4, 23], (some [])))⟩ ::
     R_o4) (St.mk s o) K =
 (demand (pickV (s 19) (s 21) (V.d (.bool false))) (fun x1 =>
opsB C I R_o4 (St.mk (look [(4, (s 4)), (23, x1)]) (looko ([].map fun n => (n, o n)))) K)) := rfl
theorem g_law03_awake_o2_sh {R_o3 : List AOper} {C : Ctx} {I : Nat → Prop} {s : Nat → V} {o : Nat → Option Ob} {K : St → Prop} : opsB C I (⟨some 20, .mv (.t 3), [], [], (some (6, 19, true)), none⟩ ::
     ⟨some 21, .bin .eql (.t 20) (.c (.d (.int .i64 1250))), [], [], (some (6, 19, true)), (some ([4, 19, 21], (some [])))⟩ ::
     R_o3) (St.mk s o) K =
 (guardK (s 19) true
 (demand (binV BinOp.eql (s 3) (V.d (.int .i64 1250))) (fun x1 =>
opsB C I R_o3 (St.mk (look [(4, (s 4)), (19, (V.d (D.bool true))), (21, x1)]) (looko ([].map fun n => (n, o n)))) K))
 (opsB C I R_o3 (St.mk (look [(4, (s 4)), (19, (V.d (D.bool false))), (21, (V.tup []))]) (looko ([].map fun n => (n, o n)))) K)
 (opsB C I R_o3 (St.mk (look [(4, (s 4)), (19, (V.tup [])), (21, (V.tup []))]) (looko ([].map fun n => (n, o n)))) K)) := rfl
theorem g_law03_awake_o1_sh {R_o2 : List AOper} {C : Ctx} {I : Nat → Prop} {s : Nat → V} {o : Nat → Option Ob} {K : St → Prop} : opsB C I (⟨some 18, .pick (.t 15) (.t 17) (.c (.d (.bool false))), [], [], none, none⟩ ::
     ⟨some 19, .mv (.t 18), [], [], none, (some ([3, 4, 19], (some [])))⟩ ::
     R_o2) (St.mk s o) K =
 (demand (pickV (s 15) (s 17) (V.d (.bool false))) (fun x1 =>
opsB C I R_o2 (St.mk (look [(3, (s 3)), (4, (s 4)), (19, x1)]) (looko ([].map fun n => (n, o n)))) K)) := rfl
theorem g_law03_awake_o0_sh {R_o1 : List AOper} {C : Ctx} {I : Nat → Prop} {s : Nat → V} {o : Nat → Option Ob} {K : St → Prop} : opsB C I (⟨some 16, .mv (.t 2), [], [], (some (2, 15, true)), none⟩ ::
     ⟨some 17, .bin .eql (.t 16) (.c (.d (.int .i64 0))), [], [], (some (2, 15, true)), (some ([3, 4, 15, 17], (some [])))⟩ ::
     R_o1) (St.mk s o) K =
 (guardK (s 15) true
 (demand (binV BinOp.eql (s 2) (V.d (.int .i64 0))) (fun x1 =>
opsB C I R_o1 (St.mk (look [(3, (s 3)), (4, (s 4)), (15, (V.d (D.bool true))), (17, x1)]) (looko ([].map fun n => (n, o n)))) K))
 (opsB C I R_o1 (St.mk (look [(3, (s 3)), (4, (s 4)), (15, (V.d (D.bool false))), (17, (V.tup []))]) (looko ([].map fun n => (n, o n)))) K)
 (opsB C I R_o1 (St.mk (look [(3, (s 3)), (4, (s 4)), (15, (V.tup [])), (17, (V.tup []))]) (looko ([].map fun n => (n, o n)))) K)) := rfl
theorem g_law03_awake_c0_sh {C : Ctx} {I : Nat → Prop} {s : Nat → V} {o : Nat → Option Ob} {Q : Ex → St → Prop} : wpB C I (.ret) (St.mk s o) Q =
 (Q .ret (St.mk s o)) := rfl
theorem g_law03_awake_c1_sh {R_o0 : List AOper} {R_c0 : ACode} {C : Ctx} {I : Nat → Prop} {s : Nat → V} {o : Nat → Option Ob} {Q : Ex → St → Prop} : wpB C I (.seq (.region [0] (some []) none
    (⟨some 13, .mv (.t 1), [], [], none, none⟩ ::
     ⟨some 14, .bin .eql (.t 13) (.c (.d (.int .i64 126))), [], [], none, none⟩ ::
     ⟨some 15, .mv (.t 14), [], [], none, (some ([2, 3, 4, 15], (some [])))⟩ ::
     R_o0))
 (R_c0)) (St.mk s o) Q =
 (demand (binV BinOp.eql (s 1) (V.d (.int .i64 126))) (fun x1 =>
opsB C I R_o0 (St.mk (look [(2, (s 2)), (3, (s 3)), (4, (s 4)), (15, x1)]) (looko ([].map fun n => (n, o n)))) (fun st => (seqK (fun st => wpB C I R_c0 st Q) Q) .normal (St.trim st [0] (some []))))) := rfl
theorem g_law03_awake_c2_sh {R_c1 : ACode} {C : Ctx} {I : Nat → Prop} {s : Nat → V} {o : Nat → Option Ob} {Q : Ex → St → Prop} : wpB C I (.seq (.region [1, 2, 3, 4] (some []) none
    [⟨some 10, .call 92 [(.c (.d (.str [49, 50, 46, 53, 48, 37])))], [], [], none, none⟩,
     ⟨some 9, .mv (.t 10), [], [], none, none⟩,
     ⟨some 11, .ext (.t 9) 0, [], [], none, none⟩,
     ⟨some 12, .ext (.t 9) 1, [], [], none, none⟩,
     ⟨some 3, .mv (.t 11), [], [], none, none⟩,
     ⟨some 4, .mv (.t 12), [], [], none, none⟩])
 (R_c1)) (St.mk s o) Q =
 (callK C I (St.mk s o) (some 10) 92 [(V.d (.str [49, 50, 46, 53, 48, 37]))] (fun r1 or1 =>
demand (extV r1 0) (fun x2 =>
demand (extV r1 1) (fun x3 =>
wpB C I R_c1 (St.mk (look [(1, (s 1)), (2, (s 2)), (3, x2), (4, x3)]) (looko ([].map fun n => (n, or1 n)))) Q)))) := rfl
theorem g_law03_awake_code_sh {R_c2 : ACode} {C : Ctx} {I : Nat → Prop} {s : Nat → V} {o : Nat → Option Ob} {Q : Ex → St → Prop} : wpB C I (.seq (.region [] (some []) none
    [⟨some 0, .mv (.c (.d (.bool false))), [], [], none, none⟩])
 (.seq (.region [1, 2] (some []) none
     [⟨some 6, .call 82 [(.c (.d (.int .i64 1005))), (.c (.d (.int .i64 1250))), (.c (.d (.int .i64 3)))], [], [], none, none⟩,
      ⟨some 5, .mv (.t 6), [], [], none, none⟩,
      ⟨some 7, .ext (.t 5) 0, [], [], none, none⟩,
      ⟨some 8, .ext (.t 5) 1, [], [], none, none⟩,
      ⟨some 1, .mv (.t 7), [], [], none, none⟩,
      ⟨some 2, .mv (.t 8), [], [], none, none⟩])
  (R_c2))) (St.mk s o) Q =
 (callK C I (St.mk (look []) (looko ([].map fun n => (n, o n)))) (some 6) 82 [(V.d (.int .i64 1005)), (V.d (.int .i64 1250)), (V.d (.int .i64 3))] (fun r1 or1 =>
demand (extV r1 0) (fun x2 =>
demand (extV r1 1) (fun x3 =>
wpB C I R_c2 (St.mk (look [(1, x2), (2, x3)]) (looko ([].map fun n => (n, or1 n)))) Q)))) := rfl
theorem g_rate_Of_c0_sh {C : Ctx} {I : Nat → Prop} {s : Nat → V} {o : Nat → Option Ob} {Q : Ex → St → Prop} : wpB C I (.seq (.region [6, 7] (some []) none
    [⟨some 11, .mv (.t 0), [], [], none, none⟩,
     ⟨some 12, .mv (.t 1), [], [], none, none⟩,
     ⟨some 13, .mv (.t 2), [], [], none, none⟩,
     ⟨some 14, .call 99 [(.t 11), (.t 12), (.c (.d (.int .i64 10000))), (.t 13)], [], [], none, none⟩,
     ⟨some 15, .ext (.t 14) 0, [], [], none, none⟩,
     ⟨some 16, .ext (.t 14) 1, [], [], none, none⟩,
     ⟨some 6, .mv (.t 15), [], [], none, none⟩,
     ⟨some 7, .mv (.t 16), [], [], none, none⟩])
 (.ret)) (St.mk s o) Q =
 (callK C I (St.mk (upd (upd (upd s 11 (s 0)) 12 (s 1)) 13 (s 2)) o) (some 14) 99 [(s 0), (s 1), (V.d (.int .i64 10000)), (s 2)] (fun r1 or1 =>
demand (extV r1 0) (fun x2 =>
demand (extV r1 1) (fun x3 =>
Q .ret (St.mk (look [(6, x2), (7, x3)]) (looko ([].map fun n => (n, or1 n)))))))) := rfl
theorem g_rate_Of_code_sh {R_c0 : ACode} {C : Ctx} {I : Nat → Prop} {s : Nat → V} {o : Nat → Option Ob} {Q : Ex → St → Prop} : wpB C I (.seq (.region [0, 1, 2] (some []) none
    [⟨some 6, .mv (.c (.d (.int .i64 0))), [], [], none, none⟩,
     ⟨some 7, .mv (.c (.d (.int .i64 0))), [], [], none, none⟩])
 (.seq (.seq (.region [0, 1, 2, 10] (some []) none
      [⟨some 8, .mv (.t 1), [], [], none, none⟩,
       ⟨some 9, .call 88 [(.t 8)], [], [], none, none⟩,
       ⟨some 10, .un .not (.t 9), [], [], none, none⟩])
   (.cond (.t 10) (.seq (.region [6, 7] (some []) none
        [⟨some 6, .mv (.c (.d (.int .i64 0))), [], [], none, none⟩,
         ⟨some 7, .mv (.c (.d (.int .i64 1))), [], [], none, none⟩])
     (.ret))
    (.skip)))
  (R_c0))) (St.mk s o) Q =
 (callK C I (St.mk (upd (look [(0, (s 0)), (1, (s 1)), (2, (s 2))]) 8 (s 1)) (looko ([].map fun n => (n, o n)))) (some 9) 88 [(s 1)] (fun r1 or1 =>
demand (unV UnOp.not r1) (fun x2 =>
condK x2
 (Q .ret (St.mk (look [(6, (V.d (.int .i64 0))), (7, (V.d (.int .i64 1)))]) (looko ([].map fun n => (n, or1 n)))))
 (wpB C I R_c0 (St.mk (look [(0, (s 0)), (1, (s 1)), (2, (s 2)), (10, x2)]) (looko ([].map fun n => (n, or1 n)))) Q)))) := rfl
theorem g_rate_Prorate_o3_sh {C : Ctx} {I : Nat → Prop} {s : Nat → V} {o : Nat → Option Ob} {K : St → Prop} : opsB C I [⟨some 20, .pick (.t 16) (.c (.d (.bool true))) (.t 19), [], [], none, none⟩] (St.mk s o) K =
 (demand (pickV (s 16) (V.d (.bool true)) (s 19)) (fun x1 =>
K (St.mk (upd s 20 x1) o))) := rfl
theorem g_rate_Prorate_o2_sh {R_o3 : List AOper} {C : Ctx} {I : Nat → Prop} {s : Nat → V} {o : Nat → Option Ob} {K : St → Prop} : opsB C I (⟨some 17, .mv (.t 1), [], [], (some (6, 16, false)), none⟩ ::
     ⟨some 18, .mv (.t 2), [], [], (some (6, 16, false)), none⟩ ::
     ⟨some 19, .bin .gtr (.t 17) (.t 18), [], [], (some (6, 16, false)), (some ([0, 1, 2, 3, 16, 19], (some [])))⟩ ::
     R_o3) (St.mk s o) K =
 (guardK (s 16) false
 (demand (binV BinOp.gtr (s 1) (s 2)) (fun x1 =>
opsB C I R_o3 (St.mk (look [(0, (s 0)), (1, (s 1)), (2, (s 2)), (3, (s 3)), (16, (V.d (D.bool false))), (19, x1)]) (looko ([].map fun n => (n, o n)))) K))
 (opsB C I R_o3 (St.mk (look [(0, (s 0)), (1, (s 1)), (2, (s 2)), (3, (s 3)), (16, (V.d (D.bool true))), (19, (V.tup []))]) (looko ([].map fun n => (n, o n)))) K)
 (opsB C I R_o3 (St.mk (look [(0, (s 0)), (1, (s 1)), (2, (s 2)), (3, (s 3)), (16, (V.tup [])), (19, (V.tup []))]) (looko ([].map fun n => (n, o n)))) K)) := rfl
theorem g_rate_Prorate_o1_sh {R_o2 : List AOper} {C : Ctx} {I : Nat → Prop} {s : Nat → V} {o : Nat → Option Ob} {K : St → Prop} : opsB C I (⟨some 15, .pick (.t 12) (.c (.d (.bool true))) (.t 14), [], [], none, none⟩ ::
     ⟨some 16, .mv (.t 15), [], [], none, (some ([0, 1, 2, 3, 16], (some [])))⟩ ::
     R_o2) (St.mk s o) K =
 (demand (pickV (s 12) (V.d (.bool true)) (s 14)) (fun x1 =>
opsB C I R_o2 (St.mk (look [(0, (s 0)), (1, (s 1)), (2, (s 2)), (3, (s 3)), (16, x1)]) (looko ([].map fun n => (n, o n)))) K)) := rfl
theorem g_rate_Prorate_o0_sh {R_o1 : List AOper} {C : Ctx} {I : Nat → Prop} {s : Nat → V} {o : Nat → Option Ob} {K : St → Prop} : opsB C I (⟨some 13, .mv (.t 1), [], [], (some (2, 12, false)), none⟩ ::
     ⟨some 14, .bin .lss (.t 13) (.c (.d (.int .i64 0))), [], [], (some (2, 12, false)), (some ([0, 1, 2, 3, 12, 14], (some [])))⟩ ::
     R_o1) (St.mk s o) K =
 (guardK (s 12) false
 (demand (binV BinOp.lss (s 1) (V.d (.int .i64 0))) (fun x1 =>
opsB C I R_o1 (St.mk (look [(0, (s 0)), (1, (s 1)), (2, (s 2)), (3, (s 3)), (12, (V.d (D.bool false))), (14, x1)]) (looko ([].map fun n => (n, o n)))) K))
 (opsB C I R_o1 (St.mk (look [(0, (s 0)), (1, (s 1)), (2, (s 2)), (3, (s 3)), (12, (V.d (D.bool true))), (14, (V.tup []))]) (looko ([].map fun n => (n, o n)))) K)
 (opsB C I R_o1 (St.mk (look [(0, (s 0)), (1, (s 1)), (2, (s 2)), (3, (s 3)), (12, (V.tup [])), (14, (V.tup []))]) (looko ([].map fun n => (n, o n)))) K)) := rfl
theorem g_rate_Prorate_c0_sh {C : Ctx} {I : Nat → Prop} {s : Nat → V} {o : Nat → Option Ob} {Q : Ex → St → Prop} : wpB C I (.cond (.t 20) (.seq (.region [8, 9] (some []) none
     [⟨some 8, .mv (.c (.d (.int .i64 0))), [], [], none, none⟩,
      ⟨some 9, .mv (.c (.d (.int .i64 1))), [], [], none, none⟩])
  (.ret))
 (.skip)) (St.mk s o) Q =
 (condK (s 20)
 (Q .ret (St.mk (look [(8, (V.d (.int .i64 0))), (9, (V.d (.int .i64 1)))]) (looko ([].map fun n => (n, o n)))))
 (Q .normal (St.mk s o))) := rfl
theorem g_rate_Prorate_c1_sh {C : Ctx} {I : Nat → Prop} {s : Nat → V} {o : Nat → Option Ob} {Q : Ex → St → Prop} : wpB C I (.seq (.region [8, 9] (some []) none
    [⟨some 21, .mv (.t 0), [], [], none, none⟩,
     ⟨some 22, .mv (.t 1), [], [], none, none⟩,
     ⟨some 23, .mv (.t 2), [], [], none, none⟩,
     ⟨some 24, .mv (.t 3), [], [], none, none⟩,
     ⟨some 25, .call 99 [(.t 21), (.t 22), (.t 23), (.t 24)], [], [], none, none⟩,
     ⟨some 26, .ext (.t 25) 0, [], [], none, none⟩,
     ⟨some 27, .ext (.t 25) 1, [], [], none, none⟩,
     ⟨some 8, .mv (.t 26), [], [], none, none⟩,
     ⟨some 9, .mv (.t 27), [], [], none, none⟩])
 (.ret)) (St.mk s o) Q =
 (callK C I (St.mk (upd (upd (upd (upd s 21 (s 0)) 22 (s 1)) 23 (s 2)) 24 (s 3)) o) (some 25) 99 [(s 0), (s 1), (s 2), (s 3)] (fun r1 or1 =>
demand (extV r1 0) (fun x2 =>
demand (extV r1 1) (fun x3 =>
Q .ret (St.mk (look [(8, x2), (9, x3)]) (looko ([].map fun n => (n, or1 n)))))))) := rfl
theorem g_rate_Prorate_code_sh {R_o0 : List AOper} {R_c0 : ACode} {R_c1 : ACode} {C : Ctx} {I : Nat → Prop} {s : Nat → V} {o : Nat → Option Ob} {Q : Ex → St → Prop} : wpB C I (.seq (.region [0, 1, 2, 3] (some []) none
    [⟨some 8, .mv (.c (.d (.int .i64 0))), [], [], none, none⟩,
     ⟨some 9, .mv (.c (.d (.int .i64 0))), [], [], none, none⟩])
 (.seq (.seq (.region [0, 1, 2, 3, 20] (some []) none
      (⟨some 10, .mv (.t 2), [], [], none, none⟩ ::
       ⟨some 11, .bin .lss (.t 10) (.c (.d (.int .i64 1))), [], [], none, none⟩ ::
       ⟨some 12, .mv (.t 11), [], [], none, (some ([0, 1, 2, 3, 12], (some [])))⟩ ::
       R_o0))
   (R_c0))
  (R_c1))) (St.mk s o) Q =
 (demand (binV BinOp.lss (s 2) (V.d (.int .i64 1))) (fun x1 =>
opsB C I R_o0 (St.mk (look [(0, (s 0)), (1, (s 1)), (2, (s 2)), (3, (s 3)), (12, x1)]) (looko ([].map fun n => (n, o n)))) (fun st => (seqK (fun st => wpB C I R_c0 st (seqK (fun st => wpB C I R_c1 st Q) Q)) (seqK (fun st => wpB C I R_c1 st Q) Q)) .normal (St.trim st [0, 1, 2, 3, 20] (some []))))) := rfl
theorem g_law03_quotient_o1_sh {C : Ctx} {I : Nat → Prop} {s : Nat → V} {o : Nat → Option Ob} {K : St → Prop} : opsB C I [⟨some 17, .pick (.t 14) (.c (.d (.bool true))) (.t 16), [], [], none, none⟩] (St.mk s o) K =
 (demand (pickV (s 14) (V.d (.bool true)) (s 16)) (fun x1 =>
K (St.mk (upd s 17 x1) o))) := rfl
theorem g_law03_quotient_o0_sh {R_o1 : List AOper} {C : Ctx} {I : Nat → Prop} {s : Nat → V} {o : Nat → Option Ob} {K : St → Prop} : opsB C I (⟨some 15, .mv (.t 3), [], [], (some (2, 14, false)), none⟩ ::
     ⟨some 16, .bin .gtr (.t 15) (.c (.d (.int .i64 3))), [], [], (some (2, 14, false)), (some ([0, 1, 2, 3, 14, 16], (some [])))⟩ ::
     R_o1) (St.mk s o) K =
 (guardK (s 14) false
 (demand (binV BinOp.gtr (s 3) (V.d (.int .i64 3))) (fun x1 =>
opsB C I R_o1 (St.mk (look [(0, (s 0)), (1, (s 1)), (2, (s 2)), (3, (s 3)), (14, (V.d (D.bool false))), (16, x1)]) (looko ([].map fun n => (n, o n)))) K))
 (opsB C I R_o1 (St.mk (look [(0, (s 0)), (1, (s 1)), (2, (s 2)), (3, (s 3)), (14, (V.d (D.bool true))), (16, (V.tup []))]) (looko ([].map fun n => (n, o n)))) K)
 (opsB C I R_o1 (St.mk (look [(0, (s 0)), (1, (s 1)), (2, (s 2)), (3, (s 3)), (14, (V.tup [])), (16, (V.tup []))]) (looko ([].map fun n => (n, o n)))) K)) := rfl
theorem g_law03_quotient_c0_sh {C : Ctx} {I : Nat → Prop} {s : Nat → V} {o : Nat → Option Ob} {Q : Ex → St → Prop} : wpB C I (.cond (.t 17) (.seq (.region [8, 9] (some []) none
     [⟨some 8, .mv (.c (.d (.int .i64 0))), [], [], none, none⟩,
      ⟨some 9, .mv (.c (.d (.int .i64 1))), [], [], none, none⟩])
  (.ret))
 (.skip)) (St.mk s o) Q =
 (condK (s 17)
 (Q .ret (St.mk (look [(8, (V.d (.int .i64 0))), (9, (V.d (.int .i64 1)))]) (looko ([].map fun n => (n, o n)))))
 (Q .normal (St.mk s o))) := rfl
theorem g_law03_quotient_c1_sh {C : Ctx} {I : Nat → Prop} {s : Nat → V} {o : Nat → Option Ob} {Q : Ex → St → Prop} : wpB C I (.seq (.region [8, 9] (some []) none
    [⟨some 31, .mv (.t 10), [], [], none, none⟩,
     ⟨some 8, .mv (.t 31), [], [], none, none⟩,
     ⟨some 9, .mv (.c (.d (.int .i64 0))), [], [], none, none⟩])
 (.ret)) (St.mk s o) Q =
 (Q .ret (St.mk (look [(8, (s 10)), (9, (V.d (.int .i64 0)))]) (looko ([].map fun n => (n, o n))))) := rfl
theorem g_law03_quotient_c2_sh {R_c1 : ACode} {C : Ctx} {I : Nat → Prop} {s : Nat → V} {o : Nat → Option Ob} {Q : Ex → St → Prop} : wpB C I (.seq (.seq (.region [10, 30] (some []) none
     [⟨some 29, .mv (.t 11), [], [], none, none⟩,
      ⟨some 30, .un .not (.t 29), [], [], none, none⟩])
  (.cond (.t 30) (.seq (.region [8, 9] (some []) none
       [⟨some 8, .mv (.c (.d (.int .i64 0))), [], [], none, none⟩,
        ⟨some 9, .mv (.c (.d (.int .i64 3))), [], [], none, none⟩])
    (.ret))
   (.skip)))
 (R_c1)) (St.mk s o) Q =
 (demand (unV UnOp.not (s 11)) (fun x1 =>
condK x1
 (Q .ret (St.mk (look [(8, (V.d (.int .i64 0))), (9, (V.d (.int .i64 3)))]) (looko ([].map fun n => (n, o n)))))
 (wpB C I R_c1 (St.mk (look [(10, (s 10)), (30, x1)]) (looko ([].map fun n => (n, o n)))) Q))) := rfl
theorem g_law03_quotient_c3_sh {R_c2 : ACode} {C : Ctx} {I : Nat → Prop} {s : Nat → V} {o : Nat → Option Ob} {Q : Ex → St → Prop} : wpB C I (.seq (.region [10, 11] (some []) none
    [⟨some 22, .mv (.t 0), [], [], none, none⟩,
     ⟨some 23, .mv (.t 1), [], [], none, none⟩,
     ⟨some 24, .mv (.t 2), [], [], none, none⟩,
     ⟨some 25, .mv (.t 3), [], [], none, none⟩,
     ⟨some 26, .call 100 [(.t 22), (.t 23), (.t 24), (.t 25)], [], [], none, none⟩,
     ⟨some 21, .mv (.t 26), [], [], none, none⟩,
     ⟨some 27, .ext (.t 21) 0, [], [], none, none⟩,
     ⟨some 28, .ext (.t 21) 1, [], [], none, none⟩,
     ⟨some 10, .mv (.t 27), [], [], none, none⟩,
     ⟨some 11, .mv (.t 28), [], [], none, none⟩])
 (R_c2)) (St.mk s o) Q =
 (callK C I (St.mk (upd (upd (upd (upd s 22 (s 0)) 23 (s 1)) 24 (s 2)) 25 (s 3)) o) (some 26) 100 [(s 0), (s 1), (s 2), (s 3)] (fun r1 or1 =>
demand (extV r1 0) (fun x2 =>
demand (extV r1 1) (fun x3 =>
wpB C I R_c2 (St.mk (look [(10, x2), (11, x3)]) (looko ([].map fun n => (n, or1 n)))) Q)))) := rfl
theorem g_law03_quotient_c4_sh {R_c3 : ACode} {C : Ctx} {I : Nat → Prop} {s : Nat → V} {o : Nat → Option Ob} {Q : Ex → St → Prop} : wpB C I (.seq (.seq (.region [0, 1, 2, 3, 20] (some []) none
     [⟨some 18, .mv (.t 0), [], [], none, none⟩,
      ⟨some 19, .call 53 [(.t 18)], [], [], none, none⟩,
      ⟨some 20, .un .not (.t 19), [], [], none, none⟩])
  (.cond (.t 20) (.seq (.region [8, 9] (some []) none
       [⟨some 8, .mv (.c (.d (.int .i64 0))), [], [], none, none⟩,
        ⟨some 9, .mv (.c (.d (.int .i64 3))), [], [], none, none⟩])
    (.ret))
   (.skip)))
 (R_c3)) (St.mk s o) Q =
 (callK C I (St.mk (upd s 18 (s 0)) o) (some 19) 53 [(s 0)] (fun r1 or1 =>
demand (unV UnOp.not r1) (fun x2 =>
condK x2
 (Q .ret (St.mk (look [(8, (V.d (.int .i64 0))), (9, (V.d (.int .i64 3)))]) (looko ([].map fun n => (n, or1 n)))))
 (wpB C I R_c3 (St.mk (look [(0, (s 0)), (1, (s 1)), (2, (s 2)), (3, (s 3)), (20, x2)]) (looko ([].map fun n => (n, or1 n)))) Q)))) := rfl
theorem g_law03_quotient_code_sh {R_o0 : List AOper} {R_c0 : ACode} {R_c4 : ACode} {C : Ctx} {I : Nat → Prop} {s : Nat → V} {o : Nat → Option Ob} {Q : Ex → St → Prop} : wpB C I (.seq (.region [0, 1, 2, 3] (some []) none
    [⟨some 8, .mv (.c (.d (.int .i64 0))), [], [], none, none⟩,
     ⟨some 9, .mv (.c (.d (.int .i64 0))), [], [], none, none⟩])
 (.seq (.seq (.region [0, 1, 2, 3, 17] (some []) none
      (⟨some 12, .mv (.t 3), [], [], none, none⟩ ::
       ⟨some 13, .bin .lss (.t 12) (.c (.d (.int .i64 0))), [], [], none, none⟩ ::
       ⟨some 14, .mv (.t 13), [], [], none, (some ([0, 1, 2, 3, 14], (some [])))⟩ ::
       R_o0))
   (R_c0))
  (R_c4))) (St.mk s o) Q =
 (demand (binV BinOp.lss (s 3) (V.d (.int .i64 0))) (fun x1 =>
opsB C I R_o0 (St.mk (look [(0, (s 0)), (1, (s 1)), (2, (s 2)), (3, (s 3)), (14, x1)]) (looko ([].map fun n => (n, o n)))) (fun st => (seqK (fun st => wpB C I R_c0 st (seqK (fun st => wpB C I R_c4 st Q) Q)) (seqK (fun st => wpB C I R_c4 st Q) Q)) .normal (St.trim st [0, 1, 2, 3, 17] (some []))))) := rfl
theorem g_rate_Right_o1_sh {C : Ctx} {I : Nat → Prop} {s : Nat → V} {o : Nat → Option Ob} {K : St → Prop} : opsB C I [⟨some 8, .pick (.t 5) (.t 7) (.c (.d (.bool false))), [], [], none, none⟩,
     ⟨some 2, .mv (.t 8), [], [], none, none⟩] (St.mk s o) K =
 (demand (pickV (s 5) (s 7) (V.d (.bool false))) (fun x1 =>
K (St.mk (upd (upd s 8 x1) 2 x1) o))) := rfl
theorem g_rate_Right_o0_sh {R_o1 : List AOper} {C : Ctx} {I : Nat → Prop} {s : Nat → V} {o : Nat → Option Ob} {K : St → Prop} : opsB C I (⟨some 6, .mv (.t 0), [], [], (some (2, 5, true)), none⟩ ::
     ⟨some 7, .bin .leq (.t 6) (.c (.d (.int .i64 10000))), [], [], (some (2, 5, true)), (some ([5, 7], (some [])))⟩ ::
     R_o1) (St.mk s o) K =
 (guardK (s 5) true
 (demand (binV BinOp.leq (s 0) (V.d (.int .i64 10000))) (fun x1 =>
opsB C I R_o1 (St.mk (look [(5, (V.d (D.bool true))), (7, x1)]) (looko ([].map fun n => (n, o n)))) K))
 (opsB C I R_o1 (St.mk (look [(5, (V.d (D.bool false))), (7, (V.tup []))]) (looko ([].map fun n => (n, o n)))) K)
 (opsB C I R_o1 (St.mk (look [(5, (V.tup [])), (7, (V.tup []))]) (looko ([].map fun n => (n, o n)))) K)) := rfl
theorem g_rate_Right_c0_sh {C : Ctx} {I : Nat → Prop} {s : Nat → V} {o : Nat → Option Ob} {Q : Ex → St → Prop} : wpB C I (.ret) (St.mk s o) Q =
 (Q .ret (St.mk s o)) := rfl
theorem g_rate_Right_code_sh {R_o0 : List AOper} {R_c0 : ACode} {C : Ctx} {I : Nat → Prop} {s : Nat → V} {o : Nat → Option Ob} {Q : Ex → St → Prop} : wpB C I (.seq (.region [0] (some []) none
    [⟨some 2, .mv (.c (.d (.bool false))), [], [], none, none⟩])
 (.seq (.region [2] (some []) none
     (⟨some 3, .mv (.t 0), [], [], none, none⟩ ::
      ⟨some 4, .bin .geq (.t 3) (.c (.d (.int .i64 0))), [], [], none, none⟩ ::
      ⟨some 5, .mv (.t 4), [], [], none, (some ([0, 5], (some [])))⟩ ::
      R_o0))
  (R_c0))) (St.mk s o) Q =
 (demand (binV BinOp.geq (s 0) (V.d (.int .i64 0))) (fun x1 =>
opsB C I R_o0 (St.mk (look [(0, (s 0)), (5, x1)]) (looko ([].map fun n => (n, o n)))) (fun st => (seqK (fun st => wpB C I R_c0 st Q) Q) .normal (St.trim st [2] (some []))))) := rfl
theorem g_rate_Text_c0_sh {C : Ctx} {I : Nat → Prop} {s : Nat → V} {o : Nat → Option Ob} {Q : Ex → St → Prop} : wpB C I (.seq (.region [2, 3] (some []) none
    [⟨some 14, .mv (.t 4), [], [], none, none⟩,
     ⟨some 15, .bin .add (.t 14) (.c (.d (.str [37]))), [], [], none, none⟩,
     ⟨some 2, .mv (.t 15), [], [], none, none⟩,
     ⟨some 3, .mv (.c (.d (.int .i64 0))), [], [], none, none⟩])
 (.ret)) (St.mk s o) Q =
 (demand (binV BinOp.add (s 4) (V.d (.str [37]))) (fun x1 =>
Q .ret (St.mk (look [(2, x1), (3, (V.d (.int .i64 0)))]) (looko ([].map fun n => (n, o n)))))) := rfl
theorem g_rate_Text_c1_sh {R_c0 : ACode} {C : Ctx} {I : Nat → Prop} {s : Nat → V} {o : Nat → Option Ob} {Q : Ex → St → Prop} : wpB C I (.seq (.region [4] (some []) none
    [⟨some 10, .mv (.t 0), [], [], none, none⟩,
     ⟨some 11, .call 50 [(.t 10)], [], [], none, none⟩,
     ⟨some 9, .mv (.t 11), [], [], none, none⟩,
     ⟨some 12, .ext (.t 9) 0, [], [], none, none⟩,
     ⟨some 13, .ext (.t 9) 1, [], [], none, none⟩,
     ⟨some 4, .mv (.t 12), [], [], none, none⟩,
     ⟨some 5, .mv (.t 13), [], [], none, none⟩])
 (R_c0)) (St.mk s o) Q =
 (callK C I (St.mk (upd s 10 (s 0)) o) (some 11) 50 [(s 0)] (fun r1 or1 =>
demand (extV r1 0) (fun x2 =>
demand (extV r1 1) (fun x3 =>
wpB C I R_c0 (St.mk (look [(4, x2)]) (looko ([].map fun n => (n, or1 n)))) Q)))) := rfl
theorem g_rate_Text_code_sh {R_c1 : ACode} {C : Ctx} {I : Nat → Prop} {s : Nat → V} {o : Nat → Option Ob} {Q : Ex → St → Prop} : wpB C I (.seq (.region [0] (some []) none
    [⟨some 2, .mv (.c (.d (.str []))), [], [], none, none⟩,
     ⟨some 3, .mv (.c (.d (.int .i64 0))), [], [], none, none⟩])
 (.seq (.seq (.region [0, 8] (some []) none
      [⟨some 6, .mv (.t 0), [], [], none, none⟩,
       ⟨some 7, .call 88 [(.t 6)], [], [], none, none⟩,
       ⟨some 8, .un .not (.t 7), [], [], none, none⟩])
   (.cond (.t 8) (.seq (.region [2, 3] (some []) none
        [⟨some 2, .mv (.c (.d (.str []))), [], [], none, none⟩,
         ⟨some 3, .mv (.c (.d (.int .i64 1))), [], [], none, none⟩])
     (.ret))
    (.skip)))
  (R_c1))) (St.mk s o) Q =
 (callK C I (St.mk (upd (look [(0, (s 0))]) 6 (s 0)) (looko ([].map fun n => (n, o n)))) (some 7) 88 [(s 0)] (fun r1 or1 =>
demand (unV UnOp.not r1) (fun x2 =>
condK x2
 (Q .ret (St.mk (look [(2, (V.d (.str []))), (3, (V.d (.int .i64 1)))]) (looko ([].map fun n => (n, or1 n)))))
 (wpB C I R_c1 (St.mk (look [(0, (s 0)), (8, x2)]) (looko ([].map fun n => (n, or1 n)))) Q)))) := rfl
theorem g_rate_Parse_o3_sh {C : Ctx} {I : Nat → Prop} {s : Nat → V} {o : Nat → Option Ob} {K : St → Prop} : opsB C I [⟨some 28, .pick (.t 24) (.c (.d (.bool true))) (.t 27), [], [], none, none⟩] (St.mk s o) K =
 (demand (pickV (s 24) (V.d (.bool true)) (s 27)) (fun x1 =>
K (St.mk (upd s 28 x1) o))) := rfl
theorem g_rate_Parse_o2_sh {R_o3 : List AOper} {C : Ctx} {I : Nat → Prop} {s : Nat → V} {o : Nat → Option Ob} {K : St → Prop} : opsB C I (⟨some 25, .mv (.t 6), [], [], (some (6, 24, false)), none⟩ ::
     ⟨some 26, .call 88 [(.t 25)], [], [], (some (6, 24, false)), none⟩ ::
     ⟨some 27, .un .not (.t 26), [], [], (some (6, 24, false)), (some ([6, 24, 27], (some [])))⟩ ::
     R_o3) (St.mk s o) K =
 (guardK (s 24) false
 (callK C I (St.mk (upd (upd (upd s 24 (V.d (D.bool false))) 25 (s 6)) 24 (V.d (D.bool false))) o) (some 26) 88 [(s 6)] (fun r1 or1 =>
demand (unV UnOp.not r1) (fun x2 =>
opsB C I R_o3 (St.mk (look [(6, (s 6)), (24, (V.d (D.bool false))), (27, x2)]) (looko ([].map fun n => (n, or1 n)))) K)))
 (opsB C I R_o3 (St.mk (look [(6, (s 6)), (24, (V.d (D.bool true))), (27, (V.tup []))]) (looko ([].map fun n => (n, o n)))) K)
 (opsB C I R_o3 (St.mk (look [(6, (s 6)), (24, (V.tup [])), (27, (V.tup []))]) (looko ([].map fun n => (n, o n)))) K)) := rfl
theorem g_rate_Parse_o1_sh {R_o2 : List AOper} {C : Ctx} {I : Nat → Prop} {s : Nat → V} {o : Nat → Option Ob} {K : St → Prop} : opsB C I (⟨some 23, .pick (.t 20) (.c (.d (.bool true))) (.t 22), [], [], none, none⟩ ::
     ⟨some 24, .mv (.t 23), [], [], none, (some ([6, 24], (some [])))⟩ ::
     R_o2) (St.mk s o) K =
 (demand (pickV (s 20) (V.d (.bool true)) (s 22)) (fun x1 =>
opsB C I R_o2 (St.mk (look [(6, (s 6)), (24, x1)]) (looko ([].map fun n => (n, o n)))) K)) := rfl
theorem g_rate_Parse_o0_sh {R_o1 : List AOper} {C : Ctx} {I : Nat → Prop} {s : Nat → V} {o : Nat → Option Ob} {K : St → Prop} : opsB C I (⟨some 21, .mv (.t 7), [], [], (some (2, 20, false)), none⟩ ::
     ⟨some 22, .un .not (.t 21), [], [], (some (2, 20, false)), (some ([6, 20, 22], (some [])))⟩ ::
     R_o1) (St.mk s o) K =
 (guardK (s 20) false
 (demand (unV UnOp.not (s 7)) (fun x1 =>
opsB C I R_o1 (St.mk (look [(6, (s 6)), (20, (V.d (D.bool false))), (22, x1)]) (looko ([].map fun n => (n, o n)))) K))
 (opsB C I R_o1 (St.mk (look [(6, (s 6)), (20, (V.d (D.bool true))), (22, (V.tup []))]) (looko ([].map fun n => (n, o n)))) K)
 (opsB C I R_o1 (St.mk (look [(6, (s 6)), (20, (V.tup [])), (22, (V.tup []))]) (looko ([].map fun n => (n, o n)))) K)) := rfl
theorem g_rate_Parse_c0_sh {C : Ctx} {I : Nat → Prop} {s : Nat → V} {o : Nat → Option Ob} {Q : Ex → St → Prop} : wpB C I (.cond (.t 28) (.seq (.region [2, 3] (some []) none
     [⟨some 2, .mv (.c (.d (.int .i64 0))), [], [], none, none⟩,
      ⟨some 3, .mv (.c (.d (.bool false))), [], [], none, none⟩])
  (.ret))
 (.skip)) (St.mk s o) Q =
 (condK (s 28)
 (Q .ret (St.mk (look [(2, (V.d (.int .i64 0))), (3, (V.d (.bool false)))]) (looko ([].map fun n => (n, o n)))))
 (Q .normal (St.mk s o))) := rfl
theorem g_rate_Parse_c1_sh {C : Ctx} {I : Nat → Prop} {s : Nat → V} {o : Nat → Option Ob} {Q : Ex → St → Prop} : wpB C I (.seq (.region [2, 3] (some []) none
    [⟨some 29, .mv (.t 6), [], [], none, none⟩,
     ⟨some 2, .mv (.t 29), [], [], none, none⟩,
     ⟨some 3, .mv (.c (.d (.bool true))), [], [], none, none⟩])
 (.ret)) (St.mk s o) Q =
 (Q .ret (St.mk (look [(2, (s 6)), (3, (V.d (.bool true)))]) (looko ([].map fun n => (n, o n))))) := rfl
theorem g_rate_Parse_c2_sh {R_o0 : List AOper} {R_c0 : ACode} {R_c1 : ACode} {C : Ctx} {I : Nat → Prop} {s : Nat → V} {o : Nat → Option Ob} {Q : Ex → St → Prop} : wpB C I (.seq (.seq (.region [6, 28] (some []) none
     (⟨some 18, .mv (.t 5), [], [], none, none⟩ ::
      ⟨some 19, .un .not (.t 18), [], [], none, none⟩ ::
      ⟨some 20, .mv (.t 19), [], [], none, (some ([6, 7, 20], (some [])))⟩ ::
      R_o0))
  (R_c0))
 (R_c1)) (St.mk s o) Q =
 (demand (unV UnOp.not (s 5)) (fun x1 =>
opsB C I R_o0 (St.mk (look [(6, (s 6)), (7, (s 7)), (20, x1)]) (looko ([].map fun n => (n, o n)))) (fun st => (seqK (fun st => wpB C I R_c0 st (seqK (fun st => wpB C I R_c1 st Q) Q)) (seqK (fun st => wpB C I R_c1 st Q) Q)) .normal (St.trim st [6, 28] (some []))))) := rfl
theorem g_rate_Parse_c3_sh {R_c2 : ACode} {C : Ctx} {I : Nat → Prop} {s : Nat → V} {o : Nat → Option Ob} {Q : Ex → St → Prop} : wpB C I (.seq (.region [5, 6, 7] (some []) none
    [⟨some 14, .mv (.t 4), [], [], none, none⟩,
     ⟨some 15, .call 51 [(.t 14)], [], [], none, none⟩,
     ⟨some 13, .mv (.t 15), [], [], none, none⟩,
     ⟨some 16, .ext (.t 13) 0, [], [], none, none⟩,
     ⟨some 17, .ext (.t 13) 1, [], [], none, none⟩,
     ⟨some 6, .mv (.t 16), [], [], none, none⟩,
     ⟨some 7, .mv (.t 17), [], [], none, none⟩])
 (R_c2)) (St.mk s o) Q =
 (callK C I (St.mk (upd s 14 (s 4)) o) (some 15) 51 [(s 4)] (fun r1 or1 =>
demand (extV r1 0) (fun x2 =>
demand (extV r1 1) (fun x3 =>
wpB C I R_c2 (St.mk (look [(5, (s 5)), (6, x2), (7, x3)]) (looko ([].map fun n => (n, or1 n)))) Q)))) := rfl
theorem g_rate_Parse_code_sh {R_c3 : ACode} {C : Ctx} {I : Nat → Prop} {s : Nat → V} {o : Nat → Option Ob} {Q : Ex → St → Prop} : wpB C I (.seq (.region [0] (some []) none
    [⟨some 2, .mv (.c (.d (.int .i64 0))), [], [], none, none⟩,
     ⟨some 3, .mv (.c (.d (.bool false))), [], [], none, none⟩])
 (.seq (.region [4, 5] (some []) none
     [⟨some 9, .mv (.t 0), [], [], none, none⟩,
      ⟨some 10, .call 101 [(.t 9), (.c (.d (.str [37])))], [], [], none, none⟩,
      ⟨some 8, .mv (.t 10), [], [], none, none⟩,
      ⟨some 11, .ext (.t 8) 0, [], [], none, none⟩,
      ⟨some 12, .ext (.t 8) 1, [], [], none, none⟩,
      ⟨some 4, .mv (.t 11), [], [], none, none⟩,
      ⟨some 5, .mv (.t 12), [], [], none, none⟩])
  (R_c3))) (St.mk s o) Q =
 (callK C I (St.mk (upd (look [(0, (s 0))]) 9 (s 0)) (looko ([].map fun n => (n, o n)))) (some 10) 101 [(s 0), (V.d (.str [37]))] (fun r1 or1 =>
demand (extV r1 0) (fun x2 =>
demand (extV r1 1) (fun x3 =>
wpB C I R_c3 (St.mk (look [(4, x2), (5, x3)]) (looko ([].map fun n => (n, or1 n)))) Q)))) := rfl
theorem g_ref03_Parse_o1_sh {C : Ctx} {I : Nat → Prop} {s : Nat → V} {o : Nat → Option Ob} {K : St → Prop} : opsB C I [⟨some 17, .pick (.t 12) (.t 16) (.c (.d (.bool false))), [], [], none, none⟩] (St.mk s o) K =
 (demand (pickV (s 12) (s 16) (V.d (.bool false))) (fun x1 =>
K (St.mk (upd s 17 x1) o))) := rfl
theorem g_ref03_Parse_o0_sh {R_o1 : List AOper} {C : Ctx} {I : Nat → Prop} {s : Nat → V} {o : Nat → Option Ob} {K : St → Prop} : opsB C I (⟨some 13, .mv (.t 4), [], [], (some (3, 12, true)), none⟩ ::
     ⟨some 14, .call 94 [(.t 13)], [], [], (some (3, 12, true)), none⟩ ::
     ⟨some 15, .mv (.t 0), [], [], (some (3, 12, true)), none⟩ ::
     ⟨some 16, .bin .eql (.t 14) (.t 15), [], [], (some (3, 12, true)), (some ([0, 4, 12, 16], (some [])))⟩ ::
     R_o1) (St.mk s o) K =
 (guardK (s 12) true
 (callK C I (St.mk (upd (upd (upd s 12 (V.d (D.bool true))) 13 (s 4)) 12 (V.d (D.bool true))) o) (some 14) 94 [(s 4)] (fun r1 or1 =>
demand (binV BinOp.eql r1 (s 0)) (fun x2 =>
opsB C I R_o1 (St.mk (look [(0, (s 0)), (4, (s 4)), (12, (V.d (D.bool true))), (16, x2)]) (looko ([].map fun n => (n, or1 n)))) K)))
 (opsB C I R_o1 (St.mk (look [(0, (s 0)), (4, (s 4)), (12, (V.d (D.bool false))), (16, (V.tup []))]) (looko ([].map fun n => (n, o n)))) K)
 (opsB C I R_o1 (St.mk (look [(0, (s 0)), (4, (s 4)), (12, (V.tup [])), (16, (V.tup []))]) (looko ([].map fun n => (n, o n)))) K)) := rfl
theorem g_ref03_Parse_c0_sh {C : Ctx} {I : Nat → Prop} {s : Nat → V} {o : Nat → Option Ob} {Q : Ex → St → Prop} : wpB C I (.cond (.t 17) (.seq (.region [2, 3] (some []) none
     [⟨some 18, .mv (.t 4), [], [], none, none⟩,
      ⟨some 2, .mv (.t 18), [], [], none, none⟩,
      ⟨some 3, .mv (.c (.d (.bool true))), [], [], none, none⟩])
  (.ret))
 (.skip)) (St.mk s o) Q =
 (condK (s 17)
 (Q .ret (St.mk (look [(2, (s 4)), (3, (V.d (.bool true)))]) (looko ([].map fun n => (n, o n)))))
 (Q .normal (St.mk s o))) := rfl
theorem g_ref03_Parse_c1_sh {C : Ctx} {I : Nat → Prop} {s : Nat → V} {o : Nat → Option Ob} {Q : Ex → St → Prop} : wpB C I (.region [0, 4] (some []) none
   [⟨some 7, .mv (.t 4), [], [], none, none⟩,
    ⟨some 8, .bin .add (.t 7) (.c (.d (.int .i64 1))), [], [], none, none⟩,
    ⟨some 4, .mv (.t 8), [], [], none, none⟩]) (St.mk s o) Q =
 (demand (binV BinOp.add (s 4) (V.d (.int .i64 1))) (fun x1 =>
Q .normal (St.mk (look [(0, (s 0)), (4, x1)]) (looko ([].map fun n => (n, o n)))))) := rfl
theorem g_ref03_Parse_l0_sh {R_l0 : ACode} {R_o0 : List AOper} {R_c0 : ACode} {R_c1 : ACode} {C : Ctx} {I : Nat → Prop} {s : Nat → V} {o : Nat → Option Ob} {Q : Ex → St → Prop} (hL : R_l0 = .loop [0, 4] (some []) (.seq (.seq (.region [0, 4, 6] (some []) none
      [⟨some 5, .mv (.t 4), [], [], none, none⟩,
       ⟨some 6, .bin .leq (.t 5) (.c (.d (.int .i64 10000))), [], [], none, none⟩])
   (.cond (.t 6) (.skip)
    (.exit 0)))
  (.seq (.block 1 [0, 4] (some []) (.seq (.region [0, 4, 17] (some []) none
        (⟨some 9, .mv (.t 0), [], [], none, none⟩ ::
         ⟨some 10, .lenS (.t 9), [], [], none, none⟩ ::
         ⟨some 11, .bin .lss (.t 10) (.c (.d (.int .i64 9))), [], [], none, none⟩ ::
         ⟨some 12, .mv (.t 11), [], [], none, (some ([0, 4, 12], (some [])))⟩ ::
         R_o0))
     (R_c0)))
   (R_c1))))
 (h : demand (binV BinOp.leq (s 4) (V.d (.int .i64 10000))) (fun x1 =>
condK x1
 (demand (lenSV (s 0)) (fun x2 =>
demand (binV BinOp.lss x2 (V.d (.int .i64 9))) (fun x3 =>
opsB C I R_o0 (St.mk (look [(0, (s 0)), (4, (s 4)), (12, x3)]) (looko ([].map fun n => (n, o n)))) (fun st => (seqK (fun st => wpB C I R_c0 st (blockK 1 [0, 4] (some []) (seqK (fun st => wpB C I R_c1 st (seqK (fun s => wpB C I R_l0 s Q) Q)) (seqK (fun s => wpB C I R_l0 s Q) Q)))) (blockK 1 [0, 4] (some []) (seqK (fun st => wpB C I R_c1 st (seqK (fun s => wpB C I R_l0 s Q) Q)) (seqK (fun s => wpB C I R_l0 s Q) Q)))) .normal (St.trim st [0, 4, 17] (some []))))))
 (Q (.exit 0) (St.mk (look [(0, (s 0)), (4, (s 4)), (6, x1)]) (looko ([].map fun n => (n, o n))))))) : wpB C I R_l0 (St.mk s o) Q := w_loopC hL h
theorem g_ref03_Parse_c2_sh {C : Ctx} {I : Nat → Prop} {s : Nat → V} {o : Nat → Option Ob} {Q : Ex → St → Prop} : wpB C I (.seq (.region [2, 3] (some []) none
    [⟨some 2, .mv (.c (.d (.int .i64 0))), [], [], none, none⟩,
     ⟨some 3, .mv (.c (.d (.bool false))), [], [], none, none⟩])
 (.ret)) (St.mk s o) Q =
 (Q .ret (St.mk (look [(2, (V.d (.int .i64 0))), (3, (V.d (.bool false)))]) (looko ([].map fun n => (n, o n))))) := rfl
theorem g_ref03_Parse_code_sh {R_l0 : ACode} {R_c2 : ACode} {C : Ctx} {I : Nat → Prop} {s : Nat → V} {o : Nat → Option Ob} {Q : Ex → St → Prop} : wpB C I (.seq (.region [0] (some []) none
    [⟨some 2, .mv (.c (.d (.int .i64 0))), [], [], none, none⟩,
     ⟨some 3, .mv (.c (.d (.bool false))), [], [], none, none⟩])
 (.seq (.seq (.region [0, 4] (some []) none
      [⟨some 4, .mv (.c (.d (.int .i64 0))), [], [], none, none⟩])
   (.block 0 [] (some []) (R_l0)))
  (R_c2))) (St.mk s o) Q =
 (wpB C I R_l0 (St.mk (look [(0, (s 0)), (4, (V.d (.int .i64 0)))]) (looko ([].map fun n => (n, o n)))) (blockK 0 [] (some []) (seqK (fun st => wpB C I R_c2 st Q) Q))) := rfl
theorem g_ref03_Text_code_sh {C : Ctx} {I : Nat → Prop} {s : Nat → V} {o : Nat → Option Ob} {Q : Ex → St → Prop} : wpB C I (.seq (.region [0] (some []) none
    [⟨some 2, .mv (.c (.d (.str []))), [], [], none, none⟩])
 (.seq (.region [2] (some []) none
     [⟨some 3, .mv (.t 0), [], [], none, none⟩,
      ⟨some 4, .call 54 [(.t 3)], [], [], none, none⟩,
      ⟨some 5, .bin .add (.t 4) (.c (.d (.str [37]))), [], [], none, none⟩,
      ⟨some 2, .mv (.t 5), [], [], none, none⟩])
  (.ret))) (St.mk s o) Q =
 (callK C I (St.mk (upd (look [(0, (s 0))]) 3 (s 0)) (looko ([].map fun n => (n, o n)))) (some 4) 54 [(s 0)] (fun r1 or1 =>
demand (binV BinOp.add r1 (V.d (.str [37]))) (fun x2 =>
Q .ret (St.mk (look [(2, x2)]) (looko ([].map fun n => (n, or1 n))))))) := rfl
theorem g_wide_MulDiv_o1_sh {C : Ctx} {I : Nat → Prop} {s : Nat → V} {o : Nat → Option Ob} {K : St → Prop} : opsB C I [⟨some 22, .pick (.t 19) (.c (.d (.bool true))) (.t 21), [], [], none, none⟩,
     ⟨some 16, .mv (.t 22), [], [], none, none⟩] (St.mk s o) K =
 (demand (pickV (s 19) (V.d (.bool true)) (s 21)) (fun x1 =>
K (St.mk (upd (upd s 22 x1) 16 x1) o))) := rfl
theorem g_wide_MulDiv_o0_sh {R_o1 : List AOper} {C : Ctx} {I : Nat → Prop} {s : Nat → V} {o : Nat → Option Ob} {K : St → Prop} : opsB C I (⟨some 20, .mv (.t 3), [], [], (some (2, 19, false)), none⟩ ::
     ⟨some 21, .bin .gtr (.t 20) (.c (.d (.int .i64 3))), [], [], (some (2, 19, false)), (some ([0, 1, 2, 3, 19, 21], (some [])))⟩ ::
     R_o1) (St.mk s o) K =
 (guardK (s 19) false
 (demand (binV BinOp.gtr (s 3) (V.d (.int .i64 3))) (fun x1 =>
opsB C I R_o1 (St.mk (look [(0, (s 0)), (1, (s 1)), (2, (s 2)), (3, (s 3)), (19, (V.d (D.bool false))), (21, x1)]) (looko ([].map fun n => (n, o n)))) K))
 (opsB C I R_o1 (St.mk (look [(0, (s 0)), (1, (s 1)), (2, (s 2)), (3, (s 3)), (19, (V.d (D.bool true))), (21, (V.tup []))]) (looko ([].map fun n => (n, o n)))) K)
 (opsB C I R_o1 (St.mk (look [(0, (s 0)), (1, (s 1)), (2, (s 2)), (3, (s 3)), (19, (V.tup [])), (21, (V.tup []))]) (looko ([].map fun n => (n, o n)))) K)) := rfl
theorem g_wide_MulDiv_o5_sh {C : Ctx} {I : Nat → Prop} {s : Nat → V} {o : Nat → Option Ob} {K : St → Prop} : opsB C I [⟨some 36, .pick (.t 32) (.c (.d (.bool true))) (.t 35), [], [], none, none⟩,
     ⟨some 23, .mv (.t 36), [], [], none, none⟩] (St.mk s o) K =
 (demand (pickV (s 32) (V.d (.bool true)) (s 35)) (fun x1 =>
K (St.mk (upd (upd s 36 x1) 23 x1) o))) := rfl
theorem g_wide_MulDiv_o4_sh {R_o5 : List AOper} {C : Ctx} {I : Nat → Prop} {s : Nat → V} {o : Nat → Option Ob} {K : St → Prop} : opsB C I (⟨some 33, .mv (.t 2), [], [], (some (8, 32, false)), none⟩ ::
     ⟨some 34, .call 58 [(.t 33)], [], [], (some (8, 32, false)), none⟩ ::
     ⟨some 35, .un .not (.t 34), [], [], (some (8, 32, false)), (some ([0, 1, 2, 3, 32, 35], (some [])))⟩ ::
     R_o5) (St.mk s o) K =
 (guardK (s 32) false
 (callK C I (St.mk (upd (upd (upd s 32 (V.d (D.bool false))) 33 (s 2)) 32 (V.d (D.bool false))) o) (some 34) 58 [(s 2)] (fun r1 or1 =>
demand (unV UnOp.not r1) (fun x2 =>
opsB C I R_o5 (St.mk (look [(0, (s 0)), (1, (s 1)), (2, (s 2)), (3, (s 3)), (32, (V.d (D.bool false))), (35, x2)]) (looko ([].map fun n => (n, or1 n)))) K)))
 (opsB C I R_o5 (St.mk (look [(0, (s 0)), (1, (s 1)), (2, (s 2)), (3, (s 3)), (32, (V.d (D.bool true))), (35, (V.tup []))]) (looko ([].map fun n => (n, o n)))) K)
 (opsB C I R_o5 (St.mk (look [(0, (s 0)), (1, (s 1)), (2, (s 2)), (3, (s 3)), (32, (V.tup [])), (35, (V.tup []))]) (looko ([].map fun n => (n, o n)))) K)) := rfl
theorem g_wide_MulDiv_o3_sh {R_o4 : List AOper} {C : Ctx} {I : Nat → Prop} {s : Nat → V} {o : Nat → Option Ob} {K : St → Prop} : opsB C I (⟨some 31, .pick (.t 27) (.c (.d (.bool true))) (.t 30), [], [], none, none⟩ ::
     ⟨some 32, .mv (.t 31), [], [], none, (some ([0, 1, 2, 3, 32], (some [])))⟩ ::
     R_o4) (St.mk s o) K =
 (demand (pickV (s 27) (V.d (.bool true)) (s 30)) (fun x1 =>
opsB C I R_o4 (St.mk (look [(0, (s 0)), (1, (s 1)), (2, (s 2)), (3, (s 3)), (32, x1)]) (looko ([].map fun n => (n, o n)))) K)) := rfl
theorem g_wide_MulDiv_o2_sh {R_o3 : List AOper} {C : Ctx} {I : Nat → Prop} {s : Nat → V} {o : Nat → Option Ob} {K : St → Prop} : opsB C I (⟨some 28, .mv (.t 1), [], [], (some (3, 27, false)), none⟩ ::
     ⟨some 29, .call 58 [(.t 28)], [], [], (some (3, 27, false)), none⟩ ::
     ⟨some 30, .un .not (.t 29), [], [], (some (3, 27, false)), (some ([0, 1, 2, 3, 27, 30], (some [])))⟩ ::
     R_o3) (St.mk s o) K =
 (guardK (s 27) false
 (callK C I (St.mk (upd (upd (upd s 27 (V.d (D.bool false))) 28 (s 1)) 27 (V.d (D.bool false))) o) (some 29) 58 [(s 1)] (fun r1 or1 =>
demand (unV UnOp.not r1) (fun x2 =>
opsB C I R_o3 (St.mk (look [(0, (s 0)), (1, (s 1)), (2, (s 2)), (3, (s 3)), (27, (V.d (D.bool false))), (30, x2)]) (looko ([].map fun n => (n, or1 n)))) K)))
 (opsB C I R_o3 (St.mk (look [(0, (s 0)), (1, (s 1)), (2, (s 2)), (3, (s 3)), (27, (V.d (D.bool true))), (30, (V.tup []))]) (looko ([].map fun n => (n, o n)))) K)
 (opsB C I R_o3 (St.mk (look [(0, (s 0)), (1, (s 1)), (2, (s 2)), (3, (s 3)), (27, (V.tup [])), (30, (V.tup []))]) (looko ([].map fun n => (n, o n)))) K)) := rfl
theorem g_wide_MulDiv_c0_sh {C : Ctx} {I : Nat → Prop} {s : Nat → V} {o : Nat → Option Ob} {Q : Ex → St → Prop} : wpB C I (.cond (.t 23) (.seq (.region [8, 9] (some []) none
     [⟨some 8, .mv (.c (.d (.int .i64 0))), [], [], none, none⟩,
      ⟨some 9, .mv (.c (.d (.int .i64 3))), [], [], none, none⟩])
  (.ret))
 (.seq (.region [0, 1, 2, 3, 37] (some []) none
     [⟨some 38, .mv (.t 2), [], [], none, none⟩,
      ⟨some 39, .bin .eql (.t 38) (.c (.d (.int .i64 0))), [], [], none, none⟩,
      ⟨some 37, .mv (.t 39), [], [], none, none⟩])
  (.cond (.t 37) (.seq (.region [8, 9] (some []) none
       [⟨some 8, .mv (.c (.d (.int .i64 0))), [], [], none, none⟩,
        ⟨some 9, .mv (.c (.d (.int .i64 4))), [], [], none, none⟩])
    (.ret))
   (.skip)))) (St.mk s o) Q =
 (condK (s 23)
 (Q .ret (St.mk (look [(8, (V.d (.int .i64 0))), (9, (V.d (.int .i64 3)))]) (looko ([].map fun n => (n, o n)))))
 (demand (binV BinOp.eql (s 2) (V.d (.int .i64 0))) (fun x1 =>
condK x1
 (Q .ret (St.mk (look [(8, (V.d (.int .i64 0))), (9, (V.d (.int .i64 4)))]) (looko ([].map fun n => (n, o n)))))
 (Q .normal (St.mk (look [(0, (s 0)), (1, (s 1)), (2, (s 2)), (3, (s 3)), (37, x1)]) (looko ([].map fun n => (n, o n)))))))) := rfl
theorem g_wide_MulDiv_c1_sh {R_o2 : List AOper} {R_c0 : ACode} {C : Ctx} {I : Nat → Prop} {s : Nat → V} {o : Nat → Option Ob} {Q : Ex → St → Prop} : wpB C I (.cond (.t 16) (.seq (.region [8, 9] (some []) none
     [⟨some 8, .mv (.c (.d (.int .i64 0))), [], [], none, none⟩,
      ⟨some 9, .mv (.c (.d (.int .i64 1))), [], [], none, none⟩])
  (.ret))
 (.seq (.region [0, 1, 2, 3, 23] (some []) none
     (⟨some 24, .mv (.t 0), [], [], none, none⟩ ::
      ⟨some 25, .call 58 [(.t 24)], [], [], none, none⟩ ::
      ⟨some 26, .un .not (.t 25), [], [], none, none⟩ ::
      ⟨some 27, .mv (.t 26), [], [], none, (some ([0, 1, 2, 3, 27], (some [])))⟩ ::
      R_o2))
  (R_c0))) (St.mk s o) Q =
 (condK (s 16)
 (Q .ret (St.mk (look [(8, (V.d (.int .i64 0))), (9, (V.d (.int .i64 1)))]) (looko ([].map fun n => (n, o n)))))
 (callK C I (St.mk (upd s 24 (s 0)) o) (some 25) 58 [(s 0)] (fun r1 or1 =>
demand (unV UnOp.not r1) (fun x2 =>
opsB C I R_o2 (St.mk (look [(0, (s 0)), (1, (s 1)), (2, (s 2)), (3, (s 3)), (27, x2)]) (looko ([].map fun n => (n, or1 n)))) (fun st => (seqK (fun st => wpB C I R_c0 st Q) Q) .normal (St.trim st [0, 1, 2, 3, 23] (some []))))))) := rfl
theorem g_wide_MulDiv_o7_sh {C : Ctx} {I : Nat → Prop} {s : Nat → V} {o : Nat → Option Ob} {K : St → Prop} : opsB C I [⟨some 68, .pick (.t 62) (.t 67) (.c (.d (.bool false))), [], [], none, none⟩] (St.mk s o) K =
 (demand (pickV (s 62) (s 67) (V.d (.bool false))) (fun x1 =>
K (St.mk (upd s 68 x1) o))) := rfl
theorem g_wide_MulDiv_o6_sh {R_o7 : List AOper} {C : Ctx} {I : Nat → Prop} {s : Nat → V} {o : Nat → Option Ob} {K : St → Prop} : opsB C I (⟨some 63, .mv (.t 3), [], [], (some (2, 62, true)), none⟩ ::
     ⟨some 64, .mv (.t 13), [], [], (some (2, 62, true)), none⟩ ::
     ⟨some 65, .mv (.t 14), [], [], (some (2, 62, true)), none⟩ ::
     ⟨some 66, .mv (.t 12), [], [], (some (2, 62, true)), none⟩ ::
     ⟨some 67, .call 115 [(.t 63), (.t 64), (.t 65), (.t 66)], [], [], (some (2, 62, true)), (some ([0, 1, 2, 13, 62, 67], (some [])))⟩ ::
     R_o7) (St.mk s o) K =
 (guardK (s 62) true
 (callK C I (St.mk (upd (upd (upd (upd (upd (upd (upd (upd (upd s 62 (V.d (D.bool true))) 63 (s 3)) 62 (V.d (D.bool true))) 64 (s 13)) 62 (V.d (D.bool true))) 65 (s 14)) 62 (V.d (D.bool true))) 66 (s 12)) 62 (V.d (D.bool true))) o) (some 67) 115 [(s 3), (s 13), (s 14), (s 12)] (fun r1 or1 =>
opsB C I R_o7 (St.mk (look [(0, (s 0)), (1, (s 1)), (2, (s 2)), (13, (s 13)), (62, (V.d (D.bool true))), (67, r1)]) (looko ([].map fun n => (n, or1 n)))) K))
 (opsB C I R_o7 (St.mk (look [(0, (s 0)), (1, (s 1)), (2, (s 2)), (13, (s 13)), (62, (V.d (D.bool false))), (67, (V.tup []))]) (looko ([].map fun n => (n, o n)))) K)
 (opsB C I R_o7 (St.mk (look [(0, (s 0)), (1, (s 1)), (2, (s 2)), (13, (s 13)), (62, (V.tup [])), (67, (V.tup []))]) (looko ([].map fun n => (n, o n)))) K)) := rfl
theorem g_wide_MulDiv_c2_sh {C : Ctx} {I : Nat → Prop} {s : Nat → V} {o : Nat → Option Ob} {Q : Ex → St → Prop} : wpB C I (.cond (.t 68) (.region [0, 1, 2, 13] (some []) none
    [⟨some 69, .mv (.t 13), [], [], none, none⟩,
     ⟨some 70, .bin .add (.t 69) (.c (.d (.int .u64 1))), [], [], none, none⟩,
     ⟨some 13, .mv (.t 70), [], [], none, none⟩])
 (.skip)) (St.mk s o) Q =
 (condK (s 68)
 (demand (binV BinOp.add (s 13) (V.d (.int .u64 1))) (fun x1 =>
Q .normal (St.mk (look [(0, (s 0)), (1, (s 1)), (2, (s 2)), (13, x1)]) (looko ([].map fun n => (n, o n))))))
 (Q .normal (St.mk s o))) := rfl
theorem g_wide_MulDiv_c3_sh {C : Ctx} {I : Nat → Prop} {s : Nat → V} {o : Nat → Option Ob} {Q : Ex → St → Prop} : wpB C I (.seq (.region [8, 9] (some []) none
    [⟨some 85, .mv (.t 15), [], [], none, none⟩,
     ⟨some 8, .mv (.t 85), [], [], none, none⟩,
     ⟨some 9, .mv (.c (.d (.int .i64 0))), [], [], none, none⟩])
 (.ret)) (St.mk s o) Q =
 (Q .ret (St.mk (look [(8, (s 15)), (9, (V.d (.int .i64 0)))]) (looko ([].map fun n => (n, o n))))) := rfl
theorem g_wide_MulDiv_c4_sh {R_c3 : ACode} {C : Ctx} {I : Nat → Prop} {s : Nat → V} {o : Nat → Option Ob} {Q : Ex → St → Prop} : wpB C I (.seq (.region [0, 1, 2, 15] (some []) none
    [⟨some 73, .mv (.t 13), [], [], none, none⟩,
     ⟨some 74, .conv .i64 (.t 73), [], [], none, none⟩,
     ⟨some 15, .mv (.t 74), [], [], none, none⟩])
 (.seq (.seq (.region [15, 82] (some []) none
      [⟨some 75, .mv (.t 0), [], [], none, none⟩,
       ⟨some 76, .bin .lss (.t 75) (.c (.d (.int .i64 0))), [], [], none, none⟩,
       ⟨some 77, .mv (.t 1), [], [], none, none⟩,
       ⟨some 78, .bin .lss (.t 77) (.c (.d (.int .i64 0))), [], [], none, none⟩,
       ⟨some 79, .beq true (.t 76) (.t 78), [], [], none, none⟩,
       ⟨some 80, .mv (.t 2), [], [], none, none⟩,
       ⟨some 81, .bin .lss (.t 80) (.c (.d (.int .i64 0))), [], [], none, none⟩,
       ⟨some 82, .beq true (.t 79) (.t 81), [], [], none, none⟩])
   (.cond (.t 82) (.region [15] (some []) none
       [⟨some 83, .mv (.t 15), [], [], none, none⟩,
        ⟨some 84, .un .neg (.t 83), [], [], none, none⟩,
        ⟨some 15, .mv (.t 84), [], [], none, none⟩])
    (.skip)))
  (R_c3))) (St.mk s o) Q =
 (demand (convV IntKind.i64 (s 13)) (fun x1 =>
demand (binV BinOp.lss (s 0) (V.d (.int .i64 0))) (fun x2 =>
demand (binV BinOp.lss (s 1) (V.d (.int .i64 0))) (fun x3 =>
demand (beqV true x2 x3) (fun x4 =>
demand (binV BinOp.lss (s 2) (V.d (.int .i64 0))) (fun x5 =>
demand (beqV true x4 x5) (fun x6 =>
condK x6
 (demand (unV UnOp.neg x1) (fun x7 =>
wpB C I R_c3 (St.mk (look [(15, x7)]) (looko ([].map fun n => (n, o n)))) Q))
 (wpB C I R_c3 (St.mk (look [(15, x1), (82, x6)]) (looko ([].map fun n => (n, o n)))) Q)))))))) := rfl
theorem g_wide_MulDiv_c5_sh {R_c4 : ACode} {C : Ctx} {I : Nat → Prop} {s : Nat → V} {o : Nat → Option Ob} {Q : Ex → St → Prop} : wpB C I (.seq (.seq (.region [0, 1, 2, 13, 72] (some []) none
     [⟨some 71, .mv (.t 13), [], [], none, none⟩,
      ⟨some 72, .bin .gtr (.t 71) (.c (.d (.int .u64 9223372036854775807))), [], [], none, none⟩])
  (.cond (.t 72) (.seq (.region [8, 9] (some []) none
       [⟨some 8, .mv (.c (.d (.int .i64 0))), [], [], none, none⟩,
        ⟨some 9, .mv (.c (.d (.int .i64 3))), [], [], none, none⟩])
    (.ret))
   (.skip)))
 (R_c4)) (St.mk s o) Q =
 (demand (binV BinOp.gtr (s 13) (V.d (.int .u64 9223372036854775807))) (fun x1 =>
condK x1
 (Q .ret (St.mk (look [(8, (V.d (.int .i64 0))), (9, (V.d (.int .i64 3)))]) (looko ([].map fun n => (n, o n)))))
 (wpB C I R_c4 (St.mk (look [(0, (s 0)), (1, (s 1)), (2, (s 2)), (13, (s 13)), (72, x1)]) (looko ([].map fun n => (n, o n)))) Q))) := rfl
theorem g_wide_MulDiv_c6_sh {R_o6 : List AOper} {R_c2 : ACode} {R_c5 : ACode} {C : Ctx} {I : Nat → Prop} {s : Nat → V} {o : Nat → Option Ob} {Q : Ex → St → Prop} : wpB C I (.seq (.seq (.region [0, 1, 2, 13, 68] (some []) none
     (⟨some 60, .mv (.t 13), [], [], none, none⟩ ::
      ⟨some 61, .bin .leq (.t 60) (.c (.d (.int .u64 9223372036854775807))), [], [], none, none⟩ ::
      ⟨some 62, .mv (.t 61), [], [], none, (some ([0, 1, 2, 3, 12, 13, 14, 62], (some [])))⟩ ::
      R_o6))
  (R_c2))
 (R_c5)) (St.mk s o) Q =
 (demand (binV BinOp.leq (s 13) (V.d (.int .u64 9223372036854775807))) (fun x1 =>
opsB C I R_o6 (St.mk (look [(0, (s 0)), (1, (s 1)), (2, (s 2)), (3, (s 3)), (12, (s 12)), (13, (s 13)), (14, (s 14)), (62, x1)]) (looko ([].map fun n => (n, o n)))) (fun st => (seqK (fun st => wpB C I R_c2 st (seqK (fun st => wpB C I R_c5 st Q) Q)) (seqK (fun st => wpB C I R_c5 st Q) Q)) .normal (St.trim st [0, 1, 2, 13, 68] (some []))))) := rfl
theorem g_wide_MulDiv_c7_sh {R_c6 : ACode} {C : Ctx} {I : Nat → Prop} {s : Nat → V} {o : Nat → Option Ob} {Q : Ex → St → Prop} : wpB C I (.seq (.region [0, 1, 2, 3, 12, 13, 14] (some []) none
    [⟨some 54, .mv (.t 10), [], [], none, none⟩,
     ⟨some 55, .mv (.t 11), [], [], none, none⟩,
     ⟨some 56, .mv (.t 12), [], [], none, none⟩,
     ⟨some 57, .call 114 [(.t 54), (.t 55), (.t 56)], [], [], none, none⟩,
     ⟨some 53, .mv (.t 57), [], [], none, none⟩,
     ⟨some 58, .ext (.t 53) 0, [], [], none, none⟩,
     ⟨some 59, .ext (.t 53) 1, [], [], none, none⟩,
     ⟨some 13, .mv (.t 58), [], [], none, none⟩,
     ⟨some 14, .mv (.t 59), [], [], none, none⟩])
 (R_c6)) (St.mk s o) Q =
 (callK C I (St.mk (upd (upd (upd s 54 (s 10)) 55 (s 11)) 56 (s 12)) o) (some 57) 114 [(s 10), (s 11), (s 12)] (fun r1 or1 =>
demand (extV r1 0) (fun x2 =>
demand (extV r1 1) (fun x3 =>
wpB C I R_c6 (St.mk (look [(0, (s 0)), (1, (s 1)), (2, (s 2)), (3, (s 3)), (12, (s 12)), (13, x2), (14, x3)]) (looko ([].map fun n => (n, or1 n)))) Q)))) := rfl
theorem g_wide_MulDiv_c8_sh {R_c7 : ACode} {C : Ctx} {I : Nat → Prop} {s : Nat → V} {o : Nat → Option Ob} {Q : Ex → St → Prop} : wpB C I (.seq (.region [0, 1, 2, 3, 10, 11, 12] (some []) none
    [⟨some 48, .mv (.t 2), [], [], none, none⟩,
     ⟨some 49, .call 112 [(.t 48)], [], [], none, none⟩,
     ⟨some 12, .mv (.t 49), [], [], none, none⟩])
 (.seq (.seq (.region [0, 1, 2, 3, 10, 11, 12, 52] (some []) none
      [⟨some 50, .mv (.t 10), [], [], none, none⟩,
       ⟨some 51, .mv (.t 12), [], [], none, none⟩,
       ⟨some 52, .bin .geq (.t 50) (.t 51), [], [], none, none⟩])
   (.cond (.t 52) (.seq (.region [8, 9] (some []) none
        [⟨some 8, .mv (.c (.d (.int .i64 0))), [], [], none, none⟩,
         ⟨some 9, .mv (.c (.d (.int .i64 3))), [], [], none, none⟩])
     (.ret))
    (.skip)))
  (R_c7))) (St.mk s o) Q =
 (callK C I (St.mk (upd s 48 (s 2)) o) (some 49) 112 [(s 2)] (fun r1 or1 =>
demand (binV BinOp.geq (s 10) r1) (fun x2 =>
condK x2
 (Q .ret (St.mk (look [(8, (V.d (.int .i64 0))), (9, (V.d (.int .i64 3)))]) (looko ([].map fun n => (n, or1 n)))))
 (wpB C I R_c7 (St.mk (look [(0, (s 0)), (1, (s 1)), (2, (s 2)), (3, (s 3)), (10, (s 10)), (11, (s 11)), (12, r1), (52, x2)]) (looko ([].map fun n => (n, or1 n)))) Q)))) := rfl
theorem g_wide_MulDiv_c9_sh {R_c8 : ACode} {C : Ctx} {I : Nat → Prop} {s : Nat → V} {o : Nat → Option Ob} {Q : Ex → St → Prop} : wpB C I (.seq (.region [0, 1, 2, 3, 10, 11] (some []) none
    [⟨some 41, .mv (.t 0), [], [], none, none⟩,
     ⟨some 42, .call 112 [(.t 41)], [], [], none, none⟩,
     ⟨some 43, .mv (.t 1), [], [], none, none⟩,
     ⟨some 44, .call 112 [(.t 43)], [], [], none, none⟩,
     ⟨some 45, .call 113 [(.t 42), (.t 44)], [], [], none, none⟩,
     ⟨some 40, .mv (.t 45), [], [], none, none⟩,
     ⟨some 46, .ext (.t 40) 0, [], [], none, none⟩,
     ⟨some 47, .ext (.t 40) 1, [], [], none, none⟩,
     ⟨some 10, .mv (.t 46), [], [], none, none⟩,
     ⟨some 11, .mv (.t 47), [], [], none, none⟩])
 (R_c8)) (St.mk s o) Q =
 (callK C I (St.mk (upd s 41 (s 0)) o) (some 42) 112 [(s 0)] (fun r1 or1 =>
callK C I (St.mk (upd (upd (upd s 41 (s 0)) 42 r1) 43 (s 1)) or1) (some 44) 112 [(s 1)] (fun r2 or2 =>
callK C I (St.mk (upd (upd (upd (upd s 41 (s 0)) 42 r1) 43 (s 1)) 44 r2) or2) (some 45) 113 [r1, r2] (fun r3 or3 =>
demand (extV r3 0) (fun x4 =>
demand (extV r3 1) (fun x5 =>
wpB C I R_c8 (St.mk (look [(0, (s 0)), (1, (s 1)), (2, (s 2)), (3, (s 3)), (10, x4), (11, x5)]) (looko ([].map fun n => (n, or3 n)))) Q)))))) := rfl
theorem g_wide_MulDiv_code_sh {R_o0 : List AOper} {R_c1 : ACode} {R_c9 : ACode} {C : Ctx} {I : Nat → Prop} {s : Nat → V} {o : Nat → Option Ob} {Q : Ex → St → Prop} : wpB C I (.seq (.region [0, 1, 2, 3] (some []) none
    [⟨some 8, .mv (.c (.d (.int .i64 0))), [], [], none, none⟩,
     ⟨some 9, .mv (.c (.d (.int .i64 0))), [], [], none, none⟩])
 (.seq (.block 0 [0, 1, 2, 3] (some []) (.seq (.region [0, 1, 2, 3, 16] (some []) none
       (⟨some 17, .mv (.t 3), [], [], none, none⟩ ::
        ⟨some 18, .bin .lss (.t 17) (.c (.d (.int .i64 0))), [], [], none, none⟩ ::
        ⟨some 19, .mv (.t 18), [], [], none, (some ([0, 1, 2, 3, 19], (some [])))⟩ ::
        R_o0))
    (R_c1)))
  (R_c9))) (St.mk s o) Q =
 (demand (binV BinOp.lss (s 3) (V.d (.int .i64 0))) (fun x1 =>
opsB C I R_o0 (St.mk (look [(0, (s 0)), (1, (s 1)), (2, (s 2)), (3, (s 3)), (19, x1)]) (looko ([].map fun n => (n, o n)))) (fun st => (seqK (fun st => wpB C I R_c1 st (blockK 0 [0, 1, 2, 3] (some []) (seqK (fun st => wpB C I R_c9 st Q) Q))) (blockK 0 [0, 1, 2, 3] (some []) (seqK (fun st => wpB C I R_c9 st Q) Q))) .normal (St.trim st [0, 1, 2, 3, 16] (some []))))) := rfl
theorem g_ref01_Right_code_sh {C : Ctx} {I : Nat → Prop} {s : Nat → V} {o : Nat → Option Ob} {Q : Ex → St → Prop} : wpB C I (.seq (.region [0] (some []) none
    [⟨some 2, .mv (.c (.d (.bool false))), [], [], none, none⟩])
 (.seq (.region [2] (some []) none
     [⟨some 3, .mv (.t 0), [], [], none, none⟩,
      ⟨some 4, .bin .neq (.t 3) (.c (.d (.int .i64 (-9223372036854775808)))), [], [], none, none⟩,
      ⟨some 2, .mv (.t 4), [], [], none, none⟩])
  (.ret))) (St.mk s o) Q =
 (demand (binV BinOp.neq (s 0) (V.d (.int .i64 (-9223372036854775808)))) (fun x1 =>
Q .ret (St.mk (look [(2, x1)]) (looko ([].map fun n => (n, o n)))))) := rfl
theorem g_ref02_MulDiv_c0_sh {C : Ctx} {I : Nat → Prop} {s : Nat → V} {o : Nat → Option Ob} {Q : Ex → St → Prop} : wpB C I (.region [3, 10, 11, 12, 13, 14, 16] (some [10, 11, 63]) none
   [⟨some 58, .mv (.t 16), [], [], none, none⟩,
    ⟨some 59, .bin .add (.t 58) (.c (.d (.int .i64 1))), [], [], none, none⟩,
    ⟨some 16, .mv (.t 59), [], [], none, none⟩]) (St.mk s o) Q =
 (demand (binV BinOp.add (s 16) (V.d (.int .i64 1))) (fun x1 =>
Q .normal (St.mk (look [(3, (s 3)), (10, (s 10)), (11, (s 11)), (12, (s 12)), (13, (s 13)), (14, (s 14)), (16, x1)]) (looko ([10, 11, 63].map fun n => (n, o n)))))) := rfl
theorem g_ref02_MulDiv_c1_sh {R_c0 : ACode} {C : Ctx} {I : Nat → Prop} {s : Nat → V} {o : Nat → Option Ob} {Q : Ex → St → Prop} : wpB C I (.block 3 [3, 10, 11, 12, 13, 14, 16] (some [10, 11, 63]) (.seq (.region [3, 10, 11, 12, 13, 14, 16] (some [10, 11, 63]) none
     [⟨some 54, .mv (.t 12), [], [], none, none⟩,
      ⟨some 55, .faddr 1 (.t 11), [], [], none, none⟩,
      ⟨some 56, .load none (.t 55), [], [], none, none⟩,
      ⟨some 57, .call 120 [(.t 54), (.t 56)], [], [], none, none⟩,
      ⟨some 12, .mv (.t 57), [], [], none, none⟩])
  (R_c0))) (St.mk s o) Q =
 (demand (faddrV 1 (s 11)) (fun x1 =>
demand (loadV o none x1) (fun x2 =>
callK C I (St.mk (upd (upd (upd s 54 (s 12)) 55 x1) 56 x2) o) (some 57) 120 [(s 12), x2] (fun r3 or3 =>
wpB C I R_c0 (St.mk (look [(3, (s 3)), (10, (s 10)), (11, (s 11)), (12, r3), (13, (s 13)), (14, (s 14)), (16, (s 16))]) (looko ([10, 11, 63].map fun n => (n, or3 n)))) (blockK 3 [3, 10, 11, 12, 13, 14, 16] (some [10, 11, 63]) Q))))) := rfl
theorem g_ref02_MulDiv_l1_sh {R_l1 : ACode} {R_c1 : ACode} {C : Ctx} {I : Nat → Prop} {s : Nat → V} {o : Nat → Option Ob} {Q : Ex → St → Prop} (hL : R_l1 = .loop [3, 10, 11, 12, 13, 14, 16] (some [10, 11, 63]) (.seq (.seq (.region [3, 10, 11, 12, 13, 14, 16, 53] (some [10, 11, 63]) none
      [⟨some 49, .mv (.t 12), [], [], none, none⟩,
       ⟨some 50, .faddr 1 (.t 11), [], [], none, none⟩,
       ⟨some 51, .load none (.t 50), [], [], none, none⟩,
       ⟨some 52, .call 119 [(.t 49), (.t 51)], [], [], none, none⟩,
       ⟨some 53, .bin .geq (.t 52) (.c (.d (.int .i64 0))), [], [], none, none⟩])
   (.cond (.t 53) (.skip)
    (.exit 2)))
  (R_c1)))
 (h : demand (faddrV 1 (s 11)) (fun x1 =>
demand (loadV (looko ([10, 11, 63].map fun n => (n, o n))) none x1) (fun x2 =>
callK C I (St.mk (upd (upd (upd (look [(3, (s 3)), (10, (s 10)), (11, (s 11)), (12, (s 12)), (13, (s 13)), (14, (s 14)), (16, (s 16))]) 49 (s 12)) 50 x1) 51 x2) (looko ([10, 11, 63].map fun n => (n, o n)))) (some 52) 119 [(s 12), x2] (fun r3 or3 =>
demand (binV BinOp.geq r3 (V.d (.int .i64 0))) (fun x4 =>
condK x4
 (wpB C I R_c1 (St.mk (look [(3, (s 3)), (10, (s 10)), (11, (s 11)), (12, (s 12)), (13, (s 13)), (14, (s 14)), (16, (s 16)), (53, x4)]) (looko ([10, 11, 63].map fun n => (n, or3 n)))) (seqK (fun s => wpB C I R_l1 s Q) Q))
 (Q (.exit 2) (St.mk (look [(3, (s 3)), (10, (s 10)), (11, (s 11)), (12, (s 12)), (13, (s 13)), (14, (s 14)), (16, (s 16)), (53, x4)]) (looko ([10, 11, 63].map fun n => (n, or3 n)))))))))) : wpB C I R_l1 (St.mk s o) Q := w_loopC hL h
theorem g_ref02_MulDiv_c2_sh {C : Ctx} {I : Nat → Prop} {s : Nat → V} {o : Nat → Option Ob} {Q : Ex → St → Prop} : wpB C I (.region [3, 10, 11, 12, 13, 14] (some [10, 11, 63]) none
   [⟨some 60, .mv (.t 13), [], [], none, none⟩,
    ⟨some 61, .mv (.t 16), [], [], none, none⟩,
    ⟨some 62, .bsl none 1 [] 1 [(0, (.t 61))], [], [], none, none⟩,
    ⟨some 63, .app (some 63) 1 8 (.t 60) (.t 62), [], [], none, none⟩,
    ⟨some 13, .mv (.t 63), [], [], none, none⟩]) (St.mk s o) Q =
 (lstK (partsN 1 [(s 16)]) (fun es1 =>
lstK (readD o (V.d (D.sl es1))) (fun ys2 => (∀ e ∈ ys2, e.length = 1) ∧ appK (s 13)
 (ys2.length * 8 ≤ 140737488355328 ∧ ys2.length ≤ 140737488355328 ∧ ¬ I 63 ∧ Fresh (St.mk (upd (upd (upd s 60 (s 13)) 61 (s 16)) 62 (V.d (D.sl es1))) o) 63 (some 63) ∧
Q .normal (St.mk (look [(3, (s 3)), (10, (s 10)), (11, (s 11)), (12, (s 12)), (13, (V.own 63)), (14, (s 14))]) (looko ([10, 11, 63].map fun n => (n, (upd o 63 (some (Ob.row 1 ys2))) n)))))
 (fun m3 => ¬ I m3 ∧ rowK (o m3) (fun z4 es5 => z4 = 1 ∧ (es5.length + ys2.length) * 8 ≤ 140737488355328 ∧ es5.length + ys2.length ≤ 140737488355328 ∧
Q .normal (St.mk (look [(3, ((fun t => scrubV m3 (s t)) 3)), (10, ((fun t => scrubV m3 (s t)) 10)), (11, ((fun t => scrubV m3 (s t)) 11)), (12, ((fun t => scrubV m3 (s t)) 12)), (13, (V.own m3)), (14, ((fun t => scrubV m3 (s t)) 14))]) (looko ([10, 11, 63].map fun n => (n, (upd (fun n => (o n).map (Ob.scrub m3)) m3 (some (Ob.row 1 (es5 ++ ys2)))) n))))))))) := rfl
theorem g_ref02_MulDiv_c3_sh {R_l1 : ACode} {R_c2 : ACode} {C : Ctx} {I : Nat → Prop} {s : Nat → V} {o : Nat → Option Ob} {Q : Ex → St → Prop} : wpB C I (.seq (.region [3, 10, 11, 12, 13, 14, 16] (some [10, 11, 63]) none
    [⟨some 16, .mv (.c (.d (.int .i64 0))), [], [], none, none⟩])
 (.seq (.block 2 [3, 10, 11, 12, 13, 14, 16] (some [10, 11, 63]) (R_l1))
  (R_c2))) (St.mk s o) Q =
 (wpB C I R_l1 (St.mk (look [(3, (s 3)), (10, (s 10)), (11, (s 11)), (12, (s 12)), (13, (s 13)), (14, (s 14)), (16, (V.d (.int .i64 0)))]) (looko ([10, 11, 63].map fun n => (n, o n)))) (blockK 2 [3, 10, 11, 12, 13, 14, 16] (some [10, 11, 63]) (seqK (fun st => wpB C I R_c2 st Q) Q))) := rfl
theorem g_ref02_MulDiv_c4_sh {R_c3 : ACode} {C : Ctx} {I : Nat → Prop} {s : Nat → V} {o : Nat → Option Ob} {Q : Ex → St → Prop} : wpB C I (.seq (.region [3, 10, 11, 12, 13, 14] (some [10, 11, 63]) none
    [⟨some 45, .mv (.t 15), [], [], none, none⟩,
     ⟨some 46, .mv (.t 12), [], [], none, none⟩,
     ⟨some 47, .app none 1 8 (.t 45) (.t 46), [], [], none, none⟩,
     ⟨some 48, .call 118 [(.t 47)], [], [], none, none⟩,
     ⟨some 12, .mv (.t 48), [], [], none, none⟩])
 (R_c3)) (St.mk s o) Q =
 (lstK (readD o (s 12)) (fun ys1 => (∀ e ∈ ys1, e.length = 1) ∧ appK (s 15)
 (ys1.length * 8 ≤ 140737488355328 ∧ ys1.length ≤ 140737488355328 ∧
callK C I (St.mk (upd (upd (upd s 45 (s 15)) 46 (s 12)) 47 (V.d (D.sl ys1))) o) (some 48) 118 [(V.d (D.sl ys1))] (fun r6 or6 =>
wpB C I R_c3 (St.mk (look [(3, (s 3)), (10, (s 10)), (11, (s 11)), (12, r6), (13, (s 13)), (14, (s 14))]) (looko ([10, 11, 63].map fun n => (n, or6 n)))) Q))
 (fun m2 => ¬ I m2 ∧ rowK (o m2) (fun z3 es4 => z3 = 1 ∧ (es4.length + ys1.length) * 8 ≤ 140737488355328 ∧ es4.length + ys1.length ≤ 140737488355328 ∧
freeK (St.mk (upd (fun t => scrubV m2 ((upd (upd s 45 (s 15)) 46 (s 12)) t)) 47 (V.own m2)) (upd (fun n => (o n).map (Ob.scrub m2)) m2 (some (Ob.row 1 (es4 ++ ys1))))) m2 (fun st5 =>
callK C I (St.mk st5.s st5.o) (some 48) 118 [(st5.s 47)] (fun r7 or7 =>
wpB C I R_c3 (St.mk (look [(3, (st5.s 3)), (10, (st5.s 10)), (11, (st5.s 11)), (12, r7), (13, (st5.s 13)), (14, (st5.s 14))]) (looko ([10, 11, 63].map fun n => (n, or7 n)))) Q)))))) := rfl
theorem g_ref02_MulDiv_c5_sh {C : Ctx} {I : Nat → Prop} {s : Nat → V} {o : Nat → Option Ob} {Q : Ex → St → Prop} : wpB C I (.region [3, 10, 11, 12, 13, 14] (some [10, 11, 63]) none
   [⟨some 35, .mv (.t 14), [], [], none, none⟩,
    ⟨some 36, .bin .sub (.t 35) (.c (.d (.int .i64 1))), [], [], none, none⟩,
    ⟨some 14, .mv (.t 36), [], [], none, none⟩]) (St.mk s o) Q =
 (demand (binV BinOp.sub (s 14) (V.d (.int .i64 1))) (fun x1 =>
Q .normal (St.mk (look [(3, (s 3)), (10, (s 10)), (11, (s 11)), (12, (s 12)), (13, (s 13)), (14, x1)]) (looko ([10, 11, 63].map fun n => (n, o n)))))) := rfl
theorem g_ref02_MulDiv_l0_sh {R_l0 : ACode} {R_c4 : ACode} {R_c5 : ACode} {C : Ctx} {I : Nat → Prop} {s : Nat → V} {o : Nat → Option Ob} {Q : Ex → St → Prop} (hL : R_l0 = .loop [3, 10, 11, 12, 13, 14] (some [10, 11, 63]) (.seq (.seq (.region [3, 10, 11, 12, 13, 14, 34] (some [10, 11, 63]) none
      [⟨some 33, .mv (.t 14), [], [], none, none⟩,
       ⟨some 34, .bin .geq (.t 33) (.c (.d (.int .i64 0))), [], [], none, none⟩])
   (.cond (.t 34) (.skip)
    (.exit 0)))
  (.seq (.block 1 [3, 10, 11, 12, 13, 14] (some [10, 11, 63]) (.seq (.region [3, 10, 11, 12, 13, 14, 15] (some [10, 11, 44, 63]) none
        [⟨some 15, .mv (.c (.cap0)), [], [], none, none⟩])
     (.seq (.region [3, 10, 11, 12, 13, 14, 15] (some [10, 11, 44, 63]) none
         [⟨some 37, .mv (.t 15), [], [], none, none⟩,
          ⟨some 38, .faddr 1 (.t 10), [], [], none, none⟩,
          ⟨some 39, .load none (.t 38), [], [], none, none⟩,
          ⟨some 40, .mv (.t 14), [], [], none, none⟩,
          ⟨some 41, .iaddr 1 (.t 39) (.t 40), [], [], none, none⟩,
          ⟨some 42, .load none (.t 41), [], [], none, none⟩,
          ⟨some 43, .bsl none 1 [] 1 [(0, (.t 42))], [], [], none, none⟩,
          ⟨some 44, .app (some 44) 1 8 (.t 37) (.t 43), [], [], none, none⟩,
          ⟨some 15, .mv (.t 44), [], [], none, none⟩])
      (R_c4))))
   (R_c5))))
 (h : demand (binV BinOp.geq (s 14) (V.d (.int .i64 0))) (fun x1 =>
condK x1
 (demand (faddrV 1 (s 10)) (fun x2 =>
demand (loadV (looko ([10, 11, 44, 63].map fun n => (n, (looko ([10, 11, 63].map fun n => (n, o n))) n))) none x2) (fun x3 =>
demand (iaddrV (looko ([10, 11, 44, 63].map fun n => (n, (looko ([10, 11, 63].map fun n => (n, o n))) n))) 1 x3 (s 14)) (fun x4 =>
demand (loadV (looko ([10, 11, 44, 63].map fun n => (n, (looko ([10, 11, 63].map fun n => (n, o n))) n))) none x4) (fun x5 =>
lstK (partsN 1 [x5]) (fun es6 =>
lstK (readD (looko ([10, 11, 44, 63].map fun n => (n, (looko ([10, 11, 63].map fun n => (n, o n))) n))) (V.d (D.sl es6))) (fun ys7 => (∀ e ∈ ys7, e.length = 1) ∧ appK (V.cap0)
 (ys7.length * 8 ≤ 140737488355328 ∧ ys7.length ≤ 140737488355328 ∧ ¬ I 44 ∧ Fresh (St.mk (upd (upd (upd (upd (upd (upd (upd (look [(3, (s 3)), (10, (s 10)), (11, (s 11)), (12, (s 12)), (13, (s 13)), (14, (s 14)), (15, (V.cap0))]) 37 (V.cap0)) 38 x2) 39 x3) 40 (s 14)) 41 x4) 42 x5) 43 (V.d (D.sl es6))) (looko ([10, 11, 44, 63].map fun n => (n, (looko ([10, 11, 63].map fun n => (n, o n))) n)))) 44 (some 44) ∧
wpB C I R_c4 (St.mk (look [(3, (s 3)), (10, (s 10)), (11, (s 11)), (12, (s 12)), (13, (s 13)), (14, (s 14)), (15, (V.own 44))]) (looko ([10, 11, 44, 63].map fun n => (n, (upd (looko ([10, 11, 44, 63].map fun n => (n, (looko ([10, 11, 63].map fun n => (n, o n))) n))) 44 (some (Ob.row 1 ys7))) n)))) (blockK 1 [3, 10, 11, 12, 13, 14] (some [10, 11, 63]) (seqK (fun st => wpB C I R_c5 st (seqK (fun s => wpB C I R_l0 s Q) Q)) (seqK (fun s => wpB C I R_l0 s Q) Q))))
 (fun m8 => ¬ I m8 ∧ rowK ((looko ([10, 11, 44, 63].map fun n => (n, (looko ([10, 11, 63].map fun n => (n, o n))) n))) m8) (fun z9 es10 => z9 = 1 ∧ (es10.length + ys7.length) * 8 ≤ 140737488355328 ∧ es10.length + ys7.length ≤ 140737488355328 ∧
wpB C I R_c4 (St.mk (look [(3, (scrubV m8 (s 3))), (10, (scrubV m8 (s 10))), (11, (scrubV m8 (s 11))), (12, (scrubV m8 (s 12))), (13, (scrubV m8 (s 13))), (14, (scrubV m8 (s 14))), (15, (V.own m8))]) (looko ([10, 11, 44, 63].map fun n => (n, (upd (fun n => ((looko ([10, 11, 44, 63].map fun n => (n, (looko ([10, 11, 63].map fun n => (n, o n))) n))) n).map (Ob.scrub m8)) m8 (some (Ob.row 1 (es10 ++ ys7)))) n)))) (blockK 1 [3, 10, 11, 12, 13, 14] (some [10, 11, 63]) (seqK (fun st => wpB C I R_c5 st (seqK (fun s => wpB C I R_l0 s Q) Q)) (seqK (fun s => wpB C I R_l0 s Q) Q))))))))))))
 (Q (.exit 0) (St.mk (look [(3, (s 3)), (10, (s 10)), (11, (s 11)), (12, (s 12)), (13, (s 13)), (14, (s 14)), (34, x1)]) (looko ([10, 11, 63].map fun n => (n, o n))))))) : wpB C I R_l0 (St.mk s o) Q := w_loopC hL h
theorem g_ref02_MulDiv_c6_sh {R_l0 : ACode} {C : Ctx} {I : Nat → Prop} {s : Nat → V} {o : Nat → Option Ob} {Q : Ex → St → Prop} : wpB C I (.block 0 [3, 10, 11, 12, 13] (some [10, 11, 63]) (R_l0)) (St.mk s o) Q =
 (wpB C I R_l0 (St.mk s o) (blockK 0 [3, 10, 11, 12, 13] (some [10, 11, 63]) Q)) := rfl
theorem g_ref02_MulDiv_o1_sh {C : Ctx} {I : Nat → Prop} {s : Nat → V} {o : Nat → Option Ob} {K : St → Prop} : opsB C I [⟨some 76, .pick (.t 67) (.t 75) (.c (.d (.bool false))), [], [], none, none⟩,
     ⟨some 17, .mv (.t 76), [], [], none, none⟩] (St.mk s o) K =
 (demand (pickV (s 67) (s 75) (V.d (.bool false))) (fun x1 =>
K (St.mk (upd (upd s 76 x1) 17 x1) o))) := rfl
theorem g_ref02_MulDiv_o0_sh {R_o1 : List AOper} {C : Ctx} {I : Nat → Prop} {s : Nat → V} {o : Nat → Option Ob} {K : St → Prop} : opsB C I (⟨some 68, .mv (.t 13), [], [], (some (3, 67, true)), none⟩ ::
     ⟨some 69, .mv (.t 13), [], [], (some (3, 67, true)), none⟩ ::
     ⟨some 70, .len (.t 69), [], [], (some (3, 67, true)), none⟩ ::
     ⟨some 71, .bin .sub (.t 70) (.c (.d (.int .i64 1))), [], [], (some (3, 67, true)), none⟩ ::
     ⟨some 72, .iaddr 1 (.t 68) (.t 71), [], [], (some (3, 67, true)), none⟩ ::
     ⟨some 73, .load none (.t 72), [], [], (some (3, 67, true)), none⟩ ::
     ⟨some 74, .bin .rem (.t 73) (.c (.d (.int .i64 2))), [], [], (some (3, 67, true)), none⟩ ::
     ⟨some 75, .bin .eql (.t 74) (.c (.d (.int .i64 1))), [], [], (some (3, 67, true)), (some ([3, 10, 11, 12, 13, 67, 75], (some [10, 11, 63])))⟩ ::
     R_o1) (St.mk s o) K =
 (guardK (s 67) true
 (demand (lenV o (s 13)) (fun x1 =>
demand (binV BinOp.sub x1 (V.d (.int .i64 1))) (fun x2 =>
demand (iaddrV o 1 (s 13) x2) (fun x3 =>
demand (loadV o none x3) (fun x4 =>
demand (binV BinOp.rem x4 (V.d (.int .i64 2))) (fun x5 =>
demand (binV BinOp.eql x5 (V.d (.int .i64 1))) (fun x6 =>
opsB C I R_o1 (St.mk (look [(3, (s 3)), (10, (s 10)), (11, (s 11)), (12, (s 12)), (13, (s 13)), (67, (V.d (D.bool true))), (75, x6)]) (looko ([10, 11, 63].map fun n => (n, o n)))) K)))))))
 (opsB C I R_o1 (St.mk (look [(3, (s 3)), (10, (s 10)), (11, (s 11)), (12, (s 12)), (13, (s 13)), (67, (V.d (D.bool false))), (75, (V.tup []))]) (looko ([10, 11, 63].map fun n => (n, o n)))) K)
 (opsB C I R_o1 (St.mk (look [(3, (s 3)), (10, (s 10)), (11, (s 11)), (12, (s 12)), (13, (s 13)), (67, (V.tup [])), (75, (V.tup []))]) (looko ([10, 11, 63].map fun n => (n, o n)))) K)) := rfl
theorem g_ref02_MulDiv_o15_sh {C : Ctx} {I : Nat → Prop} {s : Nat → V} {o : Nat → Option Ob} {K : St → Prop} : opsB C I [⟨some 111, .pick (.t 97) (.c (.d (.bool true))) (.t 110), [], [], none, none⟩,
     ⟨some 19, .mv (.t 111), [], [], none, none⟩] (St.mk s o) K =
 (demand (pickV (s 97) (V.d (.bool true)) (s 110)) (fun x1 =>
K (St.mk (upd (upd s 111 x1) 19 x1) o))) := rfl
theorem g_ref02_MulDiv_o14_sh {R_o15 : List AOper} {C : Ctx} {I : Nat → Prop} {s : Nat → V} {o : Nat → Option Ob} {K : St → Prop} : opsB C I (⟨some 110, .pick (.t 100) (.t 109) (.c (.d (.bool false))), [], [], (some (15, 97, false)), (some ([10, 11, 13, 97, 110], (some [10, 11, 63])))⟩ ::
     R_o15) (St.mk s o) K =
 (guardK (s 97) false
 (demand (pickV (s 100) (s 109) (V.d (.bool false))) (fun x1 =>
opsB C I R_o15 (St.mk (look [(10, (s 10)), (11, (s 11)), (13, (s 13)), (97, (V.d (D.bool false))), (110, x1)]) (looko ([10, 11, 63].map fun n => (n, o n)))) K))
 (opsB C I R_o15 (St.mk (look [(10, (s 10)), (11, (s 11)), (13, (s 13)), (97, (V.d (D.bool true))), (110, (V.tup []))]) (looko ([10, 11, 63].map fun n => (n, o n)))) K)
 (opsB C I R_o15 (St.mk (look [(10, (s 10)), (11, (s 11)), (13, (s 13)), (97, (V.tup [])), (110, (V.tup []))]) (looko ([10, 11, 63].map fun n => (n, o n)))) K)) := rfl
theorem g_ref02_MulDiv_o13_sh {R_o14 : List AOper} {C : Ctx} {I : Nat → Prop} {s : Nat → V} {o : Nat → Option Ob} {K : St → Prop} : opsB C I (⟨some 109, .pick (.t 103) (.c (.d (.bool true))) (.t 108), [], [], (some (18, 100, true)), (some ([10, 11, 13, 97, 100, 109], (some [10, 11, 63])))⟩ ::
     R_o14) (St.mk s o) K =
 (guardK (s 100) true
 (demand (pickV (s 103) (V.d (.bool true)) (s 108)) (fun x1 =>
opsB C I R_o14 (St.mk (look [(10, (s 10)), (11, (s 11)), (13, (s 13)), (97, (s 97)), (100, (V.d (D.bool true))), (109, x1)]) (looko ([10, 11, 63].map fun n => (n, o n)))) K))
 (opsB C I R_o14 (St.mk (look [(10, (s 10)), (11, (s 11)), (13, (s 13)), (97, (s 97)), (100, (V.d (D.bool false))), (109, (V.tup []))]) (looko ([10, 11, 63].map fun n => (n, o n)))) K)
 (opsB C I R_o14 (St.mk (look [(10, (s 10)), (11, (s 11)), (13, (s 13)), (97, (s 97)), (100, (V.tup [])), (109, (V.tup []))]) (looko ([10, 11, 63].map fun n => (n, o n)))) K)) := rfl
theorem g_ref02_MulDiv_o12_sh {R_o13 : List AOper} {C : Ctx} {I : Nat → Prop} {s : Nat → V} {o : Nat → Option Ob} {K : St → Prop} : opsB C I (⟨some 108, .pick (.t 106) (.t 107) (.c (.d (.bool false))), [], [], (some (21, 103, false)), (some ([10, 11, 13, 97, 100, 103, 108], (some [10, 11, 63])))⟩ ::
     R_o13) (St.mk s o) K =
 (guardK (s 103) false
 (demand (pickV (s 106) (s 107) (V.d (.bool false))) (fun x1 =>
opsB C I R_o13 (St.mk (look [(10, (s 10)), (11, (s 11)), (13, (s 13)), (97, (s 97)), (100, (s 100)), (103, (V.d (D.bool false))), (108, x1)]) (looko ([10, 11, 63].map fun n => (n, o n)))) K))
 (opsB C I R_o13 (St.mk (look [(10, (s 10)), (11, (s 11)), (13, (s 13)), (97, (s 97)), (100, (s 100)), (103, (V.d (D.bool true))), (108, (V.tup []))]) (looko ([10, 11, 63].map fun n => (n, o n)))) K)
 (opsB C I R_o13 (St.mk (look [(10, (s 10)), (11, (s 11)), (13, (s 13)), (97, (s 97)), (100, (s 100)), (103, (V.tup [])), (108, (V.tup []))]) (looko ([10, 11, 63].map fun n => (n, o n)))) K)) := rfl
theorem g_ref02_MulDiv_o11_sh {R_o12 : List AOper} {C : Ctx} {I : Nat → Prop} {s : Nat → V} {o : Nat → Option Ob} {K : St → Prop} : opsB C I (⟨some 107, .mv (.t 17), [], [], (some (24, 106, true)), (some ([10, 11, 13, 97, 100, 103, 106, 107], (some [10, 11, 63])))⟩ ::
     R_o12) (St.mk s o) K =
 (guardK (s 106) true
 (opsB C I R_o12 (St.mk (look [(10, (s 10)), (11, (s 11)), (13, (s 13)), (97, (s 97)), (100, (s 100)), (103, (s 103)), (106, (V.d (D.bool true))), (107, (s 17))]) (looko ([10, 11, 63].map fun n => (n, o n)))) K)
 (opsB C I R_o12 (St.mk (look [(10, (s 10)), (11, (s 11)), (13, (s 13)), (97, (s 97)), (100, (s 100)), (103, (s 103)), (106, (V.d (D.bool false))), (107, (V.tup []))]) (looko ([10, 11, 63].map fun n => (n, o n)))) K)
 (opsB C I R_o12 (St.mk (look [(10, (s 10)), (11, (s 11)), (13, (s 13)), (97, (s 97)), (100, (s 100)), (103, (s 103)), (106, (V.tup [])), (107, (V.tup []))]) (looko ([10, 11, 63].map fun n => (n, o n)))) K)) := rfl
theorem g_ref02_MulDiv_o10_sh {R_o11 : List AOper} {C : Ctx} {I : Nat → Prop} {s : Nat → V} {o : Nat → Option Ob} {K : St → Prop} : opsB C I (⟨some 104, .mv (.t 3), [], [], (some (21, 103, false)), none⟩ ::
     ⟨some 105, .bin .eql (.t 104) (.c (.d (.int .i64 3))), [], [], (some (21, 103, false)), none⟩ ::
     ⟨some 106, .mv (.t 105), [], [], (some (21, 103, false)), (some ([10, 11, 13, 17, 97, 100, 103, 106], (some [10, 11, 63])))⟩ ::
     R_o11) (St.mk s o) K =
 (guardK (s 103) false
 (demand (binV BinOp.eql (s 3) (V.d (.int .i64 3))) (fun x1 =>
opsB C I R_o11 (St.mk (look [(10, (s 10)), (11, (s 11)), (13, (s 13)), (17, (s 17)), (97, (s 97)), (100, (s 100)), (103, (V.d (D.bool false))), (106, x1)]) (looko ([10, 11, 63].map fun n => (n, o n)))) K))
 (opsB C I R_o11 (St.mk (look [(10, (s 10)), (11, (s 11)), (13, (s 13)), (17, (s 17)), (97, (s 97)), (100, (s 100)), (103, (V.d (D.bool true))), (106, (V.tup []))]) (looko ([10, 11, 63].map fun n => (n, o n)))) K)
 (opsB C I R_o11 (St.mk (look [(10, (s 10)), (11, (s 11)), (13, (s 13)), (17, (s 17)), (97, (s 97)), (100, (s 100)), (103, (V.tup [])), (106, (V.tup []))]) (looko ([10, 11, 63].map fun n => (n, o n)))) K)) := rfl
theorem g_ref02_MulDiv_o9_sh {R_o10 : List AOper} {C : Ctx} {I : Nat → Prop} {s : Nat → V} {o : Nat → Option Ob} {K : St → Prop} : opsB C I (⟨some 101, .mv (.t 3), [], [], (some (18, 100, true)), none⟩ ::
     ⟨some 102, .bin .eql (.t 101) (.c (.d (.int .i64 2))), [], [], (some (18, 100, true)), none⟩ ::
     ⟨some 103, .mv (.t 102), [], [], (some (18, 100, true)), (some ([3, 10, 11, 13, 17, 97, 100, 103], (some [10, 11, 63])))⟩ ::
     R_o10) (St.mk s o) K =
 (guardK (s 100) true
 (demand (binV BinOp.eql (s 3) (V.d (.int .i64 2))) (fun x1 =>
opsB C I R_o10 (St.mk (look [(3, (s 3)), (10, (s 10)), (11, (s 11)), (13, (s 13)), (17, (s 17)), (97, (s 97)), (100, (V.d (D.bool true))), (103, x1)]) (looko ([10, 11, 63].map fun n => (n, o n)))) K))
 (opsB C I R_o10 (St.mk (look [(3, (s 3)), (10, (s 10)), (11, (s 11)), (13, (s 13)), (17, (s 17)), (97, (s 97)), (100, (V.d (D.bool false))), (103, (V.tup []))]) (looko ([10, 11, 63].map fun n => (n, o n)))) K)
 (opsB C I R_o10 (St.mk (look [(3, (s 3)), (10, (s 10)), (11, (s 11)), (13, (s 13)), (17, (s 17)), (97, (s 97)), (100, (V.tup [])), (103, (V.tup []))]) (looko ([10, 11, 63].map fun n => (n, o n)))) K)) := rfl
theorem g_ref02_MulDiv_o8_sh {R_o9 : List AOper} {C : Ctx} {I : Nat → Prop} {s : Nat → V} {o : Nat → Option Ob} {K : St → Prop} : opsB C I (⟨some 98, .mv (.t 18), [], [], (some (15, 97, false)), none⟩ ::
     ⟨some 99, .bin .eql (.t 98) (.c (.d (.int .i64 0))), [], [], (some (15, 97, false)), none⟩ ::
     ⟨some 100, .mv (.t 99), [], [], (some (15, 97, false)), (some ([3, 10, 11, 13, 17, 97, 100], (some [10, 11, 63])))⟩ ::
     R_o9) (St.mk s o) K =
 (guardK (s 97) false
 (demand (binV BinOp.eql (s 18) (V.d (.int .i64 0))) (fun x1 =>
opsB C I R_o9 (St.mk (look [(3, (s 3)), (10, (s 10)), (11, (s 11)), (13, (s 13)), (17, (s 17)), (97, (V.d (D.bool false))), (100, x1)]) (looko ([10, 11, 63].map fun n => (n, o n)))) K))
 (opsB C I R_o9 (St.mk (look [(3, (s 3)), (10, (s 10)), (11, (s 11)), (13, (s 13)), (17, (s 17)), (97, (V.d (D.bool true))), (100, (V.tup []))]) (looko ([10, 11, 63].map fun n => (n, o n)))) K)
 (opsB C I R_o9 (St.mk (look [(3, (s 3)), (10, (s 10)), (11, (s 11)), (13, (s 13)), (17, (s 17)), (97, (V.tup [])), (100, (V.tup []))]) (looko ([10, 11, 63].map fun n => (n, o n)))) K)) := rfl
theorem g_ref02_MulDiv_o7_sh {R_o8 : List AOper} {C : Ctx} {I : Nat → Prop} {s : Nat → V} {o : Nat → Option Ob} {K : St → Prop} : opsB C I (⟨some 96, .pick (.t 89) (.c (.d (.bool true))) (.t 95), [], [], none, none⟩ ::
     ⟨some 97, .mv (.t 96), [], [], none, (some ([3, 10, 11, 13, 17, 18, 97], (some [10, 11, 63])))⟩ ::
     R_o8) (St.mk s o) K =
 (demand (pickV (s 89) (V.d (.bool true)) (s 95)) (fun x1 =>
opsB C I R_o8 (St.mk (look [(3, (s 3)), (10, (s 10)), (11, (s 11)), (13, (s 13)), (17, (s 17)), (18, (s 18)), (97, x1)]) (looko ([10, 11, 63].map fun n => (n, o n)))) K)) := rfl
theorem g_ref02_MulDiv_o6_sh {R_o7 : List AOper} {C : Ctx} {I : Nat → Prop} {s : Nat → V} {o : Nat → Option Ob} {K : St → Prop} : opsB C I (⟨some 95, .pick (.t 92) (.t 94) (.c (.d (.bool false))), [], [], (some (7, 89, false)), (some ([3, 10, 11, 13, 17, 18, 89, 95], (some [10, 11, 63])))⟩ ::
     R_o7) (St.mk s o) K =
 (guardK (s 89) false
 (demand (pickV (s 92) (s 94) (V.d (.bool false))) (fun x1 =>
opsB C I R_o7 (St.mk (look [(3, (s 3)), (10, (s 10)), (11, (s 11)), (13, (s 13)), (17, (s 17)), (18, (s 18)), (89, (V.d (D.bool false))), (95, x1)]) (looko ([10, 11, 63].map fun n => (n, o n)))) K))
 (opsB C I R_o7 (St.mk (look [(3, (s 3)), (10, (s 10)), (11, (s 11)), (13, (s 13)), (17, (s 17)), (18, (s 18)), (89, (V.d (D.bool true))), (95, (V.tup []))]) (looko ([10, 11, 63].map fun n => (n, o n)))) K)
 (opsB C I R_o7 (St.mk (look [(3, (s 3)), (10, (s 10)), (11, (s 11)), (13, (s 13)), (17, (s 17)), (18, (s 18)), (89, (V.tup [])), (95, (V.tup []))]) (looko ([10, 11, 63].map fun n => (n, o n)))) K)) := rfl
theorem g_ref02_MulDiv_o5_sh {R_o6 : List AOper} {C : Ctx} {I : Nat → Prop} {s : Nat → V} {o : Nat → Option Ob} {K : St → Prop} : opsB C I (⟨some 93, .mv (.t 18), [], [], (some (10, 92, true)), none⟩ ::
     ⟨some 94, .bin .gtr (.t 93) (.c (.d (.int .i64 0))), [], [], (some (10, 92, true)), (some ([3, 10, 11, 13, 17, 18, 89, 92, 94], (some [10, 11, 63])))⟩ ::
     R_o6) (St.mk s o) K =
 (guardK (s 92) true
 (demand (binV BinOp.gtr (s 18) (V.d (.int .i64 0))) (fun x1 =>
opsB C I R_o6 (St.mk (look [(3, (s 3)), (10, (s 10)), (11, (s 11)), (13, (s 13)), (17, (s 17)), (18, (s 18)), (89, (s 89)), (92, (V.d (D.bool true))), (94, x1)]) (looko ([10, 11, 63].map fun n => (n, o n)))) K))
 (opsB C I R_o6 (St.mk (look [(3, (s 3)), (10, (s 10)), (11, (s 11)), (13, (s 13)), (17, (s 17)), (18, (s 18)), (89, (s 89)), (92, (V.d (D.bool false))), (94, (V.tup []))]) (looko ([10, 11, 63].map fun n => (n, o n)))) K)
 (opsB C I R_o6 (St.mk (look [(3, (s 3)), (10, (s 10)), (11, (s 11)), (13, (s 13)), (17, (s 17)), (18, (s 18)), (89, (s 89)), (92, (V.tup [])), (94, (V.tup []))]) (looko ([10, 11, 63].map fun n => (n, o n)))) K)) := rfl
theorem g_ref02_MulDiv_o4_sh {R_o5 : List AOper} {C : Ctx} {I : Nat → Prop} {s : Nat → V} {o : Nat → Option Ob} {K : St → Prop} : opsB C I (⟨some 90, .mv (.t 3), [], [], (some (7, 89, false)), none⟩ ::
     ⟨some 91, .bin .gtr (.t 90) (.c (.d (.int .i64 1))), [], [], (some (7, 89, false)), none⟩ ::
     ⟨some 92, .mv (.t 91), [], [], (some (7, 89, false)), (some ([3, 10, 11, 13, 17, 18, 89, 92], (some [10, 11, 63])))⟩ ::
     R_o5) (St.mk s o) K =
 (guardK (s 89) false
 (demand (binV BinOp.gtr (s 3) (V.d (.int .i64 1))) (fun x1 =>
opsB C I R_o5 (St.mk (look [(3, (s 3)), (10, (s 10)), (11, (s 11)), (13, (s 13)), (17, (s 17)), (18, (s 18)), (89, (V.d (D.bool false))), (92, x1)]) (looko ([10, 11, 63].map fun n => (n, o n)))) K))
 (opsB C I R_o5 (St.mk (look [(3, (s 3)), (10, (s 10)), (11, (s 11)), (13, (s 13)), (17, (s 17)), (18, (s 18)), (89, (V.d (D.bool true))), (92, (V.tup []))]) (looko ([10, 11, 63].map fun n => (n, o n)))) K)
 (opsB C I R_o5 (St.mk (look [(3, (s 3)), (10, (s 10)), (11, (s 11)), (13, (s 13)), (17, (s 17)), (18, (s 18)), (89, (V.tup [])), (92, (V.tup []))]) (looko ([10, 11, 63].map fun n => (n, o n)))) K)) := rfl
theorem g_ref02_MulDiv_o3_sh {R_o4 : List AOper} {C : Ctx} {I : Nat → Prop} {s : Nat → V} {o : Nat → Option Ob} {K : St → Prop} : opsB C I (⟨some 88, .pick (.t 84) (.t 87) (.c (.d (.bool false))), [], [], none, none⟩ ::
     ⟨some 89, .mv (.t 88), [], [], none, (some ([3, 10, 11, 13, 17, 18, 89], (some [10, 11, 63])))⟩ ::
     R_o4) (St.mk s o) K =
 (demand (pickV (s 84) (s 87) (V.d (.bool false))) (fun x1 =>
opsB C I R_o4 (St.mk (look [(3, (s 3)), (10, (s 10)), (11, (s 11)), (13, (s 13)), (17, (s 17)), (18, (s 18)), (89, x1)]) (looko ([10, 11, 63].map fun n => (n, o n)))) K)) := rfl
theorem g_ref02_MulDiv_o2_sh {R_o3 : List AOper} {C : Ctx} {I : Nat → Prop} {s : Nat → V} {o : Nat → Option Ob} {K : St → Prop} : opsB C I (⟨some 85, .mv (.t 12), [], [], (some (2, 84, true)), none⟩ ::
     ⟨some 86, .len (.t 85), [], [], (some (2, 84, true)), none⟩ ::
     ⟨some 87, .bin .gtr (.t 86) (.c (.d (.int .i64 0))), [], [], (some (2, 84, true)), (some ([3, 10, 11, 13, 17, 18, 84, 87], (some [10, 11, 63])))⟩ ::
     R_o3) (St.mk s o) K =
 (guardK (s 84) true
 (demand (lenV o (s 12)) (fun x1 =>
demand (binV BinOp.gtr x1 (V.d (.int .i64 0))) (fun x2 =>
opsB C I R_o3 (St.mk (look [(3, (s 3)), (10, (s 10)), (11, (s 11)), (13, (s 13)), (17, (s 17)), (18, (s 18)), (84, (V.d (D.bool true))), (87, x2)]) (looko ([10, 11, 63].map fun n => (n, o n)))) K)))
 (opsB C I R_o3 (St.mk (look [(3, (s 3)), (10, (s 10)), (11, (s 11)), (13, (s 13)), (17, (s 17)), (18, (s 18)), (84, (V.d (D.bool false))), (87, (V.tup []))]) (looko ([10, 11, 63].map fun n => (n, o n)))) K)
 (opsB C I R_o3 (St.mk (look [(3, (s 3)), (10, (s 10)), (11, (s 11)), (13, (s 13)), (17, (s 17)), (18, (s 18)), (84, (V.tup [])), (87, (V.tup []))]) (looko ([10, 11, 63].map fun n => (n, o n)))) K)) := rfl
theorem g_ref02_MulDiv_c7_sh {C : Ctx} {I : Nat → Prop} {s : Nat → V} {o : Nat → Option Ob} {Q : Ex → St → Prop} : wpB C I (.region [10, 11, 13, 19, 20, 21] (some [10, 11, 63]) none
   [⟨some 126, .mv (.t 20), [], [], none, none⟩,
    ⟨some 127, .bin .mul (.c (.d (.int .i64 10))) (.t 126), [], [], none, none⟩,
    ⟨some 128, .mv (.t 13), [], [], none, none⟩,
    ⟨some 129, .mv (.t 21), [], [], none, none⟩,
    ⟨some 130, .iaddr 1 (.t 128) (.t 129), [], [], none, none⟩,
    ⟨some 131, .load none (.t 130), [], [], none, none⟩,
    ⟨some 132, .bin .add (.t 127) (.t 131), [], [], none, none⟩,
    ⟨some 20, .mv (.t 132), [], [], none, none⟩]) (St.mk s o) Q =
 (demand (binV BinOp.mul (V.d (.int .i64 10)) (s 20)) (fun x1 =>
demand (iaddrV o 1 (s 13) (s 21)) (fun x2 =>
demand (loadV o none x2) (fun x3 =>
demand (binV BinOp.add x1 x3) (fun x4 =>
Q .normal (St.mk (look [(10, (s 10)), (11, (s 11)), (13, (s 13)), (19, (s 19)), (20, x4), (21, (s 21))]) (looko ([10, 11, 63].map fun n => (n, o n))))))))) := rfl
theorem g_ref02_MulDiv_c8_sh {C : Ctx} {I : Nat → Prop} {s : Nat → V} {o : Nat → Option Ob} {Q : Ex → St → Prop} : wpB C I (.region [10, 11, 13, 19, 20, 21] (some [10, 11, 63]) none
   [⟨some 116, .mv (.t 21), [], [], none, none⟩,
    ⟨some 117, .bin .add (.t 116) (.c (.d (.int .i64 1))), [], [], none, none⟩,
    ⟨some 21, .mv (.t 117), [], [], none, none⟩]) (St.mk s o) Q =
 (demand (binV BinOp.add (s 21) (V.d (.int .i64 1))) (fun x1 =>
Q .normal (St.mk (look [(10, (s 10)), (11, (s 11)), (13, (s 13)), (19, (s 19)), (20, (s 20)), (21, x1)]) (looko ([10, 11, 63].map fun n => (n, o n)))))) := rfl
theorem g_ref02_MulDiv_c9_sh {R_c7 : ACode} {R_c8 : ACode} {C : Ctx} {I : Nat → Prop} {s : Nat → V} {o : Nat → Option Ob} {Q : Ex → St → Prop} : wpB C I (.seq (.block 5 [10, 11, 13, 19, 20, 21] (some [10, 11, 63]) (.seq (.seq (.region [10, 11, 13, 19, 20, 21, 125] (some [10, 11, 63]) none
       [⟨some 118, .mv (.t 20), [], [], none, none⟩,
        ⟨some 119, .mv (.t 13), [], [], none, none⟩,
        ⟨some 120, .mv (.t 21), [], [], none, none⟩,
        ⟨some 121, .iaddr 1 (.t 119) (.t 120), [], [], none, none⟩,
        ⟨some 122, .load none (.t 121), [], [], none, none⟩,
        ⟨some 123, .bin .sub (.c (.d (.int .i64 9223372036854775807))) (.t 122), [], [], none, none⟩,
        ⟨some 124, .bin .quo (.t 123) (.c (.d (.int .i64 10))), [], [], none, none⟩,
        ⟨some 125, .bin .gtr (.t 118) (.t 124), [], [], none, none⟩])
    (.cond (.t 125) (.seq (.region [8, 9] (some []) none
         [⟨some 8, .mv (.c (.d (.int .i64 0))), [], [], none, none⟩,
          ⟨some 9, .mv (.c (.d (.bool false))), [], [], none, none⟩])
      (.ret))
     (.skip)))
   (R_c7)))
 (R_c8)) (St.mk s o) Q =
 (demand (iaddrV o 1 (s 13) (s 21)) (fun x1 =>
demand (loadV o none x1) (fun x2 =>
demand (binV BinOp.sub (V.d (.int .i64 9223372036854775807)) x2) (fun x3 =>
demand (binV BinOp.quo x3 (V.d (.int .i64 10))) (fun x4 =>
demand (binV BinOp.gtr (s 20) x4) (fun x5 =>
condK x5
 (Q .ret (St.mk (look [(8, (V.d (.int .i64 0))), (9, (V.d (.bool false)))]) (looko ([].map fun n => (n, o n)))))
 (wpB C I R_c7 (St.mk (look [(10, (s 10)), (11, (s 11)), (13, (s 13)), (19, (s 19)), (20, (s 20)), (21, (s 21)), (125, x5)]) (looko ([10, 11, 63].map fun n => (n, o n)))) (blockK 5 [10, 11, 13, 19, 20, 21] (some [10, 11, 63]) (seqK (fun st => wpB C I R_c8 st Q) Q))))))))) := rfl
theorem g_ref02_MulDiv_l2_sh {R_l2 : ACode} {R_c9 : ACode} {C : Ctx} {I : Nat → Prop} {s : Nat → V} {o : Nat → Option Ob} {Q : Ex → St → Prop} (hL : R_l2 = .loop [10, 11, 13, 19, 20, 21] (some [10, 11, 63]) (.seq (.seq (.region [10, 11, 13, 19, 20, 21, 115] (some [10, 11, 63]) none
      [⟨some 112, .mv (.t 21), [], [], none, none⟩,
       ⟨some 113, .mv (.t 13), [], [], none, none⟩,
       ⟨some 114, .len (.t 113), [], [], none, none⟩,
       ⟨some 115, .bin .lss (.t 112) (.t 114), [], [], none, none⟩])
   (.cond (.t 115) (.skip)
    (.exit 4)))
  (R_c9)))
 (h : demand (lenV (looko ([10, 11, 63].map fun n => (n, o n))) (s 13)) (fun x1 =>
demand (binV BinOp.lss (s 21) x1) (fun x2 =>
condK x2
 (wpB C I R_c9 (St.mk (look [(10, (s 10)), (11, (s 11)), (13, (s 13)), (19, (s 19)), (20, (s 20)), (21, (s 21)), (115, x2)]) (looko ([10, 11, 63].map fun n => (n, o n)))) (seqK (fun s => wpB C I R_l2 s Q) Q))
 (Q (.exit 4) (St.mk (look [(10, (s 10)), (11, (s 11)), (13, (s 13)), (19, (s 19)), (20, (s 20)), (21, (s 21)), (115, x2)]) (looko ([10, 11, 63].map fun n => (n, o n)))))))) : wpB C I R_l2 (St.mk s o) Q := w_loopC hL h
theorem g_ref02_MulDiv_c10_sh {C : Ctx} {I : Nat → Prop} {s : Nat → V} {o : Nat → Option Ob} {Q : Ex → St → Prop} : wpB C I (.region [10, 11, 20] (some [10, 11]) none
   [⟨some 136, .mv (.t 20), [], [], none, none⟩,
    ⟨some 137, .bin .add (.t 136) (.c (.d (.int .i64 1))), [], [], none, none⟩,
    ⟨some 20, .mv (.t 137), [], [], none, none⟩]) (St.mk s o) Q =
 (demand (binV BinOp.add (s 20) (V.d (.int .i64 1))) (fun x1 =>
Q .normal (St.mk (look [(10, (s 10)), (11, (s 11)), (20, x1)]) (looko ([10, 11].map fun n => (n, o n)))))) := rfl
theorem g_ref02_MulDiv_c11_sh {C : Ctx} {I : Nat → Prop} {s : Nat → V} {o : Nat → Option Ob} {Q : Ex → St → Prop} : wpB C I (.seq (.region [8, 9] (some []) none
    [⟨some 145, .mv (.t 20), [], [], none, none⟩,
     ⟨some 8, .mv (.t 145), [], [], none, none⟩,
     ⟨some 9, .mv (.c (.d (.bool true))), [], [], none, none⟩])
 (.ret)) (St.mk s o) Q =
 (Q .ret (St.mk (look [(8, (s 20)), (9, (V.d (.bool true)))]) (looko ([].map fun n => (n, o n))))) := rfl
theorem g_ref02_MulDiv_c12_sh {R_c11 : ACode} {C : Ctx} {I : Nat → Prop} {s : Nat → V} {o : Nat → Option Ob} {Q : Ex → St → Prop} : wpB C I (.seq (.seq (.region [20, 142] (some []) none
     [⟨some 138, .faddr 0 (.t 10), [], [], none, none⟩,
      ⟨some 139, .load none (.t 138), [], [], none, none⟩,
      ⟨some 140, .faddr 0 (.t 11), [], [], none, none⟩,
      ⟨some 141, .load none (.t 140), [], [], none, none⟩,
      ⟨some 142, .beq true (.t 139) (.t 141), [], [], none, none⟩])
  (.cond (.t 142) (.region [20] (some []) none
      [⟨some 143, .mv (.t 20), [], [], none, none⟩,
       ⟨some 144, .un .neg (.t 143), [], [], none, none⟩,
       ⟨some 20, .mv (.t 144), [], [], none, none⟩])
   (.skip)))
 (R_c11)) (St.mk s o) Q =
 (demand (faddrV 0 (s 10)) (fun x1 =>
demand (loadV o none x1) (fun x2 =>
demand (faddrV 0 (s 11)) (fun x3 =>
demand (loadV o none x3) (fun x4 =>
demand (beqV true x2 x4) (fun x5 =>
condK x5
 (demand (unV UnOp.neg (s 20)) (fun x6 =>
wpB C I R_c11 (St.mk (look [(20, x6)]) (looko ([].map fun n => (n, o n)))) Q))
 (wpB C I R_c11 (St.mk (look [(20, (s 20)), (142, x5)]) (looko ([].map fun n => (n, o n)))) Q))))))) := rfl
theorem g_ref02_MulDiv_c13_sh {R_c10 : ACode} {R_c12 : ACode} {C : Ctx} {I : Nat → Prop} {s : Nat → V} {o : Nat → Option Ob} {Q : Ex → St → Prop} : wpB C I (.seq (.seq (.region [10, 11, 20, 133] (some [10, 11]) none
     [⟨some 133, .mv (.t 19), [], [], none, none⟩])
  (.cond (.t 133) (.seq (.seq (.region [10, 11, 20, 135] (some [10, 11]) none
        [⟨some 134, .mv (.t 20), [], [], none, none⟩,
         ⟨some 135, .bin .eql (.t 134) (.c (.d (.int .i64 9223372036854775807))), [], [], none, none⟩])
     (.cond (.t 135) (.seq (.region [8, 9] (some []) none
          [⟨some 8, .mv (.c (.d (.int .i64 0))), [], [], none, none⟩,
           ⟨some 9, .mv (.c (.d (.bool false))), [], [], none, none⟩])
       (.ret))
      (.skip)))
    (R_c10))
   (.skip)))
 (R_c12)) (St.mk s o) Q =
 (condK (s 19)
 (demand (binV BinOp.eql (s 20) (V.d (.int .i64 9223372036854775807))) (fun x1 =>
condK x1
 (Q .ret (St.mk (look [(8, (V.d (.int .i64 0))), (9, (V.d (.bool false)))]) (looko ([].map fun n => (n, o n)))))
 (wpB C I R_c10 (St.mk (look [(10, (s 10)), (11, (s 11)), (20, (s 20)), (135, x1)]) (looko ([10, 11].map fun n => (n, o n)))) (seqK (fun st => wpB C I R_c12 st Q) Q))))
 (wpB C I R_c12 (St.mk (look [(10, (s 10)), (11, (s 11)), (20, (s 20)), (133, (s 19))]) (looko ([10, 11].map fun n => (n, o n)))) Q)) := rfl
theorem g_ref02_MulDiv_c14_sh {R_l2 : ACode} {R_c13 : ACode} {C : Ctx} {I : Nat → Prop} {s : Nat → V} {o : Nat → Option Ob} {Q : Ex → St → Prop} : wpB C I (.seq (.region [10, 11, 13, 19, 20] (some [10, 11, 63]) none
    [⟨some 20, .mv (.c (.d (.int .i64 0))), [], [], none, none⟩])
 (.seq (.seq (.region [10, 11, 13, 19, 20, 21] (some [10, 11, 63]) none
      [⟨some 21, .mv (.c (.d (.int .i64 0))), [], [], none, none⟩])
   (.block 4 [10, 11, 19, 20] (some [10, 11]) (R_l2)))
  (R_c13))) (St.mk s o) Q =
 (wpB C I R_l2 (St.mk (look [(10, (s 10)), (11, (s 11)), (13, (s 13)), (19, (s 19)), (20, (V.d (.int .i64 0))), (21, (V.d (.int .i64 0)))]) (looko ([10, 11, 63].map fun n => (n, o n)))) (blockK 4 [10, 11, 19, 20] (some [10, 11]) (seqK (fun st => wpB C I R_c13 st Q) Q))) := rfl
theorem g_ref02_MulDiv_c15_sh {R_o2 : List AOper} {R_c14 : ACode} {C : Ctx} {I : Nat → Prop} {s : Nat → V} {o : Nat → Option Ob} {Q : Ex → St → Prop} : wpB C I (.seq (.region [10, 11, 13, 19] (some [10, 11, 63]) none
    (⟨some 82, .mv (.t 3), [], [], none, none⟩ ::
     ⟨some 83, .bin .eql (.t 82) (.c (.d (.int .i64 1))), [], [], none, none⟩ ::
     ⟨some 84, .mv (.t 83), [], [], none, (some ([3, 10, 11, 12, 13, 17, 18, 84], (some [10, 11, 63])))⟩ ::
     R_o2))
 (R_c14)) (St.mk s o) Q =
 (demand (binV BinOp.eql (s 3) (V.d (.int .i64 1))) (fun x1 =>
opsB C I R_o2 (St.mk (look [(3, (s 3)), (10, (s 10)), (11, (s 11)), (12, (s 12)), (13, (s 13)), (17, (s 17)), (18, (s 18)), (84, x1)]) (looko ([10, 11, 63].map fun n => (n, o n)))) (fun st => (seqK (fun st => wpB C I R_c14 st Q) Q) .normal (St.trim st [10, 11, 13, 19] (some [10, 11, 63]))))) := rfl
theorem g_ref02_MulDiv_c16_sh {R_c15 : ACode} {C : Ctx} {I : Nat → Prop} {s : Nat → V} {o : Nat → Option Ob} {Q : Ex → St → Prop} : wpB C I (.seq (.region [3, 10, 11, 12, 13, 17, 18] (some [10, 11, 63]) (some ([0, 1, 2, 3, 4, 5], .done))
    [⟨some 77, .mv (.t 12), [], [], none, none⟩,
     ⟨some 78, .call 121 [(.t 77)], [], [0], none, none⟩,
     ⟨some 79, .faddr 1 (.t 11), [], [], none, none⟩,
     ⟨some 80, .load none (.t 79), [], [2], none, none⟩,
     ⟨some 81, .call 119 [(.t 78), (.t 80)], [], [1, 3, 1], none, none⟩,
     ⟨some 18, .mv (.t 81), [], [4, 4, 0, 1, 2, 3, 4], none, none⟩])
 (R_c15)) (St.mk s o) Q =
 ((s 77) = V.undef ∧ (quietV o ((s 12) :: [(s 12)]) ∧
(s 78) = V.undef ∧ (∃ x2, SoundAt C 121 ⟨[(s 12)], fun _ => none⟩ ⟨x2, fun _ => none⟩ ∧ (∀ n, V.refs n x2 = false) ∧ quietV o (x2 :: [(s 12)]) ∧
(s 79) = V.undef ∧ (demand (faddrV 1 (s 11)) (fun x3 => quietV o (x3 :: [(s 11)]) ∧
(s 80) = V.undef ∧ (demand (loadV o none x3) (fun x4 => quietV o (x4 :: [x3]) ∧
(s 81) = V.undef ∧ (∃ x5, SoundAt C 119 ⟨[x2, x4], fun _ => none⟩ ⟨x5, fun _ => none⟩ ∧ (∀ n, V.refs n x5 = false) ∧ quietV o (x5 :: [x2, x4]) ∧
(s 18) = V.undef ∧ (quietV o (x5 :: [x5]) ∧
wpB C I R_c15 (St.mk (look [(3, (s 3)), (10, (s 10)), (11, (s 11)), (12, (s 12)), (13, (s 13)), (17, (s 17)), (18, x5)]) (looko ([10, 11, 63].map fun n => (n, o n)))) Q))))))))) := rfl
theorem g_ref02_MulDiv_c17_sh {R_o0 : List AOper} {R_c16 : ACode} {C : Ctx} {I : Nat → Prop} {s : Nat → V} {o : Nat → Option Ob} {Q : Ex → St → Prop} : wpB C I (.seq (.region [3, 10, 11, 12, 13, 17] (some [10, 11, 63]) none
    (⟨some 64, .mv (.t 13), [], [], none, none⟩ ::
     ⟨some 65, .len (.t 64), [], [], none, none⟩ ::
     ⟨some 66, .bin .gtr (.t 65) (.c (.d (.int .i64 0))), [], [], none, none⟩ ::
     ⟨some 67, .mv (.t 66), [], [], none, (some ([3, 10, 11, 12, 13, 67], (some [10, 11, 63])))⟩ ::
     R_o0))
 (R_c16)) (St.mk s o) Q =
 (demand (lenV o (s 13)) (fun x1 =>
demand (binV BinOp.gtr x1 (V.d (.int .i64 0))) (fun x2 =>
opsB C I R_o0 (St.mk (look [(3, (s 3)), (10, (s 10)), (11, (s 11)), (12, (s 12)), (13, (s 13)), (67, x2)]) (looko ([10, 11, 63].map fun n => (n, o n)))) (fun st => (seqK (fun st => wpB C I R_c16 st Q) Q) .normal (St.trim st [3, 10, 11, 12, 13, 17] (some [10, 11, 63])))))) := rfl
theorem g_ref02_MulDiv_c18_sh {R_c6 : ACode} {R_c17 : ACode} {C : Ctx} {I : Nat → Prop} {s : Nat → V} {o : Nat → Option Ob} {Q : Ex → St → Prop} : wpB C I (.seq (.region [3, 10, 11, 12, 13] (some [10, 11, 63]) none
    [⟨some 12, .mv (.c (.cap0)), [], [], none, none⟩,
     ⟨some 13, .mv (.c (.cap0)), [], [], none, none⟩])
 (.seq (.seq (.region [3, 10, 11, 12, 13, 14] (some [10, 11, 63]) none
      [⟨some 29, .faddr 1 (.t 10), [], [], none, none⟩,
       ⟨some 30, .load none (.t 29), [], [], none, none⟩,
       ⟨some 31, .len (.t 30), [], [], none, none⟩,
       ⟨some 32, .bin .sub (.t 31) (.c (.d (.int .i64 1))), [], [], none, none⟩,
       ⟨some 14, .mv (.t 32), [], [], none, none⟩])
   (R_c6))
  (R_c17))) (St.mk s o) Q =
 (demand (faddrV 1 (s 10)) (fun x1 =>
demand (loadV (looko ([10, 11, 63].map fun n => (n, o n))) none x1) (fun x2 =>
demand (lenV (looko ([10, 11, 63].map fun n => (n, o n))) x2) (fun x3 =>
demand (binV BinOp.sub x3 (V.d (.int .i64 1))) (fun x4 =>
wpB C I R_c6 (St.mk (look [(3, (s 3)), (10, (s 10)), (11, (s 11)), (12, (V.cap0)), (13, (V.cap0)), (14, x4)]) (looko ([10, 11, 63].map fun n => (n, o n)))) (seqK (fun st => wpB C I R_c17 st Q) Q)))))) := rfl
theorem g_ref02_MulDiv_code_sh {R_c18 : ACode} {C : Ctx} {I : Nat → Prop} {s : Nat → V} {o : Nat → Option Ob} {Q : Ex → St → Prop} : wpB C I (.seq (.region [0, 1, 2, 3] (some []) none
    [⟨some 8, .mv (.c (.d (.int .i64 0))), [], [], none, none⟩,
     ⟨some 9, .mv (.c (.d (.bool false))), [], [], none, none⟩])
 (.seq (.region [3, 10, 11] (some [10, 11]) none
     [⟨some 22, .mv (.t 0), [], [], none, none⟩,
      ⟨some 23, .call 116 [(.t 22)], [], [], none, none⟩,
      ⟨some 24, .mv (.t 1), [], [], none, none⟩,
      ⟨some 25, .call 116 [(.t 24)], [], [], none, none⟩,
      ⟨some 26, .call 117 [(.t 23), (.t 25)], [], [], none, none⟩,
      ⟨some 27, .mv (.t 2), [], [], none, none⟩,
      ⟨some 28, .call 116 [(.t 27)], [], [], none, none⟩,
      ⟨some 10, .alloc 10 [.d (.bool false), .cap0], [], [], none, none⟩,
      ⟨some 11, .alloc 11 [.d (.bool false), .cap0], [], [], none, none⟩,
      ⟨none, .store 2 (.t 10) (.t 26), [], [], none, none⟩,
      ⟨none, .store 2 (.t 11) (.t 28), [], [], none, none⟩])
  (R_c18))) (St.mk s o) Q =
 (callK C I (St.mk (upd (look [(0, (s 0)), (1, (s 1)), (2, (s 2)), (3, (s 3))]) 22 (s 0)) (looko ([].map fun n => (n, o n)))) (some 23) 116 [(s 0)] (fun r1 or1 =>
callK C I (St.mk (upd (upd (upd (look [(0, (s 0)), (1, (s 1)), (2, (s 2)), (3, (s 3))]) 22 (s 0)) 23 r1) 24 (s 1)) or1) (some 25) 116 [(s 1)] (fun r2 or2 =>
callK C I (St.mk (upd (upd (upd (upd (look [(0, (s 0)), (1, (s 1)), (2, (s 2)), (3, (s 3))]) 22 (s 0)) 23 r1) 24 (s 1)) 25 r2) or2) (some 26) 117 [r1, r2] (fun r3 or3 =>
callK C I (St.mk (upd (upd (upd (upd (upd (upd (look [(0, (s 0)), (1, (s 1)), (2, (s 2)), (3, (s 3))]) 22 (s 0)) 23 r1) 24 (s 1)) 25 r2) 26 r3) 27 (s 2)) or3) (some 28) 116 [(s 2)] (fun r4 or4 =>
(¬ I 10 ∧ Fresh (St.mk (upd (upd (upd (upd (upd (upd (upd (look [(0, (s 0)), (1, (s 1)), (2, (s 2)), (3, (s 3))]) 22 (s 0)) 23 r1) 24 (s 1)) 25 r2) 26 r3) 27 (s 2)) 28 r4) or4) 10 (some 10) ∧ V.refsL 10 [V.d (.bool false), V.cap0] = false ∧
(¬ I 11 ∧ Fresh (St.mk (upd (upd (upd (upd (upd (upd (upd (upd (look [(0, (s 0)), (1, (s 1)), (2, (s 2)), (3, (s 3))]) 22 (s 0)) 23 r1) 24 (s 1)) 25 r2) 26 r3) 27 (s 2)) 28 r4) 10 (V.ptr 10 0)) (upd or4 10 (some (Ob.box [V.d (.bool false), V.cap0])))) 11 (some 11) ∧ V.refsL 11 [V.d (.bool false), V.cap0] = false ∧
storeK (V.ptr 10 0) (cellsV r3) 2 (upd (upd or4 10 (some (Ob.box [V.d (.bool false), V.cap0]))) 11 (some (Ob.box [V.d (.bool false), V.cap0]))) (fun m5 ob6 =>
storeK (V.ptr 11 0) (cellsV r4) 2 (upd (upd (upd or4 10 (some (Ob.box [V.d (.bool false), V.cap0]))) 11 (some (Ob.box [V.d (.bool false), V.cap0]))) m5 (some ob6)) (fun m7 ob8 =>
wpB C I R_c18 (St.mk (look [(3, (s 3)), (10, (V.ptr 10 0)), (11, (V.ptr 11 0))]) (looko ([10, 11].map fun n => (n, (upd (upd (upd (upd or4 10 (some (Ob.box [V.d (.bool false), V.cap0]))) 11 (some (Ob.box [V.d (.bool false), V.cap0]))) m5 (some ob6)) m7 (some ob8)) n)))) Q))))))))) := rfl
theorem g_money_Text_c0_sh {C : Ctx} {I : Nat → Prop} {s : Nat → V} {o : Nat → Option Ob} {Q : Ex → St → Prop} : wpB C I (.seq (.region [2, 3] (some []) (some ([0, 1, 2, 3, 4, 5, 6, 7, 8, 9, 10], .done))
    [⟨some 17, .mv (.t 4), [], [], none, none⟩,
     ⟨some 18, .mv (.t 0), [], [], none, none⟩,
     ⟨some 19, .bin .quo (.t 18) (.c (.d (.int .i64 100))), [], [1], none, none⟩,
     ⟨some 20, .call 68 [(.t 19)], [], [2], none, none⟩,
     ⟨some 21, .bin .add (.t 17) (.t 20), [], [0, 3], none, none⟩,
     ⟨some 22, .bin .add (.t 21) (.c (.d (.str [46]))), [], [4], none, none⟩,
     ⟨some 23, .mv (.t 5), [], [], none, none⟩,
     ⟨some 24, .slcS (.t 23) (some (.c (.d (.int .i64 1)))) none, [], [6], none, none⟩,
     ⟨some 25, .bin .add (.t 22) (.t 24), [], [5, 7], none, none⟩,
     ⟨some 2, .mv (.t 25), [], [8, 3, 0, 1, 2, 3, 4, 5, 6, 7, 8], none, none⟩,
     ⟨some 3, .mv (.c (.d (.int .i64 0))), [], [9, 0, 1, 2, 3, 4, 5, 6, 7, 8, 9], none, none⟩])
 (.ret)) (St.mk s o) Q =
 ((s 17) = V.undef ∧ (quietV o ((s 4) :: [(s 4)]) ∧
(s 18) = V.undef ∧ (quietV o ((s 0) :: [(s 0)]) ∧
(s 19) = V.undef ∧ (demand (binV BinOp.quo (s 0) (V.d (.int .i64 100))) (fun x3 => quietV o (x3 :: [(s 0), (V.d (.int .i64 100))]) ∧
(s 20) = V.undef ∧ (∃ x4, SoundAt C 68 ⟨[x3], fun _ => none⟩ ⟨x4, fun _ => none⟩ ∧ (∀ n, V.refs n x4 = false) ∧ quietV o (x4 :: [x3]) ∧
(s 21) = V.undef ∧ (demand (binV BinOp.add (s 4) x4) (fun x5 => quietV o (x5 :: [(s 4), x4]) ∧
(s 22) = V.undef ∧ (demand (binV BinOp.add x5 (V.d (.str [46]))) (fun x6 => quietV o (x6 :: [x5, (V.d (.str [46]))]) ∧
(s 23) = V.undef ∧ (quietV o ((s 5) :: [(s 5)]) ∧
(s 24) = V.undef ∧ (demand (slcSV (s 5) (some (V.d (.int .i64 1))) none) (fun x8 => quietV o (x8 :: [(s 5), (V.d (.int .i64 1))]) ∧
(s 25) = V.undef ∧ (demand (binV BinOp.add x6 x8) (fun x9 => quietV o (x9 :: [x6, x8]) ∧
(s 2) = V.undef ∧ (quietV o (x9 :: [x9]) ∧
(s 3) = V.undef ∧ (quietV o ((V.d (.int .i64 0)) :: [(V.d (.int .i64 0))]) ∧
Q .ret (St.mk (look [(2, x9), (3, (V.d (.int .i64 0)))]) (looko ([].map fun n => (n, o n))))))))))))))))))))) := rfl
theorem g_money_Text_c1_sh {R_c0 : ACode} {C : Ctx} {I : Nat → Prop} {s : Nat → V} {o : Nat → Option Ob} {Q : Ex → St → Prop} : wpB C I (.seq (.region [0, 4, 5] (some []) none
    [⟨some 13, .mv (.t 0), [], [], none, none⟩,
     ⟨some 14, .bin .rem (.t 13) (.c (.d (.int .i64 100))), [], [], none, none⟩,
     ⟨some 15, .bin .add (.c (.d (.int .i64 100))) (.t 14), [], [], none, none⟩,
     ⟨some 16, .call 68 [(.t 15)], [], [], none, none⟩,
     ⟨some 5, .mv (.t 16), [], [], none, none⟩])
 (R_c0)) (St.mk s o) Q =
 (demand (binV BinOp.rem (s 0) (V.d (.int .i64 100))) (fun x1 =>
demand (binV BinOp.add (V.d (.int .i64 100)) x1) (fun x2 =>
callK C I (St.mk (upd (upd (upd s 13 (s 0)) 14 x1) 15 x2) o) (some 16) 68 [x2] (fun r3 or3 =>
wpB C I R_c0 (St.mk (look [(0, (s 0)), (4, (s 4)), (5, r3)]) (looko ([].map fun n => (n, or3 n)))) Q)))) := rfl
theorem g_money_Text_c2_sh {R_c1 : ACode} {C : Ctx} {I : Nat → Prop} {s : Nat → V} {o : Nat → Option Ob} {Q : Ex → St → Prop} : wpB C I (.seq (.region [0, 4] (some []) none
    [⟨some 4, .mv (.c (.d (.str []))), [], [], none, none⟩])
 (.seq (.seq (.region [0, 4, 10] (some []) none
      [⟨some 9, .mv (.t 0), [], [], none, none⟩,
       ⟨some 10, .bin .lss (.t 9) (.c (.d (.int .i64 0))), [], [], none, none⟩])
   (.cond (.t 10) (.region [0, 4] (some []) none
       [⟨some 11, .mv (.t 0), [], [], none, none⟩,
        ⟨some 12, .un .neg (.t 11), [], [], none, none⟩,
        ⟨some 4, .mv (.c (.d (.str [45]))), [], [], none, none⟩,
        ⟨some 0, .mv (.t 12), [], [], none, none⟩])
    (.skip)))
  (R_c1))) (St.mk s o) Q =
 (demand (binV BinOp.lss (s 0) (V.d (.int .i64 0))) (fun x1 =>
condK x1
 (demand (unV UnOp.neg (s 0)) (fun x2 =>
wpB C I R_c1 (St.mk (look [(0, x2), (4, (V.d (.str [45])))]) (looko ([].map fun n => (n, o n)))) Q))
 (wpB C I R_c1 (St.mk (look [(0, (s 0)), (4, (V.d (.str []))), (10, x1)]) (looko ([].map fun n => (n, o n)))) Q))) := rfl
theorem g_money_Text_code_sh {R_c2 : ACode} {C : Ctx} {I : Nat → Prop} {s : Nat → V} {o : Nat → Option Ob} {Q : Ex → St → Prop} : wpB C I (.seq (.region [0] (some []) none
    [⟨some 2, .mv (.c (.d (.str []))), [], [], none, none⟩,
     ⟨some 3, .mv (.c (.d (.int .i64 0))), [], [], none, none⟩])
 (.seq (.seq (.region [0, 8] (some []) none
      [⟨some 6, .mv (.t 0), [], [], none, none⟩,
       ⟨some 7, .call 58 [(.t 6)], [], [], none, none⟩,
       ⟨some 8, .un .not (.t 7), [], [], none, none⟩])
   (.cond (.t 8) (.seq (.region [2, 3] (some []) none
        [⟨some 2, .mv (.c (.d (.str []))), [], [], none, none⟩,
         ⟨some 3, .mv (.c (.d (.int .i64 3))), [], [], none, none⟩])
     (.ret))
    (.skip)))
  (R_c2))) (St.mk s o) Q =
 (callK C I (St.mk (upd (look [(0, (s 0))]) 6 (s 0)) (looko ([].map fun n => (n, o n)))) (some 7) 58 [(s 0)] (fun r1 or1 =>
demand (unV UnOp.not r1) (fun x2 =>
condK x2
 (Q .ret (St.mk (look [(2, (V.d (.str []))), (3, (V.d (.int .i64 3)))]) (looko ([].map fun n => (n, or1 n)))))
 (wpB C I R_c2 (St.mk (look [(0, (s 0)), (8, x2)]) (looko ([].map fun n => (n, or1 n)))) Q)))) := rfl
theorem g_strings_CutSuffix_code_sh {C : Ctx} {I : Nat → Prop} {s : Nat → V} {o : Nat → Option Ob} {Q : Ex → St → Prop} : wpB C I (.seq (.region [0, 1] (some []) none
    [⟨some 4, .mv (.c (.d (.str []))), [], [], none, none⟩,
     ⟨some 5, .mv (.c (.d (.bool false))), [], [], none, none⟩])
 (.seq (.region [4, 5] (some []) none
     [⟨some 6, .mv (.t 0), [], [], none, none⟩,
      ⟨some 7, .mv (.t 1), [], [], none, none⟩,
      ⟨some 8, .call 122 [(.t 6), (.t 7)], [], [], none, none⟩,
      ⟨some 9, .ext (.t 8) 0, [], [], none, none⟩,
      ⟨some 10, .ext (.t 8) 1, [], [], none, none⟩,
      ⟨some 4, .mv (.t 9), [], [], none, none⟩,
      ⟨some 5, .mv (.t 10), [], [], none, none⟩])
  (.ret))) (St.mk s o) Q =
 (callK C I (St.mk (upd (upd (look [(0, (s 0)), (1, (s 1))]) 6 (s 0)) 7 (s 1)) (looko ([].map fun n => (n, o n)))) (some 8) 122 [(s 0), (s 1)] (fun r1 or1 =>
demand (extV r1 0) (fun x2 =>
demand (extV r1 1) (fun x3 =>
Q .ret (St.mk (look [(4, x2), (5, x3)]) (looko ([].map fun n => (n, or1 n)))))))) := rfl
theorem g_money_Parse_o1_sh {C : Ctx} {I : Nat → Prop} {s : Nat → V} {o : Nat → Option Ob} {K : St → Prop} : opsB C I [⟨some 20, .pick (.t 16) (.c (.d (.bool true))) (.t 19), [], [], none, none⟩] (St.mk s o) K =
 (demand (pickV (s 16) (V.d (.bool true)) (s 19)) (fun x1 =>
K (St.mk (upd s 20 x1) o))) := rfl
theorem g_money_Parse_o0_sh {R_o1 : List AOper} {C : Ctx} {I : Nat → Prop} {s : Nat → V} {o : Nat → Option Ob} {K : St → Prop} : opsB C I (⟨some 17, .mv (.t 4), [], [], (some (2, 16, false)), none⟩ ::
     ⟨some 18, .call 58 [(.t 17)], [], [], (some (2, 16, false)), none⟩ ::
     ⟨some 19, .un .not (.t 18), [], [], (some (2, 16, false)), (some ([0, 4, 16, 19], (some [])))⟩ ::
     R_o1) (St.mk s o) K =
 (guardK (s 16) false
 (callK C I (St.mk (upd (upd (upd s 16 (V.d (D.bool false))) 17 (s 4)) 16 (V.d (D.bool false))) o) (some 18) 58 [(s 4)] (fun r1 or1 =>
demand (unV UnOp.not r1) (fun x2 =>
opsB C I R_o1 (St.mk (look [(0, (s 0)), (4, (s 4)), (16, (V.d (D.bool false))), (19, x2)]) (looko ([].map fun n => (n, or1 n)))) K)))
 (opsB C I R_o1 (St.mk (look [(0, (s 0)), (4, (s 4)), (16, (V.d (D.bool true))), (19, (V.tup []))]) (looko ([].map fun n => (n, o n)))) K)
 (opsB C I R_o1 (St.mk (look [(0, (s 0)), (4, (s 4)), (16, (V.tup [])), (19, (V.tup []))]) (looko ([].map fun n => (n, o n)))) K)) := rfl
theorem g_money_Parse_c0_sh {C : Ctx} {I : Nat → Prop} {s : Nat → V} {o : Nat → Option Ob} {Q : Ex → St → Prop} : wpB C I (.cond (.t 20) (.seq (.region [2, 3] (some []) none
     [⟨some 2, .mv (.c (.d (.int .i64 0))), [], [], none, none⟩,
      ⟨some 3, .mv (.c (.d (.bool false))), [], [], none, none⟩])
  (.ret))
 (.skip)) (St.mk s o) Q =
 (condK (s 20)
 (Q .ret (St.mk (look [(2, (V.d (.int .i64 0))), (3, (V.d (.bool false)))]) (looko ([].map fun n => (n, o n)))))
 (Q .normal (St.mk s o))) := rfl
theorem g_money_Parse_c1_sh {C : Ctx} {I : Nat → Prop} {s : Nat → V} {o : Nat → Option Ob} {Q : Ex → St → Prop} : wpB C I (.seq (.region [4, 28] (some []) none
    [⟨some 26, .mv (.t 6), [], [], none, none⟩,
     ⟨some 27, .mv (.t 0), [], [], none, none⟩,
     ⟨some 28, .bin .neq (.t 26) (.t 27), [], [], none, none⟩])
 (.cond (.t 28) (.seq (.region [2, 3] (some []) none
      [⟨some 2, .mv (.c (.d (.int .i64 0))), [], [], none, none⟩,
       ⟨some 3, .mv (.c (.d (.bool false))), [], [], none, none⟩])
   (.ret))
  (.skip))) (St.mk s o) Q =
 (demand (binV BinOp.neq (s 6) (s 0)) (fun x1 =>
condK x1
 (Q .ret (St.mk (look [(2, (V.d (.int .i64 0))), (3, (V.d (.bool false)))]) (looko ([].map fun n => (n, o n)))))
 (Q .normal (St.mk (look [(4, (s 4)), (28, x1)]) (looko ([].map fun n => (n, o n))))))) := rfl
theorem g_money_Parse_c2_sh {C : Ctx} {I : Nat → Prop} {s : Nat → V} {o : Nat → Option Ob} {Q : Ex → St → Prop} : wpB C I (.seq (.region [2, 3] (some []) none
    [⟨some 29, .mv (.t 4), [], [], none, none⟩,
     ⟨some 2, .mv (.t 29), [], [], none, none⟩,
     ⟨some 3, .mv (.c (.d (.bool true))), [], [], none, none⟩])
 (.ret)) (St.mk s o) Q =
 (Q .ret (St.mk (look [(2, (s 4)), (3, (V.d (.bool true)))]) (looko ([].map fun n => (n, o n))))) := rfl
theorem g_money_Parse_c3_sh {R_c1 : ACode} {R_c2 : ACode} {C : Ctx} {I : Nat → Prop} {s : Nat → V} {o : Nat → Option Ob} {Q : Ex → St → Prop} : wpB C I (.seq (.seq (.region [0, 4, 6] (some []) none
     [⟨some 22, .mv (.t 4), [], [], none, none⟩,
      ⟨some 23, .call 50 [(.t 22)], [], [], none, none⟩,
      ⟨some 21, .mv (.t 23), [], [], none, none⟩,
      ⟨some 24, .ext (.t 21) 0, [], [], none, none⟩,
      ⟨some 25, .ext (.t 21) 1, [], [], none, none⟩,
      ⟨some 6, .mv (.t 24), [], [], none, none⟩,
      ⟨some 7, .mv (.t 25), [], [], none, none⟩])
  (R_c1))
 (R_c2)) (St.mk s o) Q =
 (callK C I (St.mk (upd s 22 (s 4)) o) (some 23) 50 [(s 4)] (fun r1 or1 =>
demand (extV r1 0) (fun x2 =>
demand (extV r1 1) (fun x3 =>
wpB C I R_c1 (St.mk (look [(0, (s 0)), (4, (s 4)), (6, x2)]) (looko ([].map fun n => (n, or1 n)))) (seqK (fun st => wpB C I R_c2 st Q) Q))))) := rfl
theorem g_money_Parse_c4_sh {R_o0 : List AOper} {R_c0 : ACode} {R_c3 : ACode} {C : Ctx} {I : Nat → Prop} {s : Nat → V} {o : Nat → Option Ob} {Q : Ex → St → Prop} : wpB C I (.seq (.seq (.region [0, 4, 20] (some []) none
     (⟨some 14, .mv (.t 5), [], [], none, none⟩ ::
      ⟨some 15, .nilE true (.t 14), [], [], none, none⟩ ::
      ⟨some 16, .mv (.t 15), [], [], none, (some ([0, 4, 16], (some [])))⟩ ::
      R_o0))
  (R_c0))
 (R_c3)) (St.mk s o) Q =
 (demand (nilEV true (s 5)) (fun x1 =>
opsB C I R_o0 (St.mk (look [(0, (s 0)), (4, (s 4)), (16, x1)]) (looko ([].map fun n => (n, o n)))) (fun st => (seqK (fun st => wpB C I R_c0 st (seqK (fun st => wpB C I R_c3 st Q) Q)) (seqK (fun st => wpB C I R_c3 st Q) Q)) .normal (St.trim st [0, 4, 20] (some []))))) := rfl
theorem g_money_Parse_code_sh {R_c4 : ACode} {C : Ctx} {I : Nat → Prop} {s : Nat → V} {o : Nat → Option Ob} {Q : Ex → St → Prop} : wpB C I (.seq (.region [0] (some []) none
    [⟨some 2, .mv (.c (.d (.int .i64 0))), [], [], none, none⟩,
     ⟨some 3, .mv (.c (.d (.bool false))), [], [], none, none⟩])
 (.seq (.region [0, 4, 5] (some []) none
     [⟨some 9, .mv (.t 0), [], [], none, none⟩,
      ⟨some 10, .call 69 [(.t 9), (.c (.d (.str [46]))), (.c (.d (.str []))), (.c (.d (.int .i64 1)))], [], [], none, none⟩,
      ⟨some 11, .call 70 [(.t 10)], [], [], none, none⟩,
      ⟨some 8, .mv (.t 11), [], [], none, none⟩,
      ⟨some 12, .ext (.t 8) 0, [], [], none, none⟩,
      ⟨some 13, .ext (.t 8) 1, [], [], none, none⟩,
      ⟨some 4, .mv (.t 12), [], [], none, none⟩,
      ⟨some 5, .mv (.t 13), [], [], none, none⟩])
  (R_c4))) (St.mk s o) Q =
 (callK C I (St.mk (upd (look [(0, (s 0))]) 9 (s 0)) (looko ([].map fun n => (n, o n)))) (some 10) 69 [(s 0), (V.d (.str [46])), (V.d (.str [])), (V.d (.int .i64 1))] (fun r1 or1 =>
callK C I (St.mk (upd (upd (look [(0, (s 0))]) 9 (s 0)) 10 r1) or1) (some 11) 70 [r1] (fun r2 or2 =>
demand (extV r2 0) (fun x3 =>
demand (extV r2 1) (fun x4 =>
wpB C I R_c4 (St.mk (look [(0, (s 0)), (4, x3), (5, x4)]) (looko ([].map fun n => (n, or2 n)))) Q))))) := rfl
theorem g_ref01_Text_c0_sh {C : Ctx} {I : Nat → Prop} {s : Nat → V} {o : Nat → Option Ob} {Q : Ex → St → Prop} : wpB C I (.seq (.region [2] (some []) none
    [⟨some 9, .mv (.t 0), [], [], none, none⟩,
     ⟨some 10, .bin .quo (.t 9) (.c (.d (.int .i64 100))), [], [], none, none⟩,
     ⟨some 11, .call 71 [(.t 10)], [], [], none, none⟩,
     ⟨some 12, .bin .add (.t 11) (.c (.d (.str [46]))), [], [], none, none⟩,
     ⟨some 13, .mv (.t 0), [], [], none, none⟩,
     ⟨some 14, .bin .rem (.t 13) (.c (.d (.int .i64 100))), [], [], none, none⟩,
     ⟨some 15, .bin .quo (.t 14) (.c (.d (.int .i64 10))), [], [], none, none⟩,
     ⟨some 16, .call 71 [(.t 15)], [], [], none, none⟩,
     ⟨some 17, .bin .add (.t 12) (.t 16), [], [], none, none⟩,
     ⟨some 18, .mv (.t 0), [], [], none, none⟩,
     ⟨some 19, .bin .rem (.t 18) (.c (.d (.int .i64 10))), [], [], none, none⟩,
     ⟨some 20, .call 71 [(.t 19)], [], [], none, none⟩,
     ⟨some 21, .bin .add (.t 17) (.t 20), [], [], none, none⟩,
     ⟨some 2, .mv (.t 21), [], [], none, none⟩])
 (.ret)) (St.mk s o) Q =
 (demand (binV BinOp.quo (s 0) (V.d (.int .i64 100))) (fun x1 =>
callK C I (St.mk (upd (upd s 9 (s 0)) 10 x1) o) (some 11) 71 [x1] (fun r2 or2 =>
demand (binV BinOp.add r2 (V.d (.str [46]))) (fun x3 =>
demand (binV BinOp.rem (s 0) (V.d (.int .i64 100))) (fun x4 =>
demand (binV BinOp.quo x4 (V.d (.int .i64 10))) (fun x5 =>
callK C I (St.mk (upd (upd (upd (upd (upd (upd (upd s 9 (s 0)) 10 x1) 11 r2) 12 x3) 13 (s 0)) 14 x4) 15 x5) or2) (some 16) 71 [x5] (fun r6 or6 =>
demand (binV BinOp.add x3 r6) (fun x7 =>
demand (binV BinOp.rem (s 0) (V.d (.int .i64 10))) (fun x8 =>
callK C I (St.mk (upd (upd (upd (upd (upd (upd (upd (upd (upd (upd (upd s 9 (s 0)) 10 x1) 11 r2) 12 x3) 13 (s 0)) 14 x4) 15 x5) 16 r6) 17 x7) 18 (s 0)) 19 x8) or6) (some 20) 71 [x8] (fun r9 or9 =>
demand (binV BinOp.add x7 r9) (fun x10 =>
Q .ret (St.mk (look [(2, x10)]) (looko ([].map fun n => (n, or9 n))))))))))))))) := rfl
theorem g_ref01_Text_code_sh {R_c0 : ACode} {C : Ctx} {I : Nat → Prop} {s : Nat → V} {o : Nat → Option Ob} {Q : Ex → St → Prop} : wpB C I (.seq (.region [0] (some []) none
    [⟨some 2, .mv (.c (.d (.str []))), [], [], none, none⟩])
 (.seq (.seq (.region [0, 4] (some []) none
      [⟨some 3, .mv (.t 0), [], [], none, none⟩,
       ⟨some 4, .bin .lss (.t 3) (.c (.d (.int .i64 0))), [], [], none, none⟩])
   (.cond (.t 4) (.seq (.region [2] (some []) none
        [⟨some 5, .mv (.t 0), [], [], none, none⟩,
         ⟨some 6, .un .neg (.t 5), [], [], none, none⟩,
         ⟨some 7, .call 54 [(.t 6)], [], [], none, none⟩,
         ⟨some 8, .bin .add (.c (.d (.str [45]))) (.t 7), [], [], none, none⟩,
         ⟨some 2, .mv (.t 8), [], [], none, none⟩])
     (.ret))
    (.skip)))
  (R_c0))) (St.mk s o) Q =
 (demand (binV BinOp.lss (s 0) (V.d (.int .i64 0))) (fun x1 =>
condK x1
 (demand (unV UnOp.neg (s 0)) (fun x2 =>
callK C I (St.mk (upd (upd (look [(0, (s 0)), (4, x1)]) 5 (s 0)) 6 x2) (looko ([].map fun n => (n, o n)))) (some 7) 54 [x2] (fun r3 or3 =>
demand (binV BinOp.add (V.d (.str [45])) r3) (fun x4 =>
Q .ret (St.mk (look [(2, x4)]) (looko ([].map fun n => (n, or3 n))))))))
 (wpB C I R_c0 (St.mk (look [(0, (s 0)), (4, x1)]) (looko ([].map fun n => (n, o n)))) Q))) := rfl
theorem g_money_Right_code_sh {C : Ctx} {I : Nat → Prop} {s : Nat → V} {o : Nat → Option Ob} {Q : Ex → St → Prop} : wpB C I (.seq (.region [0] (some []) none
    [⟨some 2, .mv (.c (.d (.bool false))), [], [], none, none⟩])
 (.seq (.region [2] (some []) none
     [⟨some 3, .mv (.t 0), [], [], none, none⟩,
      ⟨some 4, .bin .geq (.t 3) (.c (.d (.int .i64 (-9223372036854775807)))), [], [], none, none⟩,
      ⟨some 2, .mv (.t 4), [], [], none, none⟩])
  (.ret))) (St.mk s o) Q =
 (demand (binV BinOp.geq (s 0) (V.d (.int .i64 (-9223372036854775807)))) (fun x1 =>
Q .ret (St.mk (look [(2, x1)]) (looko ([].map fun n => (n, o n)))))) := rfl
theorem g_wide_size_c0_sh {C : Ctx} {I : Nat → Prop} {s : Nat → V} {o : Nat → Option Ob} {Q : Ex → St → Prop} : wpB C I (.seq (.region [2] (some []) none
    [⟨some 8, .mv (.t 0), [], [], none, none⟩,
     ⟨some 9, .conv .u64 (.t 8), [], [], none, none⟩,
     ⟨some 2, .mv (.t 9), [], [], none, none⟩])
 (.ret)) (St.mk s o) Q =
 (demand (convV IntKind.u64 (s 0)) (fun x1 =>
Q .ret (St.mk (look [(2, x1)]) (looko ([].map fun n => (n, o n)))))) := rfl
theorem g_wide_size_code_sh {R_c0 : ACode} {C : Ctx} {I : Nat → Prop} {s : Nat → V} {o : Nat → Option Ob} {Q : Ex → St → Prop} : wpB C I (.seq (.region [0] (some []) none
    [⟨some 2, .mv (.c (.d (.int .u64 0))), [], [], none, none⟩])
 (.seq (.seq (.region [0, 4] (some []) none
      [⟨some 3, .mv (.t 0), [], [], none, none⟩,
       ⟨some 4, .bin .lss (.t 3) (.c (.d (.int .i64 0))), [], [], none, none⟩])
   (.cond (.t 4) (.seq (.region [2] (some []) none
        [⟨some 5, .mv (.t 0), [], [], none, none⟩,
         ⟨some 6, .conv .u64 (.t 5), [], [], none, none⟩,
         ⟨some 7, .un .neg (.t 6), [], [], none, none⟩,
         ⟨some 2, .mv (.t 7), [], [], none, none⟩])
     (.ret))
    (.skip)))
  (R_c0))) (St.mk s o) Q =
 (demand (binV BinOp.lss (s 0) (V.d (.int .i64 0))) (fun x1 =>
condK x1
 (demand (convV IntKind.u64 (s 0)) (fun x2 =>
demand (unV UnOp.neg x2) (fun x3 =>
Q .ret (St.mk (look [(2, x3)]) (looko ([].map fun n => (n, o n)))))))
 (wpB C I R_c0 (St.mk (look [(0, (s 0)), (4, x1)]) (looko ([].map fun n => (n, o n)))) Q))) := rfl
theorem g_math_bits_Div64_o1_sh {C : Ctx} {I : Nat → Prop} {s : Nat → V} {o : Nat → Option Ob} {K : St → Prop} : opsB C I [⟨some 78, .pick (.t 69) (.c (.d (.bool true))) (.t 77), [], [], none, none⟩] (St.mk s o) K =
 (demand (pickV (s 69) (V.d (.bool true)) (s 77)) (fun x1 =>
K (St.mk (upd s 78 x1) o))) := rfl
theorem g_math_bits_Div64_o0_sh {R_o1 : List AOper} {C : Ctx} {I : Nat → Prop} {s : Nat → V} {o : Nat → Option Ob} {K : St → Prop} : opsB C I (⟨some 70, .mv (.t 15), [], [], (some (2, 69, false)), none⟩ ::
     ⟨some 71, .mv (.t 10), [], [], (some (2, 69, false)), none⟩ ::
     ⟨some 72, .bin .mul (.t 70) (.t 71), [], [], (some (2, 69, false)), none⟩ ::
     ⟨some 73, .mv (.t 16), [], [], (some (2, 69, false)), none⟩ ::
     ⟨some 74, .bin .mul (.c (.d (.int .u64 4294967296))) (.t 73), [], [], (some (2, 69, false)), none⟩ ::
     ⟨some 75, .mv (.t 13), [], [], (some (2, 69, false)), none⟩ ::
     ⟨some 76, .bin .add (.t 74) (.t 75), [], [], (some (2, 69, false)), none⟩ ::
     ⟨some 77, .bin .gtr (.t 72) (.t 76), [], [], (some (2, 69, false)), (some ([2, 8, 9, 10, 11, 13, 14, 15, 16, 69, 77], (some [])))⟩ ::
     R_o1) (St.mk s o) K =
 (guardK (s 69) false
 (demand (binV BinOp.mul (s 15) (s 10)) (fun x1 =>
demand (binV BinOp.mul (V.d (.int .u64 4294967296)) (s 16)) (fun x2 =>
demand (binV BinOp.add x2 (s 13)) (fun x3 =>
demand (binV BinOp.gtr x1 x3) (fun x4 =>
opsB C I R_o1 (St.mk (look [(2, (s 2)), (8, (s 8)), (9, (s 9)), (10, (s 10)), (11, (s 11)), (13, (s 13)), (14, (s 14)), (15, (s 15)), (16, (s 16)), (69, (V.d (D.bool false))), (77, x4)]) (looko ([].map fun n => (n, o n)))) K)))))
 (opsB C I R_o1 (St.mk (look [(2, (s 2)), (8, (s 8)), (9, (s 9)), (10, (s 10)), (11, (s 11)), (13, (s 13)), (14, (s 14)), (15, (s 15)), (16, (s 16)), (69, (V.d (D.bool true))), (77, (V.tup []))]) (looko ([].map fun n => (n, o n)))) K)
 (opsB C I R_o1 (St.mk (look [(2, (s 2)), (8, (s 8)), (9, (s 9)), (10, (s 10)), (11, (s 11)), (13, (s 13)), (14, (s 14)), (15, (s 15)), (16, (s 16)), (69, (V.tup [])), (77, (V.tup []))]) (looko ([].map fun n => (n, o n)))) K)) := rfl
theorem g_math_bits_Div64_c0_sh {C : Ctx} {I : Nat → Prop} {s : Nat → V} {o : Nat → Option Ob} {Q : Ex → St → Prop} : wpB C I (.cond (.t 78) (.skip)
 (.exit 0)) (St.mk s o) Q =
 (condK (s 78)
 (Q .normal (St.mk s o))
 (Q (.exit 0) (St.mk s o))) := rfl
theorem g_math_bits_Div64_c1_sh {C : Ctx} {I : Nat → Prop} {s : Nat → V} {o : Nat → Option Ob} {Q : Ex → St → Prop} : wpB C I (.seq (.region [2, 8, 9, 10, 11, 13, 14, 15, 16, 85] (some []) none
    [⟨some 84, .mv (.t 16), [], [], none, none⟩,
     ⟨some 85, .bin .geq (.t 84) (.c (.d (.int .u64 4294967296))), [], [], none, none⟩])
 (.cond (.t 85) (.exit 0)
  (.skip))) (St.mk s o) Q =
 (demand (binV BinOp.geq (s 16) (V.d (.int .u64 4294967296))) (fun x1 =>
condK x1
 (Q (.exit 0) (St.mk (look [(2, (s 2)), (8, (s 8)), (9, (s 9)), (10, (s 10)), (11, (s 11)), (13, (s 13)), (14, (s 14)), (15, (s 15)), (16, (s 16)), (85, x1)]) (looko ([].map fun n => (n, o n)))))
 (Q .normal (St.mk (look [(2, (s 2)), (8, (s 8)), (9, (s 9)), (10, (s 10)), (11, (s 11)), (13, (s 13)), (14, (s 14)), (15, (s 15)), (16, (s 16)), (85, x1)]) (looko ([].map fun n => (n, o n))))))) := rfl
theorem g_math_bits_Div64_c2_sh {R_c1 : ACode} {C : Ctx} {I : Nat → Prop} {s : Nat → V} {o : Nat → Option Ob} {Q : Ex → St → Prop} : wpB C I (.block 1 [2, 8, 9, 10, 11, 13, 14, 15, 16] (some []) (.seq (.region [2, 8, 9, 10, 11, 13, 14, 15, 16] (some []) none
     [⟨some 79, .mv (.t 15), [], [], none, none⟩,
      ⟨some 80, .bin .sub (.t 79) (.c (.d (.int .u64 1))), [], [], none, none⟩,
      ⟨some 15, .mv (.t 80), [], [], none, none⟩])
  (.seq (.region [2, 8, 9, 10, 11, 13, 14, 15, 16] (some []) none
      [⟨some 81, .mv (.t 16), [], [], none, none⟩,
       ⟨some 82, .mv (.t 9), [], [], none, none⟩,
       ⟨some 83, .bin .add (.t 81) (.t 82), [], [], none, none⟩,
       ⟨some 16, .mv (.t 83), [], [], none, none⟩])
   (R_c1)))) (St.mk s o) Q =
 (demand (binV BinOp.sub (s 15) (V.d (.int .u64 1))) (fun x1 =>
demand (binV BinOp.add (s 16) (s 9)) (fun x2 =>
wpB C I R_c1 (St.mk (look [(2, (s 2)), (8, (s 8)), (9, (s 9)), (10, (s 10)), (11, (s 11)), (13, (s 13)), (14, (s 14)), (15, x1), (16, x2)]) (looko ([].map fun n => (n, o n)))) (blockK 1 [2, 8, 9, 10, 11, 13, 14, 15, 16] (some []) Q)))) := rfl
theorem g_math_bits_Div64_l0_sh {R_l0 : ACode} {R_o0 : List AOper} {R_c0 : ACode} {R_c2 : ACode} {C : Ctx} {I : Nat → Prop} {s : Nat → V} {o : Nat → Option Ob} {Q : Ex → St → Prop} (hL : R_l0 = .loop [2, 8, 9, 10, 11, 13, 14, 15, 16] (some []) (.seq (.seq (.region [2, 8, 9, 10, 11, 13, 14, 15, 16, 78] (some []) none
      (⟨some 67, .mv (.t 15), [], [], none, none⟩ ::
       ⟨some 68, .bin .geq (.t 67) (.c (.d (.int .u64 4294967296))), [], [], none, none⟩ ::
       ⟨some 69, .mv (.t 68), [], [], none, (some ([2, 8, 9, 10, 11, 13, 14, 15, 16, 69], (some [])))⟩ ::
       R_o0))
   (R_c0))
  (R_c2)))
 (h : demand (binV BinOp.geq (s 15) (V.d (.int .u64 4294967296))) (fun x1 =>
opsB C I R_o0 (St.mk (look [(2, (s 2)), (8, (s 8)), (9, (s 9)), (10, (s 10)), (11, (s 11)), (13, (s 13)), (14, (s 14)), (15, (s 15)), (16, (s 16)), (69, x1)]) (looko ([].map fun n => (n, o n)))) (fun st => (seqK (fun st => wpB C I R_c0 st (seqK (fun st => wpB C I R_c2 st (seqK (fun s => wpB C I R_l0 s Q) Q)) (seqK (fun s => wpB C I R_l0 s Q) Q))) (seqK (fun st => wpB C I R_c2 st (seqK (fun s => wpB C I R_l0 s Q) Q)) (seqK (fun s => wpB C I R_l0 s Q) Q))) .normal (St.trim st [2, 8, 9, 10, 11, 13, 14, 15, 16, 78] (some []))))) : wpB C I R_l0 (St.mk s o) Q := w_loopC hL h
theorem g_math_bits_Div64_o3_sh {C : Ctx} {I : Nat → Prop} {s : Nat → V} {o : Nat → Option Ob} {K : St → Prop} : opsB C I [⟨some 113, .pick (.t 104) (.c (.d (.bool true))) (.t 112), [], [], none, none⟩] (St.mk s o) K =
 (demand (pickV (s 104) (V.d (.bool true)) (s 112)) (fun x1 =>
K (St.mk (upd s 113 x1) o))) := rfl
theorem g_math_bits_Div64_o2_sh {R_o3 : List AOper} {C : Ctx} {I : Nat → Prop} {s : Nat → V} {o : Nat → Option Ob} {K : St → Prop} : opsB C I (⟨some 105, .mv (.t 18), [], [], (some (2, 104, false)), none⟩ ::
     ⟨some 106, .mv (.t 10), [], [], (some (2, 104, false)), none⟩ ::
     ⟨some 107, .bin .mul (.t 105) (.t 106), [], [], (some (2, 104, false)), none⟩ ::
     ⟨some 108, .mv (.t 16), [], [], (some (2, 104, false)), none⟩ ::
     ⟨some 109, .bin .mul (.c (.d (.int .u64 4294967296))) (.t 108), [], [], (some (2, 104, false)), none⟩ ::
     ⟨some 110, .mv (.t 14), [], [], (some (2, 104, false)), none⟩ ::
     ⟨some 111, .bin .add (.t 109) (.t 110), [], [], (some (2, 104, false)), none⟩ ::
     ⟨some 112, .bin .gtr (.t 107) (.t 111), [], [], (some (2, 104, false)), (some ([2, 8, 9, 10, 14, 15, 16, 17, 18, 104, 112], (some [])))⟩ ::
     R_o3) (St.mk s o) K =
 (guardK (s 104) false
 (demand (binV BinOp.mul (s 18) (s 10)) (fun x1 =>
demand (binV BinOp.mul (V.d (.int .u64 4294967296)) (s 16)) (fun x2 =>
demand (binV BinOp.add x2 (s 14)) (fun x3 =>
demand (binV BinOp.gtr x1 x3) (fun x4 =>
opsB C I R_o3 (St.mk (look [(2, (s 2)), (8, (s 8)), (9, (s 9)), (10, (s 10)), (14, (s 14)), (15, (s 15)), (16, (s 16)), (17, (s 17)), (18, (s 18)), (104, (V.d (D.bool false))), (112, x4)]) (looko ([].map fun n => (n, o n)))) K)))))
 (opsB C I R_o3 (St.mk (look [(2, (s 2)), (8, (s 8)), (9, (s 9)), (10, (s 10)), (14, (s 14)), (15, (s 15)), (16, (s 16)), (17, (s 17)), (18, (s 18)), (104, (V.d (D.bool true))), (112, (V.tup []))]) (looko ([].map fun n => (n, o n)))) K)
 (opsB C I R_o3 (St.mk (look [(2, (s 2)), (8, (s 8)), (9, (s 9)), (10, (s 10)), (14, (s 14)), (15, (s 15)), (16, (s 16)), (17, (s 17)), (18, (s 18)), (104, (V.tup [])), (112, (V.tup []))]) (looko ([].map fun n => (n, o n)))) K)) := rfl
theorem g_math_bits_Div64_c3_sh {C : Ctx} {I : Nat → Prop} {s : Nat → V} {o : Nat → Option Ob} {Q : Ex → St → Prop} : wpB C I (.cond (.t 113) (.skip)
 (.exit 2)) (St.mk s o) Q =
 (condK (s 113)
 (Q .normal (St.mk s o))
 (Q (.exit 2) (St.mk s o))) := rfl
theorem g_math_bits_Div64_c4_sh {C : Ctx} {I : Nat → Prop} {s : Nat → V} {o : Nat → Option Ob} {Q : Ex → St → Prop} : wpB C I (.seq (.region [2, 8, 9, 10, 14, 15, 16, 17, 18, 120] (some []) none
    [⟨some 119, .mv (.t 16), [], [], none, none⟩,
     ⟨some 120, .bin .geq (.t 119) (.c (.d (.int .u64 4294967296))), [], [], none, none⟩])
 (.cond (.t 120) (.exit 2)
  (.skip))) (St.mk s o) Q =
 (demand (binV BinOp.geq (s 16) (V.d (.int .u64 4294967296))) (fun x1 =>
condK x1
 (Q (.exit 2) (St.mk (look [(2, (s 2)), (8, (s 8)), (9, (s 9)), (10, (s 10)), (14, (s 14)), (15, (s 15)), (16, (s 16)), (17, (s 17)), (18, (s 18)), (120, x1)]) (looko ([].map fun n => (n, o n)))))
 (Q .normal (St.mk (look [(2, (s 2)), (8, (s 8)), (9, (s 9)), (10, (s 10)), (14, (s 14)), (15, (s 15)), (16, (s 16)), (17, (s 17)), (18, (s 18)), (120, x1)]) (looko ([].map fun n => (n, o n))))))) := rfl
theorem g_math_bits_Div64_c5_sh {R_c4 : ACode} {C : Ctx} {I : Nat → Prop} {s : Nat → V} {o : Nat → Option Ob} {Q : Ex → St → Prop} : wpB C I (.block 3 [2, 8, 9, 10, 14, 15, 16, 17, 18] (some []) (.seq (.region [2, 8, 9, 10, 14, 15, 16, 17, 18] (some []) none
     [⟨some 114, .mv (.t 18), [], [], none, none⟩,
      ⟨some 115, .bin .sub (.t 114) (.c (.d (.int .u64 1))), [], [], none, none⟩,
      ⟨some 18, .mv (.t 115), [], [], none, none⟩])
  (.seq (.region [2, 8, 9, 10, 14, 15, 16, 17, 18] (some []) none
      [⟨some 116, .mv (.t 16), [], [], none, none⟩,
       ⟨some 117, .mv (.t 9), [], [], none, none⟩,
       ⟨some 118, .bin .add (.t 116) (.t 117), [], [], none, none⟩,
       ⟨some 16, .mv (.t 118), [], [], none, none⟩])
   (R_c4)))) (St.mk s o) Q =
 (demand (binV BinOp.sub (s 18) (V.d (.int .u64 1))) (fun x1 =>
demand (binV BinOp.add (s 16) (s 9)) (fun x2 =>
wpB C I R_c4 (St.mk (look [(2, (s 2)), (8, (s 8)), (9, (s 9)), (10, (s 10)), (14, (s 14)), (15, (s 15)), (16, x2), (17, (s 17)), (18, x1)]) (looko ([].map fun n => (n, o n)))) (blockK 3 [2, 8, 9, 10, 14, 15, 16, 17, 18] (some []) Q)))) := rfl
theorem g_math_bits_Div64_l1_sh {R_l1 : ACode} {R_o2 : List AOper} {R_c3 : ACode} {R_c5 : ACode} {C : Ctx} {I : Nat → Prop} {s : Nat → V} {o : Nat → Option Ob} {Q : Ex → St → Prop} (hL : R_l1 = .loop [2, 8, 9, 10, 14, 15, 16, 17, 18] (some []) (.seq (.seq (.region [2, 8, 9, 10, 14, 15, 16, 17, 18, 113] (some []) none
      (⟨some 102, .mv (.t 18), [], [], none, none⟩ ::
       ⟨some 103, .bin .geq (.t 102) (.c (.d (.int .u64 4294967296))), [], [], none, none⟩ ::
       ⟨some 104, .mv (.t 103), [], [], none, (some ([2, 8, 9, 10, 14, 15, 16, 17, 18, 104], (some [])))⟩ ::
       R_o2))
   (R_c3))
  (R_c5)))
 (h : demand (binV BinOp.geq (s 18) (V.d (.int .u64 4294967296))) (fun x1 =>
opsB C I R_o2 (St.mk (look [(2, (s 2)), (8, (s 8)), (9, (s 9)), (10, (s 10)), (14, (s 14)), (15, (s 15)), (16, (s 16)), (17, (s 17)), (18, (s 18)), (104, x1)]) (looko ([].map fun n => (n, o n)))) (fun st => (seqK (fun st => wpB C I R_c3 st (seqK (fun st => wpB C I R_c5 st (seqK (fun s => wpB C I R_l1 s Q) Q)) (seqK (fun s => wpB C I R_l1 s Q) Q))) (seqK (fun st => wpB C I R_c5 st (seqK (fun s => wpB C I R_l1 s Q) Q)) (seqK (fun s => wpB C I R_l1 s Q) Q))) .normal (St.trim st [2, 8, 9, 10, 14, 15, 16, 17, 18, 113] (some []))))) : wpB C I R_l1 (St.mk s o) Q := w_loopC hL h
theorem g_math_bits_Div64_c6_sh {C : Ctx} {I : Nat → Prop} {s : Nat → V} {o : Nat → Option Ob} {Q : Ex → St → Prop} : wpB C I (.seq (.region [6, 7] (some []) none
    [⟨some 121, .mv (.t 15), [], [], none, none⟩,
     ⟨some 122, .bin .mul (.t 121) (.c (.d (.int .u64 4294967296))), [], [], none, none⟩,
     ⟨some 123, .mv (.t 18), [], [], none, none⟩,
     ⟨some 124, .bin .add (.t 122) (.t 123), [], [], none, none⟩,
     ⟨some 125, .mv (.t 17), [], [], none, none⟩,
     ⟨some 126, .bin .mul (.t 125) (.c (.d (.int .u64 4294967296))), [], [], none, none⟩,
     ⟨some 127, .mv (.t 14), [], [], none, none⟩,
     ⟨some 128, .bin .add (.t 126) (.t 127), [], [], none, none⟩,
     ⟨some 129, .mv (.t 18), [], [], none, none⟩,
     ⟨some 130, .mv (.t 2), [], [], none, none⟩,
     ⟨some 131, .bin .mul (.t 129) (.t 130), [], [], none, none⟩,
     ⟨some 132, .bin .sub (.t 128) (.t 131), [], [], none, none⟩,
     ⟨some 133, .mv (.t 8), [], [], none, none⟩,
     ⟨some 134, .bin .shr (.t 132) (.t 133), [], [], none, none⟩,
     ⟨some 6, .mv (.t 124), [], [], none, none⟩,
     ⟨some 7, .mv (.t 134), [], [], none, none⟩])
 (.ret)) (St.mk s o) Q =
 (demand (binV BinOp.mul (s 15) (V.d (.int .u64 4294967296))) (fun x1 =>
demand (binV BinOp.add x1 (s 18)) (fun x2 =>
demand (binV BinOp.mul (s 17) (V.d (.int .u64 4294967296))) (fun x3 =>
demand (binV BinOp.add x3 (s 14)) (fun x4 =>
demand (binV BinOp.mul (s 18) (s 2)) (fun x5 =>
demand (binV BinOp.sub x4 x5) (fun x6 =>
demand (binV BinOp.shr x6 (s 8)) (fun x7 =>
Q .ret (St.mk (look [(6, x2), (7, x7)]) (looko ([].map fun n => (n, o n)))))))))))) := rfl
theorem g_math_bits_Div64_c7_sh {R_l1 : ACode} {R_c6 : ACode} {C : Ctx} {I : Nat → Prop} {s : Nat → V} {o : Nat → Option Ob} {Q : Ex → St → Prop} : wpB C I (.seq (.block 2 [2, 8, 14, 15, 17, 18] (some []) (R_l1))
 (R_c6)) (St.mk s o) Q =
 (wpB C I R_l1 (St.mk s o) (blockK 2 [2, 8, 14, 15, 17, 18] (some []) (seqK (fun st => wpB C I R_c6 st Q) Q))) := rfl
theorem g_math_bits_Div64_c8_sh {R_c7 : ACode} {C : Ctx} {I : Nat → Prop} {s : Nat → V} {o : Nat → Option Ob} {Q : Ex → St → Prop} : wpB C I (.seq (.region [2, 8, 9, 10, 14, 15, 16, 17, 18] (some []) none
    [⟨some 97, .mv (.t 17), [], [], none, none⟩,
     ⟨some 98, .mv (.t 18), [], [], none, none⟩,
     ⟨some 99, .mv (.t 9), [], [], none, none⟩,
     ⟨some 100, .bin .mul (.t 98) (.t 99), [], [], none, none⟩,
     ⟨some 101, .bin .sub (.t 97) (.t 100), [], [], none, none⟩,
     ⟨some 16, .mv (.t 101), [], [], none, none⟩])
 (R_c7)) (St.mk s o) Q =
 (demand (binV BinOp.mul (s 18) (s 9)) (fun x1 =>
demand (binV BinOp.sub (s 17) x1) (fun x2 =>
wpB C I R_c7 (St.mk (look [(2, (s 2)), (8, (s 8)), (9, (s 9)), (10, (s 10)), (14, (s 14)), (15, (s 15)), (16, x2), (17, (s 17)), (18, (s 18))]) (looko ([].map fun n => (n, o n)))) Q))) := rfl
theorem g_math_bits_Div64_c9_sh {R_c8 : ACode} {C : Ctx} {I : Nat → Prop} {s : Nat → V} {o : Nat → Option Ob} {Q : Ex → St → Prop} : wpB C I (.seq (.region [2, 8, 9, 10, 14, 15, 17, 18] (some []) none
    [⟨some 94, .mv (.t 17), [], [], none, none⟩,
     ⟨some 95, .mv (.t 9), [], [], none, none⟩,
     ⟨some 96, .bin .quo (.t 94) (.t 95), [], [], none, none⟩,
     ⟨some 18, .mv (.t 96), [], [], none, none⟩])
 (R_c8)) (St.mk s o) Q =
 (demand (binV BinOp.quo (s 17) (s 9)) (fun x1 =>
wpB C I R_c8 (St.mk (look [(2, (s 2)), (8, (s 8)), (9, (s 9)), (10, (s 10)), (14, (s 14)), (15, (s 15)), (17, (s 17)), (18, x1)]) (looko ([].map fun n => (n, o n)))) Q)) := rfl
theorem g_math_bits_Div64_c10_sh {R_c9 : ACode} {C : Ctx} {I : Nat → Prop} {s : Nat → V} {o : Nat → Option Ob} {Q : Ex → St → Prop} : wpB C I (.seq (.region [2, 8, 9, 10, 14, 15, 17] (some []) none
    [⟨some 86, .mv (.t 11), [], [], none, none⟩,
     ⟨some 87, .bin .mul (.t 86) (.c (.d (.int .u64 4294967296))), [], [], none, none⟩,
     ⟨some 88, .mv (.t 13), [], [], none, none⟩,
     ⟨some 89, .bin .add (.t 87) (.t 88), [], [], none, none⟩,
     ⟨some 90, .mv (.t 15), [], [], none, none⟩,
     ⟨some 91, .mv (.t 2), [], [], none, none⟩,
     ⟨some 92, .bin .mul (.t 90) (.t 91), [], [], none, none⟩,
     ⟨some 93, .bin .sub (.t 89) (.t 92), [], [], none, none⟩,
     ⟨some 17, .mv (.t 93), [], [], none, none⟩])
 (R_c9)) (St.mk s o) Q =
 (demand (binV BinOp.mul (s 11) (V.d (.int .u64 4294967296))) (fun x1 =>
demand (binV BinOp.add x1 (s 13)) (fun x2 =>
demand (binV BinOp.mul (s 15) (s 2)) (fun x3 =>
demand (binV BinOp.sub x2 x3) (fun x4 =>
wpB C I R_c9 (St.mk (look [(2, (s 2)), (8, (s 8)), (9, (s 9)), (10, (s 10)), (14, (s 14)), (15, (s 15)), (17, x4)]) (looko ([].map fun n => (n, o n)))) Q))))) := rfl
theorem g_math_bits_Div64_c11_sh {R_l0 : ACode} {R_c10 : ACode} {C : Ctx} {I : Nat → Prop} {s : Nat → V} {o : Nat → Option Ob} {Q : Ex → St → Prop} : wpB C I (.seq (.block 0 [2, 8, 9, 10, 11, 13, 14, 15] (some []) (R_l0))
 (R_c10)) (St.mk s o) Q =
 (wpB C I R_l0 (St.mk s o) (blockK 0 [2, 8, 9, 10, 11, 13, 14, 15] (some []) (seqK (fun st => wpB C I R_c10 st Q) Q))) := rfl
theorem g_math_bits_Div64_c12_sh {R_c11 : ACode} {C : Ctx} {I : Nat → Prop} {s : Nat → V} {o : Nat → Option Ob} {Q : Ex → St → Prop} : wpB C I (.seq (.region [2, 8, 9, 10, 11, 13, 14, 15, 16] (some []) none
    [⟨some 62, .mv (.t 11), [], [], none, none⟩,
     ⟨some 63, .mv (.t 15), [], [], none, none⟩,
     ⟨some 64, .mv (.t 9), [], [], none, none⟩,
     ⟨some 65, .bin .mul (.t 63) (.t 64), [], [], none, none⟩,
     ⟨some 66, .bin .sub (.t 62) (.t 65), [], [], none, none⟩,
     ⟨some 16, .mv (.t 66), [], [], none, none⟩])
 (R_c11)) (St.mk s o) Q =
 (demand (binV BinOp.mul (s 15) (s 9)) (fun x1 =>
demand (binV BinOp.sub (s 11) x1) (fun x2 =>
wpB C I R_c11 (St.mk (look [(2, (s 2)), (8, (s 8)), (9, (s 9)), (10, (s 10)), (11, (s 11)), (13, (s 13)), (14, (s 14)), (15, (s 15)), (16, x2)]) (looko ([].map fun n => (n, o n)))) Q))) := rfl
theorem g_math_bits_Div64_c13_sh {R_c12 : ACode} {C : Ctx} {I : Nat → Prop} {s : Nat → V} {o : Nat → Option Ob} {Q : Ex → St → Prop} : wpB C I (.seq (.region [2, 8, 9, 10, 11, 12, 13] (some []) none
    [⟨some 55, .mv (.t 12), [], [], none, none⟩,
     ⟨some 56, .bin .shr (.t 55) (.c (.d (.int .u64 32))), [], [], none, none⟩,
     ⟨some 13, .mv (.t 56), [], [], none, none⟩])
 (.seq (.region [2, 8, 9, 10, 11, 13, 14] (some []) none
     [⟨some 57, .mv (.t 12), [], [], none, none⟩,
      ⟨some 58, .bin .and (.t 57) (.c (.d (.int .u64 4294967295))), [], [], none, none⟩,
      ⟨some 14, .mv (.t 58), [], [], none, none⟩])
  (.seq (.region [2, 8, 9, 10, 11, 13, 14, 15] (some []) none
      [⟨some 59, .mv (.t 11), [], [], none, none⟩,
       ⟨some 60, .mv (.t 9), [], [], none, none⟩,
       ⟨some 61, .bin .quo (.t 59) (.t 60), [], [], none, none⟩,
       ⟨some 15, .mv (.t 61), [], [], none, none⟩])
   (R_c12)))) (St.mk s o) Q =
 (demand (binV BinOp.shr (s 12) (V.d (.int .u64 32))) (fun x1 =>
demand (binV BinOp.and (s 12) (V.d (.int .u64 4294967295))) (fun x2 =>
demand (binV BinOp.quo (s 11) (s 9)) (fun x3 =>
wpB C I R_c12 (St.mk (look [(2, (s 2)), (8, (s 8)), (9, (s 9)), (10, (s 10)), (11, (s 11)), (13, x1), (14, x2), (15, x3)]) (looko ([].map fun n => (n, o n)))) Q)))) := rfl
theorem g_math_bits_Div64_c14_sh {R_c13 : ACode} {C : Ctx} {I : Nat → Prop} {s : Nat → V} {o : Nat → Option Ob} {Q : Ex → St → Prop} : wpB C I (.seq (.region [2, 8, 9, 10, 11, 12] (some []) none
    [⟨some 52, .mv (.t 1), [], [], none, none⟩,
     ⟨some 53, .mv (.t 8), [], [], none, none⟩,
     ⟨some 54, .bin .shl (.t 52) (.t 53), [], [], none, none⟩,
     ⟨some 12, .mv (.t 54), [], [], none, none⟩])
 (R_c13)) (St.mk s o) Q =
 (demand (binV BinOp.shl (s 1) (s 8)) (fun x1 =>
wpB C I R_c13 (St.mk (look [(2, (s 2)), (8, (s 8)), (9, (s 9)), (10, (s 10)), (11, (s 11)), (12, x1)]) (looko ([].map fun n => (n, o n)))) Q)) := rfl
theorem g_math_bits_Div64_c15_sh {R_c14 : ACode} {C : Ctx} {I : Nat → Prop} {s : Nat → V} {o : Nat → Option Ob} {Q : Ex → St → Prop} : wpB C I (.seq (.region [0, 1, 2, 8, 9] (some []) none
    [⟨some 40, .mv (.t 2), [], [], none, none⟩,
     ⟨some 41, .bin .shr (.t 40) (.c (.d (.int .u64 32))), [], [], none, none⟩,
     ⟨some 9, .mv (.t 41), [], [], none, none⟩])
 (.seq (.region [0, 1, 2, 8, 9, 10] (some []) none
     [⟨some 42, .mv (.t 2), [], [], none, none⟩,
      ⟨some 43, .bin .and (.t 42) (.c (.d (.int .u64 4294967295))), [], [], none, none⟩,
      ⟨some 10, .mv (.t 43), [], [], none, none⟩])
  (.seq (.region [1, 2, 8, 9, 10, 11] (some []) none
      [⟨some 44, .mv (.t 0), [], [], none, none⟩,
       ⟨some 45, .mv (.t 8), [], [], none, none⟩,
       ⟨some 46, .bin .shl (.t 44) (.t 45), [], [], none, none⟩,
       ⟨some 47, .mv (.t 1), [], [], none, none⟩,
       ⟨some 48, .mv (.t 8), [], [], none, none⟩,
       ⟨some 49, .bin .sub (.c (.d (.int .u64 64))) (.t 48), [], [], none, none⟩,
       ⟨some 50, .bin .shr (.t 47) (.t 49), [], [], none, none⟩,
       ⟨some 51, .bin .or (.t 46) (.t 50), [], [], none, none⟩,
       ⟨some 11, .mv (.t 51), [], [], none, none⟩])
   (R_c14)))) (St.mk s o) Q =
 (demand (binV BinOp.shr (s 2) (V.d (.int .u64 32))) (fun x1 =>
demand (binV BinOp.and (s 2) (V.d (.int .u64 4294967295))) (fun x2 =>
demand (binV BinOp.shl (s 0) (s 8)) (fun x3 =>
demand (binV BinOp.sub (V.d (.int .u64 64)) (s 8)) (fun x4 =>
demand (binV BinOp.shr (s 1) x4) (fun x5 =>
demand (binV BinOp.or x3 x5) (fun x6 =>
wpB C I R_c14 (St.mk (look [(1, (s 1)), (2, (s 2)), (8, (s 8)), (9, x1), (10, x2), (11, x6)]) (looko ([].map fun n => (n, o n)))) Q))))))) := rfl
theorem g_math_bits_Div64_c16_sh {R_c15 : ACode} {C : Ctx} {I : Nat → Prop} {s : Nat → V} {o : Nat → Option Ob} {Q : Ex → St → Prop} : wpB C I (.seq (.region [0, 1, 2, 8] (some []) none
    [⟨some 37, .mv (.t 2), [], [], none, none⟩,
     ⟨some 38, .mv (.t 8), [], [], none, none⟩,
     ⟨some 39, .bin .shl (.t 37) (.t 38), [], [], none, none⟩,
     ⟨some 2, .mv (.t 39), [], [], none, none⟩])
 (R_c15)) (St.mk s o) Q =
 (demand (binV BinOp.shl (s 2) (s 8)) (fun x1 =>
wpB C I R_c15 (St.mk (look [(0, (s 0)), (1, (s 1)), (2, x1), (8, (s 8))]) (looko ([].map fun n => (n, o n)))) Q)) := rfl
theorem g_math_bits_Div64_c17_sh {R_c16 : ACode} {C : Ctx} {I : Nat → Prop} {s : Nat → V} {o : Nat → Option Ob} {Q : Ex → St → Prop} : wpB C I (.seq (.region [0, 1, 2, 8] (some []) none
    [⟨some 34, .mv (.t 2), [], [], none, none⟩,
     ⟨some 35, .call 133 [(.t 34)], [], [], none, none⟩,
     ⟨some 36, .conv .u64 (.t 35), [], [], none, none⟩,
     ⟨some 8, .mv (.t 36), [], [], none, none⟩])
 (R_c16)) (St.mk s o) Q =
 (callK C I (St.mk (upd s 34 (s 2)) o) (some 35) 133 [(s 2)] (fun r1 or1 =>
demand (convV IntKind.u64 r1) (fun x2 =>
wpB C I R_c16 (St.mk (look [(0, (s 0)), (1, (s 1)), (2, (s 2)), (8, x2)]) (looko ([].map fun n => (n, or1 n)))) Q))) := rfl
theorem g_math_bits_Div64_c18_sh {R_c17 : ACode} {C : Ctx} {I : Nat → Prop} {s : Nat → V} {o : Nat → Option Ob} {Q : Ex → St → Prop} : wpB C I (.seq (.seq (.region [0, 1, 2, 27] (some []) none
     [⟨some 26, .mv (.t 0), [], [], none, none⟩,
      ⟨some 27, .bin .eql (.t 26) (.c (.d (.int .u64 0))), [], [], none, none⟩])
  (.cond (.t 27) (.seq (.region [6, 7] (some []) (some ([0, 1, 2, 3, 4, 5, 6, 7], .done))
       [⟨some 28, .mv (.t 1), [], [], none, none⟩,
        ⟨some 29, .mv (.t 2), [], [], none, none⟩,
        ⟨some 30, .bin .quo (.t 28) (.t 29), [], [0, 1], none, none⟩,
        ⟨some 31, .mv (.t 1), [], [], none, none⟩,
        ⟨some 32, .mv (.t 2), [], [], none, none⟩,
        ⟨some 33, .bin .rem (.t 31) (.t 32), [], [3, 4], none, none⟩,
        ⟨some 6, .mv (.t 30), [], [2, 0, 1, 2], none, none⟩,
        ⟨some 7, .mv (.t 33), [], [5, 6, 0, 1, 2, 3, 4, 5, 6], none, none⟩])
    (.ret))
   (.skip)))
 (R_c17)) (St.mk s o) Q =
 (demand (binV BinOp.eql (s 0) (V.d (.int .u64 0))) (fun x1 =>
condK x1
 (V.undef = V.undef ∧ (quietV (looko ([].map fun n => (n, o n))) ((s 1) :: [(s 1)]) ∧
V.undef = V.undef ∧ (quietV (looko ([].map fun n => (n, o n))) ((s 2) :: [(s 2)]) ∧
V.undef = V.undef ∧ (demand (binV BinOp.quo (s 1) (s 2)) (fun x4 => quietV (looko ([].map fun n => (n, o n))) (x4 :: [(s 1), (s 2)]) ∧
V.undef = V.undef ∧ (quietV (looko ([].map fun n => (n, o n))) ((s 1) :: [(s 1)]) ∧
V.undef = V.undef ∧ (quietV (looko ([].map fun n => (n, o n))) ((s 2) :: [(s 2)]) ∧
V.undef = V.undef ∧ (demand (binV BinOp.rem (s 1) (s 2)) (fun x7 => quietV (looko ([].map fun n => (n, o n))) (x7 :: [(s 1), (s 2)]) ∧
V.undef = V.undef ∧ (quietV (looko ([].map fun n => (n, o n))) (x4 :: [x4]) ∧
V.undef = V.undef ∧ (quietV (looko ([].map fun n => (n, o n))) (x7 :: [x7]) ∧
Q .ret (St.mk (look [(6, x4), (7, x7)]) (looko ([].map fun n => (n, o n)))))))))))))))
 (wpB C I R_c17 (St.mk (look [(0, (s 0)), (1, (s 1)), (2, (s 2)), (27, x1)]) (looko ([].map fun n => (n, o n)))) Q))) := rfl
theorem g_math_bits_Div64_c19_sh {R_c18 : ACode} {C : Ctx} {I : Nat → Prop} {s : Nat → V} {o : Nat → Option Ob} {Q : Ex → St → Prop} : wpB C I (.seq (.seq (.region [0, 1, 2, 24] (some []) none
     [⟨some 22, .mv (.t 2), [], [], none, none⟩,
      ⟨some 23, .mv (.t 0), [], [], none, none⟩,
      ⟨some 24, .bin .leq (.t 22) (.t 23), [], [], none, none⟩])
  (.cond (.t 24) (.region [0, 1, 2] (some []) none
      [⟨some 25, .never, [], [], none, none⟩,
       ⟨none, .never, [], [], none, none⟩])
   (.skip)))
 (R_c18)) (St.mk s o) Q =
 (demand (binV BinOp.leq (s 2) (s 0)) (fun x1 =>
condK x1
 (demand (none : Option V) (fun x => demand (none : Option V) (fun x => wpB C I R_c18 (St.mk (look [(0, (s 0)), (1, (s 1)), (2, (s 2))]) (looko ([].map fun n => (n, o n)))) Q)))
 (wpB C I R_c18 (St.mk (look [(0, (s 0)), (1, (s 1)), (2, (s 2)), (24, x1)]) (looko ([].map fun n => (n, o n)))) Q))) := rfl
theorem g_math_bits_Div64_code_sh {R_c19 : ACode} {C : Ctx} {I : Nat → Prop} {s : Nat → V} {o : Nat → Option Ob} {Q : Ex → St → Prop} : wpB C I (.seq (.region [0, 1, 2] (some []) none
    [⟨some 6, .mv (.c (.d (.int .u64 0))), [], [], none, none⟩,
     ⟨some 7, .mv (.c (.d (.int .u64 0))), [], [], none, none⟩])
 (.seq (.seq (.region [0, 1, 2, 20] (some []) none
      [⟨some 19, .mv (.t 2), [], [], none, none⟩,
       ⟨some 20, .bin .eql (.t 19) (.c (.d (.int .u64 0))), [], [], none, none⟩])
   (.cond (.t 20) (.region [0, 1, 2] (some []) none
       [⟨some 21, .never, [], [], none, none⟩,
        ⟨none, .never, [], [], none, none⟩])
    (.skip)))
  (R_c19))) (St.mk s o) Q =
 (demand (binV BinOp.eql (s 2) (V.d (.int .u64 0))) (fun x1 =>
condK x1
 (demand (none : Option V) (fun x => demand (none : Option V) (fun x => wpB C I R_c19 (St.mk (look [(0, (s 0)), (1, (s 1)), (2, (s 2))]) (looko ([].map fun n => (n, o n)))) Q)))
 (wpB C I R_c19 (St.mk (look [(0, (s 0)), (1, (s 1)), (2, (s 2)), (20, x1)]) (looko ([].map fun n => (n, o n)))) Q))) := rfl
theorem g_wide_up_o1_sh {C : Ctx} {I : Nat → Prop} {s : Nat → V} {o : Nat → Option Ob} {K : St → Prop} : opsB C I [⟨some 31, .pick (.t 28) (.c (.d (.bool true))) (.t 30), [], [], none, none⟩,
     ⟨some 24, .mv (.t 31), [], [], none, none⟩] (St.mk s o) K =
 (demand (pickV (s 28) (V.d (.bool true)) (s 30)) (fun x1 =>
K (St.mk (upd (upd s 31 x1) 24 x1) o))) := rfl
theorem g_wide_up_o0_sh {R_o1 : List AOper} {C : Ctx} {I : Nat → Prop} {s : Nat → V} {o : Nat → Option Ob} {K : St → Prop} : opsB C I (⟨some 29, .mv (.t 2), [], [], (some (3, 28, false)), none⟩ ::
     ⟨some 30, .bin .eql (.t 29) (.c (.d (.int .u64 0))), [], [], (some (3, 28, false)), (some ([0, 1, 28, 30], (some [])))⟩ ::
     R_o1) (St.mk s o) K =
 (guardK (s 28) false
 (demand (binV BinOp.eql (s 2) (V.d (.int .u64 0))) (fun x1 =>
opsB C I R_o1 (St.mk (look [(0, (s 0)), (1, (s 1)), (28, (V.d (D.bool false))), (30, x1)]) (looko ([].map fun n => (n, o n)))) K))
 (opsB C I R_o1 (St.mk (look [(0, (s 0)), (1, (s 1)), (28, (V.d (D.bool true))), (30, (V.tup []))]) (looko ([].map fun n => (n, o n)))) K)
 (opsB C I R_o1 (St.mk (look [(0, (s 0)), (1, (s 1)), (28, (V.tup [])), (30, (V.tup []))]) (looko ([].map fun n => (n, o n)))) K)) := rfl
theorem g_wide_up_c0_sh {C : Ctx} {I : Nat → Prop} {s : Nat → V} {o : Nat → Option Ob} {Q : Ex → St → Prop} : wpB C I (.cond (.t 24) (.seq (.region [8] (some []) none
     [⟨some 8, .mv (.c (.d (.bool false))), [], [], none, none⟩])
  (.ret))
 (.skip)) (St.mk s o) Q =
 (condK (s 24)
 (Q .ret (St.mk (look [(8, (V.d (.bool false)))]) (looko ([].map fun n => (n, o n)))))
 (Q .normal (St.mk s o))) := rfl
theorem g_wide_up_o3_sh {C : Ctx} {I : Nat → Prop} {s : Nat → V} {o : Nat → Option Ob} {K : St → Prop} : opsB C I [⟨some 38, .pick (.t 34) (.c (.d (.bool true))) (.t 37), [], [], none, none⟩,
     ⟨some 8, .mv (.t 38), [], [], none, none⟩] (St.mk s o) K =
 (demand (pickV (s 34) (V.d (.bool true)) (s 37)) (fun x1 =>
K (St.mk (upd (upd s 38 x1) 8 x1) o))) := rfl
theorem g_wide_up_o2_sh {R_o3 : List AOper} {C : Ctx} {I : Nat → Prop} {s : Nat → V} {o : Nat → Option Ob} {K : St → Prop} : opsB C I (⟨some 35, .mv (.t 1), [], [], (some (2, 34, false)), none⟩ ::
     ⟨some 36, .bin .rem (.t 35) (.c (.d (.int .u64 2))), [], [], (some (2, 34, false)), none⟩ ::
     ⟨some 37, .bin .eql (.t 36) (.c (.d (.int .u64 1))), [], [], (some (2, 34, false)), (some ([34, 37], (some [])))⟩ ::
     R_o3) (St.mk s o) K =
 (guardK (s 34) false
 (demand (binV BinOp.rem (s 1) (V.d (.int .u64 2))) (fun x1 =>
demand (binV BinOp.eql x1 (V.d (.int .u64 1))) (fun x2 =>
opsB C I R_o3 (St.mk (look [(34, (V.d (D.bool false))), (37, x2)]) (looko ([].map fun n => (n, o n)))) K)))
 (opsB C I R_o3 (St.mk (look [(34, (V.d (D.bool true))), (37, (V.tup []))]) (looko ([].map fun n => (n, o n)))) K)
 (opsB C I R_o3 (St.mk (look [(34, (V.tup [])), (37, (V.tup []))]) (looko ([].map fun n => (n, o n)))) K)) := rfl
theorem g_wide_up_c1_sh {C : Ctx} {I : Nat → Prop} {s : Nat → V} {o : Nat → Option Ob} {Q : Ex → St → Prop} : wpB C I (.ret) (St.mk s o) Q =
 (Q .ret (St.mk s o)) := rfl
theorem g_wide_up_c2_sh {R_o2 : List AOper} {R_c1 : ACode} {C : Ctx} {I : Nat → Prop} {s : Nat → V} {o : Nat → Option Ob} {Q : Ex → St → Prop} : wpB C I (.seq (.region [8] (some []) none
    (⟨some 32, .mv (.t 0), [], [], none, none⟩ ::
     ⟨some 33, .bin .eql (.t 32) (.c (.d (.int .i64 2))), [], [], none, none⟩ ::
     ⟨some 34, .mv (.t 33), [], [], none, (some ([1, 34], (some [])))⟩ ::
     R_o2))
 (R_c1)) (St.mk s o) Q =
 (demand (binV BinOp.eql (s 0) (V.d (.int .i64 2))) (fun x1 =>
opsB C I R_o2 (St.mk (look [(1, (s 1)), (34, x1)]) (looko ([].map fun n => (n, o n)))) (fun st => (seqK (fun st => wpB C I R_c1 st Q) Q) .normal (St.trim st [8] (some []))))) := rfl
theorem g_wide_up_c3_sh {R_o0 : List AOper} {R_c0 : ACode} {R_c2 : ACode} {C : Ctx} {I : Nat → Prop} {s : Nat → V} {o : Nat → Option Ob} {Q : Ex → St → Prop} : wpB C I (.seq (.block 1 [0, 1] (some []) (.seq (.region [0, 1, 2, 9, 20] (some []) none
      [⟨some 21, .mv (.t 2), [], [], none, none⟩,
       ⟨some 22, .mv (.t 9), [], [], none, none⟩,
       ⟨some 23, .bin .gtr (.t 21) (.t 22), [], [], none, none⟩,
       ⟨some 20, .mv (.t 23), [], [], none, none⟩])
   (.cond (.t 20) (.seq (.region [8] (some []) none
        [⟨some 8, .mv (.c (.d (.bool true))), [], [], none, none⟩])
     (.ret))
    (.seq (.region [0, 1, 24] (some []) none
        (⟨some 25, .mv (.t 2), [], [], none, none⟩ ::
         ⟨some 26, .mv (.t 9), [], [], none, none⟩ ::
         ⟨some 27, .bin .lss (.t 25) (.t 26), [], [], none, none⟩ ::
         ⟨some 28, .mv (.t 27), [], [], none, (some ([0, 1, 2, 28], (some [])))⟩ ::
         R_o0))
     (R_c0)))))
 (R_c2)) (St.mk s o) Q =
 (demand (binV BinOp.gtr (s 2) (s 9)) (fun x1 =>
condK x1
 (Q .ret (St.mk (look [(8, (V.d (.bool true)))]) (looko ([].map fun n => (n, o n)))))
 (demand (binV BinOp.lss (s 2) (s 9)) (fun x2 =>
opsB C I R_o0 (St.mk (look [(0, (s 0)), (1, (s 1)), (2, (s 2)), (28, x2)]) (looko ([].map fun n => (n, o n)))) (fun st => (seqK (fun st => wpB C I R_c0 st (blockK 1 [0, 1] (some []) (seqK (fun st => wpB C I R_c2 st Q) Q))) (blockK 1 [0, 1] (some []) (seqK (fun st => wpB C I R_c2 st Q) Q))) .normal (St.trim st [0, 1, 24] (some []))))))) := rfl
theorem g_wide_up_c4_sh {R_c3 : ACode} {C : Ctx} {I : Nat → Prop} {s : Nat → V} {o : Nat → Option Ob} {Q : Ex → St → Prop} : wpB C I (.seq (.region [0, 1, 2, 9] (some []) none
    [⟨some 17, .mv (.t 3), [], [], none, none⟩,
     ⟨some 18, .mv (.t 2), [], [], none, none⟩,
     ⟨some 19, .bin .sub (.t 17) (.t 18), [], [], none, none⟩,
     ⟨some 9, .mv (.t 19), [], [], none, none⟩])
 (R_c3)) (St.mk s o) Q =
 (demand (binV BinOp.sub (s 3) (s 2)) (fun x1 =>
wpB C I R_c3 (St.mk (look [(0, (s 0)), (1, (s 1)), (2, (s 2)), (9, x1)]) (looko ([].map fun n => (n, o n)))) Q)) := rfl
theorem g_wide_up_code_sh {R_c4 : ACode} {C : Ctx} {I : Nat → Prop} {s : Nat → V} {o : Nat → Option Ob} {Q : Ex → St → Prop} : wpB C I (.seq (.region [0, 1, 2, 3] (some []) none
    [⟨some 8, .mv (.c (.d (.bool false))), [], [], none, none⟩])
 (.seq (.seq (.region [0, 1, 2, 3, 10] (some []) none
      [⟨some 10, .mv (.t 0), [], [], none, none⟩])
   (.block 0 [0, 1, 2, 3] (some []) (.seq (.region [0, 1, 2, 3, 10, 11] (some []) none
        [⟨some 12, .bin .eql (.t 10) (.c (.d (.int .i64 0))), [], [], none, none⟩,
         ⟨some 11, .mv (.t 12), [], [], none, none⟩])
     (.cond (.t 11) (.seq (.region [8] (some []) none
          [⟨some 8, .mv (.c (.d (.bool false))), [], [], none, none⟩])
       (.ret))
      (.seq (.region [0, 1, 2, 3, 13] (some []) none
          [⟨some 14, .bin .eql (.t 10) (.c (.d (.int .i64 1))), [], [], none, none⟩,
           ⟨some 13, .mv (.t 14), [], [], none, none⟩])
       (.cond (.t 13) (.seq (.region [8] (some []) none
            [⟨some 15, .mv (.t 2), [], [], none, none⟩,
             ⟨some 16, .bin .gtr (.t 15) (.c (.d (.int .u64 0))), [], [], none, none⟩,
             ⟨some 8, .mv (.t 16), [], [], none, none⟩])
         (.ret))
        (.skip)))))))
  (R_c4))) (St.mk s o) Q =
 (demand (binV BinOp.eql (s 0) (V.d (.int .i64 0))) (fun x1 =>
condK x1
 (Q .ret (St.mk (look [(8, (V.d (.bool false)))]) (looko ([].map fun n => (n, o n)))))
 (demand (binV BinOp.eql (s 0) (V.d (.int .i64 1))) (fun x2 =>
condK x2
 (demand (binV BinOp.gtr (s 2) (V.d (.int .u64 0))) (fun x3 =>
Q .ret (St.mk (look [(8, x3)]) (looko ([].map fun n => (n, o n))))))
 (wpB C I R_c4 (St.mk (look [(0, (s 0)), (1, (s 1)), (2, (s 2)), (3, (s 3))]) (looko ([].map fun n => (n, o n)))) Q))))) := rfl
theorem g_ref02_Mul_c0_sh {C : Ctx} {I : Nat → Prop} {s : Nat → V} {o : Nat → Option Ob} {Q : Ex → St → Prop} : wpB C I (.region [2, 3, 4, 5, 6, 7] (some [2, 3, 4, 17]) none
   [⟨some 30, .mv (.t 7), [], [], none, none⟩,
    ⟨some 31, .bin .add (.t 30) (.c (.d (.int .i64 1))), [], [], none, none⟩,
    ⟨some 7, .mv (.t 31), [], [], none, none⟩]) (St.mk s o) Q =
 (demand (binV BinOp.add (s 7) (V.d (.int .i64 1))) (fun x1 =>
Q .normal (St.mk (look [(2, (s 2)), (3, (s 3)), (4, (s 4)), (5, (s 5)), (6, (s 6)), (7, x1)]) (looko ([2, 3, 4, 17].map fun n => (n, o n)))))) := rfl
theorem g_ref02_Mul_c1_sh {R_c0 : ACode} {C : Ctx} {I : Nat → Prop} {s : Nat → V} {o : Nat → Option Ob} {Q : Ex → St → Prop} : wpB C I (.seq (.block 3 [2, 3, 4, 5, 6, 7] (some [2, 3, 4, 17]) (.region [2, 3, 4, 5, 6, 7] (some [2, 3, 4, 17]) (some ([1, 2, 3, 6, 7, 8, 9, 10, 11, 12, 13, 14, 15, 16], .one 0 (.one 4 (.one 5 (.one 17 (.one 18 (.one 19 (.done))))))))
     [⟨some 32, .mv (.t 5), [], [], none, none⟩,
      ⟨some 33, .mv (.t 6), [], [], none, none⟩,
      ⟨some 34, .mv (.t 7), [], [], none, none⟩,
      ⟨some 35, .bin .add (.t 33) (.t 34), [], [1, 2], none, none⟩,
      ⟨some 36, .iaddr 1 (.t 32) (.t 35), [], [0, 3], none, none⟩,
      ⟨some 37, .load none (.t 36), [], [4], none, none⟩,
      ⟨some 38, .faddr 1 (.t 2), [], [], none, none⟩,
      ⟨some 39, .load none (.t 38), [], [6], none, none⟩,
      ⟨some 40, .mv (.t 6), [], [], none, none⟩,
      ⟨some 41, .iaddr 1 (.t 39) (.t 40), [], [7, 8], none, none⟩,
      ⟨some 42, .load none (.t 41), [], [9], none, none⟩,
      ⟨some 43, .faddr 1 (.t 3), [], [], none, none⟩,
      ⟨some 44, .load none (.t 43), [], [11], none, none⟩,
      ⟨some 45, .mv (.t 7), [], [], none, none⟩,
      ⟨some 46, .iaddr 1 (.t 44) (.t 45), [], [12, 13], none, none⟩,
      ⟨some 47, .load none (.t 46), [], [14], none, none⟩,
      ⟨some 48, .bin .mul (.t 42) (.t 47), [], [10, 15], none, none⟩,
      ⟨some 49, .bin .add (.t 37) (.t 48), [], [5, 16], none, none⟩,
      ⟨some 50, .iaddr 1 (.t 32) (.t 35), [], [0, 3, 0, 1, 2, 3, 4, 5, 6, 7, 8, 9, 10, 11, 12, 13, 14, 15, 16, 17], none, none⟩,
      ⟨none, .store 1 (.t 50) (.t 49), [], [18, 17, 0, 1, 2, 3, 4, 5, 6, 7, 8, 9, 10, 11, 12, 13, 14, 15, 16, 17], none, none⟩]))
 (R_c0)) (St.mk s o) Q =
 ((s 33) = V.undef ∧ (quietV o ((s 6) :: [(s 6)]) ∧
(s 34) = V.undef ∧ (quietV o ((s 7) :: [(s 7)]) ∧
(s 35) = V.undef ∧ (demand (binV BinOp.add (s 6) (s 7)) (fun x3 => quietV o (x3 :: [(s 6), (s 7)]) ∧
(s 38) = V.undef ∧ (demand (faddrV 1 (s 2)) (fun x4 => quietV o (x4 :: [(s 2)]) ∧
(s 39) = V.undef ∧ (demand (loadV o none x4) (fun x5 => quietV o (x5 :: [x4]) ∧
(s 40) = V.undef ∧ (quietV o ((s 6) :: [(s 6)]) ∧
(s 41) = V.undef ∧ (demand (iaddrV o 1 x5 (s 6)) (fun x7 => quietV o (x7 :: [x5, (s 6)]) ∧
(s 42) = V.undef ∧ (demand (loadV o none x7) (fun x8 => quietV o (x8 :: [x7]) ∧
(s 43) = V.undef ∧ (demand (faddrV 1 (s 3)) (fun x9 => quietV o (x9 :: [(s 3)]) ∧
(s 44) = V.undef ∧ (demand (loadV o none x9) (fun x10 => quietV o (x10 :: [x9]) ∧
(s 45) = V.undef ∧ (quietV o ((s 7) :: [(s 7)]) ∧
(s 46) = V.undef ∧ (demand (iaddrV o 1 x10 (s 7)) (fun x12 => quietV o (x12 :: [x10, (s 7)]) ∧
(s 47) = V.undef ∧ (demand (loadV o none x12) (fun x13 => quietV o (x13 :: [x12]) ∧
(s 48) = V.undef ∧ (demand (binV BinOp.mul x8 x13) (fun x14 => quietV o (x14 :: [x8, x13]) ∧
(([] : List Nat) = [] ∧ ((([] : List Nat) = [] ∧ (demand (iaddrV o 1 (s 5) x3) (fun x15 =>
(([] : List Nat) = [] ∧ (demand (loadV o none x15) (fun x16 =>
(([] : List Nat) = [] ∧ (demand (binV BinOp.add x16 x14) (fun x17 =>
(([] : List Nat) = [] ∧ (demand (iaddrV o 1 (s 5) x3) (fun x18 =>
(([] : List Nat) = [] ∧ (storeK x18 (cellsV x17) 1 o (fun m19 ob20 =>
wpB C I R_c0 (St.mk (look [(2, (s 2)), (3, (s 3)), (4, (s 4)), (5, (s 5)), (6, (s 6)), (7, (s 7))]) (looko ([2, 3, 4, 17].map fun n => (n, (upd o m19 (some ob20)) n)))) Q)))))))))))))))))))))))))))))))))))))))))) := rfl
theorem g_ref02_Mul_l1_sh {R_l1 : ACode} {R_c1 : ACode} {C : Ctx} {I : Nat → Prop} {s : Nat → V} {o : Nat → Option Ob} {Q : Ex → St → Prop} (hL : R_l1 = .loop [2, 3, 4, 5, 6, 7] (some [2, 3, 4, 17]) (.seq (.seq (.region [2, 3, 4, 5, 6, 7, 29] (some [2, 3, 4, 17]) none
      [⟨some 25, .mv (.t 7), [], [], none, none⟩,
       ⟨some 26, .faddr 1 (.t 3), [], [], none, none⟩,
       ⟨some 27, .load none (.t 26), [], [], none, none⟩,
       ⟨some 28, .len (.t 27), [], [], none, none⟩,
       ⟨some 29, .bin .lss (.t 25) (.t 28), [], [], none, none⟩])
   (.cond (.t 29) (.skip)
    (.exit 2)))
  (R_c1)))
 (h : demand (faddrV 1 (s 3)) (fun x1 =>
demand (loadV (looko ([2, 3, 4, 17].map fun n => (n, o n))) none x1) (fun x2 =>
demand (lenV (looko ([2, 3, 4, 17].map fun n => (n, o n))) x2) (fun x3 =>
demand (binV BinOp.lss (s 7) x3) (fun x4 =>
condK x4
 (wpB C I R_c1 (St.mk (look [(2, (s 2)), (3, (s 3)), (4, (s 4)), (5, (s 5)), (6, (s 6)), (7, (s 7)), (29, x4)]) (looko ([2, 3, 4, 17].map fun n => (n, o n)))) (seqK (fun s => wpB C I R_l1 s Q) Q))
 (Q (.exit 2) (St.mk (look [(2, (s 2)), (3, (s 3)), (4, (s 4)), (5, (s 5)), (6, (s 6)), (7, (s 7)), (29, x4)]) (looko ([2, 3, 4, 17].map fun n => (n, o n)))))))))) : wpB C I R_l1 (St.mk s o) Q := w_loopC hL h
theorem g_ref02_Mul_c2_sh {C : Ctx} {I : Nat → Prop} {s : Nat → V} {o : Nat → Option Ob} {Q : Ex → St → Prop} : wpB C I (.region [2, 3, 4, 5, 6] (some [2, 3, 4, 17]) none
   [⟨some 23, .mv (.t 6), [], [], none, none⟩,
    ⟨some 24, .bin .add (.t 23) (.c (.d (.int .i64 1))), [], [], none, none⟩,
    ⟨some 6, .mv (.t 24), [], [], none, none⟩]) (St.mk s o) Q =
 (demand (binV BinOp.add (s 6) (V.d (.int .i64 1))) (fun x1 =>
Q .normal (St.mk (look [(2, (s 2)), (3, (s 3)), (4, (s 4)), (5, (s 5)), (6, x1)]) (looko ([2, 3, 4, 17].map fun n => (n, o n)))))) := rfl
theorem g_ref02_Mul_c3_sh {R_l1 : ACode} {R_c2 : ACode} {C : Ctx} {I : Nat → Prop} {s : Nat → V} {o : Nat → Option Ob} {Q : Ex → St → Prop} : wpB C I (.seq (.block 1 [2, 3, 4, 5, 6] (some [2, 3, 4, 17]) (.seq (.region [2, 3, 4, 5, 6, 7] (some [2, 3, 4, 17]) none
      [⟨some 7, .mv (.c (.d (.int .i64 0))), [], [], none, none⟩])
   (.block 2 [2, 3, 4, 5, 6] (some [2, 3, 4, 17]) (R_l1))))
 (R_c2)) (St.mk s o) Q =
 (wpB C I R_l1 (St.mk (look [(2, (s 2)), (3, (s 3)), (4, (s 4)), (5, (s 5)), (6, (s 6)), (7, (V.d (.int .i64 0)))]) (looko ([2, 3, 4, 17].map fun n => (n, o n)))) (blockK 2 [2, 3, 4, 5, 6] (some [2, 3, 4, 17]) (blockK 1 [2, 3, 4, 5, 6] (some [2, 3, 4, 17]) (seqK (fun st => wpB C I R_c2 st Q) Q)))) := rfl
theorem g_ref02_Mul_l0_sh {R_l0 : ACode} {R_c3 : ACode} {C : Ctx} {I : Nat → Prop} {s : Nat → V} {o : Nat → Option Ob} {Q : Ex → St → Prop} (hL : R_l0 = .loop [2, 3, 4, 5, 6] (some [2, 3, 4, 17]) (.seq (.seq (.region [2, 3, 4, 5, 6, 22] (some [2, 3, 4, 17]) none
      [⟨some 18, .mv (.t 6), [], [], none, none⟩,
       ⟨some 19, .faddr 1 (.t 2), [], [], none, none⟩,
       ⟨some 20, .load none (.t 19), [], [], none, none⟩,
       ⟨some 21, .len (.t 20), [], [], none, none⟩,
       ⟨some 22, .bin .lss (.t 18) (.t 21), [], [], none, none⟩])
   (.cond (.t 22) (.skip)
    (.exit 0)))
  (R_c3)))
 (h : demand (faddrV 1 (s 2)) (fun x1 =>
demand (loadV (looko ([2, 3, 4, 17].map fun n => (n, o n))) none x1) (fun x2 =>
demand (lenV (looko ([2, 3, 4, 17].map fun n => (n, o n))) x2) (fun x3 =>
demand (binV BinOp.lss (s 6) x3) (fun x4 =>
condK x4
 (wpB C I R_c3 (St.mk (look [(2, (s 2)), (3, (s 3)), (4, (s 4)), (5, (s 5)), (6, (s 6)), (22, x4)]) (looko ([2, 3, 4, 17].map fun n => (n, o n)))) (seqK (fun s => wpB C I R_l0 s Q) Q))
 (Q (.exit 0) (St.mk (look [(2, (s 2)), (3, (s 3)), (4, (s 4)), (5, (s 5)), (6, (s 6)), (22, x4)]) (looko ([2, 3, 4, 17].map fun n => (n, o n)))))))))) : wpB C I R_l0 (St.mk s o) Q := w_loopC hL h
theorem g_ref02_Mul_t3_sh {C : Ctx} {I : Nat → Prop} {s : Nat → V} {o : Nat → Option Ob} {K : St → Prop} : treeB C I g_ref02_Mul.a0 (.one 12 .done) (St.mk s o) K =
 ((([] : List Nat) = [] ∧ (storeK (s 69) (cellsV (s 68)) 1 o (fun m1 ob2 =>
K (St.mk s (upd o m1 (some ob2))))))) := rfl
theorem g_ref02_Mul_t4_sh {R_t3 : Tr} {C : Ctx} {I : Nat → Prop} {s : Nat → V} {o : Nat → Option Ob} {K : St → Prop} : treeB C I g_ref02_Mul.a0 (.one 11 R_t3) (St.mk s o) K =
 ((([] : List Nat) = [] ∧ (demand (iaddrV o 1 (s 58) (s 60)) (fun x1 =>
treeB C I g_ref02_Mul.a0 R_t3 (St.mk (upd s 69 x1) o) K)))) := rfl
theorem g_ref02_Mul_t5_sh {R_t4 : Tr} {C : Ctx} {I : Nat → Prop} {s : Nat → V} {o : Nat → Option Ob} {K : St → Prop} : treeB C I g_ref02_Mul.a0 (.one 10 R_t4) (St.mk s o) K =
 ((([] : List Nat) = [] ∧ (demand (binV BinOp.add (s 62) (s 67)) (fun x1 =>
treeB C I g_ref02_Mul.a0 R_t4 (St.mk (upd s 68 x1) o) K)))) := rfl
theorem g_ref02_Mul_t6_sh {R_t5 : Tr} {C : Ctx} {I : Nat → Prop} {s : Nat → V} {o : Nat → Option Ob} {K : St → Prop} : treeB C I g_ref02_Mul.a0 (.one 9 R_t5) (St.mk s o) K =
 ((([] : List Nat) = [] ∧ (demand (binV BinOp.quo (s 66) (V.d (.int .i64 10))) (fun x1 =>
treeB C I g_ref02_Mul.a0 R_t5 (St.mk (upd s 67 x1) o) K)))) := rfl
theorem g_ref02_Mul_t7_sh {R_t6 : Tr} {C : Ctx} {I : Nat → Prop} {s : Nat → V} {o : Nat → Option Ob} {K : St → Prop} : treeB C I g_ref02_Mul.a0 (.one 8 R_t6) (St.mk s o) K =
 ((([] : List Nat) = [] ∧ (demand (loadV o none (s 65)) (fun x1 =>
treeB C I g_ref02_Mul.a0 R_t6 (St.mk (upd s 66 x1) o) K)))) := rfl
theorem g_ref02_Mul_t8_sh {R_t7 : Tr} {C : Ctx} {I : Nat → Prop} {s : Nat → V} {o : Nat → Option Ob} {K : St → Prop} : treeB C I g_ref02_Mul.a0 (.one 7 R_t7) (St.mk s o) K =
 ((([] : List Nat) = [] ∧ (demand (iaddrV o 1 (s 63) (s 64)) (fun x1 =>
treeB C I g_ref02_Mul.a0 R_t7 (St.mk (upd s 65 x1) o) K)))) := rfl
theorem g_ref02_Mul_t9_sh {R_t8 : Tr} {C : Ctx} {I : Nat → Prop} {s : Nat → V} {o : Nat → Option Ob} {K : St → Prop} : treeB C I g_ref02_Mul.a0 (.one 5 R_t8) (St.mk s o) K =
 ((([] : List Nat) = [] ∧ (treeB C I g_ref02_Mul.a0 R_t8 (St.mk (upd s 63 (s 5)) o) K))) := rfl
theorem g_ref02_Mul_t10_sh {R_t5 : Tr} {C : Ctx} {I : Nat → Prop} {s : Nat → V} {o : Nat → Option Ob} {K : St → Prop} : treeB C I g_ref02_Mul.a0 (.one 4 R_t5) (St.mk s o) K =
 ((([] : List Nat) = [] ∧ (demand (loadV o none (s 61)) (fun x1 =>
treeB C I g_ref02_Mul.a0 R_t5 (St.mk (upd s 62 x1) o) K)))) := rfl
theorem g_ref02_Mul_t11_sh {R_t10 : Tr} {C : Ctx} {I : Nat → Prop} {s : Nat → V} {o : Nat → Option Ob} {K : St → Prop} : treeB C I g_ref02_Mul.a0 (.one 9 R_t10) (St.mk s o) K =
 ((([] : List Nat) = [] ∧ (demand (binV BinOp.quo (s 66) (V.d (.int .i64 10))) (fun x1 =>
treeB C I g_ref02_Mul.a0 R_t10 (St.mk (upd s 67 x1) o) K)))) := rfl
theorem g_ref02_Mul_t12_sh {R_t6 : Tr} {R_t11 : Tr} {C : Ctx} {I : Nat → Prop} {s : Nat → V} {o : Nat → Option Ob} {K : St → Prop} : treeB C I g_ref02_Mul.a0 (.two 4 R_t6 R_t11) (St.mk s o) K =
 ((([] : List Nat) = [] ∧ (demand (loadV o none (s 61)) (fun x1 =>
treeB C I g_ref02_Mul.a0 R_t6 (St.mk (upd s 62 x1) o) K))) ∧ treeB C I g_ref02_Mul.a0 R_t11 (St.mk s o) K) := rfl
theorem g_ref02_Mul_t13_sh {R_t12 : Tr} {C : Ctx} {I : Nat → Prop} {s : Nat → V} {o : Nat → Option Ob} {K : St → Prop} : treeB C I g_ref02_Mul.a0 (.one 8 R_t12) (St.mk s o) K =
 ((([] : List Nat) = [] ∧ (demand (loadV o none (s 65)) (fun x1 =>
treeB C I g_ref02_Mul.a0 R_t12 (St.mk (upd s 66 x1) o) K)))) := rfl
theorem g_ref02_Mul_t14_sh {R_t7 : Tr} {R_t13 : Tr} {C : Ctx} {I : Nat → Prop} {s : Nat → V} {o : Nat → Option Ob} {K : St → Prop} : treeB C I g_ref02_Mul.a0 (.two 4 R_t7 R_t13) (St.mk s o) K =
 ((([] : List Nat) = [] ∧ (demand (loadV o none (s 61)) (fun x1 =>
treeB C I g_ref02_Mul.a0 R_t7 (St.mk (upd s 62 x1) o) K))) ∧ treeB C I g_ref02_Mul.a0 R_t13 (St.mk s o) K) := rfl
theorem g_ref02_Mul_t15_sh {R_t14 : Tr} {C : Ctx} {I : Nat → Prop} {s : Nat → V} {o : Nat → Option Ob} {K : St → Prop} : treeB C I g_ref02_Mul.a0 (.one 7 R_t14) (St.mk s o) K =
 ((([] : List Nat) = [] ∧ (demand (iaddrV o 1 (s 63) (s 64)) (fun x1 =>
treeB C I g_ref02_Mul.a0 R_t14 (St.mk (upd s 65 x1) o) K)))) := rfl
theorem g_ref02_Mul_t16_sh {R_t8 : Tr} {R_t15 : Tr} {C : Ctx} {I : Nat → Prop} {s : Nat → V} {o : Nat → Option Ob} {K : St → Prop} : treeB C I g_ref02_Mul.a0 (.two 4 R_t8 R_t15) (St.mk s o) K =
 ((([] : List Nat) = [] ∧ (demand (loadV o none (s 61)) (fun x1 =>
treeB C I g_ref02_Mul.a0 R_t8 (St.mk (upd s 62 x1) o) K))) ∧ treeB C I g_ref02_Mul.a0 R_t15 (St.mk s o) K) := rfl
theorem g_ref02_Mul_t17_sh {R_t16 : Tr} {C : Ctx} {I : Nat → Prop} {s : Nat → V} {o : Nat → Option Ob} {K : St → Prop} : treeB C I g_ref02_Mul.a0 (.one 5 R_t16) (St.mk s o) K =
 ((([] : List Nat) = [] ∧ (treeB C I g_ref02_Mul.a0 R_t16 (St.mk (upd s 63 (s 5)) o) K))) := rfl
theorem g_ref02_Mul_t18_sh {R_t9 : Tr} {R_t17 : Tr} {C : Ctx} {I : Nat → Prop} {s : Nat → V} {o : Nat → Option Ob} {K : St → Prop} : treeB C I g_ref02_Mul.a0 (.two 4 R_t9 R_t17) (St.mk s o) K =
 ((([] : List Nat) = [] ∧ (demand (loadV o none (s 61)) (fun x1 =>
treeB C I g_ref02_Mul.a0 R_t9 (St.mk (upd s 62 x1) o) K))) ∧ treeB C I g_ref02_Mul.a0 R_t17 (St.mk s o) K) := rfl
theorem g_ref02_Mul_t19_sh {R_t10 : Tr} {C : Ctx} {I : Nat → Prop} {s : Nat → V} {o : Nat → Option Ob} {K : St → Prop} : treeB C I g_ref02_Mul.a0 (.one 3 R_t10) (St.mk s o) K =
 ((([] : List Nat) = [] ∧ (demand (iaddrV o 1 (s 58) (s 60)) (fun x1 =>
treeB C I g_ref02_Mul.a0 R_t10 (St.mk (upd s 61 x1) o) K)))) := rfl
theorem g_ref02_Mul_t20_sh {R_t19 : Tr} {C : Ctx} {I : Nat → Prop} {s : Nat → V} {o : Nat → Option Ob} {K : St → Prop} : treeB C I g_ref02_Mul.a0 (.one 9 R_t19) (St.mk s o) K =
 ((([] : List Nat) = [] ∧ (demand (binV BinOp.quo (s 66) (V.d (.int .i64 10))) (fun x1 =>
treeB C I g_ref02_Mul.a0 R_t19 (St.mk (upd s 67 x1) o) K)))) := rfl
theorem g_ref02_Mul_t21_sh {R_t12 : Tr} {R_t20 : Tr} {C : Ctx} {I : Nat → Prop} {s : Nat → V} {o : Nat → Option Ob} {K : St → Prop} : treeB C I g_ref02_Mul.a0 (.two 3 R_t12 R_t20) (St.mk s o) K =
 ((([] : List Nat) = [] ∧ (demand (iaddrV o 1 (s 58) (s 60)) (fun x1 =>
treeB C I g_ref02_Mul.a0 R_t12 (St.mk (upd s 61 x1) o) K))) ∧ treeB C I g_ref02_Mul.a0 R_t20 (St.mk s o) K) := rfl
theorem g_ref02_Mul_t22_sh {R_t21 : Tr} {C : Ctx} {I : Nat → Prop} {s : Nat → V} {o : Nat → Option Ob} {K : St → Prop} : treeB C I g_ref02_Mul.a0 (.one 8 R_t21) (St.mk s o) K =
 ((([] : List Nat) = [] ∧ (demand (loadV o none (s 65)) (fun x1 =>
treeB C I g_ref02_Mul.a0 R_t21 (St.mk (upd s 66 x1) o) K)))) := rfl
theorem g_ref02_Mul_t23_sh {R_t14 : Tr} {R_t22 : Tr} {C : Ctx} {I : Nat → Prop} {s : Nat → V} {o : Nat → Option Ob} {K : St → Prop} : treeB C I g_ref02_Mul.a0 (.two 3 R_t14 R_t22) (St.mk s o) K =
 ((([] : List Nat) = [] ∧ (demand (iaddrV o 1 (s 58) (s 60)) (fun x1 =>
treeB C I g_ref02_Mul.a0 R_t14 (St.mk (upd s 61 x1) o) K))) ∧ treeB C I g_ref02_Mul.a0 R_t22 (St.mk s o) K) := rfl
theorem g_ref02_Mul_t24_sh {R_t23 : Tr} {C : Ctx} {I : Nat → Prop} {s : Nat → V} {o : Nat → Option Ob} {K : St → Prop} : treeB C I g_ref02_Mul.a0 (.one 7 R_t23) (St.mk s o) K =
 ((([] : List Nat) = [] ∧ (demand (iaddrV o 1 (s 63) (s 64)) (fun x1 =>
treeB C I g_ref02_Mul.a0 R_t23 (St.mk (upd s 65 x1) o) K)))) := rfl
theorem g_ref02_Mul_t25_sh {R_t16 : Tr} {R_t24 : Tr} {C : Ctx} {I : Nat → Prop} {s : Nat → V} {o : Nat → Option Ob} {K : St → Prop} : treeB C I g_ref02_Mul.a0 (.two 3 R_t16 R_t24) (St.mk s o) K =
 ((([] : List Nat) = [] ∧ (demand (iaddrV o 1 (s 58) (s 60)) (fun x1 =>
treeB C I g_ref02_Mul.a0 R_t16 (St.mk (upd s 61 x1) o) K))) ∧ treeB C I g_ref02_Mul.a0 R_t24 (St.mk s o) K) := rfl
theorem g_ref02_Mul_t26_sh {R_t25 : Tr} {C : Ctx} {I : Nat → Prop} {s : Nat → V} {o : Nat → Option Ob} {K : St → Prop} : treeB C I g_ref02_Mul.a0 (.one 5 R_t25) (St.mk s o) K =
 ((([] : List Nat) = [] ∧ (treeB C I g_ref02_Mul.a0 R_t25 (St.mk (upd s 63 (s 5)) o) K))) := rfl
theorem g_ref02_Mul_t27_sh {R_t18 : Tr} {R_t26 : Tr} {C : Ctx} {I : Nat → Prop} {s : Nat → V} {o : Nat → Option Ob} {K : St → Prop} : treeB C I g_ref02_Mul.a0 (.two 3 R_t18 R_t26) (St.mk s o) K =
 ((([] : List Nat) = [] ∧ (demand (iaddrV o 1 (s 58) (s 60)) (fun x1 =>
treeB C I g_ref02_Mul.a0 R_t18 (St.mk (upd s 61 x1) o) K))) ∧ treeB C I g_ref02_Mul.a0 R_t26 (St.mk s o) K) := rfl
theorem g_ref02_Mul_t28_sh {R_t19 : Tr} {C : Ctx} {I : Nat → Prop} {s : Nat → V} {o : Nat → Option Ob} {K : St → Prop} : treeB C I g_ref02_Mul.a0 (.one 0 R_t19) (St.mk s o) K =
 ((([] : List Nat) = [] ∧ (treeB C I g_ref02_Mul.a0 R_t19 (St.mk (upd s 58 (s 5)) o) K))) := rfl
theorem g_ref02_Mul_t29_sh {R_t28 : Tr} {C : Ctx} {I : Nat → Prop} {s : Nat → V} {o : Nat → Option Ob} {K : St → Prop} : treeB C I g_ref02_Mul.a0 (.one 9 R_t28) (St.mk s o) K =
 ((([] : List Nat) = [] ∧ (demand (binV BinOp.quo (s 66) (V.d (.int .i64 10))) (fun x1 =>
treeB C I g_ref02_Mul.a0 R_t28 (St.mk (upd s 67 x1) o) K)))) := rfl
theorem g_ref02_Mul_t30_sh {R_t21 : Tr} {R_t29 : Tr} {C : Ctx} {I : Nat → Prop} {s : Nat → V} {o : Nat → Option Ob} {K : St → Prop} : treeB C I g_ref02_Mul.a0 (.two 0 R_t21 R_t29) (St.mk s o) K =
 ((([] : List Nat) = [] ∧ (treeB C I g_ref02_Mul.a0 R_t21 (St.mk (upd s 58 (s 5)) o) K)) ∧ treeB C I g_ref02_Mul.a0 R_t29 (St.mk s o) K) := rfl
theorem g_ref02_Mul_t31_sh {R_t30 : Tr} {C : Ctx} {I : Nat → Prop} {s : Nat → V} {o : Nat → Option Ob} {K : St → Prop} : treeB C I g_ref02_Mul.a0 (.one 8 R_t30) (St.mk s o) K =
 ((([] : List Nat) = [] ∧ (demand (loadV o none (s 65)) (fun x1 =>
treeB C I g_ref02_Mul.a0 R_t30 (St.mk (upd s 66 x1) o) K)))) := rfl
theorem g_ref02_Mul_t32_sh {R_t23 : Tr} {R_t31 : Tr} {C : Ctx} {I : Nat → Prop} {s : Nat → V} {o : Nat → Option Ob} {K : St → Prop} : treeB C I g_ref02_Mul.a0 (.two 0 R_t23 R_t31) (St.mk s o) K =
 ((([] : List Nat) = [] ∧ (treeB C I g_ref02_Mul.a0 R_t23 (St.mk (upd s 58 (s 5)) o) K)) ∧ treeB C I g_ref02_Mul.a0 R_t31 (St.mk s o) K) := rfl
theorem g_ref02_Mul_t33_sh {R_t32 : Tr} {C : Ctx} {I : Nat → Prop} {s : Nat → V} {o : Nat → Option Ob} {K : St → Prop} : treeB C I g_ref02_Mul.a0 (.one 7 R_t32) (St.mk s o) K =
 ((([] : List Nat) = [] ∧ (demand (iaddrV o 1 (s 63) (s 64)) (fun x1 =>
treeB C I g_ref02_Mul.a0 R_t32 (St.mk (upd s 65 x1) o) K)))) := rfl
theorem g_ref02_Mul_t34_sh {R_t25 : Tr} {R_t33 : Tr} {C : Ctx} {I : Nat → Prop} {s : Nat → V} {o : Nat → Option Ob} {K : St → Prop} : treeB C I g_ref02_Mul.a0 (.two 0 R_t25 R_t33) (St.mk s o) K =
 ((([] : List Nat) = [] ∧ (treeB C I g_ref02_Mul.a0 R_t25 (St.mk (upd s 58 (s 5)) o) K)) ∧ treeB C I g_ref02_Mul.a0 R_t33 (St.mk s o) K) := rfl
theorem g_ref02_Mul_t35_sh {R_t34 : Tr} {C : Ctx} {I : Nat → Prop} {s : Nat → V} {o : Nat → Option Ob} {K : St → Prop} : treeB C I g_ref02_Mul.a0 (.one 5 R_t34) (St.mk s o) K =
 ((([] : List Nat) = [] ∧ (treeB C I g_ref02_Mul.a0 R_t34 (St.mk (upd s 63 (s 5)) o) K))) := rfl
theorem g_ref02_Mul_t36_sh {R_t27 : Tr} {R_t35 : Tr} {C : Ctx} {I : Nat → Prop} {s : Nat → V} {o : Nat → Option Ob} {K : St → Prop} : treeB C I g_ref02_Mul.a0 (.two 0 R_t27 R_t35) (St.mk s o) K =
 ((([] : List Nat) = [] ∧ (treeB C I g_ref02_Mul.a0 R_t27 (St.mk (upd s 58 (s 5)) o) K)) ∧ treeB C I g_ref02_Mul.a0 R_t35 (St.mk s o) K) := rfl
theorem g_ref02_Mul_i2_sh {R_t36 : Tr} {C : Ctx} {I : Nat → Prop} {s : Nat → V} {o : Nat → Option Ob} {K : St → Prop} : drawB C I g_ref02_Mul.a0 (6 :: []) R_t36 (St.mk s o) K =
 ((s 64) = V.undef ∧ (quietV o ((s 8) :: [(s 8)]) ∧
treeB C I g_ref02_Mul.a0 R_t36 (St.mk (upd s 64 (s 8)) o) K)) := rfl
theorem g_ref02_Mul_i1_sh {R_i2 : List Nat} {R_t36 : Tr} {C : Ctx} {I : Nat → Prop} {s : Nat → V} {o : Nat → Option Ob} {K : St → Prop} : drawB C I g_ref02_Mul.a0 (2 :: R_i2) R_t36 (St.mk s o) K =
 ((s 60) = V.undef ∧ (demand (binV BinOp.add (s 59) (V.d (.int .i64 1))) (fun x1 => quietV o (x1 :: [(s 59), (V.d (.int .i64 1))]) ∧
drawB C I g_ref02_Mul.a0 R_i2 R_t36 (St.mk (upd s 60 x1) o) K))) := rfl
theorem g_ref02_Mul_c4_sh {C : Ctx} {I : Nat → Prop} {s : Nat → V} {o : Nat → Option Ob} {Q : Ex → St → Prop} : wpB C I (.region [2, 3, 4, 5, 8] (some [2, 3, 4, 17]) none
   [⟨some 70, .mv (.t 5), [], [], none, none⟩,
    ⟨some 71, .mv (.t 8), [], [], none, none⟩,
    ⟨some 72, .mv (.t 5), [], [], none, none⟩,
    ⟨some 73, .mv (.t 8), [], [], none, none⟩,
    ⟨some 74, .iaddr 1 (.t 72) (.t 73), [], [], none, none⟩,
    ⟨some 75, .load none (.t 74), [], [], none, none⟩,
    ⟨some 76, .bin .rem (.t 75) (.c (.d (.int .i64 10))), [], [], none, none⟩,
    ⟨some 77, .iaddr 1 (.t 70) (.t 71), [], [], none, none⟩,
    ⟨none, .store 1 (.t 77) (.t 76), [], [], none, none⟩]) (St.mk s o) Q =
 (demand (iaddrV o 1 (s 5) (s 8)) (fun x1 =>
demand (loadV o none x1) (fun x2 =>
demand (binV BinOp.rem x2 (V.d (.int .i64 10))) (fun x3 =>
demand (iaddrV o 1 (s 5) (s 8)) (fun x4 =>
storeK x4 (cellsV x3) 1 o (fun m5 ob6 =>
Q .normal (St.mk (look [(2, (s 2)), (3, (s 3)), (4, (s 4)), (5, (s 5)), (8, (s 8))]) (looko ([2, 3, 4, 17].map fun n => (n, (upd o m5 (some ob6)) n)))))))))) := rfl
theorem g_ref02_Mul_c5_sh {C : Ctx} {I : Nat → Prop} {s : Nat → V} {o : Nat → Option Ob} {Q : Ex → St → Prop} : wpB C I (.region [2, 3, 4, 5, 8] (some [2, 3, 4, 17]) none
   [⟨some 56, .mv (.t 8), [], [], none, none⟩,
    ⟨some 57, .bin .add (.t 56) (.c (.d (.int .i64 1))), [], [], none, none⟩,
    ⟨some 8, .mv (.t 57), [], [], none, none⟩]) (St.mk s o) Q =
 (demand (binV BinOp.add (s 8) (V.d (.int .i64 1))) (fun x1 =>
Q .normal (St.mk (look [(2, (s 2)), (3, (s 3)), (4, (s 4)), (5, (s 5)), (8, x1)]) (looko ([2, 3, 4, 17].map fun n => (n, o n)))))) := rfl
theorem g_ref02_Mul_c6_sh {R_i1 : List Nat} {R_t36 : Tr} {R_c4 : ACode} {R_c5 : ACode} {C : Ctx} {I : Nat → Prop} {s : Nat → V} {o : Nat → Option Ob} {Q : Ex → St → Prop} : wpB C I (.seq (.block 5 [2, 3, 4, 5, 8] (some [2, 3, 4, 17]) (.seq (.region [2, 3, 4, 5, 8] (some [2, 3, 4, 17]) (some (1 :: R_i1, R_t36)) g_ref02_Mul.a0)
   (R_c4)))
 (R_c5)) (St.mk s o) Q =
 ((s 59) = V.undef ∧ (quietV o ((s 8) :: [(s 8)]) ∧
drawB C I g_ref02_Mul.a0 R_i1 R_t36 (St.mk (upd s 59 (s 8)) o) (fun st => (seqK (fun st => wpB C I R_c4 st (blockK 5 [2, 3, 4, 5, 8] (some [2, 3, 4, 17]) (seqK (fun st => wpB C I R_c5 st Q) Q))) (blockK 5 [2, 3, 4, 5, 8] (some [2, 3, 4, 17]) (seqK (fun st => wpB C I R_c5 st Q) Q))) .normal (St.trim st [2, 3, 4, 5, 8] (some [2, 3, 4, 17]))))) := rfl
theorem g_ref02_Mul_l2_sh {R_l2 : ACode} {R_c6 : ACode} {C : Ctx} {I : Nat → Prop} {s : Nat → V} {o : Nat → Option Ob} {Q : Ex → St → Prop} (hL : R_l2 = .loop [2, 3, 4, 5, 8] (some [2, 3, 4, 17]) (.seq (.seq (.region [2, 3, 4, 5, 8, 55] (some [2, 3, 4, 17]) none
      [⟨some 51, .mv (.t 8), [], [], none, none⟩,
       ⟨some 52, .bin .add (.t 51) (.c (.d (.int .i64 1))), [], [], none, none⟩,
       ⟨some 53, .mv (.t 5), [], [], none, none⟩,
       ⟨some 54, .len (.t 53), [], [], none, none⟩,
       ⟨some 55, .bin .lss (.t 52) (.t 54), [], [], none, none⟩])
   (.cond (.t 55) (.skip)
    (.exit 4)))
  (R_c6)))
 (h : demand (binV BinOp.add (s 8) (V.d (.int .i64 1))) (fun x1 =>
demand (lenV (looko ([2, 3, 4, 17].map fun n => (n, o n))) (s 5)) (fun x2 =>
demand (binV BinOp.lss x1 x2) (fun x3 =>
condK x3
 (wpB C I R_c6 (St.mk (look [(2, (s 2)), (3, (s 3)), (4, (s 4)), (5, (s 5)), (8, (s 8)), (55, x3)]) (looko ([2, 3, 4, 17].map fun n => (n, o n)))) (seqK (fun s => wpB C I R_l2 s Q) Q))
 (Q (.exit 4) (St.mk (look [(2, (s 2)), (3, (s 3)), (4, (s 4)), (5, (s 5)), (8, (s 8)), (55, x3)]) (looko ([2, 3, 4, 17].map fun n => (n, o n))))))))) : wpB C I R_l2 (St.mk s o) Q := w_loopC hL h
theorem g_ref02_Mul_o38_sh {C : Ctx} {I : Nat → Prop} {s : Nat → V} {o : Nat → Option Ob} {K : St → Prop} : opsB C I [⟨some 89, .pick (.t 85) (.t 88) (.c (.d (.bool false))), [], [], none, none⟩,
     ⟨some 90, .mv (.t 5), [], [], none, none⟩,
     ⟨some 91, .build [.d (.bool false), .cap0] [(0, 1, (.t 89)), (1, 1, (.t 90))], [90], [], none, none⟩,
     ⟨none, .store 2 (.t 4) (.t 91), [], [], none, none⟩] (St.mk s o) K =
 (demand (pickV (s 85) (s 88) (V.d (.bool false))) (fun x1 =>
frzK (St.mk (upd (upd s 89 x1) 90 (s 5)) o) [90] (fun st2 =>
demand ((buildN [V.d (.bool false), V.cap0] [(0, 1, (st2.s 89)), (1, 1, (st2.s 90))]).map V.agg) (fun x3 =>
storeK (st2.s 4) (cellsV x3) 2 st2.o (fun m4 ob5 =>
K (St.mk (upd st2.s 91 x3) (upd st2.o m4 (some ob5)))))))) := rfl
theorem g_ref02_Mul_o37_sh {R_o38 : List AOper} {C : Ctx} {I : Nat → Prop} {s : Nat → V} {o : Nat → Option Ob} {K : St → Prop} : opsB C I (⟨some 86, .mv (.t 5), [], [], (some (5, 85, true)), none⟩ ::
     ⟨some 87, .len (.t 86), [], [], (some (5, 85, true)), none⟩ ::
     ⟨some 88, .bin .gtr (.t 87) (.c (.d (.int .i64 0))), [], [], (some (5, 85, true)), (some ([4, 5, 85, 88], (some [4, 17])))⟩ ::
     R_o38) (St.mk s o) K =
 (guardK (s 85) true
 (demand (lenV o (s 5)) (fun x1 =>
demand (binV BinOp.gtr x1 (V.d (.int .i64 0))) (fun x2 =>
opsB C I R_o38 (St.mk (look [(4, (s 4)), (5, (s 5)), (85, (V.d (D.bool true))), (88, x2)]) (looko ([4, 17].map fun n => (n, o n)))) K)))
 (opsB C I R_o38 (St.mk (look [(4, (s 4)), (5, (s 5)), (85, (V.d (D.bool false))), (88, (V.tup []))]) (looko ([4, 17].map fun n => (n, o n)))) K)
 (opsB C I R_o38 (St.mk (look [(4, (s 4)), (5, (s 5)), (85, (V.tup [])), (88, (V.tup []))]) (looko ([4, 17].map fun n => (n, o n)))) K)) := rfl
theorem g_ref02_Mul_c7_sh {C : Ctx} {I : Nat → Prop} {s : Nat → V} {o : Nat → Option Ob} {Q : Ex → St → Prop} : wpB C I (.ret) (St.mk s o) Q =
 (Q .ret (St.mk s o)) := rfl
theorem g_ref02_Mul_c8_sh {R_o37 : List AOper} {R_c7 : ACode} {C : Ctx} {I : Nat → Prop} {s : Nat → V} {o : Nat → Option Ob} {Q : Ex → St → Prop} : wpB C I (.seq (.region [2, 3, 4, 5] (some [2, 3, 4, 17]) none
    [⟨some 78, .mv (.t 5), [], [], none, none⟩,
     ⟨some 79, .call 118 [(.t 78)], [78], [], none, none⟩,
     ⟨some 5, .mv (.t 79), [], [], none, none⟩])
 (.seq (.region [4] (some [4, 17]) none
     (⟨some 80, .faddr 0 (.t 2), [], [], none, none⟩ ::
      ⟨some 81, .load none (.t 80), [], [], none, none⟩ ::
      ⟨some 82, .faddr 0 (.t 3), [], [], none, none⟩ ::
      ⟨some 83, .load none (.t 82), [], [], none, none⟩ ::
      ⟨some 84, .beq true (.t 81) (.t 83), [], [], none, none⟩ ::
      ⟨some 85, .mv (.t 84), [], [], none, (some ([4, 5, 85], (some [4, 17])))⟩ ::
      R_o37))
  (R_c7))) (St.mk s o) Q =
 (frzK (St.mk (upd s 78 (s 5)) o) [78] (fun st1 =>
callK C I (St.mk st1.s st1.o) (some 79) 118 [(st1.s 78)] (fun r2 or2 =>
demand (faddrV 0 (st1.s 2)) (fun x3 =>
demand (loadV (looko ([2, 3, 4, 17].map fun n => (n, or2 n))) none x3) (fun x4 =>
demand (faddrV 0 (st1.s 3)) (fun x5 =>
demand (loadV (looko ([2, 3, 4, 17].map fun n => (n, or2 n))) none x5) (fun x6 =>
demand (beqV true x4 x6) (fun x7 =>
opsB C I R_o37 (St.mk (look [(4, (st1.s 4)), (5, r2), (85, x7)]) (looko ([4, 17].map fun n => (n, or2 n)))) (fun st => (seqK (fun st => wpB C I R_c7 st Q) Q) .normal (St.trim st [4] (some [4, 17]))))))))))) := rfl
theorem g_ref02_Mul_c9_sh {R_l2 : ACode} {R_c8 : ACode} {C : Ctx} {I : Nat → Prop} {s : Nat → V} {o : Nat → Option Ob} {Q : Ex → St → Prop} : wpB C I (.seq (.seq (.region [2, 3, 4, 5, 8] (some [2, 3, 4, 17]) none
     [⟨some 8, .mv (.c (.d (.int .i64 0))), [], [], none, none⟩])
  (.block 4 [2, 3, 4, 5] (some [2, 3, 4, 17]) (R_l2)))
 (R_c8)) (St.mk s o) Q =
 (wpB C I R_l2 (St.mk (look [(2, (s 2)), (3, (s 3)), (4, (s 4)), (5, (s 5)), (8, (V.d (.int .i64 0)))]) (looko ([2, 3, 4, 17].map fun n => (n, o n)))) (blockK 4 [2, 3, 4, 5] (some [2, 3, 4, 17]) (seqK (fun st => wpB C I R_c8 st Q) Q))) := rfl
theorem g_ref02_Mul_c10_sh {R_l0 : ACode} {R_c9 : ACode} {C : Ctx} {I : Nat → Prop} {s : Nat → V} {o : Nat → Option Ob} {Q : Ex → St → Prop} : wpB C I (.seq (.seq (.region [2, 3, 4, 5, 6] (some [2, 3, 4, 17]) none
     [⟨some 6, .mv (.c (.d (.int .i64 0))), [], [], none, none⟩])
  (.block 0 [2, 3, 4, 5] (some [2, 3, 4, 17]) (R_l0)))
 (R_c9)) (St.mk s o) Q =
 (wpB C I R_l0 (St.mk (look [(2, (s 2)), (3, (s 3)), (4, (s 4)), (5, (s 5)), (6, (V.d (.int .i64 0)))]) (looko ([2, 3, 4, 17].map fun n => (n, o n)))) (blockK 0 [2, 3, 4, 5] (some [2, 3, 4, 17]) (seqK (fun st => wpB C I R_c9 st Q) Q))) := rfl
theorem g_ref02_Mul_code_sh {R_c10 : ACode} {C : Ctx} {I : Nat → Prop} {s : Nat → V} {o : Nat → Option Ob} {Q : Ex → St → Prop} : wpB C I (.seq (.region [2, 3, 4] (some [2, 3, 4, 17]) none
    [⟨some 2, .box 2 2 (.t 0), [], [], none, none⟩,
     ⟨some 3, .box 3 2 (.t 1), [], [], none, none⟩,
     ⟨some 4, .alloc 4 [.d (.bool false), .cap0], [], [], none, none⟩])
 (.seq (.region [2, 3, 4, 5] (some [2, 3, 4, 17]) none
     [⟨some 9, .faddr 1 (.t 2), [], [], none, none⟩,
      ⟨some 10, .load none (.t 9), [], [], none, none⟩,
      ⟨some 11, .len (.t 10), [], [], none, none⟩,
      ⟨some 12, .faddr 1 (.t 3), [], [], none, none⟩,
      ⟨some 13, .load none (.t 12), [], [], none, none⟩,
      ⟨some 14, .len (.t 13), [], [], none, none⟩,
      ⟨some 15, .bin .add (.t 11) (.t 14), [], [], none, none⟩,
      ⟨some 16, .bin .add (.t 15) (.c (.d (.int .i64 1))), [], [], none, none⟩,
      ⟨some 17, .mks (some 17) 1 8 [(.int .i64 0)] (.t 16), [], [], none, none⟩,
      ⟨some 5, .mv (.t 17), [], [], none, none⟩])
  (R_c10))) (St.mk s o) Q =
 (lstK (cellsV (s 0)) (fun c1 => c1.length = 2 ∧ ¬ I 2 ∧ Fresh (St.mk s o) 2 (some 2) ∧ V.refsL 2 c1 = false ∧
lstK (cellsV (s 1)) (fun c2 => c2.length = 2 ∧ ¬ I 3 ∧ Fresh (St.mk (upd s 2 (V.ptr 2 0)) (upd o 2 (some (Ob.box c1)))) 3 (some 3) ∧ V.refsL 3 c2 = false ∧
(¬ I 4 ∧ Fresh (St.mk (upd (upd s 2 (V.ptr 2 0)) 3 (V.ptr 3 0)) (upd (upd o 2 (some (Ob.box c1))) 3 (some (Ob.box c2)))) 4 (some 4) ∧ V.refsL 4 [V.d (.bool false), V.cap0] = false ∧
demand (faddrV 1 (V.ptr 2 0)) (fun x3 =>
demand (loadV (looko ([2, 3, 4, 17].map fun n => (n, (upd (upd (upd o 2 (some (Ob.box c1))) 3 (some (Ob.box c2))) 4 (some (Ob.box [V.d (.bool false), V.cap0]))) n))) none x3) (fun x4 =>
demand (lenV (looko ([2, 3, 4, 17].map fun n => (n, (upd (upd (upd o 2 (some (Ob.box c1))) 3 (some (Ob.box c2))) 4 (some (Ob.box [V.d (.bool false), V.cap0]))) n))) x4) (fun x5 =>
demand (faddrV 1 (V.ptr 3 0)) (fun x6 =>
demand (loadV (looko ([2, 3, 4, 17].map fun n => (n, (upd (upd (upd o 2 (some (Ob.box c1))) 3 (some (Ob.box c2))) 4 (some (Ob.box [V.d (.bool false), V.cap0]))) n))) none x6) (fun x7 =>
demand (lenV (looko ([2, 3, 4, 17].map fun n => (n, (upd (upd (upd o 2 (some (Ob.box c1))) 3 (some (Ob.box c2))) 4 (some (Ob.box [V.d (.bool false), V.cap0]))) n))) x7) (fun x8 =>
demand (binV BinOp.add x5 x8) (fun x9 =>
demand (binV BinOp.add x9 (V.d (.int .i64 1))) (fun x10 =>
intK x10 (fun n11 => 0 ≤ n11 ∧ n11.toNat * 8 ≤ 140737488355328 ∧ n11 ≤ 140737488355328 ∧ ¬ I 17 ∧ Fresh (St.mk (upd (upd (upd (upd (upd (upd (upd (upd (look [(2, (V.ptr 2 0)), (3, (V.ptr 3 0)), (4, (V.ptr 4 0))]) 9 x3) 10 x4) 11 x5) 12 x6) 13 x7) 14 x8) 15 x9) 16 x10) (looko ([2, 3, 4, 17].map fun n => (n, (upd (upd (upd o 2 (some (Ob.box c1))) 3 (some (Ob.box c2))) 4 (some (Ob.box [V.d (.bool false), V.cap0]))) n)))) 17 (some 17) ∧
wpB C I R_c10 (St.mk (look [(2, (V.ptr 2 0)), (3, (V.ptr 3 0)), (4, (V.ptr 4 0)), (5, (V.own 17))]) (looko ([2, 3, 4, 17].map fun n => (n, (upd (looko ([2, 3, 4, 17].map fun n => (n, (upd (upd (upd o 2 (some (Ob.box c1))) 3 (some (Ob.box c2))) 4 (some (Ob.box [V.d (.bool false), V.cap0]))) n))) 17 (some (Ob.row 1 (List.replicate n11.toNat [(.int .i64 0)])))) n)))) Q))))))))))))) := rfl
theorem g_ref02_Of_c0_sh {C : Ctx} {I : Nat → Prop} {s : Nat → V} {o : Nat → Option Ob} {Q : Ex → St → Prop} : wpB C I (.region [0, 2, 3] (some [2, 3, 20]) none
   [⟨some 22, .mv (.t 0), [], [], none, none⟩,
    ⟨some 23, .bin .quo (.t 22) (.c (.d (.int .i64 10))), [], [], none, none⟩,
    ⟨some 0, .mv (.t 23), [], [], none, none⟩]) (St.mk s o) Q =
 (demand (binV BinOp.quo (s 0) (V.d (.int .i64 10))) (fun x1 =>
Q .normal (St.mk (look [(0, x1), (2, (s 2)), (3, (s 3))]) (looko ([2, 3, 20].map fun n => (n, o n)))))) := rfl
theorem g_ref02_Of_c1_sh {R_c0 : ACode} {C : Ctx} {I : Nat → Prop} {s : Nat → V} {o : Nat → Option Ob} {Q : Ex → St → Prop} : wpB C I (.seq (.region [0, 2, 3] (some [2, 3, 20]) none
    [⟨some 16, .faddr 1 (.t 3), [], [], none, none⟩,
     ⟨some 17, .load none (.t 16), [], [], none, none⟩,
     ⟨some 18, .mv (.t 4), [], [], none, none⟩,
     ⟨some 19, .bsl none 1 [] 1 [(0, (.t 18))], [], [], none, none⟩,
     ⟨some 20, .app (some 20) 1 8 (.t 17) (.t 19), [], [], none, none⟩,
     ⟨some 21, .faddr 1 (.t 3), [], [], none, none⟩,
     ⟨none, .store 1 (.t 21) (.t 20), [], [], none, none⟩])
 (R_c0)) (St.mk s o) Q =
 (demand (faddrV 1 (s 3)) (fun x1 =>
demand (loadV o none x1) (fun x2 =>
lstK (partsN 1 [(s 4)]) (fun es3 =>
lstK (readD o (V.d (D.sl es3))) (fun ys4 => (∀ e ∈ ys4, e.length = 1) ∧ appK x2
 (ys4.length * 8 ≤ 140737488355328 ∧ ys4.length ≤ 140737488355328 ∧ ¬ I 20 ∧ Fresh (St.mk (upd (upd (upd (upd s 16 x1) 17 x2) 18 (s 4)) 19 (V.d (D.sl es3))) o) 20 (some 20) ∧
demand (faddrV 1 (s 3)) (fun x9 =>
storeK x9 (cellsV (V.own 20)) 1 (upd o 20 (some (Ob.row 1 ys4))) (fun m10 ob11 =>
wpB C I R_c0 (St.mk (look [(0, (s 0)), (2, (s 2)), (3, (s 3))]) (looko ([2, 3, 20].map fun n => (n, (upd (upd o 20 (some (Ob.row 1 ys4))) m10 (some ob11)) n)))) Q)))
 (fun m5 => ¬ I m5 ∧ rowK (o m5) (fun z6 es7 => z6 = 1 ∧ (es7.length + ys4.length) * 8 ≤ 140737488355328 ∧ es7.length + ys4.length ≤ 140737488355328 ∧
demand (faddrV 1 ((fun t => scrubV m5 (s t)) 3)) (fun x12 =>
storeK x12 (cellsV (V.own m5)) 1 (upd (fun n => (o n).map (Ob.scrub m5)) m5 (some (Ob.row 1 (es7 ++ ys4)))) (fun m13 ob14 =>
wpB C I R_c0 (St.mk (look [(0, ((fun t => scrubV m5 (s t)) 0)), (2, ((fun t => scrubV m5 (s t)) 2)), (3, ((fun t => scrubV m5 (s t)) 3))]) (looko ([2, 3, 20].map fun n => (n, (upd (upd (fun n => (o n).map (Ob.scrub m5)) m5 (some (Ob.row 1 (es7 ++ ys4)))) m13 (some ob14)) n)))) Q))))))))) := rfl
theorem g_ref02_Of_l0_sh {R_l0 : ACode} {R_c1 : ACode} {C : Ctx} {I : Nat → Prop} {s : Nat → V} {o : Nat → Option Ob} {Q : Ex → St → Prop} (hL : R_l0 = .loop [0, 2, 3] (some [2, 3, 20]) (.seq (.seq (.region [0, 2, 3, 9] (some [2, 3, 20]) none
      [⟨some 8, .mv (.t 0), [], [], none, none⟩,
       ⟨some 9, .bin .neq (.t 8) (.c (.d (.int .i64 0))), [], [], none, none⟩])
   (.cond (.t 9) (.skip)
    (.exit 0)))
  (.block 1 [0, 2, 3] (some [2, 3, 20]) (.seq (.region [0, 2, 3, 4] (some [2, 3, 20]) none
       [⟨some 10, .mv (.t 0), [], [], none, none⟩,
        ⟨some 11, .bin .rem (.t 10) (.c (.d (.int .i64 10))), [], [], none, none⟩,
        ⟨some 4, .mv (.t 11), [], [], none, none⟩])
    (.seq (.seq (.region [0, 2, 3, 4, 13] (some [2, 3, 20]) none
         [⟨some 12, .mv (.t 4), [], [], none, none⟩,
          ⟨some 13, .bin .lss (.t 12) (.c (.d (.int .i64 0))), [], [], none, none⟩])
      (.cond (.t 13) (.region [0, 2, 3, 4] (some [2, 3, 20]) none
          [⟨some 14, .mv (.t 4), [], [], none, none⟩,
           ⟨some 15, .un .neg (.t 14), [], [], none, none⟩,
           ⟨some 4, .mv (.t 15), [], [], none, none⟩])
       (.skip)))
     (R_c1))))))
 (h : demand (binV BinOp.neq (s 0) (V.d (.int .i64 0))) (fun x1 =>
condK x1
 (demand (binV BinOp.rem (s 0) (V.d (.int .i64 10))) (fun x2 =>
demand (binV BinOp.lss x2 (V.d (.int .i64 0))) (fun x3 =>
condK x3
 (demand (unV UnOp.neg x2) (fun x4 =>
wpB C I R_c1 (St.mk (look [(0, (s 0)), (2, (s 2)), (3, (s 3)), (4, x4)]) (looko ([2, 3, 20].map fun n => (n, o n)))) (blockK 1 [0, 2, 3] (some [2, 3, 20]) (seqK (fun s => wpB C I R_l0 s Q) Q))))
 (wpB C I R_c1 (St.mk (look [(0, (s 0)), (2, (s 2)), (3, (s 3)), (4, x2), (13, x3)]) (looko ([2, 3, 20].map fun n => (n, o n)))) (blockK 1 [0, 2, 3] (some [2, 3, 20]) (seqK (fun s => wpB C I R_l0 s Q) Q))))))
 (Q (.exit 0) (St.mk (look [(0, (s 0)), (2, (s 2)), (3, (s 3)), (9, x1)]) (looko ([2, 3, 20].map fun n => (n, o n))))))) : wpB C I R_l0 (St.mk s o) Q := w_loopC hL h
theorem g_ref02_Of_c2_sh {C : Ctx} {I : Nat → Prop} {s : Nat → V} {o : Nat → Option Ob} {Q : Ex → St → Prop} : wpB C I (.seq (.region [2] (some [2, 20]) none
    [⟨some 24, .load (some 2) (.t 3), [], [], none, none⟩,
     ⟨none, .store 2 (.t 2) (.t 24), [], [], none, none⟩])
 (.ret)) (St.mk s o) Q =
 (demand (loadV o (some 2) (s 3)) (fun x1 =>
storeK (s 2) (cellsV x1) 2 o (fun m2 ob3 =>
Q .ret (St.mk (look [(2, (s 2))]) (looko ([2, 20].map fun n => (n, (upd o m2 (some ob3)) n))))))) := rfl
theorem g_ref02_Of_c3_sh {R_l0 : ACode} {R_c2 : ACode} {C : Ctx} {I : Nat → Prop} {s : Nat → V} {o : Nat → Option Ob} {Q : Ex → St → Prop} : wpB C I (.seq (.block 0 [2, 3] (some [2, 3, 20]) (R_l0))
 (R_c2)) (St.mk s o) Q =
 (wpB C I R_l0 (St.mk s o) (blockK 0 [2, 3] (some [2, 3, 20]) (seqK (fun st => wpB C I R_c2 st Q) Q))) := rfl
theorem g_ref02_Of_code_sh {R_c3 : ACode} {C : Ctx} {I : Nat → Prop} {s : Nat → V} {o : Nat → Option Ob} {Q : Ex → St → Prop} : wpB C I (.seq (.region [0, 2] (some [2, 20]) none
    [⟨some 2, .alloc 2 [.d (.bool false), .cap0], [], [], none, none⟩])
 (.seq (.region [0, 2, 3] (some [2, 3, 20]) none
     [⟨some 5, .mv (.t 0), [], [], none, none⟩,
      ⟨some 6, .bin .lss (.t 5) (.c (.d (.int .i64 0))), [], [], none, none⟩,
      ⟨some 7, .build [.d (.bool false), .cap0] [(0, 1, (.t 6))], [], [], none, none⟩,
      ⟨some 3, .alloc 3 [.d (.bool false), .cap0], [], [], none, none⟩,
      ⟨none, .store 2 (.t 3) (.t 7), [], [], none, none⟩])
  (R_c3))) (St.mk s o) Q =
 ((¬ I 2 ∧ Fresh (St.mk s o) 2 (some 2) ∧ V.refsL 2 [V.d (.bool false), V.cap0] = false ∧
demand (binV BinOp.lss (s 0) (V.d (.int .i64 0))) (fun x1 =>
demand ((buildN [V.d (.bool false), V.cap0] [(0, 1, x1)]).map V.agg) (fun x2 =>
(¬ I 3 ∧ Fresh (St.mk (upd (upd (upd (look [(0, (s 0)), (2, (V.ptr 2 0))]) 5 (s 0)) 6 x1) 7 x2) (looko ([2, 20].map fun n => (n, (upd o 2 (some (Ob.box [V.d (.bool false), V.cap0]))) n)))) 3 (some 3) ∧ V.refsL 3 [V.d (.bool false), V.cap0] = false ∧
storeK (V.ptr 3 0) (cellsV x2) 2 (upd (looko ([2, 20].map fun n => (n, (upd o 2 (some (Ob.box [V.d (.bool false), V.cap0]))) n))) 3 (some (Ob.box [V.d (.bool false), V.cap0]))) (fun m3 ob4 =>
wpB C I R_c3 (St.mk (look [(0, (s 0)), (2, (V.ptr 2 0)), (3, (V.ptr 3 0))]) (looko ([2, 3, 20].map fun n => (n, (upd (upd (looko ([2, 20].map fun n => (n, (upd o 2 (some (Ob.box [V.d (.bool false), V.cap0]))) n))) 3 (some (Ob.box [V.d (.bool false), V.cap0]))) m3 (some ob4)) n)))) Q)))))) := rfl
theorem g_ref02_trim_o1_sh {C : Ctx} {I : Nat → Prop} {s : Nat → V} {o : Nat → Option Ob} {K : St → Prop} : opsB C I [⟨some 14, .pick (.t 6) (.t 13) (.c (.d (.bool false))), [], [], none, none⟩] (St.mk s o) K =
 (demand (pickV (s 6) (s 13) (V.d (.bool false))) (fun x1 =>
K (St.mk (upd s 14 x1) o))) := rfl
theorem g_ref02_trim_o0_sh {R_o1 : List AOper} {C : Ctx} {I : Nat → Prop} {s : Nat → V} {o : Nat → Option Ob} {K : St → Prop} : opsB C I (⟨some 7, .mv (.t 0), [], [], (some (3, 6, true)), none⟩ ::
     ⟨some 8, .mv (.t 0), [], [], (some (3, 6, true)), none⟩ ::
     ⟨some 9, .len (.t 8), [], [], (some (3, 6, true)), none⟩ ::
     ⟨some 10, .bin .sub (.t 9) (.c (.d (.int .i64 1))), [], [], (some (3, 6, true)), none⟩ ::
     ⟨some 11, .iaddr 1 (.t 7) (.t 10), [], [], (some (3, 6, true)), none⟩ ::
     ⟨some 12, .load none (.t 11), [], [], (some (3, 6, true)), none⟩ ::
     ⟨some 13, .bin .eql (.t 12) (.c (.d (.int .i64 0))), [], [], (some (3, 6, true)), (some ([0, 6, 13], (some [])))⟩ ::
     R_o1) (St.mk s o) K =
 (guardK (s 6) true
 (demand (lenV o (s 0)) (fun x1 =>
demand (binV BinOp.sub x1 (V.d (.int .i64 1))) (fun x2 =>
demand (iaddrV o 1 (s 0) x2) (fun x3 =>
demand (loadV o none x3) (fun x4 =>
demand (binV BinOp.eql x4 (V.d (.int .i64 0))) (fun x5 =>
opsB C I R_o1 (St.mk (look [(0, (s 0)), (6, (V.d (D.bool true))), (13, x5)]) (looko ([].map fun n => (n, o n)))) K))))))
 (opsB C I R_o1 (St.mk (look [(0, (s 0)), (6, (V.d (D.bool false))), (13, (V.tup []))]) (looko ([].map fun n => (n, o n)))) K)
 (opsB C I R_o1 (St.mk (look [(0, (s 0)), (6, (V.tup [])), (13, (V.tup []))]) (looko ([].map fun n => (n, o n)))) K)) := rfl
theorem g_ref02_trim_c0_sh {C : Ctx} {I : Nat → Prop} {s : Nat → V} {o : Nat → Option Ob} {Q : Ex → St → Prop} : wpB C I (.cond (.t 14) (.skip)
 (.exit 0)) (St.mk s o) Q =
 (condK (s 14)
 (Q .normal (St.mk s o))
 (Q (.exit 0) (St.mk s o))) := rfl
theorem g_ref02_trim_c1_sh {C : Ctx} {I : Nat → Prop} {s : Nat → V} {o : Nat → Option Ob} {Q : Ex → St → Prop} : wpB C I (.block 1 [0] (some []) (.region [0] (some []) none
    [⟨some 15, .mv (.t 0), [], [], none, none⟩,
     ⟨some 16, .mv (.t 0), [], [], none, none⟩,
     ⟨some 17, .len (.t 16), [], [], none, none⟩,
     ⟨some 18, .bin .sub (.t 17) (.c (.d (.int .i64 1))), [], [], none, none⟩,
     ⟨some 19, .slc 1 (.t 15) none (some (.t 18)), [], [], none, none⟩,
     ⟨some 0, .mv (.t 19), [], [], none, none⟩])) (St.mk s o) Q =
 (demand (lenV o (s 0)) (fun x1 =>
demand (binV BinOp.sub x1 (V.d (.int .i64 1))) (fun x2 =>
demand (slcV 1 (s 0) none (some x2)) (fun x3 =>
Q .normal (St.mk (look [(0, x3)]) (looko ([].map fun n => (n, o n)))))))) := rfl
theorem g_ref02_trim_l0_sh {R_l0 : ACode} {R_o0 : List AOper} {R_c0 : ACode} {R_c1 : ACode} {C : Ctx} {I : Nat → Prop} {s : Nat → V} {o : Nat → Option Ob} {Q : Ex → St → Prop} (hL : R_l0 = .loop [0] (some []) (.seq (.seq (.region [0, 14] (some []) none
      (⟨some 3, .mv (.t 0), [], [], none, none⟩ ::
       ⟨some 4, .len (.t 3), [], [], none, none⟩ ::
       ⟨some 5, .bin .gtr (.t 4) (.c (.d (.int .i64 0))), [], [], none, none⟩ ::
       ⟨some 6, .mv (.t 5), [], [], none, (some ([0, 6], (some [])))⟩ ::
       R_o0))
   (R_c0))
  (R_c1)))
 (h : demand (lenV (looko ([].map fun n => (n, o n))) (s 0)) (fun x1 =>
demand (binV BinOp.gtr x1 (V.d (.int .i64 0))) (fun x2 =>
opsB C I R_o0 (St.mk (look [(0, (s 0)), (6, x2)]) (looko ([].map fun n => (n, o n)))) (fun st => (seqK (fun st => wpB C I R_c0 st (seqK (fun st => wpB C I R_c1 st (seqK (fun s => wpB C I R_l0 s Q) Q)) (seqK (fun s => wpB C I R_l0 s Q) Q))) (seqK (fun st => wpB C I R_c1 st (seqK (fun s => wpB C I R_l0 s Q) Q)) (seqK (fun s => wpB C I R_l0 s Q) Q))) .normal (St.trim st [0, 14] (some [])))))) : wpB C I R_l0 (St.mk s o) Q := w_loopC hL h
theorem g_ref02_trim_c2_sh {C : Ctx} {I : Nat → Prop} {s : Nat → V} {o : Nat → Option Ob} {Q : Ex → St → Prop} : wpB C I (.seq (.region [2] (some []) none
    [⟨some 20, .mv (.t 0), [], [], none, none⟩,
     ⟨some 2, .mv (.t 20), [], [], none, none⟩])
 (.ret)) (St.mk s o) Q =
 (Q .ret (St.mk (look [(2, (s 0))]) (looko ([].map fun n => (n, o n))))) := rfl
theorem g_ref02_trim_code_sh {R_l0 : ACode} {R_c2 : ACode} {C : Ctx} {I : Nat → Prop} {s : Nat → V} {o : Nat → Option Ob} {Q : Ex → St → Prop} : wpB C I (.seq (.region [0] (some []) none
    [⟨some 2, .mv (.c (.cap0)), [], [], none, none⟩])
 (.seq (.block 0 [0] (some []) (R_l0))
  (R_c2))) (St.mk s o) Q =
 (wpB C I R_l0 (St.mk (look [(0, (s 0))]) (looko ([].map fun n => (n, o n)))) (blockK 0 [0] (some []) (seqK (fun st => wpB C I R_c2 st Q) Q))) := rfl
theorem g_ref02_size_c0_sh {C : Ctx} {I : Nat → Prop} {s : Nat → V} {o : Nat → Option Ob} {Q : Ex → St → Prop} : wpB C I (.seq (.region [4] (some []) none
    [⟨some 4, .mv (.c (.d (.int .i64 1))), [], [], none, none⟩])
 (.ret)) (St.mk s o) Q =
 (Q .ret (St.mk (look [(4, (V.d (.int .i64 1)))]) (looko ([].map fun n => (n, o n))))) := rfl
theorem g_ref02_size_c1_sh {C : Ctx} {I : Nat → Prop} {s : Nat → V} {o : Nat → Option Ob} {Q : Ex → St → Prop} : wpB C I (.seq (.region [0, 1, 5, 40] (some []) (some ([0, 1, 2, 3, 4, 5, 6, 7, 8], .done))
    [⟨some 32, .mv (.t 0), [], [], none, none⟩,
     ⟨some 33, .mv (.t 5), [], [], none, none⟩,
     ⟨some 34, .iaddr 1 (.t 32) (.t 33), [], [0, 1], none, none⟩,
     ⟨some 35, .load none (.t 34), [], [2], none, none⟩,
     ⟨some 36, .mv (.t 1), [], [], none, none⟩,
     ⟨some 37, .mv (.t 5), [], [], none, none⟩,
     ⟨some 38, .iaddr 1 (.t 36) (.t 37), [], [4, 5], none, none⟩,
     ⟨some 39, .load none (.t 38), [], [6], none, none⟩,
     ⟨some 40, .bin .gtr (.t 35) (.t 39), [], [3, 7], none, none⟩])
 (.cond (.t 40) (.seq (.region [4] (some []) none
      [⟨some 4, .mv (.c (.d (.int .i64 1))), [], [], none, none⟩])
   (.ret))
  (.skip))) (St.mk s o) Q =
 ((s 32) = V.undef ∧ (quietV o ((s 0) :: [(s 0)]) ∧
(s 33) = V.undef ∧ (quietV o ((s 5) :: [(s 5)]) ∧
(s 34) = V.undef ∧ (demand (iaddrV o 1 (s 0) (s 5)) (fun x3 => quietV o (x3 :: [(s 0), (s 5)]) ∧
(s 35) = V.undef ∧ (demand (loadV o none x3) (fun x4 => quietV o (x4 :: [x3]) ∧
(s 36) = V.undef ∧ (quietV o ((s 1) :: [(s 1)]) ∧
(s 37) = V.undef ∧ (quietV o ((s 5) :: [(s 5)]) ∧
(s 38) = V.undef ∧ (demand (iaddrV o 1 (s 1) (s 5)) (fun x7 => quietV o (x7 :: [(s 1), (s 5)]) ∧
(s 39) = V.undef ∧ (demand (loadV o none x7) (fun x8 => quietV o (x8 :: [x7]) ∧
(s 40) = V.undef ∧ (demand (binV BinOp.gtr x4 x8) (fun x9 => quietV o (x9 :: [x4, x8]) ∧
condK x9
 (Q .ret (St.mk (look [(4, (V.d (.int .i64 1)))]) (looko ([].map fun n => (n, o n)))))
 (Q .normal (St.mk (look [(0, (s 0)), (1, (s 1)), (5, (s 5)), (40, x9)]) (looko ([].map fun n => (n, o n)))))))))))))))))))) := rfl
theorem g_ref02_size_c2_sh {C : Ctx} {I : Nat → Prop} {s : Nat → V} {o : Nat → Option Ob} {Q : Ex → St → Prop} : wpB C I (.region [0, 1, 5] (some []) none
   [⟨some 21, .mv (.t 5), [], [], none, none⟩,
    ⟨some 22, .bin .sub (.t 21) (.c (.d (.int .i64 1))), [], [], none, none⟩,
    ⟨some 5, .mv (.t 22), [], [], none, none⟩]) (St.mk s o) Q =
 (demand (binV BinOp.sub (s 5) (V.d (.int .i64 1))) (fun x1 =>
Q .normal (St.mk (look [(0, (s 0)), (1, (s 1)), (5, x1)]) (looko ([].map fun n => (n, o n)))))) := rfl
theorem g_ref02_size_l0_sh {R_l0 : ACode} {R_c1 : ACode} {R_c2 : ACode} {C : Ctx} {I : Nat → Prop} {s : Nat → V} {o : Nat → Option Ob} {Q : Ex → St → Prop} (hL : R_l0 = .loop [0, 1, 5] (some []) (.seq (.seq (.region [0, 1, 5, 20] (some []) none
      [⟨some 19, .mv (.t 5), [], [], none, none⟩,
       ⟨some 20, .bin .geq (.t 19) (.c (.d (.int .i64 0))), [], [], none, none⟩])
   (.cond (.t 20) (.skip)
    (.exit 0)))
  (.seq (.block 1 [0, 1, 5] (some []) (.seq (.seq (.region [0, 1, 5, 31] (some []) (some ([0, 1, 2, 3, 4, 5, 6, 7, 8], .done))
         [⟨some 23, .mv (.t 0), [], [], none, none⟩,
          ⟨some 24, .mv (.t 5), [], [], none, none⟩,
          ⟨some 25, .iaddr 1 (.t 23) (.t 24), [], [0, 1], none, none⟩,
          ⟨some 26, .load none (.t 25), [], [2], none, none⟩,
          ⟨some 27, .mv (.t 1), [], [], none, none⟩,
          ⟨some 28, .mv (.t 5), [], [], none, none⟩,
          ⟨some 29, .iaddr 1 (.t 27) (.t 28), [], [4, 5], none, none⟩,
          ⟨some 30, .load none (.t 29), [], [6], none, none⟩,
          ⟨some 31, .bin .lss (.t 26) (.t 30), [], [3, 7], none, none⟩])
      (.cond (.t 31) (.seq (.region [4] (some []) none
           [⟨some 4, .mv (.c (.d (.int .i64 (-1)))), [], [], none, none⟩])
        (.ret))
       (.skip)))
     (R_c1)))
   (R_c2))))
 (h : demand (binV BinOp.geq (s 5) (V.d (.int .i64 0))) (fun x1 =>
condK x1
 (V.undef = V.undef ∧ (quietV (looko ([].map fun n => (n, o n))) ((s 0) :: [(s 0)]) ∧
V.undef = V.undef ∧ (quietV (looko ([].map fun n => (n, o n))) ((s 5) :: [(s 5)]) ∧
V.undef = V.undef ∧ (demand (iaddrV (looko ([].map fun n => (n, o n))) 1 (s 0) (s 5)) (fun x4 => quietV (looko ([].map fun n => (n, o n))) (x4 :: [(s 0), (s 5)]) ∧
V.undef = V.undef ∧ (demand (loadV (looko ([].map fun n => (n, o n))) none x4) (fun x5 => quietV (looko ([].map fun n => (n, o n))) (x5 :: [x4]) ∧
V.undef = V.undef ∧ (quietV (looko ([].map fun n => (n, o n))) ((s 1) :: [(s 1)]) ∧
V.undef = V.undef ∧ (quietV (looko ([].map fun n => (n, o n))) ((s 5) :: [(s 5)]) ∧
V.undef = V.undef ∧ (demand (iaddrV (looko ([].map fun n => (n, o n))) 1 (s 1) (s 5)) (fun x8 => quietV (looko ([].map fun n => (n, o n))) (x8 :: [(s 1), (s 5)]) ∧
V.undef = V.undef ∧ (demand (loadV (looko ([].map fun n => (n, o n))) none x8) (fun x9 => quietV (looko ([].map fun n => (n, o n))) (x9 :: [x8]) ∧
V.undef = V.undef ∧ (demand (binV BinOp.lss x5 x9) (fun x10 => quietV (looko ([].map fun n => (n, o n))) (x10 :: [x5, x9]) ∧
condK x10
 (Q .ret (St.mk (look [(4, (V.d (.int .i64 (-1))))]) (looko ([].map fun n => (n, o n)))))
 (wpB C I R_c1 (St.mk (look [(0, (s 0)), (1, (s 1)), (5, (s 5)), (31, x10)]) (looko ([].map fun n => (n, o n)))) (blockK 1 [0, 1, 5] (some []) (seqK (fun st => wpB C I R_c2 st (seqK (fun s => wpB C I R_l0 s Q) Q)) (seqK (fun s => wpB C I R_l0 s Q) Q)))))))))))))))))))
 (Q (.exit 0) (St.mk (look [(0, (s 0)), (1, (s 1)), (5, (s 5)), (20, x1)]) (looko ([].map fun n => (n, o n))))))) : wpB C I R_l0 (St.mk s o) Q := w_loopC hL h
theorem g_ref02_size_c3_sh {R_l0 : ACode} {C : Ctx} {I : Nat → Prop} {s : Nat → V} {o : Nat → Option Ob} {Q : Ex → St → Prop} : wpB C I (.block 0 [] (some []) (R_l0)) (St.mk s o) Q =
 (wpB C I R_l0 (St.mk s o) (blockK 0 [] (some []) Q)) := rfl
theorem g_ref02_size_c4_sh {C : Ctx} {I : Nat → Prop} {s : Nat → V} {o : Nat → Option Ob} {Q : Ex → St → Prop} : wpB C I (.seq (.region [4] (some []) none
    [⟨some 4, .mv (.c (.d (.int .i64 0))), [], [], none, none⟩])
 (.ret)) (St.mk s o) Q =
 (Q .ret (St.mk (look [(4, (V.d (.int .i64 0)))]) (looko ([].map fun n => (n, o n))))) := rfl
theorem g_ref02_size_c5_sh {R_c3 : ACode} {R_c4 : ACode} {C : Ctx} {I : Nat → Prop} {s : Nat → V} {o : Nat → Option Ob} {Q : Ex → St → Prop} : wpB C I (.seq (.seq (.region [0, 1, 5] (some []) none
     [⟨some 16, .mv (.t 0), [], [], none, none⟩,
      ⟨some 17, .len (.t 16), [], [], none, none⟩,
      ⟨some 18, .bin .sub (.t 17) (.c (.d (.int .i64 1))), [], [], none, none⟩,
      ⟨some 5, .mv (.t 18), [], [], none, none⟩])
  (R_c3))
 (R_c4)) (St.mk s o) Q =
 (demand (lenV o (s 0)) (fun x1 =>
demand (binV BinOp.sub x1 (V.d (.int .i64 1))) (fun x2 =>
wpB C I R_c3 (St.mk (look [(0, (s 0)), (1, (s 1)), (5, x2)]) (looko ([].map fun n => (n, o n)))) (seqK (fun st => wpB C I R_c4 st Q) Q)))) := rfl
theorem g_ref02_size_code_sh {R_c0 : ACode} {R_c5 : ACode} {C : Ctx} {I : Nat → Prop} {s : Nat → V} {o : Nat → Option Ob} {Q : Ex → St → Prop} : wpB C I (.seq (.region [0, 1] (some []) none
    [⟨some 4, .mv (.c (.d (.int .i64 0))), [], [], none, none⟩])
 (.seq (.seq (.region [0, 1, 10] (some []) none
      [⟨some 6, .mv (.t 0), [], [], none, none⟩,
       ⟨some 7, .len (.t 6), [], [], none, none⟩,
       ⟨some 8, .mv (.t 1), [], [], none, none⟩,
       ⟨some 9, .len (.t 8), [], [], none, none⟩,
       ⟨some 10, .bin .neq (.t 7) (.t 9), [], [], none, none⟩])
   (.cond (.t 10) (.seq (.seq (.region [15] (some []) none
         [⟨some 11, .mv (.t 0), [], [], none, none⟩,
          ⟨some 12, .len (.t 11), [], [], none, none⟩,
          ⟨some 13, .mv (.t 1), [], [], none, none⟩,
          ⟨some 14, .len (.t 13), [], [], none, none⟩,
          ⟨some 15, .bin .lss (.t 12) (.t 14), [], [], none, none⟩])
      (.cond (.t 15) (.seq (.region [4] (some []) none
           [⟨some 4, .mv (.c (.d (.int .i64 (-1)))), [], [], none, none⟩])
        (.ret))
       (.skip)))
     (R_c0))
    (.skip)))
  (R_c5))) (St.mk s o) Q =
 (demand (lenV (looko ([].map fun n => (n, o n))) (s 0)) (fun x1 =>
demand (lenV (looko ([].map fun n => (n, o n))) (s 1)) (fun x2 =>
demand (binV BinOp.neq x1 x2) (fun x3 =>
condK x3
 (demand (lenV (looko ([].map fun n => (n, o n))) (s 0)) (fun x4 =>
demand (lenV (looko ([].map fun n => (n, o n))) (s 1)) (fun x5 =>
demand (binV BinOp.lss x4 x5) (fun x6 =>
condK x6
 (Q .ret (St.mk (look [(4, (V.d (.int .i64 (-1))))]) (looko ([].map fun n => (n, o n)))))
 (wpB C I R_c0 (St.mk (look [(15, x6)]) (looko ([].map fun n => (n, o n)))) (seqK (fun st => wpB C I R_c5 st Q) Q))))))
 (wpB C I R_c5 (St.mk (look [(0, (s 0)), (1, (s 1)), (10, x3)]) (looko ([].map fun n => (n, o n)))) Q))))) := rfl
theorem g_ref02_less_c0_sh {C : Ctx} {I : Nat → Prop} {s : Nat → V} {o : Nat → Option Ob} {Q : Ex → St → Prop} : wpB C I (.region [0, 1, 5, 6, 7] (some [38]) none
   [⟨some 35, .mv (.t 5), [], [], none, none⟩,
    ⟨some 36, .mv (.t 8), [], [], none, none⟩,
    ⟨some 37, .bsl none 1 [] 1 [(0, (.t 36))], [], [], none, none⟩,
    ⟨some 38, .app (some 38) 1 8 (.t 35) (.t 37), [], [], none, none⟩,
    ⟨some 5, .mv (.t 38), [], [], none, none⟩]) (St.mk s o) Q =
 (lstK (partsN 1 [(s 8)]) (fun es1 =>
lstK (readD o (V.d (D.sl es1))) (fun ys2 => (∀ e ∈ ys2, e.length = 1) ∧ appK (s 5)
 (ys2.length * 8 ≤ 140737488355328 ∧ ys2.length ≤ 140737488355328 ∧ ¬ I 38 ∧ Fresh (St.mk (upd (upd (upd s 35 (s 5)) 36 (s 8)) 37 (V.d (D.sl es1))) o) 38 (some 38) ∧
Q .normal (St.mk (look [(0, (s 0)), (1, (s 1)), (5, (V.own 38)), (6, (s 6)), (7, (s 7))]) (looko ([38].map fun n => (n, (upd o 38 (some (Ob.row 1 ys2))) n)))))
 (fun m3 => ¬ I m3 ∧ rowK (o m3) (fun z4 es5 => z4 = 1 ∧ (es5.length + ys2.length) * 8 ≤ 140737488355328 ∧ es5.length + ys2.length ≤ 140737488355328 ∧
Q .normal (St.mk (look [(0, ((fun t => scrubV m3 (s t)) 0)), (1, ((fun t => scrubV m3 (s t)) 1)), (5, (V.own m3)), (6, ((fun t => scrubV m3 (s t)) 6)), (7, ((fun t => scrubV m3 (s t)) 7))]) (looko ([38].map fun n => (n, (upd (fun n => (o n).map (Ob.scrub m3)) m3 (some (Ob.row 1 (es5 ++ ys2)))) n))))))))) := rfl
theorem g_ref02_less_c1_sh {R_c0 : ACode} {C : Ctx} {I : Nat → Prop} {s : Nat → V} {o : Nat → Option Ob} {Q : Ex → St → Prop} : wpB C I (.seq (.region [0, 1, 5, 6, 7, 8] (some [38]) none
    [⟨some 6, .mv (.c (.d (.int .i64 0))), [], [], none, none⟩])
 (.seq (.seq (.region [0, 1, 5, 6, 7, 8, 32] (some [38]) none
      [⟨some 31, .mv (.t 8), [], [], none, none⟩,
       ⟨some 32, .bin .lss (.t 31) (.c (.d (.int .i64 0))), [], [], none, none⟩])
   (.cond (.t 32) (.seq (.region [0, 1, 5, 7, 8] (some [38]) none
        [⟨some 33, .mv (.t 8), [], [], none, none⟩,
         ⟨some 34, .bin .add (.t 33) (.c (.d (.int .i64 10))), [], [], none, none⟩,
         ⟨some 8, .mv (.t 34), [], [], none, none⟩])
     (.region [0, 1, 5, 6, 7, 8] (some [38]) none
        [⟨some 6, .mv (.c (.d (.int .i64 1))), [], [], none, none⟩]))
    (.skip)))
  (R_c0))) (St.mk s o) Q =
 (demand (binV BinOp.lss (s 8) (V.d (.int .i64 0))) (fun x1 =>
condK x1
 (demand (binV BinOp.add (s 8) (V.d (.int .i64 10))) (fun x2 =>
wpB C I R_c0 (St.mk (look [(0, (s 0)), (1, (s 1)), (5, (s 5)), (6, (V.d (.int .i64 1))), (7, (s 7)), (8, x2)]) (looko ([38].map fun n => (n, o n)))) Q))
 (wpB C I R_c0 (St.mk (look [(0, (s 0)), (1, (s 1)), (5, (s 5)), (6, (V.d (.int .i64 0))), (7, (s 7)), (8, (s 8)), (32, x1)]) (looko ([38].map fun n => (n, o n)))) Q))) := rfl
theorem g_ref02_less_c2_sh {R_c1 : ACode} {C : Ctx} {I : Nat → Prop} {s : Nat → V} {o : Nat → Option Ob} {Q : Ex → St → Prop} : wpB C I (.seq (.seq (.region [0, 1, 5, 7, 8, 24] (some [38]) none
     [⟨some 21, .mv (.t 7), [], [], none, none⟩,
      ⟨some 22, .mv (.t 1), [], [], none, none⟩,
      ⟨some 23, .len (.t 22), [], [], none, none⟩,
      ⟨some 24, .bin .lss (.t 21) (.t 23), [], [], none, none⟩])
  (.cond (.t 24) (.region [0, 1, 5, 7, 8] (some [38]) none
      [⟨some 25, .mv (.t 8), [], [], none, none⟩,
       ⟨some 26, .mv (.t 1), [], [], none, none⟩,
       ⟨some 27, .mv (.t 7), [], [], none, none⟩,
       ⟨some 28, .iaddr 1 (.t 26) (.t 27), [], [], none, none⟩,
       ⟨some 29, .load none (.t 28), [], [], none, none⟩,
       ⟨some 30, .bin .sub (.t 25) (.t 29), [], [], none, none⟩,
       ⟨some 8, .mv (.t 30), [], [], none, none⟩])
   (.skip)))
 (R_c1)) (St.mk s o) Q =
 (demand (lenV o (s 1)) (fun x1 =>
demand (binV BinOp.lss (s 7) x1) (fun x2 =>
condK x2
 (demand (iaddrV (looko ([38].map fun n => (n, o n))) 1 (s 1) (s 7)) (fun x3 =>
demand (loadV (looko ([38].map fun n => (n, o n))) none x3) (fun x4 =>
demand (binV BinOp.sub (s 8) x4) (fun x5 =>
wpB C I R_c1 (St.mk (look [(0, (s 0)), (1, (s 1)), (5, (s 5)), (7, (s 7)), (8, x5)]) (looko ([38].map fun n => (n, o n)))) Q))))
 (wpB C I R_c1 (St.mk (look [(0, (s 0)), (1, (s 1)), (5, (s 5)), (7, (s 7)), (8, (s 8)), (24, x2)]) (looko ([38].map fun n => (n, o n)))) Q)))) := rfl
theorem g_ref02_less_c3_sh {C : Ctx} {I : Nat → Prop} {s : Nat → V} {o : Nat → Option Ob} {Q : Ex → St → Prop} : wpB C I (.region [0, 1, 5, 6, 7] (some [38]) none
   [⟨some 13, .mv (.t 7), [], [], none, none⟩,
    ⟨some 14, .bin .add (.t 13) (.c (.d (.int .i64 1))), [], [], none, none⟩,
    ⟨some 7, .mv (.t 14), [], [], none, none⟩]) (St.mk s o) Q =
 (demand (binV BinOp.add (s 7) (V.d (.int .i64 1))) (fun x1 =>
Q .normal (St.mk (look [(0, (s 0)), (1, (s 1)), (5, (s 5)), (6, (s 6)), (7, x1)]) (looko ([38].map fun n => (n, o n)))))) := rfl
theorem g_ref02_less_c4_sh {R_c2 : ACode} {R_c3 : ACode} {C : Ctx} {I : Nat → Prop} {s : Nat → V} {o : Nat → Option Ob} {Q : Ex → St → Prop} : wpB C I (.seq (.block 1 [0, 1, 5, 6, 7] (some [38]) (.seq (.region [0, 1, 5, 7, 8] (some [38]) none
      [⟨some 15, .mv (.t 0), [], [], none, none⟩,
       ⟨some 16, .mv (.t 7), [], [], none, none⟩,
       ⟨some 17, .iaddr 1 (.t 15) (.t 16), [], [], none, none⟩,
       ⟨some 18, .load none (.t 17), [], [], none, none⟩,
       ⟨some 19, .mv (.t 6), [], [], none, none⟩,
       ⟨some 20, .bin .sub (.t 18) (.t 19), [], [], none, none⟩,
       ⟨some 8, .mv (.t 20), [], [], none, none⟩])
   (R_c2)))
 (R_c3)) (St.mk s o) Q =
 (demand (iaddrV o 1 (s 0) (s 7)) (fun x1 =>
demand (loadV o none x1) (fun x2 =>
demand (binV BinOp.sub x2 (s 6)) (fun x3 =>
wpB C I R_c2 (St.mk (look [(0, (s 0)), (1, (s 1)), (5, (s 5)), (7, (s 7)), (8, x3)]) (looko ([38].map fun n => (n, o n)))) (blockK 1 [0, 1, 5, 6, 7] (some [38]) (seqK (fun st => wpB C I R_c3 st Q) Q)))))) := rfl
theorem g_ref02_less_l0_sh {R_l0 : ACode} {R_c4 : ACode} {C : Ctx} {I : Nat → Prop} {s : Nat → V} {o : Nat → Option Ob} {Q : Ex → St → Prop} (hL : R_l0 = .loop [0, 1, 5, 6, 7] (some [38]) (.seq (.seq (.region [0, 1, 5, 6, 7, 12] (some [38]) none
      [⟨some 9, .mv (.t 7), [], [], none, none⟩,
       ⟨some 10, .mv (.t 0), [], [], none, none⟩,
       ⟨some 11, .len (.t 10), [], [], none, none⟩,
       ⟨some 12, .bin .lss (.t 9) (.t 11), [], [], none, none⟩])
   (.cond (.t 12) (.skip)
    (.exit 0)))
  (R_c4)))
 (h : demand (lenV (looko ([38].map fun n => (n, o n))) (s 0)) (fun x1 =>
demand (binV BinOp.lss (s 7) x1) (fun x2 =>
condK x2
 (wpB C I R_c4 (St.mk (look [(0, (s 0)), (1, (s 1)), (5, (s 5)), (6, (s 6)), (7, (s 7)), (12, x2)]) (looko ([38].map fun n => (n, o n)))) (seqK (fun s => wpB C I R_l0 s Q) Q))
 (Q (.exit 0) (St.mk (look [(0, (s 0)), (1, (s 1)), (5, (s 5)), (6, (s 6)), (7, (s 7)), (12, x2)]) (looko ([38].map fun n => (n, o n)))))))) : wpB C I R_l0 (St.mk s o) Q := w_loopC hL h
theorem g_ref02_less_c5_sh {C : Ctx} {I : Nat → Prop} {s : Nat → V} {o : Nat → Option Ob} {Q : Ex → St → Prop} : wpB C I (.seq (.region [4] (some []) none
    [⟨some 39, .mv (.t 5), [], [], none, none⟩,
     ⟨some 40, .call 118 [(.t 39)], [39], [], none, none⟩,
     ⟨some 4, .mv (.t 40), [], [], none, none⟩])
 (.ret)) (St.mk s o) Q =
 (frzK (St.mk (upd s 39 (s 5)) o) [39] (fun st1 =>
callK C I (St.mk st1.s st1.o) (some 40) 118 [(st1.s 39)] (fun r2 or2 =>
Q .ret (St.mk (look [(4, r2)]) (looko ([].map fun n => (n, or2 n))))))) := rfl
theorem g_ref02_less_code_sh {R_l0 : ACode} {R_c5 : ACode} {C : Ctx} {I : Nat → Prop} {s : Nat → V} {o : Nat → Option Ob} {Q : Ex → St → Prop} : wpB C I (.seq (.region [0, 1] (some []) none
    [⟨some 4, .mv (.c (.cap0)), [], [], none, none⟩])
 (.seq (.region [0, 1, 5] (some [38]) none
     [⟨some 5, .mv (.c (.cap0)), [], [], none, none⟩])
  (.seq (.region [0, 1, 5, 6] (some [38]) none
      [⟨some 6, .mv (.c (.d (.int .i64 0))), [], [], none, none⟩])
   (.seq (.seq (.region [0, 1, 5, 6, 7] (some [38]) none
        [⟨some 7, .mv (.c (.d (.int .i64 0))), [], [], none, none⟩])
     (.block 0 [5] (some [38]) (R_l0)))
    (R_c5))))) (St.mk s o) Q =
 (wpB C I R_l0 (St.mk (look [(0, (s 0)), (1, (s 1)), (5, (V.cap0)), (6, (V.d (.int .i64 0))), (7, (V.d (.int .i64 0)))]) (looko ([38].map fun n => (n, (looko ([].map fun n => (n, o n))) n)))) (blockK 0 [5] (some [38]) (seqK (fun st => wpB C I R_c5 st Q) Q))) := rfl
theorem g_ref02_double_code_sh {C : Ctx} {I : Nat → Prop} {s : Nat → V} {o : Nat → Option Ob} {Q : Ex → St → Prop} : wpB C I (.seq (.region [0] (some []) none
    [⟨some 2, .mv (.c (.cap0)), [], [], none, none⟩])
 (.seq (.region [2] (some []) none
     [⟨some 3, .mv (.t 0), [], [], none, none⟩,
      ⟨some 4, .build [.d (.bool false), .cap0] [(1, 1, (.t 3))], [], [], none, none⟩,
      ⟨some 5, .call 116 [(.c (.d (.int .i64 2)))], [], [], none, none⟩,
      ⟨some 6, .call 117 [(.t 4), (.t 5)], [], [], none, none⟩,
      ⟨some 7, .fld 1 none (.t 6), [], [], none, none⟩,
      ⟨some 2, .mv (.t 7), [], [], none, none⟩])
  (.ret))) (St.mk s o) Q =
 (demand ((buildN [V.d (.bool false), V.cap0] [(1, 1, (s 0))]).map V.agg) (fun x1 =>
callK C I (St.mk (upd (upd (look [(0, (s 0))]) 3 (s 0)) 4 x1) (looko ([].map fun n => (n, o n)))) (some 5) 116 [(V.d (.int .i64 2))] (fun r2 or2 =>
callK C I (St.mk (upd (upd (upd (look [(0, (s 0))]) 3 (s 0)) 4 x1) 5 r2) or2) (some 6) 117 [x1, r2] (fun r3 or3 =>
demand (fldV 1 none r3) (fun x4 =>
Q .ret (St.mk (look [(2, x4)]) (looko ([].map fun n => (n, or3 n))))))))) := rfl
theorem g_internal_stringslite_CutSuffix_c0_sh {C : Ctx} {I : Nat → Prop} {s : Nat → V} {o : Nat → Option Ob} {Q : Ex → St → Prop} : wpB C I (.seq (.region [4, 5] (some []) none
    [⟨some 11, .mv (.t 0), [], [], none, none⟩,
     ⟨some 12, .mv (.t 0), [], [], none, none⟩,
     ⟨some 13, .lenS (.t 12), [], [], none, none⟩,
     ⟨some 14, .mv (.t 1), [], [], none, none⟩,
     ⟨some 15, .lenS (.t 14), [], [], none, none⟩,
     ⟨some 16, .bin .sub (.t 13) (.t 15), [], [], none, none⟩,
     ⟨some 17, .slcS (.t 11) none (some (.t 16)), [], [], none, none⟩,
     ⟨some 4, .mv (.t 17), [], [], none, none⟩,
     ⟨some 5, .mv (.c (.d (.bool true))), [], [], none, none⟩])
 (.ret)) (St.mk s o) Q =
 (demand (lenSV (s 0)) (fun x1 =>
demand (lenSV (s 1)) (fun x2 =>
demand (binV BinOp.sub x1 x2) (fun x3 =>
demand (slcSV (s 0) none (some x3)) (fun x4 =>
Q .ret (St.mk (look [(4, x4), (5, (V.d (.bool true)))]) (looko ([].map fun n => (n, o n))))))))) := rfl
theorem g_internal_stringslite_CutSuffix_code_sh {R_c0 : ACode} {C : Ctx} {I : Nat → Prop} {s : Nat → V} {o : Nat → Option Ob} {Q : Ex → St → Prop} : wpB C I (.seq (.region [0, 1] (some []) none
    [⟨some 4, .mv (.c (.d (.str []))), [], [], none, none⟩,
     ⟨some 5, .mv (.c (.d (.bool false))), [], [], none, none⟩])
 (.seq (.seq (.region [0, 1, 9] (some []) none
      [⟨some 6, .mv (.t 0), [], [], none, none⟩,
       ⟨some 7, .mv (.t 1), [], [], none, none⟩,
       ⟨some 8, .call 141 [(.t 6), (.t 7)], [], [], none, none⟩,
       ⟨some 9, .un .not (.t 8), [], [], none, none⟩])
   (.cond (.t 9) (.seq (.region [4, 5] (some []) none
        [⟨some 10, .mv (.t 0), [], [], none, none⟩,
         ⟨some 4, .mv (.t 10), [], [], none, none⟩,
         ⟨some 5, .mv (.c (.d (.bool false))), [], [], none, none⟩])
     (.ret))
    (.skip)))
  (R_c0))) (St.mk s o) Q =
 (callK C I (St.mk (upd (upd (look [(0, (s 0)), (1, (s 1))]) 6 (s 0)) 7 (s 1)) (looko ([].map fun n => (n, o n)))) (some 8) 141 [(s 0), (s 1)] (fun r1 or1 =>
demand (unV UnOp.not r1) (fun x2 =>
condK x2
 (Q .ret (St.mk (look [(4, (s 0)), (5, (V.d (.bool false)))]) (looko ([].map fun n => (n, or1 n)))))
 (wpB C I R_c0 (St.mk (look [(0, (s 0)), (1, (s 1)), (9, x2)]) (looko ([].map fun n => (n, or1 n)))) Q)))) := rfl
theorem g_ref01_Digits_l0_sh {R_l0 : ACode} {C : Ctx} {I : Nat → Prop} {s : Nat → V} {o : Nat → Option Ob} {Q : Ex → St → Prop} (hL : R_l0 = .loop [0, 3] (some []) (.seq (.seq (.region [0, 3, 11] (some []) none
      [⟨some 10, .mv (.t 0), [], [], none, none⟩,
       ⟨some 11, .bin .gtr (.t 10) (.c (.d (.int .i64 9))), [], [], none, none⟩])
   (.cond (.t 11) (.skip)
    (.exit 0)))
  (.block 1 [0, 3] (some []) (.seq (.region [0, 3] (some []) none
       [⟨some 12, .mv (.t 0), [], [], none, none⟩,
        ⟨some 13, .bin .quo (.t 12) (.c (.d (.int .i64 10))), [], [], none, none⟩,
        ⟨some 0, .mv (.t 13), [], [], none, none⟩])
    (.region [0, 3] (some []) none
       [⟨some 14, .mv (.t 0), [], [], none, none⟩,
        ⟨some 15, .bin .rem (.t 14) (.c (.d (.int .i64 10))), [], [], none, none⟩,
        ⟨some 16, .bin .add (.c (.d (.int .i64 48))) (.t 15), [], [], none, none⟩,
        ⟨some 17, .conv .u8 (.t 16), [], [], none, none⟩,
        ⟨some 18, .bsl none 1 [] 1 [(0, (.t 17))], [], [], none, none⟩,
        ⟨some 19, .bstr (.t 18), [], [], none, none⟩,
        ⟨some 20, .mv (.t 3), [], [], none, none⟩,
        ⟨some 21, .bin .add (.t 19) (.t 20), [], [], none, none⟩,
        ⟨some 3, .mv (.t 21), [], [], none, none⟩])))))
 (h : demand (binV BinOp.gtr (s 0) (V.d (.int .i64 9))) (fun x1 =>
condK x1
 (demand (binV BinOp.quo (s 0) (V.d (.int .i64 10))) (fun x2 =>
demand (binV BinOp.rem x2 (V.d (.int .i64 10))) (fun x3 =>
demand (binV BinOp.add (V.d (.int .i64 48)) x3) (fun x4 =>
demand (convV IntKind.u8 x4) (fun x5 =>
lstK (partsN 1 [x5]) (fun es6 =>
demand (bstrV (V.d (D.sl es6))) (fun x7 =>
demand (binV BinOp.add x7 (s 3)) (fun x8 =>
wpB C I R_l0 (St.mk (look [(0, x2), (3, x8)]) (looko ([].map fun n => (n, o n)))) Q))))))))
 (Q (.exit 0) (St.mk (look [(0, (s 0)), (3, (s 3)), (11, x1)]) (looko ([].map fun n => (n, o n))))))) : wpB C I R_l0 (St.mk s o) Q := w_loopC hL h
theorem g_ref01_Digits_c0_sh {C : Ctx} {I : Nat → Prop} {s : Nat → V} {o : Nat → Option Ob} {Q : Ex → St → Prop} : wpB C I (.seq (.region [2] (some []) none
    [⟨some 22, .mv (.t 3), [], [], none, none⟩,
     ⟨some 2, .mv (.t 22), [], [], none, none⟩])
 (.ret)) (St.mk s o) Q =
 (Q .ret (St.mk (look [(2, (s 3))]) (looko ([].map fun n => (n, o n))))) := rfl
theorem g_ref01_Digits_c1_sh {R_l0 : ACode} {R_c0 : ACode} {C : Ctx} {I : Nat → Prop} {s : Nat → V} {o : Nat → Option Ob} {Q : Ex → St → Prop} : wpB C I (.seq (.block 0 [3] (some []) (R_l0))
 (R_c0)) (St.mk s o) Q =
 (wpB C I R_l0 (St.mk s o) (blockK 0 [3] (some []) (seqK (fun st => wpB C I R_c0 st Q) Q))) := rfl
theorem g_ref01_Digits_code_sh {R_c1 : ACode} {C : Ctx} {I : Nat → Prop} {s : Nat → V} {o : Nat → Option Ob} {Q : Ex → St → Prop} : wpB C I (.seq (.region [0] (some []) none
    [⟨some 2, .mv (.c (.d (.str []))), [], [], none, none⟩])
 (.seq (.region [0, 3] (some []) none
     [⟨some 4, .mv (.t 0), [], [], none, none⟩,
      ⟨some 5, .bin .rem (.t 4) (.c (.d (.int .i64 10))), [], [], none, none⟩,
      ⟨some 6, .bin .add (.c (.d (.int .i64 48))) (.t 5), [], [], none, none⟩,
      ⟨some 7, .conv .u8 (.t 6), [], [], none, none⟩,
      ⟨some 8, .bsl none 1 [] 1 [(0, (.t 7))], [], [], none, none⟩,
      ⟨some 9, .bstr (.t 8), [], [], none, none⟩,
      ⟨some 3, .mv (.t 9), [], [], none, none⟩])
  (R_c1))) (St.mk s o) Q =
 (demand (binV BinOp.rem (s 0) (V.d (.int .i64 10))) (fun x1 =>
demand (binV BinOp.add (V.d (.int .i64 48)) x1) (fun x2 =>
demand (convV IntKind.u8 x2) (fun x3 =>
lstK (partsN 1 [x3]) (fun es4 =>
demand (bstrV (V.d (D.sl es4))) (fun x5 =>
wpB C I R_c1 (St.mk (look [(0, (s 0)), (3, x5)]) (looko ([].map fun n => (n, o n)))) Q)))))) := rfl
theorem g_internal_stringslite_HasSuffix_o1_sh {C : Ctx} {I : Nat → Prop} {s : Nat → V} {o : Nat → Option Ob} {K : St → Prop} : opsB C I [⟨some 20, .pick (.t 10) (.t 19) (.c (.d (.bool false))), [], [], none, none⟩,
     ⟨some 4, .mv (.t 20), [], [], none, none⟩] (St.mk s o) K =
 (demand (pickV (s 10) (s 19) (V.d (.bool false))) (fun x1 =>
K (St.mk (upd (upd s 20 x1) 4 x1) o))) := rfl
theorem g_internal_stringslite_HasSuffix_o0_sh {R_o1 : List AOper} {C : Ctx} {I : Nat → Prop} {s : Nat → V} {o : Nat → Option Ob} {K : St → Prop} : opsB C I (⟨some 11, .mv (.t 0), [], [], (some (5, 10, true)), none⟩ ::
     ⟨some 12, .mv (.t 0), [], [], (some (5, 10, true)), none⟩ ::
     ⟨some 13, .lenS (.t 12), [], [], (some (5, 10, true)), none⟩ ::
     ⟨some 14, .mv (.t 1), [], [], (some (5, 10, true)), none⟩ ::
     ⟨some 15, .lenS (.t 14), [], [], (some (5, 10, true)), none⟩ ::
     ⟨some 16, .bin .sub (.t 13) (.t 15), [], [], (some (5, 10, true)), none⟩ ::
     ⟨some 17, .slcS (.t 11) (some (.t 16)) none, [], [], (some (5, 10, true)), none⟩ ::
     ⟨some 18, .mv (.t 1), [], [], (some (5, 10, true)), none⟩ ::
     ⟨some 19, .bin .eql (.t 17) (.t 18), [], [], (some (5, 10, true)), (some ([10, 19], (some [])))⟩ ::
     R_o1) (St.mk s o) K =
 (guardK (s 10) true
 (demand (lenSV (s 0)) (fun x1 =>
demand (lenSV (s 1)) (fun x2 =>
demand (binV BinOp.sub x1 x2) (fun x3 =>
demand (slcSV (s 0) (some x3) none) (fun x4 =>
demand (binV BinOp.eql x4 (s 1)) (fun x5 =>
opsB C I R_o1 (St.mk (look [(10, (V.d (D.bool true))), (19, x5)]) (looko ([].map fun n => (n, o n)))) K))))))
 (opsB C I R_o1 (St.mk (look [(10, (V.d (D.bool false))), (19, (V.tup []))]) (looko ([].map fun n => (n, o n)))) K)
 (opsB C I R_o1 (St.mk (look [(10, (V.tup [])), (19, (V.tup []))]) (looko ([].map fun n => (n, o n)))) K)) := rfl
theorem g_internal_stringslite_HasSuffix_c0_sh {C : Ctx} {I : Nat → Prop} {s : Nat → V} {o : Nat → Option Ob} {Q : Ex → St → Prop} : wpB C I (.ret) (St.mk s o) Q =
 (Q .ret (St.mk s o)) := rfl
theorem g_internal_stringslite_HasSuffix_code_sh {R_o0 : List AOper} {R_c0 : ACode} {C : Ctx} {I : Nat → Prop} {s : Nat → V} {o : Nat → Option Ob} {Q : Ex → St → Prop} : wpB C I (.seq (.region [0, 1] (some []) none
    [⟨some 4, .mv (.c (.d (.bool false))), [], [], none, none⟩])
 (.seq (.region [4] (some []) none
     (⟨some 5, .mv (.t 0), [], [], none, none⟩ ::
      ⟨some 6, .lenS (.t 5), [], [], none, none⟩ ::
      ⟨some 7, .mv (.t 1), [], [], none, none⟩ ::
      ⟨some 8, .lenS (.t 7), [], [], none, none⟩ ::
      ⟨some 9, .bin .geq (.t 6) (.t 8), [], [], none, none⟩ ::
      ⟨some 10, .mv (.t 9), [], [], none, (some ([0, 1, 10], (some [])))⟩ ::
      R_o0))
  (R_c0))) (St.mk s o) Q =
 (demand (lenSV (s 0)) (fun x1 =>
demand (lenSV (s 1)) (fun x2 =>
demand (binV BinOp.geq x1 x2) (fun x3 =>
opsB C I R_o0 (St.mk (look [(0, (s 0)), (1, (s 1)), (10, x3)]) (looko ([].map fun n => (n, o n)))) (fun st => (seqK (fun st => wpB C I R_c0 st Q) Q) .normal (St.trim st [4] (some []))))))) := rfl

end Pay
