/- What the code of the functions comes to, without slots: an equation for each part; no condition. -/
import Derived.Test.YtbhjjheefdilbaaDoorPayU
import Derived.Test.YtbhjjheefdilbaaDoorPayMoCode
set_option maxRecDepth 20000
set_option maxHeartbeats 400000
set_option linter.unusedVariables false
namespace Pay
open Go
theorem g_law01_MoneyTexts_o7_sh {C : Ctx} {I : Nat → Prop} {s : Nat → V} {o : Nat → Option Ob} {K : St → Prop} : opsB C I [⟨some 50, .pick (.t 46) (.c (.d (.bool true))) (.t 49), [], [], none, none⟩] (St.mk s o) K =
 (demand (pickV (s 46) (V.d (.bool true)) (s 49)) (fun x1 =>
K (St.mk (upd s 50 x1) o))) := rfl

theorem g_law01_MoneyTexts_o6_sh {R_o7 : List AOper} {C : Ctx} {I : Nat → Prop} {s : Nat → V} {o : Nat → Option Ob} {K : St → Prop} : opsB C I (⟨some 47, .mv (.t 8), [], [], (some (14, 46, false)), none⟩ ::
     ⟨some 48, .mv (.t 10), [], [], (some (14, 46, false)), none⟩ ::
     ⟨some 49, .beq true (.t 47) (.t 48), [], [], (some (14, 46, false)), (some ([0, 5, 6, 46, 49], (some [])))⟩ ::
     R_o7) (St.mk s o) K =
 (guardK (s 46) false
 (demand (beqV true (s 8) (s 10)) (fun x1 =>
opsB C I R_o7 (St.mk (look [(0, (s 0)), (5, (s 5)), (6, (s 6)), (46, (V.d (D.bool false))), (49, x1)]) (looko ([].map fun n => (n, o n)))) K))
 (opsB C I R_o7 (St.mk (look [(0, (s 0)), (5, (s 5)), (6, (s 6)), (46, (V.d (D.bool true))), (49, (V.tup []))]) (looko ([].map fun n => (n, o n)))) K)
 (opsB C I R_o7 (St.mk (look [(0, (s 0)), (5, (s 5)), (6, (s 6)), (46, (V.tup [])), (49, (V.tup []))]) (looko ([].map fun n => (n, o n)))) K)) := rfl

theorem g_law01_MoneyTexts_o5_sh {R_o6 : List AOper} {C : Ctx} {I : Nat → Prop} {s : Nat → V} {o : Nat → Option Ob} {K : St → Prop} : opsB C I (⟨some 45, .pick (.t 38) (.c (.d (.bool true))) (.t 44), [], [], none, none⟩ ::
     ⟨some 46, .mv (.t 45), [], [], none, (some ([0, 5, 6, 8, 10, 46], (some [])))⟩ ::
     R_o6) (St.mk s o) K =
 (demand (pickV (s 38) (V.d (.bool true)) (s 44)) (fun x1 =>
opsB C I R_o6 (St.mk (look [(0, (s 0)), (5, (s 5)), (6, (s 6)), (8, (s 8)), (10, (s 10)), (46, x1)]) (looko ([].map fun n => (n, o n)))) K)) := rfl

theorem g_law01_MoneyTexts_o4_sh {R_o5 : List AOper} {C : Ctx} {I : Nat → Prop} {s : Nat → V} {o : Nat → Option Ob} {K : St → Prop} : opsB C I (⟨some 44, .pick (.t 41) (.t 43) (.c (.d (.bool false))), [], [], (some (6, 38, false)), (some ([0, 5, 6, 8, 10, 38, 44], (some [])))⟩ ::
     R_o5) (St.mk s o) K =
 (guardK (s 38) false
 (demand (pickV (s 41) (s 43) (V.d (.bool false))) (fun x1 =>
opsB C I R_o5 (St.mk (look [(0, (s 0)), (5, (s 5)), (6, (s 6)), (8, (s 8)), (10, (s 10)), (38, (V.d (D.bool false))), (44, x1)]) (looko ([].map fun n => (n, o n)))) K))
 (opsB C I R_o5 (St.mk (look [(0, (s 0)), (5, (s 5)), (6, (s 6)), (8, (s 8)), (10, (s 10)), (38, (V.d (D.bool true))), (44, (V.tup []))]) (looko ([].map fun n => (n, o n)))) K)
 (opsB C I R_o5 (St.mk (look [(0, (s 0)), (5, (s 5)), (6, (s 6)), (8, (s 8)), (10, (s 10)), (38, (V.tup [])), (44, (V.tup []))]) (looko ([].map fun n => (n, o n)))) K)) := rfl

theorem g_law01_MoneyTexts_o3_sh {R_o4 : List AOper} {C : Ctx} {I : Nat → Prop} {s : Nat → V} {o : Nat → Option Ob} {K : St → Prop} : opsB C I (⟨some 42, .mv (.t 7), [], [], (some (9, 41, true)), none⟩ ::
     ⟨some 43, .bin .neq (.t 42) (.c (.d (.int .i64 0))), [], [], (some (9, 41, true)), (some ([0, 5, 6, 8, 10, 38, 41, 43], (some [])))⟩ ::
     R_o4) (St.mk s o) K =
 (guardK (s 41) true
 (demand (binV BinOp.neq (s 7) (V.d (.int .i64 0))) (fun x1 =>
opsB C I R_o4 (St.mk (look [(0, (s 0)), (5, (s 5)), (6, (s 6)), (8, (s 8)), (10, (s 10)), (38, (s 38)), (41, (V.d (D.bool true))), (43, x1)]) (looko ([].map fun n => (n, o n)))) K))
 (opsB C I R_o4 (St.mk (look [(0, (s 0)), (5, (s 5)), (6, (s 6)), (8, (s 8)), (10, (s 10)), (38, (s 38)), (41, (V.d (D.bool false))), (43, (V.tup []))]) (looko ([].map fun n => (n, o n)))) K)
 (opsB C I R_o4 (St.mk (look [(0, (s 0)), (5, (s 5)), (6, (s 6)), (8, (s 8)), (10, (s 10)), (38, (s 38)), (41, (V.tup [])), (43, (V.tup []))]) (looko ([].map fun n => (n, o n)))) K)) := rfl

theorem g_law01_MoneyTexts_o2_sh {R_o3 : List AOper} {C : Ctx} {I : Nat → Prop} {s : Nat → V} {o : Nat → Option Ob} {K : St → Prop} : opsB C I (⟨some 39, .mv (.t 10), [], [], (some (6, 38, false)), none⟩ ::
     ⟨some 40, .un .not (.t 39), [], [], (some (6, 38, false)), none⟩ ::
     ⟨some 41, .mv (.t 40), [], [], (some (6, 38, false)), (some ([0, 5, 6, 7, 8, 10, 38, 41], (some [])))⟩ ::
     R_o3) (St.mk s o) K =
 (guardK (s 38) false
 (demand (unV UnOp.not (s 10)) (fun x1 =>
opsB C I R_o3 (St.mk (look [(0, (s 0)), (5, (s 5)), (6, (s 6)), (7, (s 7)), (8, (s 8)), (10, (s 10)), (38, (V.d (D.bool false))), (41, x1)]) (looko ([].map fun n => (n, o n)))) K))
 (opsB C I R_o3 (St.mk (look [(0, (s 0)), (5, (s 5)), (6, (s 6)), (7, (s 7)), (8, (s 8)), (10, (s 10)), (38, (V.d (D.bool true))), (41, (V.tup []))]) (looko ([].map fun n => (n, o n)))) K)
 (opsB C I R_o3 (St.mk (look [(0, (s 0)), (5, (s 5)), (6, (s 6)), (7, (s 7)), (8, (s 8)), (10, (s 10)), (38, (V.tup [])), (41, (V.tup []))]) (looko ([].map fun n => (n, o n)))) K)) := rfl

theorem g_law01_MoneyTexts_o1_sh {R_o2 : List AOper} {C : Ctx} {I : Nat → Prop} {s : Nat → V} {o : Nat → Option Ob} {K : St → Prop} : opsB C I (⟨some 37, .pick (.t 35) (.t 36) (.c (.d (.bool false))), [], [], none, none⟩ ::
     ⟨some 38, .mv (.t 37), [], [], none, (some ([0, 5, 6, 7, 8, 10, 38], (some [])))⟩ ::
     R_o2) (St.mk s o) K =
 (demand (pickV (s 35) (s 36) (V.d (.bool false))) (fun x1 =>
opsB C I R_o2 (St.mk (look [(0, (s 0)), (5, (s 5)), (6, (s 6)), (7, (s 7)), (8, (s 8)), (10, (s 10)), (38, x1)]) (looko ([].map fun n => (n, o n)))) K)) := rfl

theorem g_law01_MoneyTexts_o0_sh {R_o1 : List AOper} {C : Ctx} {I : Nat → Prop} {s : Nat → V} {o : Nat → Option Ob} {K : St → Prop} : opsB C I (⟨some 36, .mv (.t 10), [], [], (some (3, 35, true)), (some ([0, 5, 6, 7, 8, 10, 35, 36], (some [])))⟩ ::
     R_o1) (St.mk s o) K =
 (guardK (s 35) true
 (opsB C I R_o1 (St.mk (look [(0, (s 0)), (5, (s 5)), (6, (s 6)), (7, (s 7)), (8, (s 8)), (10, (s 10)), (35, (V.d (D.bool true))), (36, (s 10))]) (looko ([].map fun n => (n, o n)))) K)
 (opsB C I R_o1 (St.mk (look [(0, (s 0)), (5, (s 5)), (6, (s 6)), (7, (s 7)), (8, (s 8)), (10, (s 10)), (35, (V.d (D.bool false))), (36, (V.tup []))]) (looko ([].map fun n => (n, o n)))) K)
 (opsB C I R_o1 (St.mk (look [(0, (s 0)), (5, (s 5)), (6, (s 6)), (7, (s 7)), (8, (s 8)), (10, (s 10)), (35, (V.tup [])), (36, (V.tup []))]) (looko ([].map fun n => (n, o n)))) K)) := rfl

theorem g_law01_MoneyTexts_c0_sh {C : Ctx} {I : Nat → Prop} {s : Nat → V} {o : Nat → Option Ob} {Q : Ex → St → Prop} : wpB C I (.cond (.t 50) (.seq (.region [4] (some []) none
     [⟨some 4, .mv (.c (.d (.bool false))), [], [], none, none⟩])
  (.ret))
 (.skip)) (St.mk s o) Q =
 (condK (s 50)
 (Q .ret (St.mk (look [(4, (V.d (.bool false)))]) (looko ([].map fun n => (n, o n)))))
 (Q .normal (St.mk s o))) := rfl

theorem g_law01_MoneyTexts_o11_sh {C : Ctx} {I : Nat → Prop} {s : Nat → V} {o : Nat → Option Ob} {K : St → Prop} : opsB C I [⟨some 62, .pick (.t 60) (.t 61) (.c (.d (.bool false))), [], [], none, none⟩,
     ⟨some 4, .mv (.t 62), [], [], none, none⟩] (St.mk s o) K =
 (demand (pickV (s 60) (s 61) (V.d (.bool false))) (fun x1 =>
K (St.mk (upd (upd s 62 x1) 4 x1) o))) := rfl

theorem g_law01_MoneyTexts_o10_sh {R_o11 : List AOper} {C : Ctx} {I : Nat → Prop} {s : Nat → V} {o : Nat → Option Ob} {K : St → Prop} : opsB C I (⟨some 61, .call 49 [], [], [], (some (6, 60, true)), (some ([60, 61], (some [])))⟩ ::
     R_o11) (St.mk s o) K =
 (guardK (s 60) true
 (callK C I (St.mk (upd s 60 (V.d (D.bool true))) o) (some 61) 49 [] (fun r1 or1 =>
opsB C I R_o11 (St.mk (look [(60, (V.d (D.bool true))), (61, r1)]) (looko ([].map fun n => (n, or1 n)))) K))
 (opsB C I R_o11 (St.mk (look [(60, (V.d (D.bool false))), (61, (V.tup []))]) (looko ([].map fun n => (n, o n)))) K)
 (opsB C I R_o11 (St.mk (look [(60, (V.tup [])), (61, (V.tup []))]) (looko ([].map fun n => (n, o n)))) K)) := rfl

theorem g_law01_MoneyTexts_o9_sh {R_o10 : List AOper} {C : Ctx} {I : Nat → Prop} {s : Nat → V} {o : Nat → Option Ob} {K : St → Prop} : opsB C I (⟨some 59, .pick (.t 56) (.t 58) (.c (.d (.bool false))), [], [], none, none⟩ ::
     ⟨some 60, .mv (.t 59), [], [], none, (some ([60], (some [])))⟩ ::
     R_o10) (St.mk s o) K =
 (demand (pickV (s 56) (s 58) (V.d (.bool false))) (fun x1 =>
opsB C I R_o10 (St.mk (look [(60, x1)]) (looko ([].map fun n => (n, o n)))) K)) := rfl

theorem g_law01_MoneyTexts_o8_sh {R_o9 : List AOper} {C : Ctx} {I : Nat → Prop} {s : Nat → V} {o : Nat → Option Ob} {K : St → Prop} : opsB C I (⟨some 57, .mv (.t 6), [], [], (some (2, 56, true)), none⟩ ::
     ⟨some 58, .bin .eql (.t 57) (.c (.d (.int .i64 3))), [], [], (some (2, 56, true)), (some ([56, 58], (some [])))⟩ ::
     R_o9) (St.mk s o) K =
 (guardK (s 56) true
 (demand (binV BinOp.eql (s 6) (V.d (.int .i64 3))) (fun x1 =>
opsB C I R_o9 (St.mk (look [(56, (V.d (D.bool true))), (58, x1)]) (looko ([].map fun n => (n, o n)))) K))
 (opsB C I R_o9 (St.mk (look [(56, (V.d (D.bool false))), (58, (V.tup []))]) (looko ([].map fun n => (n, o n)))) K)
 (opsB C I R_o9 (St.mk (look [(56, (V.tup [])), (58, (V.tup []))]) (looko ([].map fun n => (n, o n)))) K)) := rfl

theorem g_law01_MoneyTexts_c1_sh {C : Ctx} {I : Nat → Prop} {s : Nat → V} {o : Nat → Option Ob} {Q : Ex → St → Prop} : wpB C I (.ret) (St.mk s o) Q =
 (Q .ret (St.mk s o)) := rfl

theorem g_law01_MoneyTexts_o19_sh {C : Ctx} {I : Nat → Prop} {s : Nat → V} {o : Nat → Option Ob} {K : St → Prop} : opsB C I [⟨some 86, .pick (.t 84) (.t 85) (.c (.d (.bool false))), [], [], none, none⟩,
     ⟨some 4, .mv (.t 86), [], [], none, none⟩] (St.mk s o) K =
 (demand (pickV (s 84) (s 85) (V.d (.bool false))) (fun x1 =>
K (St.mk (upd (upd s 86 x1) 4 x1) o))) := rfl

theorem g_law01_MoneyTexts_o18_sh {R_o19 : List AOper} {C : Ctx} {I : Nat → Prop} {s : Nat → V} {o : Nat → Option Ob} {K : St → Prop} : opsB C I (⟨some 85, .call 49 [], [], [], (some (16, 84, true)), (some ([84, 85], (some [])))⟩ ::
     R_o19) (St.mk s o) K =
 (guardK (s 84) true
 (callK C I (St.mk (upd s 84 (V.d (D.bool true))) o) (some 85) 49 [] (fun r1 or1 =>
opsB C I R_o19 (St.mk (look [(84, (V.d (D.bool true))), (85, r1)]) (looko ([].map fun n => (n, or1 n)))) K))
 (opsB C I R_o19 (St.mk (look [(84, (V.d (D.bool false))), (85, (V.tup []))]) (looko ([].map fun n => (n, o n)))) K)
 (opsB C I R_o19 (St.mk (look [(84, (V.tup [])), (85, (V.tup []))]) (looko ([].map fun n => (n, o n)))) K)) := rfl

theorem g_law01_MoneyTexts_o17_sh {R_o18 : List AOper} {C : Ctx} {I : Nat → Prop} {s : Nat → V} {o : Nat → Option Ob} {K : St → Prop} : opsB C I (⟨some 83, .pick (.t 81) (.t 82) (.c (.d (.bool false))), [], [], none, none⟩ ::
     ⟨some 84, .mv (.t 83), [], [], none, (some ([84], (some [])))⟩ ::
     R_o18) (St.mk s o) K =
 (demand (pickV (s 81) (s 82) (V.d (.bool false))) (fun x1 =>
opsB C I R_o18 (St.mk (look [(84, x1)]) (looko ([].map fun n => (n, o n)))) K)) := rfl

theorem g_law01_MoneyTexts_o16_sh {R_o17 : List AOper} {C : Ctx} {I : Nat → Prop} {s : Nat → V} {o : Nat → Option Ob} {K : St → Prop} : opsB C I (⟨some 82, .mv (.t 12), [], [], (some (13, 81, true)), (some ([81, 82], (some [])))⟩ ::
     R_o17) (St.mk s o) K =
 (guardK (s 81) true
 (opsB C I R_o17 (St.mk (look [(81, (V.d (D.bool true))), (82, (s 12))]) (looko ([].map fun n => (n, o n)))) K)
 (opsB C I R_o17 (St.mk (look [(81, (V.d (D.bool false))), (82, (V.tup []))]) (looko ([].map fun n => (n, o n)))) K)
 (opsB C I R_o17 (St.mk (look [(81, (V.tup [])), (82, (V.tup []))]) (looko ([].map fun n => (n, o n)))) K)) := rfl

theorem g_law01_MoneyTexts_o15_sh {R_o16 : List AOper} {C : Ctx} {I : Nat → Prop} {s : Nat → V} {o : Nat → Option Ob} {K : St → Prop} : opsB C I (⟨some 80, .pick (.t 76) (.t 79) (.c (.d (.bool false))), [], [], none, none⟩ ::
     ⟨some 81, .mv (.t 80), [], [], none, (some ([12, 81], (some [])))⟩ ::
     R_o16) (St.mk s o) K =
 (demand (pickV (s 76) (s 79) (V.d (.bool false))) (fun x1 =>
opsB C I R_o16 (St.mk (look [(12, (s 12)), (81, x1)]) (looko ([].map fun n => (n, o n)))) K)) := rfl

theorem g_law01_MoneyTexts_o14_sh {R_o15 : List AOper} {C : Ctx} {I : Nat → Prop} {s : Nat → V} {o : Nat → Option Ob} {K : St → Prop} : opsB C I (⟨some 77, .mv (.t 11), [], [], (some (8, 76, true)), none⟩ ::
     ⟨some 78, .mv (.t 0), [], [], (some (8, 76, true)), none⟩ ::
     ⟨some 79, .bin .eql (.t 77) (.t 78), [], [], (some (8, 76, true)), (some ([12, 76, 79], (some [])))⟩ ::
     R_o15) (St.mk s o) K =
 (guardK (s 76) true
 (demand (binV BinOp.eql (s 11) (s 0)) (fun x1 =>
opsB C I R_o15 (St.mk (look [(12, (s 12)), (76, (V.d (D.bool true))), (79, x1)]) (looko ([].map fun n => (n, o n)))) K))
 (opsB C I R_o15 (St.mk (look [(12, (s 12)), (76, (V.d (D.bool false))), (79, (V.tup []))]) (looko ([].map fun n => (n, o n)))) K)
 (opsB C I R_o15 (St.mk (look [(12, (s 12)), (76, (V.tup [])), (79, (V.tup []))]) (looko ([].map fun n => (n, o n)))) K)) := rfl

theorem g_law01_MoneyTexts_o13_sh {R_o14 : List AOper} {C : Ctx} {I : Nat → Prop} {s : Nat → V} {o : Nat → Option Ob} {K : St → Prop} : opsB C I (⟨some 75, .pick (.t 72) (.t 74) (.c (.d (.bool false))), [], [], none, none⟩ ::
     ⟨some 76, .mv (.t 75), [], [], none, (some ([0, 11, 12, 76], (some [])))⟩ ::
     R_o14) (St.mk s o) K =
 (demand (pickV (s 72) (s 74) (V.d (.bool false))) (fun x1 =>
opsB C I R_o14 (St.mk (look [(0, (s 0)), (11, (s 11)), (12, (s 12)), (76, x1)]) (looko ([].map fun n => (n, o n)))) K)) := rfl

theorem g_law01_MoneyTexts_o12_sh {R_o13 : List AOper} {C : Ctx} {I : Nat → Prop} {s : Nat → V} {o : Nat → Option Ob} {K : St → Prop} : opsB C I (⟨some 73, .mv (.t 6), [], [], (some (4, 72, true)), none⟩ ::
     ⟨some 74, .bin .eql (.t 73) (.c (.d (.int .i64 0))), [], [], (some (4, 72, true)), (some ([0, 11, 12, 72, 74], (some [])))⟩ ::
     R_o13) (St.mk s o) K =
 (guardK (s 72) true
 (demand (binV BinOp.eql (s 6) (V.d (.int .i64 0))) (fun x1 =>
opsB C I R_o13 (St.mk (look [(0, (s 0)), (11, (s 11)), (12, (s 12)), (72, (V.d (D.bool true))), (74, x1)]) (looko ([].map fun n => (n, o n)))) K))
 (opsB C I R_o13 (St.mk (look [(0, (s 0)), (11, (s 11)), (12, (s 12)), (72, (V.d (D.bool false))), (74, (V.tup []))]) (looko ([].map fun n => (n, o n)))) K)
 (opsB C I R_o13 (St.mk (look [(0, (s 0)), (11, (s 11)), (12, (s 12)), (72, (V.tup [])), (74, (V.tup []))]) (looko ([].map fun n => (n, o n)))) K)) := rfl

theorem g_law01_MoneyTexts_c2_sh {C : Ctx} {I : Nat → Prop} {s : Nat → V} {o : Nat → Option Ob} {Q : Ex → St → Prop} : wpB C I (.ret) (St.mk s o) Q =
 (Q .ret (St.mk s o)) := rfl

theorem g_law01_MoneyTexts_c3_sh {R_o12 : List AOper} {R_c2 : ACode} {C : Ctx} {I : Nat → Prop} {s : Nat → V} {o : Nat → Option Ob} {Q : Ex → St → Prop} : wpB C I (.seq (.region [4] (some []) none
    (⟨some 68, .mv (.t 5), [], [], none, none⟩ ::
     ⟨some 69, .mv (.t 0), [], [], none, none⟩ ::
     ⟨some 70, .call 54 [(.t 69)], [], [], none, none⟩ ::
     ⟨some 71, .bin .eql (.t 68) (.t 70), [], [], none, none⟩ ::
     ⟨some 72, .mv (.t 71), [], [], none, (some ([0, 6, 11, 12, 72], (some [])))⟩ ::
     R_o12))
 (R_c2)) (St.mk s o) Q =
 (callK C I (St.mk (upd (upd s 68 (s 5)) 69 (s 0)) o) (some 70) 54 [(s 0)] (fun r1 or1 =>
demand (binV BinOp.eql (s 5) r1) (fun x2 =>
opsB C I R_o12 (St.mk (look [(0, (s 0)), (6, (s 6)), (11, (s 11)), (12, (s 12)), (72, x2)]) (looko ([].map fun n => (n, or1 n)))) (fun st => (seqK (fun st => wpB C I R_c2 st Q) Q) .normal (St.trim st [4] (some [])))))) := rfl

theorem g_law01_MoneyTexts_c4_sh {R_c3 : ACode} {C : Ctx} {I : Nat → Prop} {s : Nat → V} {o : Nat → Option Ob} {Q : Ex → St → Prop} : wpB C I (.seq (.region [0, 5, 6, 11, 12] (some []) none
    [⟨some 64, .mv (.t 5), [], [], none, none⟩,
     ⟨some 65, .call 51 [(.t 64)], [], [], none, none⟩,
     ⟨some 63, .mv (.t 65), [], [], none, none⟩,
     ⟨some 66, .ext (.t 63) 0, [], [], none, none⟩,
     ⟨some 67, .ext (.t 63) 1, [], [], none, none⟩,
     ⟨some 11, .mv (.t 66), [], [], none, none⟩,
     ⟨some 12, .mv (.t 67), [], [], none, none⟩])
 (R_c3)) (St.mk s o) Q =
 (callK C I (St.mk (upd s 64 (s 5)) o) (some 65) 51 [(s 5)] (fun r1 or1 =>
demand (extV r1 0) (fun x2 =>
demand (extV r1 1) (fun x3 =>
wpB C I R_c3 (St.mk (look [(0, (s 0)), (5, (s 5)), (6, (s 6)), (11, x2), (12, x3)]) (looko ([].map fun n => (n, or1 n)))) Q)))) := rfl

theorem g_law01_MoneyTexts_c5_sh {R_o8 : List AOper} {R_c1 : ACode} {R_c4 : ACode} {C : Ctx} {I : Nat → Prop} {s : Nat → V} {o : Nat → Option Ob} {Q : Ex → St → Prop} : wpB C I (.seq (.seq (.region [0, 5, 6, 53] (some []) none
     [⟨some 51, .mv (.t 0), [], [], none, none⟩,
      ⟨some 52, .call 53 [(.t 51)], [], [], none, none⟩,
      ⟨some 53, .un .not (.t 52), [], [], none, none⟩])
  (.cond (.t 53) (.seq (.region [4] (some []) none
       (⟨some 54, .mv (.t 5), [], [], none, none⟩ ::
        ⟨some 55, .bin .eql (.t 54) (.c (.d (.str []))), [], [], none, none⟩ ::
        ⟨some 56, .mv (.t 55), [], [], none, (some ([6, 56], (some [])))⟩ ::
        R_o8))
    (R_c1))
   (.skip)))
 (R_c4)) (St.mk s o) Q =
 (callK C I (St.mk (upd s 51 (s 0)) o) (some 52) 53 [(s 0)] (fun r1 or1 =>
demand (unV UnOp.not r1) (fun x2 =>
condK x2
 (demand (binV BinOp.eql (s 5) (V.d (.str []))) (fun x3 =>
opsB C I R_o8 (St.mk (look [(6, (s 6)), (56, x3)]) (looko ([].map fun n => (n, or1 n)))) (fun st => (seqK (fun st => wpB C I R_c1 st (seqK (fun st => wpB C I R_c4 st Q) Q)) (seqK (fun st => wpB C I R_c4 st Q) Q)) .normal (St.trim st [4] (some [])))))
 (wpB C I R_c4 (St.mk (look [(0, (s 0)), (5, (s 5)), (6, (s 6)), (53, x2)]) (looko ([].map fun n => (n, or1 n)))) Q)))) := rfl

theorem g_law01_MoneyTexts_c6_sh {R_o0 : List AOper} {R_c0 : ACode} {R_c5 : ACode} {C : Ctx} {I : Nat → Prop} {s : Nat → V} {o : Nat → Option Ob} {Q : Ex → St → Prop} : wpB C I (.seq (.seq (.region [0, 5, 6, 50] (some []) none
     (⟨some 32, .mv (.t 7), [], [], none, none⟩ ::
      ⟨some 33, .mv (.t 9), [], [], none, none⟩ ::
      ⟨some 34, .bin .neq (.t 32) (.t 33), [], [], none, none⟩ ::
      ⟨some 35, .mv (.t 34), [], [], none, (some ([0, 5, 6, 7, 8, 10, 35], (some [])))⟩ ::
      R_o0))
  (R_c0))
 (R_c5)) (St.mk s o) Q =
 (demand (binV BinOp.neq (s 7) (s 9)) (fun x1 =>
opsB C I R_o0 (St.mk (look [(0, (s 0)), (5, (s 5)), (6, (s 6)), (7, (s 7)), (8, (s 8)), (10, (s 10)), (35, x1)]) (looko ([].map fun n => (n, o n)))) (fun st => (seqK (fun st => wpB C I R_c0 st (seqK (fun st => wpB C I R_c5 st Q) Q)) (seqK (fun st => wpB C I R_c5 st Q) Q)) .normal (St.trim st [0, 5, 6, 50] (some []))))) := rfl

theorem g_law01_MoneyTexts_c7_sh {R_c6 : ACode} {C : Ctx} {I : Nat → Prop} {s : Nat → V} {o : Nat → Option Ob} {Q : Ex → St → Prop} : wpB C I (.seq (.region [0, 5, 6, 7, 8, 9, 10] (some []) none
    [⟨some 28, .mv (.t 1), [], [], none, none⟩,
     ⟨some 29, .call 52 [(.t 28)], [], [], none, none⟩,
     ⟨some 27, .mv (.t 29), [], [], none, none⟩,
     ⟨some 30, .ext (.t 27) 0, [], [], none, none⟩,
     ⟨some 31, .ext (.t 27) 1, [], [], none, none⟩,
     ⟨some 9, .mv (.t 30), [], [], none, none⟩,
     ⟨some 10, .mv (.t 31), [], [], none, none⟩])
 (R_c6)) (St.mk s o) Q =
 (callK C I (St.mk (upd s 28 (s 1)) o) (some 29) 52 [(s 1)] (fun r1 or1 =>
demand (extV r1 0) (fun x2 =>
demand (extV r1 1) (fun x3 =>
wpB C I R_c6 (St.mk (look [(0, (s 0)), (5, (s 5)), (6, (s 6)), (7, (s 7)), (8, (s 8)), (9, x2), (10, x3)]) (looko ([].map fun n => (n, or1 n)))) Q)))) := rfl

theorem g_law01_MoneyTexts_c8_sh {R_c7 : ACode} {C : Ctx} {I : Nat → Prop} {s : Nat → V} {o : Nat → Option Ob} {Q : Ex → St → Prop} : wpB C I (.seq (.region [0, 1, 5, 6, 7, 8] (some []) none
    [⟨some 23, .mv (.t 1), [], [], none, none⟩,
     ⟨some 24, .call 51 [(.t 23)], [], [], none, none⟩,
     ⟨some 22, .mv (.t 24), [], [], none, none⟩,
     ⟨some 25, .ext (.t 22) 0, [], [], none, none⟩,
     ⟨some 26, .ext (.t 22) 1, [], [], none, none⟩,
     ⟨some 7, .mv (.t 25), [], [], none, none⟩,
     ⟨some 8, .mv (.t 26), [], [], none, none⟩])
 (R_c7)) (St.mk s o) Q =
 (callK C I (St.mk (upd s 23 (s 1)) o) (some 24) 51 [(s 1)] (fun r1 or1 =>
demand (extV r1 0) (fun x2 =>
demand (extV r1 1) (fun x3 =>
wpB C I R_c7 (St.mk (look [(0, (s 0)), (1, (s 1)), (5, (s 5)), (6, (s 6)), (7, x2), (8, x3)]) (looko ([].map fun n => (n, or1 n)))) Q)))) := rfl

theorem g_law01_MoneyTexts_c9_sh {R_c8 : ACode} {C : Ctx} {I : Nat → Prop} {s : Nat → V} {o : Nat → Option Ob} {Q : Ex → St → Prop} : wpB C I (.seq (.region [0, 1, 5, 6] (some []) none
    [⟨some 18, .mv (.t 0), [], [], none, none⟩,
     ⟨some 19, .call 50 [(.t 18)], [], [], none, none⟩,
     ⟨some 17, .mv (.t 19), [], [], none, none⟩,
     ⟨some 20, .ext (.t 17) 0, [], [], none, none⟩,
     ⟨some 21, .ext (.t 17) 1, [], [], none, none⟩,
     ⟨some 5, .mv (.t 20), [], [], none, none⟩,
     ⟨some 6, .mv (.t 21), [], [], none, none⟩])
 (R_c8)) (St.mk s o) Q =
 (callK C I (St.mk (upd s 18 (s 0)) o) (some 19) 50 [(s 0)] (fun r1 or1 =>
demand (extV r1 0) (fun x2 =>
demand (extV r1 1) (fun x3 =>
wpB C I R_c8 (St.mk (look [(0, (s 0)), (1, (s 1)), (5, x2), (6, x3)]) (looko ([].map fun n => (n, or1 n)))) Q)))) := rfl

theorem g_law01_MoneyTexts_code_sh {R_c9 : ACode} {C : Ctx} {I : Nat → Prop} {s : Nat → V} {o : Nat → Option Ob} {Q : Ex → St → Prop} : wpB C I (.seq (.region [0, 1] (some []) none
    [⟨some 4, .mv (.c (.d (.bool false))), [], [], none, none⟩])
 (.seq (.seq (.region [0, 1, 15] (some []) none
      [⟨some 13, .mv (.t 1), [], [], none, none⟩,
       ⟨some 14, .lenS (.t 13), [], [], none, none⟩,
       ⟨some 15, .bin .gtr (.t 14) (.c (.d (.int .i64 60))), [], [], none, none⟩])
   (.cond (.t 15) (.seq (.region [4] (some []) none
        [⟨some 16, .call 49 [], [], [], none, none⟩,
         ⟨some 4, .mv (.t 16), [], [], none, none⟩])
     (.ret))
    (.skip)))
  (R_c9))) (St.mk s o) Q =
 (demand (lenSV (s 1)) (fun x1 =>
demand (binV BinOp.gtr x1 (V.d (.int .i64 60))) (fun x2 =>
condK x2
 (callK C I (St.mk (look [(0, (s 0)), (1, (s 1)), (15, x2)]) (looko ([].map fun n => (n, o n)))) (some 16) 49 [] (fun r3 or3 =>
Q .ret (St.mk (look [(4, r3)]) (looko ([].map fun n => (n, or3 n))))))
 (wpB C I R_c9 (St.mk (look [(0, (s 0)), (1, (s 1)), (15, x2)]) (looko ([].map fun n => (n, o n)))) Q)))) := rfl

theorem g_law01_MoneyPlaces_o9_sh {C : Ctx} {I : Nat → Prop} {s : Nat → V} {o : Nat → Option Ob} {K : St → Prop} : opsB C I [⟨some 55, .pick (.t 51) (.c (.d (.bool true))) (.t 54), [], [], none, none⟩] (St.mk s o) K =
 (demand (pickV (s 51) (V.d (.bool true)) (s 54)) (fun x1 =>
K (St.mk (upd s 55 x1) o))) := rfl

theorem g_law01_MoneyPlaces_o8_sh {R_o9 : List AOper} {C : Ctx} {I : Nat → Prop} {s : Nat → V} {o : Nat → Option Ob} {K : St → Prop} : opsB C I (⟨some 52, .mv (.t 6), [], [], (some (21, 51, false)), none⟩ ::
     ⟨some 53, .lenS (.t 52), [], [], (some (21, 51, false)), none⟩ ::
     ⟨some 54, .bin .lss (.t 53) (.c (.d (.int .i64 4))), [], [], (some (21, 51, false)), (some ([3, 4, 51, 54], (some [])))⟩ ::
     R_o9) (St.mk s o) K =
 (guardK (s 51) false
 (demand (lenSV (s 6)) (fun x1 =>
demand (binV BinOp.lss x1 (V.d (.int .i64 4))) (fun x2 =>
opsB C I R_o9 (St.mk (look [(3, (s 3)), (4, (s 4)), (51, (V.d (D.bool false))), (54, x2)]) (looko ([].map fun n => (n, o n)))) K)))
 (opsB C I R_o9 (St.mk (look [(3, (s 3)), (4, (s 4)), (51, (V.d (D.bool true))), (54, (V.tup []))]) (looko ([].map fun n => (n, o n)))) K)
 (opsB C I R_o9 (St.mk (look [(3, (s 3)), (4, (s 4)), (51, (V.tup [])), (54, (V.tup []))]) (looko ([].map fun n => (n, o n)))) K)) := rfl

theorem g_law01_MoneyPlaces_o7_sh {R_o8 : List AOper} {C : Ctx} {I : Nat → Prop} {s : Nat → V} {o : Nat → Option Ob} {K : St → Prop} : opsB C I (⟨some 50, .pick (.t 46) (.c (.d (.bool true))) (.t 49), [], [], none, none⟩ ::
     ⟨some 51, .mv (.t 50), [], [], none, (some ([3, 4, 6, 51], (some [])))⟩ ::
     R_o8) (St.mk s o) K =
 (demand (pickV (s 46) (V.d (.bool true)) (s 49)) (fun x1 =>
opsB C I R_o8 (St.mk (look [(3, (s 3)), (4, (s 4)), (6, (s 6)), (51, x1)]) (looko ([].map fun n => (n, o n)))) K)) := rfl

theorem g_law01_MoneyPlaces_o6_sh {R_o7 : List AOper} {C : Ctx} {I : Nat → Prop} {s : Nat → V} {o : Nat → Option Ob} {K : St → Prop} : opsB C I (⟨some 47, .mv (.t 4), [], [], (some (16, 46, false)), none⟩ ::
     ⟨some 48, .lenS (.t 47), [], [], (some (16, 46, false)), none⟩ ::
     ⟨some 49, .bin .lss (.t 48) (.c (.d (.int .i64 4))), [], [], (some (16, 46, false)), (some ([3, 4, 6, 46, 49], (some [])))⟩ ::
     R_o7) (St.mk s o) K =
 (guardK (s 46) false
 (demand (lenSV (s 4)) (fun x1 =>
demand (binV BinOp.lss x1 (V.d (.int .i64 4))) (fun x2 =>
opsB C I R_o7 (St.mk (look [(3, (s 3)), (4, (s 4)), (6, (s 6)), (46, (V.d (D.bool false))), (49, x2)]) (looko ([].map fun n => (n, o n)))) K)))
 (opsB C I R_o7 (St.mk (look [(3, (s 3)), (4, (s 4)), (6, (s 6)), (46, (V.d (D.bool true))), (49, (V.tup []))]) (looko ([].map fun n => (n, o n)))) K)
 (opsB C I R_o7 (St.mk (look [(3, (s 3)), (4, (s 4)), (6, (s 6)), (46, (V.tup [])), (49, (V.tup []))]) (looko ([].map fun n => (n, o n)))) K)) := rfl

theorem g_law01_MoneyPlaces_o5_sh {R_o6 : List AOper} {C : Ctx} {I : Nat → Prop} {s : Nat → V} {o : Nat → Option Ob} {K : St → Prop} : opsB C I (⟨some 45, .pick (.t 40) (.c (.d (.bool true))) (.t 44), [], [], none, none⟩ ::
     ⟨some 46, .mv (.t 45), [], [], none, (some ([3, 4, 6, 46], (some [])))⟩ ::
     R_o6) (St.mk s o) K =
 (demand (pickV (s 40) (V.d (.bool true)) (s 44)) (fun x1 =>
opsB C I R_o6 (St.mk (look [(3, (s 3)), (4, (s 4)), (6, (s 6)), (46, x1)]) (looko ([].map fun n => (n, o n)))) K)) := rfl

theorem g_law01_MoneyPlaces_o4_sh {R_o5 : List AOper} {C : Ctx} {I : Nat → Prop} {s : Nat → V} {o : Nat → Option Ob} {K : St → Prop} : opsB C I (⟨some 41, .mv (.t 8), [], [], (some (10, 40, false)), none⟩ ::
     ⟨some 42, .mv (.t 3), [], [], (some (10, 40, false)), none⟩ ::
     ⟨some 43, .bin .mul (.c (.d (.int .i64 100))) (.t 42), [], [], (some (10, 40, false)), none⟩ ::
     ⟨some 44, .bin .neq (.t 41) (.t 43), [], [], (some (10, 40, false)), (some ([3, 4, 6, 40, 44], (some [])))⟩ ::
     R_o5) (St.mk s o) K =
 (guardK (s 40) false
 (demand (binV BinOp.mul (V.d (.int .i64 100)) (s 3)) (fun x1 =>
demand (binV BinOp.neq (s 8) x1) (fun x2 =>
opsB C I R_o5 (St.mk (look [(3, (s 3)), (4, (s 4)), (6, (s 6)), (40, (V.d (D.bool false))), (44, x2)]) (looko ([].map fun n => (n, o n)))) K)))
 (opsB C I R_o5 (St.mk (look [(3, (s 3)), (4, (s 4)), (6, (s 6)), (40, (V.d (D.bool true))), (44, (V.tup []))]) (looko ([].map fun n => (n, o n)))) K)
 (opsB C I R_o5 (St.mk (look [(3, (s 3)), (4, (s 4)), (6, (s 6)), (40, (V.tup [])), (44, (V.tup []))]) (looko ([].map fun n => (n, o n)))) K)) := rfl

theorem g_law01_MoneyPlaces_o3_sh {R_o4 : List AOper} {C : Ctx} {I : Nat → Prop} {s : Nat → V} {o : Nat → Option Ob} {K : St → Prop} : opsB C I (⟨some 39, .pick (.t 36) (.c (.d (.bool true))) (.t 38), [], [], none, none⟩ ::
     ⟨some 40, .mv (.t 39), [], [], none, (some ([3, 4, 6, 8, 40], (some [])))⟩ ::
     R_o4) (St.mk s o) K =
 (demand (pickV (s 36) (V.d (.bool true)) (s 38)) (fun x1 =>
opsB C I R_o4 (St.mk (look [(3, (s 3)), (4, (s 4)), (6, (s 6)), (8, (s 8)), (40, x1)]) (looko ([].map fun n => (n, o n)))) K)) := rfl

theorem g_law01_MoneyPlaces_o2_sh {R_o3 : List AOper} {C : Ctx} {I : Nat → Prop} {s : Nat → V} {o : Nat → Option Ob} {K : St → Prop} : opsB C I (⟨some 37, .mv (.t 9), [], [], (some (6, 36, false)), none⟩ ::
     ⟨some 38, .un .not (.t 37), [], [], (some (6, 36, false)), (some ([3, 4, 6, 8, 36, 38], (some [])))⟩ ::
     R_o3) (St.mk s o) K =
 (guardK (s 36) false
 (demand (unV UnOp.not (s 9)) (fun x1 =>
opsB C I R_o3 (St.mk (look [(3, (s 3)), (4, (s 4)), (6, (s 6)), (8, (s 8)), (36, (V.d (D.bool false))), (38, x1)]) (looko ([].map fun n => (n, o n)))) K))
 (opsB C I R_o3 (St.mk (look [(3, (s 3)), (4, (s 4)), (6, (s 6)), (8, (s 8)), (36, (V.d (D.bool true))), (38, (V.tup []))]) (looko ([].map fun n => (n, o n)))) K)
 (opsB C I R_o3 (St.mk (look [(3, (s 3)), (4, (s 4)), (6, (s 6)), (8, (s 8)), (36, (V.tup [])), (38, (V.tup []))]) (looko ([].map fun n => (n, o n)))) K)) := rfl

theorem g_law01_MoneyPlaces_o1_sh {R_o2 : List AOper} {C : Ctx} {I : Nat → Prop} {s : Nat → V} {o : Nat → Option Ob} {K : St → Prop} : opsB C I (⟨some 35, .pick (.t 32) (.c (.d (.bool true))) (.t 34), [], [], none, none⟩ ::
     ⟨some 36, .mv (.t 35), [], [], none, (some ([3, 4, 6, 8, 9, 36], (some [])))⟩ ::
     R_o2) (St.mk s o) K =
 (demand (pickV (s 32) (V.d (.bool true)) (s 34)) (fun x1 =>
opsB C I R_o2 (St.mk (look [(3, (s 3)), (4, (s 4)), (6, (s 6)), (8, (s 8)), (9, (s 9)), (36, x1)]) (looko ([].map fun n => (n, o n)))) K)) := rfl

theorem g_law01_MoneyPlaces_o0_sh {R_o1 : List AOper} {C : Ctx} {I : Nat → Prop} {s : Nat → V} {o : Nat → Option Ob} {K : St → Prop} : opsB C I (⟨some 33, .mv (.t 7), [], [], (some (2, 32, false)), none⟩ ::
     ⟨some 34, .bin .neq (.t 33) (.c (.d (.int .i64 0))), [], [], (some (2, 32, false)), (some ([3, 4, 6, 8, 9, 32, 34], (some [])))⟩ ::
     R_o1) (St.mk s o) K =
 (guardK (s 32) false
 (demand (binV BinOp.neq (s 7) (V.d (.int .i64 0))) (fun x1 =>
opsB C I R_o1 (St.mk (look [(3, (s 3)), (4, (s 4)), (6, (s 6)), (8, (s 8)), (9, (s 9)), (32, (V.d (D.bool false))), (34, x1)]) (looko ([].map fun n => (n, o n)))) K))
 (opsB C I R_o1 (St.mk (look [(3, (s 3)), (4, (s 4)), (6, (s 6)), (8, (s 8)), (9, (s 9)), (32, (V.d (D.bool true))), (34, (V.tup []))]) (looko ([].map fun n => (n, o n)))) K)
 (opsB C I R_o1 (St.mk (look [(3, (s 3)), (4, (s 4)), (6, (s 6)), (8, (s 8)), (9, (s 9)), (32, (V.tup [])), (34, (V.tup []))]) (looko ([].map fun n => (n, o n)))) K)) := rfl

theorem g_law01_MoneyPlaces_c0_sh {C : Ctx} {I : Nat → Prop} {s : Nat → V} {o : Nat → Option Ob} {Q : Ex → St → Prop} : wpB C I (.cond (.t 55) (.seq (.region [2] (some []) none
     [⟨some 2, .mv (.c (.d (.bool false))), [], [], none, none⟩])
  (.ret))
 (.skip)) (St.mk s o) Q =
 (condK (s 55)
 (Q .ret (St.mk (look [(2, (V.d (.bool false)))]) (looko ([].map fun n => (n, o n)))))
 (Q .normal (St.mk s o))) := rfl

theorem g_law01_MoneyPlaces_o15_sh {C : Ctx} {I : Nat → Prop} {s : Nat → V} {o : Nat → Option Ob} {K : St → Prop} : opsB C I [⟨some 86, .pick (.t 84) (.t 85) (.c (.d (.bool false))), [], [], none, none⟩,
     ⟨some 2, .mv (.t 86), [], [], none, none⟩] (St.mk s o) K =
 (demand (pickV (s 84) (s 85) (V.d (.bool false))) (fun x1 =>
K (St.mk (upd (upd s 86 x1) 2 x1) o))) := rfl

theorem g_law01_MoneyPlaces_o14_sh {R_o15 : List AOper} {C : Ctx} {I : Nat → Prop} {s : Nat → V} {o : Nat → Option Ob} {K : St → Prop} : opsB C I (⟨some 85, .call 49 [], [], [], (some (16, 84, true)), (some ([84, 85], (some [])))⟩ ::
     R_o15) (St.mk s o) K =
 (guardK (s 84) true
 (callK C I (St.mk (upd s 84 (V.d (D.bool true))) o) (some 85) 49 [] (fun r1 or1 =>
opsB C I R_o15 (St.mk (look [(84, (V.d (D.bool true))), (85, r1)]) (looko ([].map fun n => (n, or1 n)))) K))
 (opsB C I R_o15 (St.mk (look [(84, (V.d (D.bool false))), (85, (V.tup []))]) (looko ([].map fun n => (n, o n)))) K)
 (opsB C I R_o15 (St.mk (look [(84, (V.tup [])), (85, (V.tup []))]) (looko ([].map fun n => (n, o n)))) K)) := rfl

theorem g_law01_MoneyPlaces_o13_sh {R_o14 : List AOper} {C : Ctx} {I : Nat → Prop} {s : Nat → V} {o : Nat → Option Ob} {K : St → Prop} : opsB C I (⟨some 83, .pick (.t 77) (.t 82) (.c (.d (.bool false))), [], [], none, none⟩ ::
     ⟨some 84, .mv (.t 83), [], [], none, (some ([84], (some [])))⟩ ::
     R_o14) (St.mk s o) K =
 (demand (pickV (s 77) (s 82) (V.d (.bool false))) (fun x1 =>
opsB C I R_o14 (St.mk (look [(84, x1)]) (looko ([].map fun n => (n, o n)))) K)) := rfl

theorem g_law01_MoneyPlaces_o12_sh {R_o13 : List AOper} {C : Ctx} {I : Nat → Prop} {s : Nat → V} {o : Nat → Option Ob} {K : St → Prop} : opsB C I (⟨some 78, .mv (.t 10), [], [], (some (9, 77, true)), none⟩ ::
     ⟨some 79, .mv (.t 3), [], [], (some (9, 77, true)), none⟩ ::
     ⟨some 80, .bin .mul (.c (.d (.int .i64 100))) (.t 79), [], [], (some (9, 77, true)), none⟩ ::
     ⟨some 81, .bin .add (.t 80) (.c (.d (.int .i64 99))), [], [], (some (9, 77, true)), none⟩ ::
     ⟨some 82, .bin .eql (.t 78) (.t 81), [], [], (some (9, 77, true)), (some ([77, 82], (some [])))⟩ ::
     R_o13) (St.mk s o) K =
 (guardK (s 77) true
 (demand (binV BinOp.mul (V.d (.int .i64 100)) (s 3)) (fun x1 =>
demand (binV BinOp.add x1 (V.d (.int .i64 99))) (fun x2 =>
demand (binV BinOp.eql (s 10) x2) (fun x3 =>
opsB C I R_o13 (St.mk (look [(77, (V.d (D.bool true))), (82, x3)]) (looko ([].map fun n => (n, o n)))) K))))
 (opsB C I R_o13 (St.mk (look [(77, (V.d (D.bool false))), (82, (V.tup []))]) (looko ([].map fun n => (n, o n)))) K)
 (opsB C I R_o13 (St.mk (look [(77, (V.tup [])), (82, (V.tup []))]) (looko ([].map fun n => (n, o n)))) K)) := rfl

theorem g_law01_MoneyPlaces_o11_sh {R_o12 : List AOper} {C : Ctx} {I : Nat → Prop} {s : Nat → V} {o : Nat → Option Ob} {K : St → Prop} : opsB C I (⟨some 76, .pick (.t 74) (.t 75) (.c (.d (.bool false))), [], [], none, none⟩ ::
     ⟨some 77, .mv (.t 76), [], [], none, (some ([3, 10, 77], (some [])))⟩ ::
     R_o12) (St.mk s o) K =
 (demand (pickV (s 74) (s 75) (V.d (.bool false))) (fun x1 =>
opsB C I R_o12 (St.mk (look [(3, (s 3)), (10, (s 10)), (77, x1)]) (looko ([].map fun n => (n, o n)))) K)) := rfl

theorem g_law01_MoneyPlaces_o10_sh {R_o11 : List AOper} {C : Ctx} {I : Nat → Prop} {s : Nat → V} {o : Nat → Option Ob} {K : St → Prop} : opsB C I (⟨some 75, .mv (.t 11), [], [], (some (6, 74, true)), (some ([3, 10, 74, 75], (some [])))⟩ ::
     R_o11) (St.mk s o) K =
 (guardK (s 74) true
 (opsB C I R_o11 (St.mk (look [(3, (s 3)), (10, (s 10)), (74, (V.d (D.bool true))), (75, (s 11))]) (looko ([].map fun n => (n, o n)))) K)
 (opsB C I R_o11 (St.mk (look [(3, (s 3)), (10, (s 10)), (74, (V.d (D.bool false))), (75, (V.tup []))]) (looko ([].map fun n => (n, o n)))) K)
 (opsB C I R_o11 (St.mk (look [(3, (s 3)), (10, (s 10)), (74, (V.tup [])), (75, (V.tup []))]) (looko ([].map fun n => (n, o n)))) K)) := rfl

theorem g_law01_MoneyPlaces_c1_sh {C : Ctx} {I : Nat → Prop} {s : Nat → V} {o : Nat → Option Ob} {Q : Ex → St → Prop} : wpB C I (.ret) (St.mk s o) Q =
 (Q .ret (St.mk s o)) := rfl

theorem g_law01_MoneyPlaces_o21_sh {C : Ctx} {I : Nat → Prop} {s : Nat → V} {o : Nat → Option Ob} {K : St → Prop} : opsB C I [⟨some 105, .pick (.t 103) (.t 104) (.c (.d (.bool false))), [], [], none, none⟩,
     ⟨some 2, .mv (.t 105), [], [], none, none⟩] (St.mk s o) K =
 (demand (pickV (s 103) (s 104) (V.d (.bool false))) (fun x1 =>
K (St.mk (upd (upd s 105 x1) 2 x1) o))) := rfl

theorem g_law01_MoneyPlaces_o20_sh {R_o21 : List AOper} {C : Ctx} {I : Nat → Prop} {s : Nat → V} {o : Nat → Option Ob} {K : St → Prop} : opsB C I (⟨some 104, .call 49 [], [], [], (some (16, 103, true)), (some ([103, 104], (some [])))⟩ ::
     R_o21) (St.mk s o) K =
 (guardK (s 103) true
 (callK C I (St.mk (upd s 103 (V.d (D.bool true))) o) (some 104) 49 [] (fun r1 or1 =>
opsB C I R_o21 (St.mk (look [(103, (V.d (D.bool true))), (104, r1)]) (looko ([].map fun n => (n, or1 n)))) K))
 (opsB C I R_o21 (St.mk (look [(103, (V.d (D.bool false))), (104, (V.tup []))]) (looko ([].map fun n => (n, o n)))) K)
 (opsB C I R_o21 (St.mk (look [(103, (V.tup [])), (104, (V.tup []))]) (looko ([].map fun n => (n, o n)))) K)) := rfl

theorem g_law01_MoneyPlaces_o19_sh {R_o20 : List AOper} {C : Ctx} {I : Nat → Prop} {s : Nat → V} {o : Nat → Option Ob} {K : St → Prop} : opsB C I (⟨some 102, .pick (.t 96) (.t 101) (.c (.d (.bool false))), [], [], none, none⟩ ::
     ⟨some 103, .mv (.t 102), [], [], none, (some ([103], (some [])))⟩ ::
     R_o20) (St.mk s o) K =
 (demand (pickV (s 96) (s 101) (V.d (.bool false))) (fun x1 =>
opsB C I R_o20 (St.mk (look [(103, x1)]) (looko ([].map fun n => (n, o n)))) K)) := rfl

theorem g_law01_MoneyPlaces_o18_sh {R_o19 : List AOper} {C : Ctx} {I : Nat → Prop} {s : Nat → V} {o : Nat → Option Ob} {K : St → Prop} : opsB C I (⟨some 97, .mv (.t 10), [], [], (some (9, 96, true)), none⟩ ::
     ⟨some 98, .mv (.t 3), [], [], (some (9, 96, true)), none⟩ ::
     ⟨some 99, .bin .mul (.c (.d (.int .i64 100))) (.t 98), [], [], (some (9, 96, true)), none⟩ ::
     ⟨some 100, .bin .sub (.t 99) (.c (.d (.int .i64 99))), [], [], (some (9, 96, true)), none⟩ ::
     ⟨some 101, .bin .eql (.t 97) (.t 100), [], [], (some (9, 96, true)), (some ([96, 101], (some [])))⟩ ::
     R_o19) (St.mk s o) K =
 (guardK (s 96) true
 (demand (binV BinOp.mul (V.d (.int .i64 100)) (s 3)) (fun x1 =>
demand (binV BinOp.sub x1 (V.d (.int .i64 99))) (fun x2 =>
demand (binV BinOp.eql (s 10) x2) (fun x3 =>
opsB C I R_o19 (St.mk (look [(96, (V.d (D.bool true))), (101, x3)]) (looko ([].map fun n => (n, o n)))) K))))
 (opsB C I R_o19 (St.mk (look [(96, (V.d (D.bool false))), (101, (V.tup []))]) (looko ([].map fun n => (n, o n)))) K)
 (opsB C I R_o19 (St.mk (look [(96, (V.tup [])), (101, (V.tup []))]) (looko ([].map fun n => (n, o n)))) K)) := rfl

theorem g_law01_MoneyPlaces_o17_sh {R_o18 : List AOper} {C : Ctx} {I : Nat → Prop} {s : Nat → V} {o : Nat → Option Ob} {K : St → Prop} : opsB C I (⟨some 95, .pick (.t 93) (.t 94) (.c (.d (.bool false))), [], [], none, none⟩ ::
     ⟨some 96, .mv (.t 95), [], [], none, (some ([3, 10, 96], (some [])))⟩ ::
     R_o18) (St.mk s o) K =
 (demand (pickV (s 93) (s 94) (V.d (.bool false))) (fun x1 =>
opsB C I R_o18 (St.mk (look [(3, (s 3)), (10, (s 10)), (96, x1)]) (looko ([].map fun n => (n, o n)))) K)) := rfl

theorem g_law01_MoneyPlaces_o16_sh {R_o17 : List AOper} {C : Ctx} {I : Nat → Prop} {s : Nat → V} {o : Nat → Option Ob} {K : St → Prop} : opsB C I (⟨some 94, .mv (.t 11), [], [], (some (6, 93, true)), (some ([3, 10, 93, 94], (some [])))⟩ ::
     R_o17) (St.mk s o) K =
 (guardK (s 93) true
 (opsB C I R_o17 (St.mk (look [(3, (s 3)), (10, (s 10)), (93, (V.d (D.bool true))), (94, (s 11))]) (looko ([].map fun n => (n, o n)))) K)
 (opsB C I R_o17 (St.mk (look [(3, (s 3)), (10, (s 10)), (93, (V.d (D.bool false))), (94, (V.tup []))]) (looko ([].map fun n => (n, o n)))) K)
 (opsB C I R_o17 (St.mk (look [(3, (s 3)), (10, (s 10)), (93, (V.tup [])), (94, (V.tup []))]) (looko ([].map fun n => (n, o n)))) K)) := rfl

theorem g_law01_MoneyPlaces_c2_sh {C : Ctx} {I : Nat → Prop} {s : Nat → V} {o : Nat → Option Ob} {Q : Ex → St → Prop} : wpB C I (.ret) (St.mk s o) Q =
 (Q .ret (St.mk s o)) := rfl

theorem g_law01_MoneyPlaces_c3_sh {R_o16 : List AOper} {R_c2 : ACode} {C : Ctx} {I : Nat → Prop} {s : Nat → V} {o : Nat → Option Ob} {Q : Ex → St → Prop} : wpB C I (.seq (.region [2] (some []) none
    (⟨some 87, .mv (.t 4), [], [], none, none⟩ ::
     ⟨some 88, .mv (.t 4), [], [], none, none⟩ ::
     ⟨some 89, .lenS (.t 88), [], [], none, none⟩ ::
     ⟨some 90, .bin .sub (.t 89) (.c (.d (.int .i64 3))), [], [], none, none⟩ ::
     ⟨some 91, .slcS (.t 87) (some (.t 90)) none, [], [], none, none⟩ ::
     ⟨some 92, .bin .eql (.t 91) (.c (.d (.str [46, 48, 48]))), [], [], none, none⟩ ::
     ⟨some 93, .mv (.t 92), [], [], none, (some ([3, 10, 11, 93], (some [])))⟩ ::
     R_o16))
 (R_c2)) (St.mk s o) Q =
 (demand (lenSV (s 4)) (fun x1 =>
demand (binV BinOp.sub x1 (V.d (.int .i64 3))) (fun x2 =>
demand (slcSV (s 4) (some x2) none) (fun x3 =>
demand (binV BinOp.eql x3 (V.d (.str [46, 48, 48]))) (fun x4 =>
opsB C I R_o16 (St.mk (look [(3, (s 3)), (10, (s 10)), (11, (s 11)), (93, x4)]) (looko ([].map fun n => (n, o n)))) (fun st => (seqK (fun st => wpB C I R_c2 st Q) Q) .normal (St.trim st [2] (some [])))))))) := rfl

theorem g_law01_MoneyPlaces_c4_sh {R_o10 : List AOper} {R_c1 : ACode} {R_c3 : ACode} {C : Ctx} {I : Nat → Prop} {s : Nat → V} {o : Nat → Option Ob} {Q : Ex → St → Prop} : wpB C I (.seq (.seq (.region [3, 4, 10, 11, 67] (some []) none
     [⟨some 66, .mv (.t 3), [], [], none, none⟩,
      ⟨some 67, .bin .geq (.t 66) (.c (.d (.int .i64 0))), [], [], none, none⟩])
  (.cond (.t 67) (.seq (.region [2] (some []) none
       (⟨some 68, .mv (.t 4), [], [], none, none⟩ ::
        ⟨some 69, .mv (.t 4), [], [], none, none⟩ ::
        ⟨some 70, .lenS (.t 69), [], [], none, none⟩ ::
        ⟨some 71, .bin .sub (.t 70) (.c (.d (.int .i64 3))), [], [], none, none⟩ ::
        ⟨some 72, .slcS (.t 68) (some (.t 71)) none, [], [], none, none⟩ ::
        ⟨some 73, .bin .eql (.t 72) (.c (.d (.str [46, 48, 48]))), [], [], none, none⟩ ::
        ⟨some 74, .mv (.t 73), [], [], none, (some ([3, 10, 11, 74], (some [])))⟩ ::
        R_o10))
    (R_c1))
   (.skip)))
 (R_c3)) (St.mk s o) Q =
 (demand (binV BinOp.geq (s 3) (V.d (.int .i64 0))) (fun x1 =>
condK x1
 (demand (lenSV (s 4)) (fun x2 =>
demand (binV BinOp.sub x2 (V.d (.int .i64 3))) (fun x3 =>
demand (slcSV (s 4) (some x3) none) (fun x4 =>
demand (binV BinOp.eql x4 (V.d (.str [46, 48, 48]))) (fun x5 =>
opsB C I R_o10 (St.mk (look [(3, (s 3)), (10, (s 10)), (11, (s 11)), (74, x5)]) (looko ([].map fun n => (n, o n)))) (fun st => (seqK (fun st => wpB C I R_c1 st (seqK (fun st => wpB C I R_c3 st Q) Q)) (seqK (fun st => wpB C I R_c3 st Q) Q)) .normal (St.trim st [2] (some []))))))))
 (wpB C I R_c3 (St.mk (look [(3, (s 3)), (4, (s 4)), (10, (s 10)), (11, (s 11)), (67, x1)]) (looko ([].map fun n => (n, o n)))) Q))) := rfl

theorem g_law01_MoneyPlaces_c5_sh {R_c4 : ACode} {C : Ctx} {I : Nat → Prop} {s : Nat → V} {o : Nat → Option Ob} {Q : Ex → St → Prop} : wpB C I (.seq (.region [3, 4, 10, 11] (some []) none
    [⟨some 57, .mv (.t 4), [], [], none, none⟩,
     ⟨some 58, .mv (.t 4), [], [], none, none⟩,
     ⟨some 59, .lenS (.t 58), [], [], none, none⟩,
     ⟨some 60, .bin .sub (.t 59) (.c (.d (.int .i64 3))), [], [], none, none⟩,
     ⟨some 61, .slcS (.t 57) none (some (.t 60)), [], [], none, none⟩,
     ⟨some 62, .bin .add (.t 61) (.c (.d (.str [46, 57, 57]))), [], [], none, none⟩,
     ⟨some 63, .call 51 [(.t 62)], [], [], none, none⟩,
     ⟨some 56, .mv (.t 63), [], [], none, none⟩,
     ⟨some 64, .ext (.t 56) 0, [], [], none, none⟩,
     ⟨some 65, .ext (.t 56) 1, [], [], none, none⟩,
     ⟨some 10, .mv (.t 64), [], [], none, none⟩,
     ⟨some 11, .mv (.t 65), [], [], none, none⟩])
 (R_c4)) (St.mk s o) Q =
 (demand (lenSV (s 4)) (fun x1 =>
demand (binV BinOp.sub x1 (V.d (.int .i64 3))) (fun x2 =>
demand (slcSV (s 4) none (some x2)) (fun x3 =>
demand (binV BinOp.add x3 (V.d (.str [46, 57, 57]))) (fun x4 =>
callK C I (St.mk (upd (upd (upd (upd (upd (upd s 57 (s 4)) 58 (s 4)) 59 x1) 60 x2) 61 x3) 62 x4) o) (some 63) 51 [x4] (fun r5 or5 =>
demand (extV r5 0) (fun x6 =>
demand (extV r5 1) (fun x7 =>
wpB C I R_c4 (St.mk (look [(3, (s 3)), (4, (s 4)), (10, x6), (11, x7)]) (looko ([].map fun n => (n, or5 n)))) Q)))))))) := rfl

theorem g_law01_MoneyPlaces_c6_sh {R_o0 : List AOper} {R_c0 : ACode} {R_c5 : ACode} {C : Ctx} {I : Nat → Prop} {s : Nat → V} {o : Nat → Option Ob} {Q : Ex → St → Prop} : wpB C I (.seq (.seq (.region [3, 4, 55] (some []) none
     (⟨some 30, .mv (.t 5), [], [], none, none⟩ ::
      ⟨some 31, .bin .neq (.t 30) (.c (.d (.int .i64 0))), [], [], none, none⟩ ::
      ⟨some 32, .mv (.t 31), [], [], none, (some ([3, 4, 6, 7, 8, 9, 32], (some [])))⟩ ::
      R_o0))
  (R_c0))
 (R_c5)) (St.mk s o) Q =
 (demand (binV BinOp.neq (s 5) (V.d (.int .i64 0))) (fun x1 =>
opsB C I R_o0 (St.mk (look [(3, (s 3)), (4, (s 4)), (6, (s 6)), (7, (s 7)), (8, (s 8)), (9, (s 9)), (32, x1)]) (looko ([].map fun n => (n, o n)))) (fun st => (seqK (fun st => wpB C I R_c0 st (seqK (fun st => wpB C I R_c5 st Q) Q)) (seqK (fun st => wpB C I R_c5 st Q) Q)) .normal (St.trim st [3, 4, 55] (some []))))) := rfl

theorem g_law01_MoneyPlaces_c7_sh {R_c6 : ACode} {C : Ctx} {I : Nat → Prop} {s : Nat → V} {o : Nat → Option Ob} {Q : Ex → St → Prop} : wpB C I (.seq (.region [3, 4, 5, 6, 7, 8, 9] (some []) none
    [⟨some 26, .mv (.t 4), [], [], none, none⟩,
     ⟨some 27, .call 51 [(.t 26)], [], [], none, none⟩,
     ⟨some 25, .mv (.t 27), [], [], none, none⟩,
     ⟨some 28, .ext (.t 25) 0, [], [], none, none⟩,
     ⟨some 29, .ext (.t 25) 1, [], [], none, none⟩,
     ⟨some 8, .mv (.t 28), [], [], none, none⟩,
     ⟨some 9, .mv (.t 29), [], [], none, none⟩])
 (R_c6)) (St.mk s o) Q =
 (callK C I (St.mk (upd s 26 (s 4)) o) (some 27) 51 [(s 4)] (fun r1 or1 =>
demand (extV r1 0) (fun x2 =>
demand (extV r1 1) (fun x3 =>
wpB C I R_c6 (St.mk (look [(3, (s 3)), (4, (s 4)), (5, (s 5)), (6, (s 6)), (7, (s 7)), (8, x2), (9, x3)]) (looko ([].map fun n => (n, or1 n)))) Q)))) := rfl

theorem g_law01_MoneyPlaces_c8_sh {R_c7 : ACode} {C : Ctx} {I : Nat → Prop} {s : Nat → V} {o : Nat → Option Ob} {Q : Ex → St → Prop} : wpB C I (.seq (.region [3, 4, 5, 6, 7] (some []) none
    [⟨some 21, .mv (.t 3), [], [], none, none⟩,
     ⟨some 22, .call 50 [(.t 21)], [], [], none, none⟩,
     ⟨some 20, .mv (.t 22), [], [], none, none⟩,
     ⟨some 23, .ext (.t 20) 0, [], [], none, none⟩,
     ⟨some 24, .ext (.t 20) 1, [], [], none, none⟩,
     ⟨some 6, .mv (.t 23), [], [], none, none⟩,
     ⟨some 7, .mv (.t 24), [], [], none, none⟩])
 (R_c7)) (St.mk s o) Q =
 (callK C I (St.mk (upd s 21 (s 3)) o) (some 22) 50 [(s 3)] (fun r1 or1 =>
demand (extV r1 0) (fun x2 =>
demand (extV r1 1) (fun x3 =>
wpB C I R_c7 (St.mk (look [(3, (s 3)), (4, (s 4)), (5, (s 5)), (6, x2), (7, x3)]) (looko ([].map fun n => (n, or1 n)))) Q)))) := rfl

theorem g_law01_MoneyPlaces_code_sh {R_c8 : ACode} {C : Ctx} {I : Nat → Prop} {s : Nat → V} {o : Nat → Option Ob} {Q : Ex → St → Prop} : wpB C I (.seq (.region [0] (some []) none
    [⟨some 2, .mv (.c (.d (.bool false))), [], [], none, none⟩])
 (.seq (.region [3] (some []) none
     [⟨some 12, .mv (.t 0), [], [], none, none⟩,
      ⟨some 13, .bin .rem (.t 12) (.c (.d (.int .i64 1125899906842624))), [], [], none, none⟩,
      ⟨some 3, .mv (.t 13), [], [], none, none⟩])
  (.seq (.region [3, 4, 5] (some []) none
      [⟨some 15, .mv (.t 3), [], [], none, none⟩,
       ⟨some 16, .bin .mul (.c (.d (.int .i64 100))) (.t 15), [], [], none, none⟩,
       ⟨some 17, .call 50 [(.t 16)], [], [], none, none⟩,
       ⟨some 14, .mv (.t 17), [], [], none, none⟩,
       ⟨some 18, .ext (.t 14) 0, [], [], none, none⟩,
       ⟨some 19, .ext (.t 14) 1, [], [], none, none⟩,
       ⟨some 4, .mv (.t 18), [], [], none, none⟩,
       ⟨some 5, .mv (.t 19), [], [], none, none⟩])
   (R_c8)))) (St.mk s o) Q =
 (demand (binV BinOp.rem (s 0) (V.d (.int .i64 1125899906842624))) (fun x1 =>
demand (binV BinOp.mul (V.d (.int .i64 100)) x1) (fun x2 =>
callK C I (St.mk (upd (upd (look [(3, x1)]) 15 x1) 16 x2) (looko ([].map fun n => (n, o n)))) (some 17) 50 [x2] (fun r3 or3 =>
demand (extV r3 0) (fun x4 =>
demand (extV r3 1) (fun x5 =>
wpB C I R_c8 (St.mk (look [(3, x1), (4, x4), (5, x5)]) (looko ([].map fun n => (n, or3 n)))) Q)))))) := rfl

theorem g_law01_MoneySigns_o3_sh {C : Ctx} {I : Nat → Prop} {s : Nat → V} {o : Nat → Option Ob} {K : St → Prop} : opsB C I [⟨some 35, .pick (.t 33) (.t 34) (.c (.d (.bool false))), [], [], none, none⟩,
     ⟨some 2, .mv (.t 35), [], [], none, none⟩] (St.mk s o) K =
 (demand (pickV (s 33) (s 34) (V.d (.bool false))) (fun x1 =>
K (St.mk (upd (upd s 35 x1) 2 x1) o))) := rfl

theorem g_law01_MoneySigns_o2_sh {R_o3 : List AOper} {C : Ctx} {I : Nat → Prop} {s : Nat → V} {o : Nat → Option Ob} {K : St → Prop} : opsB C I (⟨some 34, .call 49 [], [], [], (some (7, 33, true)), (some ([33, 34], (some [])))⟩ ::
     R_o3) (St.mk s o) K =
 (guardK (s 33) true
 (callK C I (St.mk (upd s 33 (V.d (D.bool true))) o) (some 34) 49 [] (fun r1 or1 =>
opsB C I R_o3 (St.mk (look [(33, (V.d (D.bool true))), (34, r1)]) (looko ([].map fun n => (n, or1 n)))) K))
 (opsB C I R_o3 (St.mk (look [(33, (V.d (D.bool false))), (34, (V.tup []))]) (looko ([].map fun n => (n, o n)))) K)
 (opsB C I R_o3 (St.mk (look [(33, (V.tup [])), (34, (V.tup []))]) (looko ([].map fun n => (n, o n)))) K)) := rfl

theorem g_law01_MoneySigns_o1_sh {R_o2 : List AOper} {C : Ctx} {I : Nat → Prop} {s : Nat → V} {o : Nat → Option Ob} {K : St → Prop} : opsB C I (⟨some 32, .pick (.t 29) (.t 31) (.c (.d (.bool false))), [], [], none, none⟩ ::
     ⟨some 33, .mv (.t 32), [], [], none, (some ([33], (some [])))⟩ ::
     R_o2) (St.mk s o) K =
 (demand (pickV (s 29) (s 31) (V.d (.bool false))) (fun x1 =>
opsB C I R_o2 (St.mk (look [(33, x1)]) (looko ([].map fun n => (n, o n)))) K)) := rfl

theorem g_law01_MoneySigns_o0_sh {R_o1 : List AOper} {C : Ctx} {I : Nat → Prop} {s : Nat → V} {o : Nat → Option Ob} {K : St → Prop} : opsB C I (⟨some 30, .mv (.t 8), [], [], (some (3, 29, true)), none⟩ ::
     ⟨some 31, .bin .eql (.t 30) (.c (.d (.int .i64 3))), [], [], (some (3, 29, true)), (some ([29, 31], (some [])))⟩ ::
     R_o1) (St.mk s o) K =
 (guardK (s 29) true
 (demand (binV BinOp.eql (s 8) (V.d (.int .i64 3))) (fun x1 =>
opsB C I R_o1 (St.mk (look [(29, (V.d (D.bool true))), (31, x1)]) (looko ([].map fun n => (n, o n)))) K))
 (opsB C I R_o1 (St.mk (look [(29, (V.d (D.bool false))), (31, (V.tup []))]) (looko ([].map fun n => (n, o n)))) K)
 (opsB C I R_o1 (St.mk (look [(29, (V.tup [])), (31, (V.tup []))]) (looko ([].map fun n => (n, o n)))) K)) := rfl

theorem g_law01_MoneySigns_c0_sh {C : Ctx} {I : Nat → Prop} {s : Nat → V} {o : Nat → Option Ob} {Q : Ex → St → Prop} : wpB C I (.ret) (St.mk s o) Q =
 (Q .ret (St.mk s o)) := rfl

theorem g_law01_MoneySigns_o15_sh {C : Ctx} {I : Nat → Prop} {s : Nat → V} {o : Nat → Option Ob} {K : St → Prop} : opsB C I [⟨some 70, .pick (.t 68) (.t 69) (.c (.d (.bool false))), [], [], none, none⟩,
     ⟨some 2, .mv (.t 70), [], [], none, none⟩] (St.mk s o) K =
 (demand (pickV (s 68) (s 69) (V.d (.bool false))) (fun x1 =>
K (St.mk (upd (upd s 70 x1) 2 x1) o))) := rfl

theorem g_law01_MoneySigns_o14_sh {R_o15 : List AOper} {C : Ctx} {I : Nat → Prop} {s : Nat → V} {o : Nat → Option Ob} {K : St → Prop} : opsB C I (⟨some 69, .call 49 [], [], [], (some (32, 68, true)), (some ([68, 69], (some [])))⟩ ::
     R_o15) (St.mk s o) K =
 (guardK (s 68) true
 (callK C I (St.mk (upd s 68 (V.d (D.bool true))) o) (some 69) 49 [] (fun r1 or1 =>
opsB C I R_o15 (St.mk (look [(68, (V.d (D.bool true))), (69, r1)]) (looko ([].map fun n => (n, or1 n)))) K))
 (opsB C I R_o15 (St.mk (look [(68, (V.d (D.bool false))), (69, (V.tup []))]) (looko ([].map fun n => (n, o n)))) K)
 (opsB C I R_o15 (St.mk (look [(68, (V.tup [])), (69, (V.tup []))]) (looko ([].map fun n => (n, o n)))) K)) := rfl

theorem g_law01_MoneySigns_o13_sh {R_o14 : List AOper} {C : Ctx} {I : Nat → Prop} {s : Nat → V} {o : Nat → Option Ob} {K : St → Prop} : opsB C I (⟨some 67, .pick (.t 60) (.t 66) (.c (.d (.bool false))), [], [], none, none⟩ ::
     ⟨some 68, .mv (.t 67), [], [], none, (some ([68], (some [])))⟩ ::
     R_o14) (St.mk s o) K =
 (demand (pickV (s 60) (s 66) (V.d (.bool false))) (fun x1 =>
opsB C I R_o14 (St.mk (look [(68, x1)]) (looko ([].map fun n => (n, o n)))) K)) := rfl

theorem g_law01_MoneySigns_o12_sh {R_o13 : List AOper} {C : Ctx} {I : Nat → Prop} {s : Nat → V} {o : Nat → Option Ob} {K : St → Prop} : opsB C I (⟨some 61, .mv (.t 7), [], [], (some (24, 60, true)), none⟩ ::
     ⟨some 62, .idx (.t 61) (.c (.d (.int .i64 0))), [], [], (some (24, 60, true)), none⟩ ::
     ⟨some 63, .bin .eql (.t 62) (.c (.d (.int .u8 45))), [], [], (some (24, 60, true)), none⟩ ::
     ⟨some 64, .mv (.t 0), [], [], (some (24, 60, true)), none⟩ ::
     ⟨some 65, .bin .lss (.t 64) (.c (.d (.int .i64 0))), [], [], (some (24, 60, true)), none⟩ ::
     ⟨some 66, .beq false (.t 63) (.t 65), [], [], (some (24, 60, true)), (some ([60, 66], (some [])))⟩ ::
     R_o13) (St.mk s o) K =
 (guardK (s 60) true
 (demand (idxV (s 7) (V.d (.int .i64 0))) (fun x1 =>
demand (binV BinOp.eql x1 (V.d (.int .u8 45))) (fun x2 =>
demand (binV BinOp.lss (s 0) (V.d (.int .i64 0))) (fun x3 =>
demand (beqV false x2 x3) (fun x4 =>
opsB C I R_o13 (St.mk (look [(60, (V.d (D.bool true))), (66, x4)]) (looko ([].map fun n => (n, o n)))) K)))))
 (opsB C I R_o13 (St.mk (look [(60, (V.d (D.bool false))), (66, (V.tup []))]) (looko ([].map fun n => (n, o n)))) K)
 (opsB C I R_o13 (St.mk (look [(60, (V.tup [])), (66, (V.tup []))]) (looko ([].map fun n => (n, o n)))) K)) := rfl

theorem g_law01_MoneySigns_o11_sh {R_o12 : List AOper} {C : Ctx} {I : Nat → Prop} {s : Nat → V} {o : Nat → Option Ob} {K : St → Prop} : opsB C I (⟨some 59, .pick (.t 52) (.t 58) (.c (.d (.bool false))), [], [], none, none⟩ ::
     ⟨some 60, .mv (.t 59), [], [], none, (some ([0, 7, 60], (some [])))⟩ ::
     R_o12) (St.mk s o) K =
 (demand (pickV (s 52) (s 58) (V.d (.bool false))) (fun x1 =>
opsB C I R_o12 (St.mk (look [(0, (s 0)), (7, (s 7)), (60, x1)]) (looko ([].map fun n => (n, o n)))) K)) := rfl

theorem g_law01_MoneySigns_o10_sh {R_o11 : List AOper} {C : Ctx} {I : Nat → Prop} {s : Nat → V} {o : Nat → Option Ob} {K : St → Prop} : opsB C I (⟨some 53, .mv (.t 7), [], [], (some (16, 52, true)), none⟩ ::
     ⟨some 54, .mv (.t 7), [], [], (some (16, 52, true)), none⟩ ::
     ⟨some 55, .lenS (.t 54), [], [], (some (16, 52, true)), none⟩ ::
     ⟨some 56, .bin .sub (.t 55) (.c (.d (.int .i64 3))), [], [], (some (16, 52, true)), none⟩ ::
     ⟨some 57, .idx (.t 53) (.t 56), [], [], (some (16, 52, true)), none⟩ ::
     ⟨some 58, .bin .eql (.t 57) (.c (.d (.int .u8 46))), [], [], (some (16, 52, true)), (some ([0, 7, 52, 58], (some [])))⟩ ::
     R_o11) (St.mk s o) K =
 (guardK (s 52) true
 (demand (lenSV (s 7)) (fun x1 =>
demand (binV BinOp.sub x1 (V.d (.int .i64 3))) (fun x2 =>
demand (idxV (s 7) x2) (fun x3 =>
demand (binV BinOp.eql x3 (V.d (.int .u8 46))) (fun x4 =>
opsB C I R_o11 (St.mk (look [(0, (s 0)), (7, (s 7)), (52, (V.d (D.bool true))), (58, x4)]) (looko ([].map fun n => (n, o n)))) K)))))
 (opsB C I R_o11 (St.mk (look [(0, (s 0)), (7, (s 7)), (52, (V.d (D.bool false))), (58, (V.tup []))]) (looko ([].map fun n => (n, o n)))) K)
 (opsB C I R_o11 (St.mk (look [(0, (s 0)), (7, (s 7)), (52, (V.tup [])), (58, (V.tup []))]) (looko ([].map fun n => (n, o n)))) K)) := rfl

theorem g_law01_MoneySigns_o9_sh {R_o10 : List AOper} {C : Ctx} {I : Nat → Prop} {s : Nat → V} {o : Nat → Option Ob} {K : St → Prop} : opsB C I (⟨some 51, .pick (.t 47) (.t 50) (.c (.d (.bool false))), [], [], none, none⟩ ::
     ⟨some 52, .mv (.t 51), [], [], none, (some ([0, 7, 52], (some [])))⟩ ::
     R_o10) (St.mk s o) K =
 (demand (pickV (s 47) (s 50) (V.d (.bool false))) (fun x1 =>
opsB C I R_o10 (St.mk (look [(0, (s 0)), (7, (s 7)), (52, x1)]) (looko ([].map fun n => (n, o n)))) K)) := rfl

theorem g_law01_MoneySigns_o8_sh {R_o9 : List AOper} {C : Ctx} {I : Nat → Prop} {s : Nat → V} {o : Nat → Option Ob} {K : St → Prop} : opsB C I (⟨some 48, .mv (.t 7), [], [], (some (11, 47, true)), none⟩ ::
     ⟨some 49, .lenS (.t 48), [], [], (some (11, 47, true)), none⟩ ::
     ⟨some 50, .bin .geq (.t 49) (.c (.d (.int .i64 4))), [], [], (some (11, 47, true)), (some ([0, 7, 47, 50], (some [])))⟩ ::
     R_o9) (St.mk s o) K =
 (guardK (s 47) true
 (demand (lenSV (s 7)) (fun x1 =>
demand (binV BinOp.geq x1 (V.d (.int .i64 4))) (fun x2 =>
opsB C I R_o9 (St.mk (look [(0, (s 0)), (7, (s 7)), (47, (V.d (D.bool true))), (50, x2)]) (looko ([].map fun n => (n, o n)))) K)))
 (opsB C I R_o9 (St.mk (look [(0, (s 0)), (7, (s 7)), (47, (V.d (D.bool false))), (50, (V.tup []))]) (looko ([].map fun n => (n, o n)))) K)
 (opsB C I R_o9 (St.mk (look [(0, (s 0)), (7, (s 7)), (47, (V.tup [])), (50, (V.tup []))]) (looko ([].map fun n => (n, o n)))) K)) := rfl

theorem g_law01_MoneySigns_o7_sh {R_o8 : List AOper} {C : Ctx} {I : Nat → Prop} {s : Nat → V} {o : Nat → Option Ob} {K : St → Prop} : opsB C I (⟨some 46, .pick (.t 43) (.t 45) (.c (.d (.bool false))), [], [], none, none⟩ ::
     ⟨some 47, .mv (.t 46), [], [], none, (some ([0, 7, 47], (some [])))⟩ ::
     R_o8) (St.mk s o) K =
 (demand (pickV (s 43) (s 45) (V.d (.bool false))) (fun x1 =>
opsB C I R_o8 (St.mk (look [(0, (s 0)), (7, (s 7)), (47, x1)]) (looko ([].map fun n => (n, o n)))) K)) := rfl

theorem g_law01_MoneySigns_o6_sh {R_o7 : List AOper} {C : Ctx} {I : Nat → Prop} {s : Nat → V} {o : Nat → Option Ob} {K : St → Prop} : opsB C I (⟨some 44, .mv (.t 8), [], [], (some (7, 43, true)), none⟩ ::
     ⟨some 45, .bin .eql (.t 44) (.c (.d (.int .i64 0))), [], [], (some (7, 43, true)), (some ([0, 7, 43, 45], (some [])))⟩ ::
     R_o7) (St.mk s o) K =
 (guardK (s 43) true
 (demand (binV BinOp.eql (s 8) (V.d (.int .i64 0))) (fun x1 =>
opsB C I R_o7 (St.mk (look [(0, (s 0)), (7, (s 7)), (43, (V.d (D.bool true))), (45, x1)]) (looko ([].map fun n => (n, o n)))) K))
 (opsB C I R_o7 (St.mk (look [(0, (s 0)), (7, (s 7)), (43, (V.d (D.bool false))), (45, (V.tup []))]) (looko ([].map fun n => (n, o n)))) K)
 (opsB C I R_o7 (St.mk (look [(0, (s 0)), (7, (s 7)), (43, (V.tup [])), (45, (V.tup []))]) (looko ([].map fun n => (n, o n)))) K)) := rfl

theorem g_law01_MoneySigns_o5_sh {R_o6 : List AOper} {C : Ctx} {I : Nat → Prop} {s : Nat → V} {o : Nat → Option Ob} {K : St → Prop} : opsB C I (⟨some 42, .pick (.t 39) (.t 41) (.c (.d (.bool false))), [], [], none, none⟩ ::
     ⟨some 43, .mv (.t 42), [], [], none, (some ([0, 7, 8, 43], (some [])))⟩ ::
     R_o6) (St.mk s o) K =
 (demand (pickV (s 39) (s 41) (V.d (.bool false))) (fun x1 =>
opsB C I R_o6 (St.mk (look [(0, (s 0)), (7, (s 7)), (8, (s 8)), (43, x1)]) (looko ([].map fun n => (n, o n)))) K)) := rfl

theorem g_law01_MoneySigns_o4_sh {R_o5 : List AOper} {C : Ctx} {I : Nat → Prop} {s : Nat → V} {o : Nat → Option Ob} {K : St → Prop} : opsB C I (⟨some 40, .mv (.t 6), [], [], (some (3, 39, true)), none⟩ ::
     ⟨some 41, .bin .eql (.t 40) (.c (.d (.int .i64 0))), [], [], (some (3, 39, true)), (some ([0, 7, 8, 39, 41], (some [])))⟩ ::
     R_o5) (St.mk s o) K =
 (guardK (s 39) true
 (demand (binV BinOp.eql (s 6) (V.d (.int .i64 0))) (fun x1 =>
opsB C I R_o5 (St.mk (look [(0, (s 0)), (7, (s 7)), (8, (s 8)), (39, (V.d (D.bool true))), (41, x1)]) (looko ([].map fun n => (n, o n)))) K))
 (opsB C I R_o5 (St.mk (look [(0, (s 0)), (7, (s 7)), (8, (s 8)), (39, (V.d (D.bool false))), (41, (V.tup []))]) (looko ([].map fun n => (n, o n)))) K)
 (opsB C I R_o5 (St.mk (look [(0, (s 0)), (7, (s 7)), (8, (s 8)), (39, (V.tup [])), (41, (V.tup []))]) (looko ([].map fun n => (n, o n)))) K)) := rfl

theorem g_law01_MoneySigns_c1_sh {C : Ctx} {I : Nat → Prop} {s : Nat → V} {o : Nat → Option Ob} {Q : Ex → St → Prop} : wpB C I (.ret) (St.mk s o) Q =
 (Q .ret (St.mk s o)) := rfl

theorem g_law01_MoneySigns_c2_sh {R_o4 : List AOper} {R_c1 : ACode} {C : Ctx} {I : Nat → Prop} {s : Nat → V} {o : Nat → Option Ob} {Q : Ex → St → Prop} : wpB C I (.seq (.region [2] (some []) none
    (⟨some 36, .mv (.t 5), [], [], none, none⟩ ::
     ⟨some 37, .mv (.t 0), [], [], none, none⟩ ::
     ⟨some 38, .bin .eql (.t 36) (.t 37), [], [], none, none⟩ ::
     ⟨some 39, .mv (.t 38), [], [], none, (some ([0, 6, 7, 8, 39], (some [])))⟩ ::
     R_o4))
 (R_c1)) (St.mk s o) Q =
 (demand (binV BinOp.eql (s 5) (s 0)) (fun x1 =>
opsB C I R_o4 (St.mk (look [(0, (s 0)), (6, (s 6)), (7, (s 7)), (8, (s 8)), (39, x1)]) (looko ([].map fun n => (n, o n)))) (fun st => (seqK (fun st => wpB C I R_c1 st Q) Q) .normal (St.trim st [2] (some []))))) := rfl

theorem g_law01_MoneySigns_c3_sh {R_o0 : List AOper} {R_c0 : ACode} {R_c2 : ACode} {C : Ctx} {I : Nat → Prop} {s : Nat → V} {o : Nat → Option Ob} {Q : Ex → St → Prop} : wpB C I (.seq (.seq (.region [0, 5, 6, 7, 8, 25] (some []) none
     [⟨some 24, .mv (.t 4), [], [], none, none⟩,
      ⟨some 25, .bin .neq (.t 24) (.c (.d (.int .i64 0))), [], [], none, none⟩])
  (.cond (.t 25) (.seq (.region [2] (some []) none
       (⟨some 26, .mv (.t 0), [], [], none, none⟩ ::
        ⟨some 27, .call 58 [(.t 26)], [], [], none, none⟩ ::
        ⟨some 28, .un .not (.t 27), [], [], none, none⟩ ::
        ⟨some 29, .mv (.t 28), [], [], none, (some ([8, 29], (some [])))⟩ ::
        R_o0))
    (R_c0))
   (.skip)))
 (R_c2)) (St.mk s o) Q =
 (demand (binV BinOp.neq (s 4) (V.d (.int .i64 0))) (fun x1 =>
condK x1
 (callK C I (St.mk (upd (look [(0, (s 0)), (5, (s 5)), (6, (s 6)), (7, (s 7)), (8, (s 8)), (25, x1)]) 26 (s 0)) (looko ([].map fun n => (n, o n)))) (some 27) 58 [(s 0)] (fun r2 or2 =>
demand (unV UnOp.not r2) (fun x3 =>
opsB C I R_o0 (St.mk (look [(8, (s 8)), (29, x3)]) (looko ([].map fun n => (n, or2 n)))) (fun st => (seqK (fun st => wpB C I R_c0 st (seqK (fun st => wpB C I R_c2 st Q) Q)) (seqK (fun st => wpB C I R_c2 st Q) Q)) .normal (St.trim st [2] (some []))))))
 (wpB C I R_c2 (St.mk (look [(0, (s 0)), (5, (s 5)), (6, (s 6)), (7, (s 7)), (8, (s 8)), (25, x1)]) (looko ([].map fun n => (n, o n)))) Q))) := rfl

theorem g_law01_MoneySigns_c4_sh {R_c3 : ACode} {C : Ctx} {I : Nat → Prop} {s : Nat → V} {o : Nat → Option Ob} {Q : Ex → St → Prop} : wpB C I (.seq (.region [0, 4, 5, 6, 7, 8] (some []) none
    [⟨some 20, .mv (.t 0), [], [], none, none⟩,
     ⟨some 21, .call 50 [(.t 20)], [], [], none, none⟩,
     ⟨some 19, .mv (.t 21), [], [], none, none⟩,
     ⟨some 22, .ext (.t 19) 0, [], [], none, none⟩,
     ⟨some 23, .ext (.t 19) 1, [], [], none, none⟩,
     ⟨some 7, .mv (.t 22), [], [], none, none⟩,
     ⟨some 8, .mv (.t 23), [], [], none, none⟩])
 (R_c3)) (St.mk s o) Q =
 (callK C I (St.mk (upd s 20 (s 0)) o) (some 21) 50 [(s 0)] (fun r1 or1 =>
demand (extV r1 0) (fun x2 =>
demand (extV r1 1) (fun x3 =>
wpB C I R_c3 (St.mk (look [(0, (s 0)), (4, (s 4)), (5, (s 5)), (6, (s 6)), (7, x2), (8, x3)]) (looko ([].map fun n => (n, or1 n)))) Q)))) := rfl

theorem g_law01_MoneySigns_c5_sh {R_c4 : ACode} {C : Ctx} {I : Nat → Prop} {s : Nat → V} {o : Nat → Option Ob} {Q : Ex → St → Prop} : wpB C I (.seq (.region [0, 4, 5, 6] (some []) none
    [⟨some 15, .mv (.t 3), [], [], none, none⟩,
     ⟨some 16, .call 57 [(.t 15)], [], [], none, none⟩,
     ⟨some 14, .mv (.t 16), [], [], none, none⟩,
     ⟨some 17, .ext (.t 14) 0, [], [], none, none⟩,
     ⟨some 18, .ext (.t 14) 1, [], [], none, none⟩,
     ⟨some 5, .mv (.t 17), [], [], none, none⟩,
     ⟨some 6, .mv (.t 18), [], [], none, none⟩])
 (R_c4)) (St.mk s o) Q =
 (callK C I (St.mk (upd s 15 (s 3)) o) (some 16) 57 [(s 3)] (fun r1 or1 =>
demand (extV r1 0) (fun x2 =>
demand (extV r1 1) (fun x3 =>
wpB C I R_c4 (St.mk (look [(0, (s 0)), (4, (s 4)), (5, x2), (6, x3)]) (looko ([].map fun n => (n, or1 n)))) Q)))) := rfl

theorem g_law01_MoneySigns_code_sh {R_c5 : ACode} {C : Ctx} {I : Nat → Prop} {s : Nat → V} {o : Nat → Option Ob} {Q : Ex → St → Prop} : wpB C I (.seq (.region [0] (some []) none
    [⟨some 2, .mv (.c (.d (.bool false))), [], [], none, none⟩])
 (.seq (.region [0, 3, 4] (some []) none
     [⟨some 10, .mv (.t 0), [], [], none, none⟩,
      ⟨some 11, .call 57 [(.t 10)], [], [], none, none⟩,
      ⟨some 9, .mv (.t 11), [], [], none, none⟩,
      ⟨some 12, .ext (.t 9) 0, [], [], none, none⟩,
      ⟨some 13, .ext (.t 9) 1, [], [], none, none⟩,
      ⟨some 3, .mv (.t 12), [], [], none, none⟩,
      ⟨some 4, .mv (.t 13), [], [], none, none⟩])
  (R_c5))) (St.mk s o) Q =
 (callK C I (St.mk (upd (look [(0, (s 0))]) 10 (s 0)) (looko ([].map fun n => (n, o n)))) (some 11) 57 [(s 0)] (fun r1 or1 =>
demand (extV r1 0) (fun x2 =>
demand (extV r1 1) (fun x3 =>
wpB C I R_c5 (St.mk (look [(0, (s 0)), (3, x2), (4, x3)]) (looko ([].map fun n => (n, or1 n)))) Q)))) := rfl

theorem g_law01_MoneyLists_c0_sh {C : Ctx} {I : Nat → Prop} {s : Nat → V} {o : Nat → Option Ob} {Q : Ex → St → Prop} : wpB C I (.region [3, 4, 17, 18, 19] (some [27, 35, 40]) none
   [⟨some 28, .bin .add (.t 19) (.c (.d (.int .i64 1))), [], [], none, none⟩,
    ⟨some 19, .mv (.t 28), [], [], none, none⟩]) (St.mk s o) Q =
 (demand (binV BinOp.add (s 19) (V.d (.int .i64 1))) (fun x1 =>
Q .normal (St.mk (look [(3, (s 3)), (4, (s 4)), (17, (s 17)), (18, (s 18)), (19, x1)]) (looko ([27, 35, 40].map fun n => (n, o n)))))) := rfl

theorem g_law01_MoneyLists_l0_sh {R_l0 : ACode} {R_c0 : ACode} {C : Ctx} {I : Nat → Prop} {s : Nat → V} {o : Nat → Option Ob} {Q : Ex → St → Prop} (hL : R_l0 = .loop [3, 4, 17, 18, 19] (some [27, 35, 40]) (.seq (.region [3, 4, 17, 18, 19, 20] (some [27, 35, 40]) none
     [⟨some 20, .bin .lss (.t 19) (.t 18), [], [], none, none⟩])
  (.seq (.cond (.t 20) (.skip)
    (.exit 0))
   (.seq (.block 1 [3, 4, 17, 18, 19] (some [27, 35, 40]) (.seq (.region [3, 4, 6, 17, 18, 19] (some [27, 35, 40]) none
         [⟨some 21, .iaddr 1 (.t 17) (.t 19), [], [], none, none⟩,
          ⟨some 22, .load none (.t 21), [], [], none, none⟩,
          ⟨some 6, .mv (.t 22), [], [], none, none⟩])
      (.region [3, 4, 17, 18, 19] (some [27, 35, 40]) none
         [⟨some 23, .mv (.t 3), [], [], none, none⟩,
          ⟨some 24, .mv (.t 6), [], [], none, none⟩,
          ⟨some 25, .bin .rem (.t 24) (.c (.d (.int .i64 9007199254740992))), [], [], none, none⟩,
          ⟨some 26, .bsl none 1 [] 1 [(0, (.t 25))], [], [], none, none⟩,
          ⟨some 27, .app (some 27) 1 8 (.t 23) (.t 26), [], [], none, none⟩,
          ⟨some 3, .mv (.t 27), [], [], none, none⟩])))
    (R_c0)))))
 (h : demand (binV BinOp.lss (s 19) (s 18)) (fun x1 =>
condK x1
 (demand (iaddrV (looko ([27, 35, 40].map fun n => (n, o n))) 1 (s 17) (s 19)) (fun x2 =>
demand (loadV (looko ([27, 35, 40].map fun n => (n, o n))) none x2) (fun x3 =>
demand (binV BinOp.rem x3 (V.d (.int .i64 9007199254740992))) (fun x4 =>
lstK (partsN 1 [x4]) (fun es5 =>
lstK (readD (looko ([27, 35, 40].map fun n => (n, o n))) (V.d (D.sl es5))) (fun ys6 => (∀ e ∈ ys6, e.length = 1) ∧ appK (s 3)
 (ys6.length * 8 ≤ 140737488355328 ∧ ys6.length ≤ 140737488355328 ∧ ¬ I 27 ∧ Fresh (St.mk (upd (upd (upd (upd (look [(3, (s 3)), (4, (s 4)), (6, x3), (17, (s 17)), (18, (s 18)), (19, (s 19))]) 23 (s 3)) 24 x3) 25 x4) 26 (V.d (D.sl es5))) (looko ([27, 35, 40].map fun n => (n, o n)))) 27 (some 27) ∧
wpB C I R_c0 (St.mk (look [(3, (V.own 27)), (4, (s 4)), (17, (s 17)), (18, (s 18)), (19, (s 19))]) (looko ([27, 35, 40].map fun n => (n, (upd (looko ([27, 35, 40].map fun n => (n, o n))) 27 (some (Ob.row 1 ys6))) n)))) (seqK (fun s => wpB C I R_l0 s Q) Q))
 (fun m7 => ¬ I m7 ∧ rowK ((looko ([27, 35, 40].map fun n => (n, o n))) m7) (fun z8 es9 => z8 = 1 ∧ (es9.length + ys6.length) * 8 ≤ 140737488355328 ∧ es9.length + ys6.length ≤ 140737488355328 ∧
wpB C I R_c0 (St.mk (look [(3, (V.own m7)), (4, (scrubV m7 (s 4))), (17, (scrubV m7 (s 17))), (18, (scrubV m7 (s 18))), (19, (scrubV m7 (s 19)))]) (looko ([27, 35, 40].map fun n => (n, (upd (fun n => ((looko ([27, 35, 40].map fun n => (n, o n))) n).map (Ob.scrub m7)) m7 (some (Ob.row 1 (es9 ++ ys6)))) n)))) (seqK (fun s => wpB C I R_l0 s Q) Q)))))))))
 (Q (.exit 0) (St.mk (look [(3, (s 3)), (4, (s 4)), (17, (s 17)), (18, (s 18)), (19, (s 19)), (20, x1)]) (looko ([27, 35, 40].map fun n => (n, o n))))))) : wpB C I R_l0 (St.mk s o) Q := w_loopC hL h

theorem g_law01_MoneyLists_o9_sh {C : Ctx} {I : Nat → Prop} {s : Nat → V} {o : Nat → Option Ob} {K : St → Prop} : opsB C I [⟨some 76, .pick (.t 74) (.t 75) (.c (.d (.bool false))), [], [], none, none⟩,
     ⟨some 2, .mv (.t 76), [], [], none, none⟩] (St.mk s o) K =
 (demand (pickV (s 74) (s 75) (V.d (.bool false))) (fun x1 =>
K (St.mk (upd (upd s 76 x1) 2 x1) o))) := rfl

theorem g_law01_MoneyLists_o8_sh {R_o9 : List AOper} {C : Ctx} {I : Nat → Prop} {s : Nat → V} {o : Nat → Option Ob} {K : St → Prop} : opsB C I (⟨some 75, .call 49 [], [], [], (some (19, 74, true)), (some ([74, 75], (some [])))⟩ ::
     R_o9) (St.mk s o) K =
 (guardK (s 74) true
 (callK C I (St.mk (upd s 74 (V.d (D.bool true))) o) (some 75) 49 [] (fun r1 or1 =>
opsB C I R_o9 (St.mk (look [(74, (V.d (D.bool true))), (75, r1)]) (looko ([].map fun n => (n, or1 n)))) K))
 (opsB C I R_o9 (St.mk (look [(74, (V.d (D.bool false))), (75, (V.tup []))]) (looko ([].map fun n => (n, o n)))) K)
 (opsB C I R_o9 (St.mk (look [(74, (V.tup [])), (75, (V.tup []))]) (looko ([].map fun n => (n, o n)))) K)) := rfl

theorem g_law01_MoneyLists_o7_sh {R_o8 : List AOper} {C : Ctx} {I : Nat → Prop} {s : Nat → V} {o : Nat → Option Ob} {K : St → Prop} : opsB C I (⟨some 73, .pick (.t 70) (.t 72) (.c (.d (.bool false))), [], [], none, none⟩ ::
     ⟨some 74, .mv (.t 73), [], [], none, (some ([74], (some [])))⟩ ::
     R_o8) (St.mk s o) K =
 (demand (pickV (s 70) (s 72) (V.d (.bool false))) (fun x1 =>
opsB C I R_o8 (St.mk (look [(74, x1)]) (looko ([].map fun n => (n, o n)))) K)) := rfl

theorem g_law01_MoneyLists_o6_sh {R_o7 : List AOper} {C : Ctx} {I : Nat → Prop} {s : Nat → V} {o : Nat → Option Ob} {K : St → Prop} : opsB C I (⟨some 71, .mv (.t 12), [], [], (some (15, 70, true)), none⟩ ::
     ⟨some 72, .bin .eql (.t 71) (.c (.d (.int .i64 0))), [], [], (some (15, 70, true)), (some ([70, 72], (some [])))⟩ ::
     R_o7) (St.mk s o) K =
 (guardK (s 70) true
 (demand (binV BinOp.eql (s 12) (V.d (.int .i64 0))) (fun x1 =>
opsB C I R_o7 (St.mk (look [(70, (V.d (D.bool true))), (72, x1)]) (looko ([].map fun n => (n, o n)))) K))
 (opsB C I R_o7 (St.mk (look [(70, (V.d (D.bool false))), (72, (V.tup []))]) (looko ([].map fun n => (n, o n)))) K)
 (opsB C I R_o7 (St.mk (look [(70, (V.tup [])), (72, (V.tup []))]) (looko ([].map fun n => (n, o n)))) K)) := rfl

theorem g_law01_MoneyLists_o5_sh {R_o6 : List AOper} {C : Ctx} {I : Nat → Prop} {s : Nat → V} {o : Nat → Option Ob} {K : St → Prop} : opsB C I (⟨some 69, .pick (.t 66) (.t 68) (.c (.d (.bool false))), [], [], none, none⟩ ::
     ⟨some 70, .mv (.t 69), [], [], none, (some ([12, 70], (some [])))⟩ ::
     R_o6) (St.mk s o) K =
 (demand (pickV (s 66) (s 68) (V.d (.bool false))) (fun x1 =>
opsB C I R_o6 (St.mk (look [(12, (s 12)), (70, x1)]) (looko ([].map fun n => (n, o n)))) K)) := rfl

theorem g_law01_MoneyLists_o4_sh {R_o5 : List AOper} {C : Ctx} {I : Nat → Prop} {s : Nat → V} {o : Nat → Option Ob} {K : St → Prop} : opsB C I (⟨some 67, .mv (.t 11), [], [], (some (11, 66, true)), none⟩ ::
     ⟨some 68, .bin .eql (.t 67) (.c (.d (.int .i64 0))), [], [], (some (11, 66, true)), (some ([12, 66, 68], (some [])))⟩ ::
     R_o5) (St.mk s o) K =
 (guardK (s 66) true
 (demand (binV BinOp.eql (s 11) (V.d (.int .i64 0))) (fun x1 =>
opsB C I R_o5 (St.mk (look [(12, (s 12)), (66, (V.d (D.bool true))), (68, x1)]) (looko ([].map fun n => (n, o n)))) K))
 (opsB C I R_o5 (St.mk (look [(12, (s 12)), (66, (V.d (D.bool false))), (68, (V.tup []))]) (looko ([].map fun n => (n, o n)))) K)
 (opsB C I R_o5 (St.mk (look [(12, (s 12)), (66, (V.tup [])), (68, (V.tup []))]) (looko ([].map fun n => (n, o n)))) K)) := rfl

theorem g_law01_MoneyLists_o3_sh {R_o4 : List AOper} {C : Ctx} {I : Nat → Prop} {s : Nat → V} {o : Nat → Option Ob} {K : St → Prop} : opsB C I (⟨some 65, .pick (.t 62) (.t 64) (.c (.d (.bool false))), [], [], none, none⟩ ::
     ⟨some 66, .mv (.t 65), [], [], none, (some ([11, 12, 66], (some [])))⟩ ::
     R_o4) (St.mk s o) K =
 (demand (pickV (s 62) (s 64) (V.d (.bool false))) (fun x1 =>
opsB C I R_o4 (St.mk (look [(11, (s 11)), (12, (s 12)), (66, x1)]) (looko ([].map fun n => (n, o n)))) K)) := rfl

theorem g_law01_MoneyLists_o2_sh {R_o3 : List AOper} {C : Ctx} {I : Nat → Prop} {s : Nat → V} {o : Nat → Option Ob} {K : St → Prop} : opsB C I (⟨some 63, .mv (.t 10), [], [], (some (7, 62, true)), none⟩ ::
     ⟨some 64, .bin .eql (.t 63) (.c (.d (.int .i64 0))), [], [], (some (7, 62, true)), (some ([11, 12, 62, 64], (some [])))⟩ ::
     R_o3) (St.mk s o) K =
 (guardK (s 62) true
 (demand (binV BinOp.eql (s 10) (V.d (.int .i64 0))) (fun x1 =>
opsB C I R_o3 (St.mk (look [(11, (s 11)), (12, (s 12)), (62, (V.d (D.bool true))), (64, x1)]) (looko ([].map fun n => (n, o n)))) K))
 (opsB C I R_o3 (St.mk (look [(11, (s 11)), (12, (s 12)), (62, (V.d (D.bool false))), (64, (V.tup []))]) (looko ([].map fun n => (n, o n)))) K)
 (opsB C I R_o3 (St.mk (look [(11, (s 11)), (12, (s 12)), (62, (V.tup [])), (64, (V.tup []))]) (looko ([].map fun n => (n, o n)))) K)) := rfl

theorem g_law01_MoneyLists_o1_sh {R_o2 : List AOper} {C : Ctx} {I : Nat → Prop} {s : Nat → V} {o : Nat → Option Ob} {K : St → Prop} : opsB C I (⟨some 61, .pick (.t 58) (.t 60) (.c (.d (.bool false))), [], [], none, none⟩ ::
     ⟨some 62, .mv (.t 61), [], [], none, (some ([10, 11, 12, 62], (some [])))⟩ ::
     R_o2) (St.mk s o) K =
 (demand (pickV (s 58) (s 60) (V.d (.bool false))) (fun x1 =>
opsB C I R_o2 (St.mk (look [(10, (s 10)), (11, (s 11)), (12, (s 12)), (62, x1)]) (looko ([].map fun n => (n, o n)))) K)) := rfl

theorem g_law01_MoneyLists_o0_sh {R_o1 : List AOper} {C : Ctx} {I : Nat → Prop} {s : Nat → V} {o : Nat → Option Ob} {K : St → Prop} : opsB C I (⟨some 59, .mv (.t 8), [], [], (some (3, 58, true)), none⟩ ::
     ⟨some 60, .bin .eql (.t 59) (.c (.d (.int .i64 0))), [], [], (some (3, 58, true)), (some ([10, 11, 12, 58, 60], (some [])))⟩ ::
     R_o1) (St.mk s o) K =
 (guardK (s 58) true
 (demand (binV BinOp.eql (s 8) (V.d (.int .i64 0))) (fun x1 =>
opsB C I R_o1 (St.mk (look [(10, (s 10)), (11, (s 11)), (12, (s 12)), (58, (V.d (D.bool true))), (60, x1)]) (looko ([].map fun n => (n, o n)))) K))
 (opsB C I R_o1 (St.mk (look [(10, (s 10)), (11, (s 11)), (12, (s 12)), (58, (V.d (D.bool false))), (60, (V.tup []))]) (looko ([].map fun n => (n, o n)))) K)
 (opsB C I R_o1 (St.mk (look [(10, (s 10)), (11, (s 11)), (12, (s 12)), (58, (V.tup [])), (60, (V.tup []))]) (looko ([].map fun n => (n, o n)))) K)) := rfl

theorem g_law01_MoneyLists_c1_sh {C : Ctx} {I : Nat → Prop} {s : Nat → V} {o : Nat → Option Ob} {Q : Ex → St → Prop} : wpB C I (.ret) (St.mk s o) Q =
 (Q .ret (St.mk s o)) := rfl

theorem g_law01_MoneyLists_c2_sh {R_o0 : List AOper} {R_c1 : ACode} {C : Ctx} {I : Nat → Prop} {s : Nat → V} {o : Nat → Option Ob} {Q : Ex → St → Prop} : wpB C I (.seq (.region [2] (some []) none
    (⟨some 55, .mv (.t 7), [], [], none, none⟩ ::
     ⟨some 56, .mv (.t 9), [], [], none, none⟩ ::
     ⟨some 57, .bin .eql (.t 55) (.t 56), [], [], none, none⟩ ::
     ⟨some 58, .mv (.t 57), [], [], none, (some ([8, 10, 11, 12, 58], (some [])))⟩ ::
     R_o0))
 (R_c1)) (St.mk s o) Q =
 (demand (binV BinOp.eql (s 7) (s 9)) (fun x1 =>
opsB C I R_o0 (St.mk (look [(8, (s 8)), (10, (s 10)), (11, (s 11)), (12, (s 12)), (58, x1)]) (looko ([].map fun n => (n, o n)))) (fun st => (seqK (fun st => wpB C I R_c1 st Q) Q) .normal (St.trim st [2] (some []))))) := rfl

theorem g_law01_MoneyLists_c3_sh {R_c2 : ACode} {C : Ctx} {I : Nat → Prop} {s : Nat → V} {o : Nat → Option Ob} {Q : Ex → St → Prop} : wpB C I (.seq (.region [7, 8, 9, 10, 11, 12] (some []) none
    [⟨some 52, .call 60 [(.c (.cap0))], [], [], none, none⟩,
     ⟨some 51, .mv (.t 52), [], [], none, none⟩,
     ⟨some 53, .ext (.t 51) 0, [], [], none, none⟩,
     ⟨some 54, .ext (.t 51) 1, [], [], none, none⟩,
     ⟨some 11, .mv (.t 53), [], [], none, none⟩,
     ⟨some 12, .mv (.t 54), [], [], none, none⟩])
 (R_c2)) (St.mk s o) Q =
 (callK C I (St.mk s o) (some 52) 60 [(V.cap0)] (fun r1 or1 =>
demand (extV r1 0) (fun x2 =>
demand (extV r1 1) (fun x3 =>
wpB C I R_c2 (St.mk (look [(7, (s 7)), (8, (s 8)), (9, (s 9)), (10, (s 10)), (11, x2), (12, x3)]) (looko ([].map fun n => (n, or1 n)))) Q)))) := rfl

theorem g_law01_MoneyLists_c4_sh {R_c3 : ACode} {C : Ctx} {I : Nat → Prop} {s : Nat → V} {o : Nat → Option Ob} {Q : Ex → St → Prop} : wpB C I (.seq (.region [7, 8, 9, 10] (some []) none
    [⟨some 47, .mv (.t 4), [], [], none, none⟩,
     ⟨some 48, .call 60 [(.t 47)], [47], [], none, none⟩,
     ⟨some 46, .mv (.t 48), [], [], none, none⟩,
     ⟨some 49, .ext (.t 46) 0, [], [], none, none⟩,
     ⟨some 50, .ext (.t 46) 1, [], [], none, none⟩,
     ⟨some 9, .mv (.t 49), [], [], none, none⟩,
     ⟨some 10, .mv (.t 50), [], [], none, none⟩])
 (R_c3)) (St.mk s o) Q =
 (frzK (St.mk (upd s 47 (s 4)) o) [47] (fun st1 =>
callK C I (St.mk st1.s st1.o) (some 48) 60 [(st1.s 47)] (fun r2 or2 =>
demand (extV r2 0) (fun x3 =>
demand (extV r2 1) (fun x4 =>
wpB C I R_c3 (St.mk (look [(7, (st1.s 7)), (8, (st1.s 8)), (9, x3), (10, x4)]) (looko ([].map fun n => (n, or2 n)))) Q))))) := rfl

theorem g_law01_MoneyLists_c5_sh {R_c4 : ACode} {C : Ctx} {I : Nat → Prop} {s : Nat → V} {o : Nat → Option Ob} {Q : Ex → St → Prop} : wpB C I (.seq (.region [4, 7, 8] (some [35, 40]) none
    [⟨some 42, .mv (.t 3), [], [], none, none⟩,
     ⟨some 43, .call 60 [(.t 42)], [42], [], none, none⟩,
     ⟨some 41, .mv (.t 43), [], [], none, none⟩,
     ⟨some 44, .ext (.t 41) 0, [], [], none, none⟩,
     ⟨some 45, .ext (.t 41) 1, [], [], none, none⟩,
     ⟨some 7, .mv (.t 44), [], [], none, none⟩,
     ⟨some 8, .mv (.t 45), [], [], none, none⟩])
 (R_c4)) (St.mk s o) Q =
 (frzK (St.mk (upd s 42 (s 3)) o) [42] (fun st1 =>
callK C I (St.mk st1.s st1.o) (some 43) 60 [(st1.s 42)] (fun r2 or2 =>
demand (extV r2 0) (fun x3 =>
demand (extV r2 1) (fun x4 =>
wpB C I R_c4 (St.mk (look [(4, (st1.s 4)), (7, x3), (8, x4)]) (looko ([35, 40].map fun n => (n, or2 n)))) Q))))) := rfl

theorem g_law01_MoneyLists_c6_sh {R_c5 : ACode} {C : Ctx} {I : Nat → Prop} {s : Nat → V} {o : Nat → Option Ob} {Q : Ex → St → Prop} : wpB C I (.seq (.seq (.region [3, 4, 31] (some [27, 35, 40]) none
     [⟨some 29, .mv (.t 3), [], [], none, none⟩,
      ⟨some 30, .len (.t 29), [29], [], none, none⟩,
      ⟨some 31, .bin .gtr (.t 30) (.c (.d (.int .i64 0))), [], [], none, none⟩])
  (.cond (.t 31) (.region [3, 4] (some [27, 35, 40]) (some ([0, 1, 2, 4, 5, 6, 7], .one 3 (.one 8 (.one 9 (.done)))))
      [⟨some 32, .mv (.t 4), [], [], none, none⟩,
       ⟨some 33, .mv (.t 3), [], [], none, none⟩,
       ⟨some 34, .slc 1 (.t 33) (some (.c (.d (.int .i64 1)))) none, [], [1], none, none⟩,
       ⟨some 35, .app (some 35) 1 8 (.t 32) (.t 34), [], [0, 2], none, none⟩,
       ⟨some 36, .mv (.t 3), [], [], none, none⟩,
       ⟨some 37, .iaddr 1 (.t 36) (.c (.d (.int .i64 0))), [], [4], none, none⟩,
       ⟨some 38, .load none (.t 37), [], [5], none, none⟩,
       ⟨some 39, .bsl none 1 [] 1 [(0, (.t 38))], [], [6], none, none⟩,
       ⟨some 40, .app (some 40) 1 8 (.t 35) (.t 39), [], [3, 7, 3], none, none⟩,
       ⟨some 4, .mv (.t 40), [], [8, 8, 0, 1, 2, 3, 4, 5, 6, 7, 8], none, none⟩])
   (.skip)))
 (R_c5)) (St.mk s o) Q =
 (frzK (St.mk (upd s 29 (s 3)) o) [29] (fun st1 =>
demand (lenV st1.o (st1.s 29)) (fun x2 =>
demand (binV BinOp.gtr x2 (V.d (.int .i64 0))) (fun x3 =>
condK x3
 (V.undef = V.undef ∧ (quietV (looko ([27, 35, 40].map fun n => (n, st1.o n))) ((st1.s 4) :: [(st1.s 4)]) ∧
V.undef = V.undef ∧ (quietV (looko ([27, 35, 40].map fun n => (n, st1.o n))) ((st1.s 3) :: [(st1.s 3)]) ∧
V.undef = V.undef ∧ (demand (slcV 1 (st1.s 3) (some (V.d (.int .i64 1))) none) (fun x6 => quietV (looko ([27, 35, 40].map fun n => (n, st1.o n))) (x6 :: [(st1.s 3), (V.d (.int .i64 1))]) ∧
V.undef = V.undef ∧ (quietV (looko ([27, 35, 40].map fun n => (n, st1.o n))) ((st1.s 3) :: [(st1.s 3)]) ∧
V.undef = V.undef ∧ (demand (iaddrV (looko ([27, 35, 40].map fun n => (n, st1.o n))) 1 (st1.s 3) (V.d (.int .i64 0))) (fun x8 => quietV (looko ([27, 35, 40].map fun n => (n, st1.o n))) (x8 :: [(st1.s 3), (V.d (.int .i64 0))]) ∧
V.undef = V.undef ∧ (demand (loadV (looko ([27, 35, 40].map fun n => (n, st1.o n))) none x8) (fun x9 => quietV (looko ([27, 35, 40].map fun n => (n, st1.o n))) (x9 :: [x8]) ∧
V.undef = V.undef ∧ (lstK (partsN 1 [x9]) (fun x10 => quietV (looko ([27, 35, 40].map fun n => (n, st1.o n))) ((V.d (D.sl x10)) :: [x9]) ∧
(([] : List Nat) = [] ∧ ((lstK (readD (looko ([27, 35, 40].map fun n => (n, st1.o n))) x6) (fun ys11 => (∀ e ∈ ys11, e.length = 1) ∧ appK (st1.s 4)
 (ys11.length * 8 ≤ 140737488355328 ∧ ys11.length ≤ 140737488355328 ∧ ¬ I 35 ∧ Fresh (St.mk (upd (upd (upd (upd (upd (upd (upd (look [(3, (st1.s 3)), (4, (st1.s 4)), (31, x3)]) 32 (st1.s 4)) 33 (st1.s 3)) 34 x6) 36 (st1.s 3)) 37 x8) 38 x9) 39 (V.d (D.sl x10))) (looko ([27, 35, 40].map fun n => (n, st1.o n)))) 35 (some 35) ∧
(([] : List Nat) = [] ∧ ((lstK (readD (upd (looko ([27, 35, 40].map fun n => (n, st1.o n))) 35 (some (Ob.row 1 ys11))) (V.d (D.sl x10))) (fun ys16 => (∀ e ∈ ys16, e.length = 1) ∧ appK (V.own 35)
 (ys16.length * 8 ≤ 140737488355328 ∧ ys16.length ≤ 140737488355328 ∧ ¬ I 40 ∧ Fresh (St.mk (upd (upd (upd (upd (upd (upd (upd (upd (look [(3, (st1.s 3)), (4, (st1.s 4)), (31, x3)]) 32 (st1.s 4)) 33 (st1.s 3)) 34 x6) 36 (st1.s 3)) 37 x8) 38 x9) 39 (V.d (D.sl x10))) 35 (V.own 35)) (upd (looko ([27, 35, 40].map fun n => (n, st1.o n))) 35 (some (Ob.row 1 ys11)))) 40 (some 40) ∧
(([] : List Nat) = [] ∧ (wpB C I R_c5 (St.mk (look [(3, (st1.s 3)), (4, (V.own 40))]) (looko ([27, 35, 40].map fun n => (n, (upd (upd (looko ([27, 35, 40].map fun n => (n, st1.o n))) 35 (some (Ob.row 1 ys11))) 40 (some (Ob.row 1 ys16))) n)))) Q)))
 (fun m17 => ¬ I m17 ∧ rowK ((upd (looko ([27, 35, 40].map fun n => (n, st1.o n))) 35 (some (Ob.row 1 ys11))) m17) (fun z18 es19 => z18 = 1 ∧ (es19.length + ys16.length) * 8 ≤ 140737488355328 ∧ es19.length + ys16.length ≤ 140737488355328 ∧
(([] : List Nat) = [] ∧ (wpB C I R_c5 (St.mk (look [(3, (scrubV m17 (st1.s 3))), (4, (V.own m17))]) (looko ([27, 35, 40].map fun n => (n, (upd (fun n => ((upd (looko ([27, 35, 40].map fun n => (n, st1.o n))) 35 (some (Ob.row 1 ys11))) n).map (Ob.scrub m17)) m17 (some (Ob.row 1 (es19 ++ ys16)))) n)))) Q)))))) ∧ ∀ m, (V.own 35) = .own m → ∀ n cs, (upd (looko ([27, 35, 40].map fun n => (n, st1.o n))) 35 (some (Ob.row 1 ys11))) n = some (.box cs) → V.refsL m cs = false)))
 (fun m12 => ¬ I m12 ∧ rowK ((looko ([27, 35, 40].map fun n => (n, st1.o n))) m12) (fun z13 es14 => z13 = 1 ∧ (es14.length + ys11.length) * 8 ≤ 140737488355328 ∧ es14.length + ys11.length ≤ 140737488355328 ∧
(([] : List Nat) = [] ∧ ((lstK (readD (upd (fun n => ((looko ([27, 35, 40].map fun n => (n, st1.o n))) n).map (Ob.scrub m12)) m12 (some (Ob.row 1 (es14 ++ ys11)))) (scrubV m12 (V.d (D.sl x10)))) (fun ys21 => (∀ e ∈ ys21, e.length = 1) ∧ appK (V.own m12)
 (ys21.length * 8 ≤ 140737488355328 ∧ ys21.length ≤ 140737488355328 ∧ ¬ I 40 ∧ Fresh (St.mk (upd (fun t => scrubV m12 ((upd (upd (upd (upd (upd (upd (upd (look [(3, (st1.s 3)), (4, (st1.s 4)), (31, x3)]) 32 (st1.s 4)) 33 (st1.s 3)) 34 x6) 36 (st1.s 3)) 37 x8) 38 x9) 39 (V.d (D.sl x10))) t)) 35 (V.own m12)) (upd (fun n => ((looko ([27, 35, 40].map fun n => (n, st1.o n))) n).map (Ob.scrub m12)) m12 (some (Ob.row 1 (es14 ++ ys11))))) 40 (some 40) ∧
(([] : List Nat) = [] ∧ (wpB C I R_c5 (St.mk (look [(3, (scrubV m12 (st1.s 3))), (4, (V.own 40))]) (looko ([27, 35, 40].map fun n => (n, (upd (upd (fun n => ((looko ([27, 35, 40].map fun n => (n, st1.o n))) n).map (Ob.scrub m12)) m12 (some (Ob.row 1 (es14 ++ ys11)))) 40 (some (Ob.row 1 ys21))) n)))) Q)))
 (fun m22 => ¬ I m22 ∧ rowK ((upd (fun n => ((looko ([27, 35, 40].map fun n => (n, st1.o n))) n).map (Ob.scrub m12)) m12 (some (Ob.row 1 (es14 ++ ys11)))) m22) (fun z23 es24 => z23 = 1 ∧ (es24.length + ys21.length) * 8 ≤ 140737488355328 ∧ es24.length + ys21.length ≤ 140737488355328 ∧
(([] : List Nat) = [] ∧ (wpB C I R_c5 (St.mk (look [(3, (scrubV m22 (scrubV m12 (st1.s 3)))), (4, (V.own m22))]) (looko ([27, 35, 40].map fun n => (n, (upd (fun n => ((upd (fun n => ((looko ([27, 35, 40].map fun n => (n, st1.o n))) n).map (Ob.scrub m12)) m12 (some (Ob.row 1 (es14 ++ ys11)))) n).map (Ob.scrub m22)) m22 (some (Ob.row 1 (es24 ++ ys21)))) n)))) Q)))))) ∧ ∀ m, (V.own m12) = .own m → ∀ n cs, (upd (fun n => ((looko ([27, 35, 40].map fun n => (n, st1.o n))) n).map (Ob.scrub m12)) m12 (some (Ob.row 1 (es14 ++ ys11)))) n = some (.box cs) → V.refsL m cs = false)))))) ∧ ∀ m, (st1.s 4) = .own m → ∀ n cs, (looko ([27, 35, 40].map fun n => (n, st1.o n))) n = some (.box cs) → V.refsL m cs = false))))))))))))))
 (wpB C I R_c5 (St.mk (look [(3, (st1.s 3)), (4, (st1.s 4)), (31, x3)]) (looko ([27, 35, 40].map fun n => (n, st1.o n)))) Q))))) := rfl

theorem g_law01_MoneyLists_c7_sh {R_l0 : ACode} {R_c6 : ACode} {C : Ctx} {I : Nat → Prop} {s : Nat → V} {o : Nat → Option Ob} {Q : Ex → St → Prop} : wpB C I (.seq (.region [0, 3, 4] (some [27, 35, 40]) none
    [⟨some 3, .mv (.c (.cap0)), [], [], none, none⟩,
     ⟨some 4, .mv (.c (.cap0)), [], [], none, none⟩])
 (.seq (.seq (.region [3, 4, 17, 18, 19] (some [27, 35, 40]) none
      [⟨some 17, .mv (.t 0), [], [], none, none⟩,
       ⟨some 18, .len (.t 17), [], [], none, none⟩,
       ⟨some 19, .mv (.c (.d (.int .i64 0))), [], [], none, none⟩])
   (.block 0 [3, 4] (some [27, 35, 40]) (R_l0)))
  (R_c6))) (St.mk s o) Q =
 (demand (lenV (looko ([27, 35, 40].map fun n => (n, o n))) (s 0)) (fun x1 =>
wpB C I R_l0 (St.mk (look [(3, (V.cap0)), (4, (V.cap0)), (17, (s 0)), (18, x1), (19, (V.d (.int .i64 0)))]) (looko ([27, 35, 40].map fun n => (n, o n)))) (blockK 0 [3, 4] (some [27, 35, 40]) (seqK (fun st => wpB C I R_c6 st Q) Q)))) := rfl

theorem g_law01_MoneyLists_code_sh {R_c7 : ACode} {C : Ctx} {I : Nat → Prop} {s : Nat → V} {o : Nat → Option Ob} {Q : Ex → St → Prop} : wpB C I (.seq (.region [0] (some []) none
    [⟨some 2, .mv (.c (.d (.bool false))), [], [], none, none⟩])
 (.seq (.seq (.region [0, 15] (some []) none
      [⟨some 13, .mv (.t 0), [], [], none, none⟩,
       ⟨some 14, .len (.t 13), [], [], none, none⟩,
       ⟨some 15, .bin .gtr (.t 14) (.c (.d (.int .i64 100))), [], [], none, none⟩])
   (.cond (.t 15) (.seq (.region [2] (some []) none
        [⟨some 16, .call 49 [], [], [], none, none⟩,
         ⟨some 2, .mv (.t 16), [], [], none, none⟩])
     (.ret))
    (.skip)))
  (R_c7))) (St.mk s o) Q =
 (demand (lenV (looko ([].map fun n => (n, o n))) (s 0)) (fun x1 =>
demand (binV BinOp.gtr x1 (V.d (.int .i64 100))) (fun x2 =>
condK x2
 (callK C I (St.mk (look [(0, (s 0)), (15, x2)]) (looko ([].map fun n => (n, o n)))) (some 16) 49 [] (fun r3 or3 =>
Q .ret (St.mk (look [(2, r3)]) (looko ([].map fun n => (n, or3 n))))))
 (wpB C I R_c7 (St.mk (look [(0, (s 0)), (15, x2)]) (looko ([].map fun n => (n, o n)))) Q)))) := rfl

theorem g_law01_MoneyFirst_o1_sh {C : Ctx} {I : Nat → Prop} {s : Nat → V} {o : Nat → Option Ob} {K : St → Prop} : opsB C I [⟨some 22, .pick (.t 18) (.c (.d (.bool true))) (.t 21), [], [], none, none⟩] (St.mk s o) K =
 (demand (pickV (s 18) (V.d (.bool true)) (s 21)) (fun x1 =>
K (St.mk (upd s 22 x1) o))) := rfl

theorem g_law01_MoneyFirst_o0_sh {R_o1 : List AOper} {C : Ctx} {I : Nat → Prop} {s : Nat → V} {o : Nat → Option Ob} {K : St → Prop} : opsB C I (⟨some 19, .mv (.t 1), [], [], (some (3, 18, false)), none⟩ ::
     ⟨some 20, .len (.t 19), [], [], (some (3, 18, false)), none⟩ ::
     ⟨some 21, .bin .gtr (.t 20) (.c (.d (.int .i64 50))), [], [], (some (3, 18, false)), (some ([0, 1, 18, 21], (some [])))⟩ ::
     R_o1) (St.mk s o) K =
 (guardK (s 18) false
 (demand (lenV o (s 1)) (fun x1 =>
demand (binV BinOp.gtr x1 (V.d (.int .i64 50))) (fun x2 =>
opsB C I R_o1 (St.mk (look [(0, (s 0)), (1, (s 1)), (18, (V.d (D.bool false))), (21, x2)]) (looko ([].map fun n => (n, o n)))) K)))
 (opsB C I R_o1 (St.mk (look [(0, (s 0)), (1, (s 1)), (18, (V.d (D.bool true))), (21, (V.tup []))]) (looko ([].map fun n => (n, o n)))) K)
 (opsB C I R_o1 (St.mk (look [(0, (s 0)), (1, (s 1)), (18, (V.tup [])), (21, (V.tup []))]) (looko ([].map fun n => (n, o n)))) K)) := rfl

theorem g_law01_MoneyFirst_c0_sh {C : Ctx} {I : Nat → Prop} {s : Nat → V} {o : Nat → Option Ob} {Q : Ex → St → Prop} : wpB C I (.cond (.t 22) (.seq (.region [4] (some []) none
     [⟨some 23, .call 49 [], [], [], none, none⟩,
      ⟨some 4, .mv (.t 23), [], [], none, none⟩])
  (.ret))
 (.skip)) (St.mk s o) Q =
 (condK (s 22)
 (callK C I (St.mk s o) (some 23) 49 [] (fun r1 or1 =>
Q .ret (St.mk (look [(4, r1)]) (looko ([].map fun n => (n, or1 n))))))
 (Q .normal (St.mk s o))) := rfl

theorem g_law01_MoneyFirst_o7_sh {C : Ctx} {I : Nat → Prop} {s : Nat → V} {o : Nat → Option Ob} {K : St → Prop} : opsB C I [⟨some 66, .pick (.t 64) (.t 65) (.c (.d (.bool false))), [], [], none, none⟩,
     ⟨some 4, .mv (.t 66), [], [], none, none⟩] (St.mk s o) K =
 (demand (pickV (s 64) (s 65) (V.d (.bool false))) (fun x1 =>
K (St.mk (upd (upd s 66 x1) 4 x1) o))) := rfl

theorem g_law01_MoneyFirst_o6_sh {R_o7 : List AOper} {C : Ctx} {I : Nat → Prop} {s : Nat → V} {o : Nat → Option Ob} {K : St → Prop} : opsB C I (⟨some 65, .call 49 [], [], [], (some (11, 64, true)), (some ([64, 65], (some [])))⟩ ::
     R_o7) (St.mk s o) K =
 (guardK (s 64) true
 (callK C I (St.mk (upd s 64 (V.d (D.bool true))) o) (some 65) 49 [] (fun r1 or1 =>
opsB C I R_o7 (St.mk (look [(64, (V.d (D.bool true))), (65, r1)]) (looko ([].map fun n => (n, or1 n)))) K))
 (opsB C I R_o7 (St.mk (look [(64, (V.d (D.bool false))), (65, (V.tup []))]) (looko ([].map fun n => (n, o n)))) K)
 (opsB C I R_o7 (St.mk (look [(64, (V.tup [])), (65, (V.tup []))]) (looko ([].map fun n => (n, o n)))) K)) := rfl

theorem g_law01_MoneyFirst_o5_sh {R_o6 : List AOper} {C : Ctx} {I : Nat → Prop} {s : Nat → V} {o : Nat → Option Ob} {K : St → Prop} : opsB C I (⟨some 63, .pick (.t 60) (.t 62) (.c (.d (.bool false))), [], [], none, none⟩ ::
     ⟨some 64, .mv (.t 63), [], [], none, (some ([64], (some [])))⟩ ::
     R_o6) (St.mk s o) K =
 (demand (pickV (s 60) (s 62) (V.d (.bool false))) (fun x1 =>
opsB C I R_o6 (St.mk (look [(64, x1)]) (looko ([].map fun n => (n, o n)))) K)) := rfl

theorem g_law01_MoneyFirst_o4_sh {R_o5 : List AOper} {C : Ctx} {I : Nat → Prop} {s : Nat → V} {o : Nat → Option Ob} {K : St → Prop} : opsB C I (⟨some 61, .mv (.t 14), [], [], (some (7, 60, true)), none⟩ ::
     ⟨some 62, .bin .eql (.t 61) (.c (.d (.int .i64 0))), [], [], (some (7, 60, true)), (some ([60, 62], (some [])))⟩ ::
     R_o5) (St.mk s o) K =
 (guardK (s 60) true
 (demand (binV BinOp.eql (s 14) (V.d (.int .i64 0))) (fun x1 =>
opsB C I R_o5 (St.mk (look [(60, (V.d (D.bool true))), (62, x1)]) (looko ([].map fun n => (n, o n)))) K))
 (opsB C I R_o5 (St.mk (look [(60, (V.d (D.bool false))), (62, (V.tup []))]) (looko ([].map fun n => (n, o n)))) K)
 (opsB C I R_o5 (St.mk (look [(60, (V.tup [])), (62, (V.tup []))]) (looko ([].map fun n => (n, o n)))) K)) := rfl

theorem g_law01_MoneyFirst_o3_sh {R_o4 : List AOper} {C : Ctx} {I : Nat → Prop} {s : Nat → V} {o : Nat → Option Ob} {K : St → Prop} : opsB C I (⟨some 59, .pick (.t 56) (.t 58) (.c (.d (.bool false))), [], [], none, none⟩ ::
     ⟨some 60, .mv (.t 59), [], [], none, (some ([14, 60], (some [])))⟩ ::
     R_o4) (St.mk s o) K =
 (demand (pickV (s 56) (s 58) (V.d (.bool false))) (fun x1 =>
opsB C I R_o4 (St.mk (look [(14, (s 14)), (60, x1)]) (looko ([].map fun n => (n, o n)))) K)) := rfl

theorem g_law01_MoneyFirst_o2_sh {R_o3 : List AOper} {C : Ctx} {I : Nat → Prop} {s : Nat → V} {o : Nat → Option Ob} {K : St → Prop} : opsB C I (⟨some 57, .mv (.t 12), [], [], (some (3, 56, true)), none⟩ ::
     ⟨some 58, .bin .eql (.t 57) (.c (.d (.int .i64 0))), [], [], (some (3, 56, true)), (some ([14, 56, 58], (some [])))⟩ ::
     R_o3) (St.mk s o) K =
 (guardK (s 56) true
 (demand (binV BinOp.eql (s 12) (V.d (.int .i64 0))) (fun x1 =>
opsB C I R_o3 (St.mk (look [(14, (s 14)), (56, (V.d (D.bool true))), (58, x1)]) (looko ([].map fun n => (n, o n)))) K))
 (opsB C I R_o3 (St.mk (look [(14, (s 14)), (56, (V.d (D.bool false))), (58, (V.tup []))]) (looko ([].map fun n => (n, o n)))) K)
 (opsB C I R_o3 (St.mk (look [(14, (s 14)), (56, (V.tup [])), (58, (V.tup []))]) (looko ([].map fun n => (n, o n)))) K)) := rfl

theorem g_law01_MoneyFirst_c1_sh {C : Ctx} {I : Nat → Prop} {s : Nat → V} {o : Nat → Option Ob} {Q : Ex → St → Prop} : wpB C I (.ret) (St.mk s o) Q =
 (Q .ret (St.mk s o)) := rfl

theorem g_law01_MoneyFirst_c2_sh {R_o2 : List AOper} {R_c1 : ACode} {C : Ctx} {I : Nat → Prop} {s : Nat → V} {o : Nat → Option Ob} {Q : Ex → St → Prop} : wpB C I (.seq (.region [4] (some []) none
    (⟨some 53, .mv (.t 11), [], [], none, none⟩ ::
     ⟨some 54, .mv (.t 13), [], [], none, none⟩ ::
     ⟨some 55, .bin .eql (.t 53) (.t 54), [], [], none, none⟩ ::
     ⟨some 56, .mv (.t 55), [], [], none, (some ([12, 14, 56], (some [])))⟩ ::
     R_o2))
 (R_c1)) (St.mk s o) Q =
 (demand (binV BinOp.eql (s 11) (s 13)) (fun x1 =>
opsB C I R_o2 (St.mk (look [(12, (s 12)), (14, (s 14)), (56, x1)]) (looko ([].map fun n => (n, o n)))) (fun st => (seqK (fun st => wpB C I R_c1 st Q) Q) .normal (St.trim st [4] (some []))))) := rfl

theorem g_law01_MoneyFirst_c3_sh {R_c2 : ACode} {C : Ctx} {I : Nat → Prop} {s : Nat → V} {o : Nat → Option Ob} {Q : Ex → St → Prop} : wpB C I (.seq (.region [11, 12, 13, 14] (some []) none
    [⟨some 45, .bsl (some 45) 1 [] 0 [], [], [], none, none⟩,
     ⟨some 46, .mv (.t 5), [], [], none, none⟩,
     ⟨some 47, .app (some 47) 1 8 (.t 45) (.t 46), [], [], none, none⟩,
     ⟨some 48, .mv (.t 6), [], [], none, none⟩,
     ⟨some 49, .app none 1 8 (.t 47) (.t 48), [], [], none, none⟩,
     ⟨some 50, .call 60 [(.t 49)], [], [], none, none⟩,
     ⟨some 44, .mv (.t 50), [], [], none, none⟩,
     ⟨some 51, .ext (.t 44) 0, [], [], none, none⟩,
     ⟨some 52, .ext (.t 44) 1, [], [], none, none⟩,
     ⟨some 13, .mv (.t 51), [], [], none, none⟩,
     ⟨some 14, .mv (.t 52), [], [], none, none⟩])
 (R_c2)) (St.mk s o) Q =
 (lstK (readD o (s 5)) (fun ys2 => (∀ e ∈ ys2, e.length = 1) ∧ appK V.cap0
 (ys2.length * 8 ≤ 140737488355328 ∧ ys2.length ≤ 140737488355328 ∧ ¬ I 47 ∧ Fresh (St.mk (upd (upd s 45 V.cap0) 46 (s 5)) o) 47 (some 47) ∧
lstK (readD (upd o 47 (some (Ob.row 1 ys2))) (s 6)) (fun ys7 => (∀ e ∈ ys7, e.length = 1) ∧ appK (V.own 47)
 (ys7.length * 8 ≤ 140737488355328 ∧ ys7.length ≤ 140737488355328 ∧
callK C I (St.mk (upd (upd (upd (upd (upd s 45 V.cap0) 46 (s 5)) 47 (V.own 47)) 48 (s 6)) 49 (V.d (D.sl ys7))) (upd o 47 (some (Ob.row 1 ys2)))) (some 50) 60 [(V.d (D.sl ys7))] (fun r12 or12 =>
demand (extV r12 0) (fun x13 =>
demand (extV r12 1) (fun x14 =>
wpB C I R_c2 (St.mk (look [(11, (s 11)), (12, (s 12)), (13, x13), (14, x14)]) (looko ([].map fun n => (n, or12 n)))) Q))))
 (fun m8 => ¬ I m8 ∧ rowK ((upd o 47 (some (Ob.row 1 ys2))) m8) (fun z9 es10 => z9 = 1 ∧ (es10.length + ys7.length) * 8 ≤ 140737488355328 ∧ es10.length + ys7.length ≤ 140737488355328 ∧
freeK (St.mk (upd (fun t => scrubV m8 ((upd (upd (upd (upd s 45 V.cap0) 46 (s 5)) 47 (V.own 47)) 48 (s 6)) t)) 49 (V.own m8)) (upd (fun n => ((upd o 47 (some (Ob.row 1 ys2))) n).map (Ob.scrub m8)) m8 (some (Ob.row 1 (es10 ++ ys7))))) m8 (fun st11 =>
callK C I (St.mk st11.s st11.o) (some 50) 60 [(st11.s 49)] (fun r15 or15 =>
demand (extV r15 0) (fun x16 =>
demand (extV r15 1) (fun x17 =>
wpB C I R_c2 (St.mk (look [(11, (st11.s 11)), (12, (st11.s 12)), (13, x16), (14, x17)]) (looko ([].map fun n => (n, or15 n)))) Q))))))))
 (fun m3 => ¬ I m3 ∧ rowK (o m3) (fun z4 es5 => z4 = 1 ∧ (es5.length + ys2.length) * 8 ≤ 140737488355328 ∧ es5.length + ys2.length ≤ 140737488355328 ∧
lstK (readD (upd (fun n => (o n).map (Ob.scrub m3)) m3 (some (Ob.row 1 (es5 ++ ys2)))) ((fun t => scrubV m3 (s t)) 6)) (fun ys18 => (∀ e ∈ ys18, e.length = 1) ∧ appK (V.own m3)
 (ys18.length * 8 ≤ 140737488355328 ∧ ys18.length ≤ 140737488355328 ∧
callK C I (St.mk (upd (upd (upd (fun t => scrubV m3 ((upd (upd s 45 V.cap0) 46 (s 5)) t)) 47 (V.own m3)) 48 ((fun t => scrubV m3 (s t)) 6)) 49 (V.d (D.sl ys18))) (upd (fun n => (o n).map (Ob.scrub m3)) m3 (some (Ob.row 1 (es5 ++ ys2))))) (some 50) 60 [(V.d (D.sl ys18))] (fun r23 or23 =>
demand (extV r23 0) (fun x24 =>
demand (extV r23 1) (fun x25 =>
wpB C I R_c2 (St.mk (look [(11, ((fun t => scrubV m3 (s t)) 11)), (12, ((fun t => scrubV m3 (s t)) 12)), (13, x24), (14, x25)]) (looko ([].map fun n => (n, or23 n)))) Q))))
 (fun m19 => ¬ I m19 ∧ rowK ((upd (fun n => (o n).map (Ob.scrub m3)) m3 (some (Ob.row 1 (es5 ++ ys2)))) m19) (fun z20 es21 => z20 = 1 ∧ (es21.length + ys18.length) * 8 ≤ 140737488355328 ∧ es21.length + ys18.length ≤ 140737488355328 ∧
freeK (St.mk (upd (fun t => scrubV m19 ((upd (upd (fun t => scrubV m3 ((upd (upd s 45 V.cap0) 46 (s 5)) t)) 47 (V.own m3)) 48 ((fun t => scrubV m3 (s t)) 6)) t)) 49 (V.own m19)) (upd (fun n => ((upd (fun n => (o n).map (Ob.scrub m3)) m3 (some (Ob.row 1 (es5 ++ ys2)))) n).map (Ob.scrub m19)) m19 (some (Ob.row 1 (es21 ++ ys18))))) m19 (fun st22 =>
callK C I (St.mk st22.s st22.o) (some 50) 60 [(st22.s 49)] (fun r26 or26 =>
demand (extV r26 0) (fun x27 =>
demand (extV r26 1) (fun x28 =>
wpB C I R_c2 (St.mk (look [(11, (st22.s 11)), (12, (st22.s 12)), (13, x27), (14, x28)]) (looko ([].map fun n => (n, or26 n)))) Q))))))))))) := rfl

theorem g_law01_MoneyFirst_c4_sh {R_c3 : ACode} {C : Ctx} {I : Nat → Prop} {s : Nat → V} {o : Nat → Option Ob} {Q : Ex → St → Prop} : wpB C I (.seq (.region [5, 6, 11, 12] (some []) none
    [⟨some 39, .mv (.t 7), [], [], none, none⟩,
     ⟨some 40, .mv (.t 9), [], [], none, none⟩,
     ⟨some 41, .call 63 [(.t 39), (.t 40)], [], [], none, none⟩,
     ⟨some 38, .mv (.t 41), [], [], none, none⟩,
     ⟨some 42, .ext (.t 38) 0, [], [], none, none⟩,
     ⟨some 43, .ext (.t 38) 1, [], [], none, none⟩,
     ⟨some 11, .mv (.t 42), [], [], none, none⟩,
     ⟨some 12, .mv (.t 43), [], [], none, none⟩])
 (R_c3)) (St.mk s o) Q =
 (callK C I (St.mk (upd (upd s 39 (s 7)) 40 (s 9)) o) (some 41) 63 [(s 7), (s 9)] (fun r1 or1 =>
demand (extV r1 0) (fun x2 =>
demand (extV r1 1) (fun x3 =>
wpB C I R_c3 (St.mk (look [(5, (s 5)), (6, (s 6)), (11, x2), (12, x3)]) (looko ([].map fun n => (n, or1 n)))) Q)))) := rfl

theorem g_law01_MoneyFirst_c5_sh {R_c4 : ACode} {C : Ctx} {I : Nat → Prop} {s : Nat → V} {o : Nat → Option Ob} {Q : Ex → St → Prop} : wpB C I (.seq (.region [5, 6, 7, 9] (some []) none
    [⟨some 34, .mv (.t 6), [], [], none, none⟩,
     ⟨some 35, .call 60 [(.t 34)], [], [], none, none⟩,
     ⟨some 33, .mv (.t 35), [], [], none, none⟩,
     ⟨some 36, .ext (.t 33) 0, [], [], none, none⟩,
     ⟨some 37, .ext (.t 33) 1, [], [], none, none⟩,
     ⟨some 9, .mv (.t 36), [], [], none, none⟩,
     ⟨some 10, .mv (.t 37), [], [], none, none⟩])
 (R_c4)) (St.mk s o) Q =
 (callK C I (St.mk (upd s 34 (s 6)) o) (some 35) 60 [(s 6)] (fun r1 or1 =>
demand (extV r1 0) (fun x2 =>
demand (extV r1 1) (fun x3 =>
wpB C I R_c4 (St.mk (look [(5, (s 5)), (6, (s 6)), (7, (s 7)), (9, x2)]) (looko ([].map fun n => (n, or1 n)))) Q)))) := rfl

theorem g_law01_MoneyFirst_c6_sh {R_c5 : ACode} {C : Ctx} {I : Nat → Prop} {s : Nat → V} {o : Nat → Option Ob} {Q : Ex → St → Prop} : wpB C I (.seq (.region [5, 6, 7] (some []) none
    [⟨some 29, .mv (.t 5), [], [], none, none⟩,
     ⟨some 30, .call 60 [(.t 29)], [], [], none, none⟩,
     ⟨some 28, .mv (.t 30), [], [], none, none⟩,
     ⟨some 31, .ext (.t 28) 0, [], [], none, none⟩,
     ⟨some 32, .ext (.t 28) 1, [], [], none, none⟩,
     ⟨some 7, .mv (.t 31), [], [], none, none⟩,
     ⟨some 8, .mv (.t 32), [], [], none, none⟩])
 (R_c5)) (St.mk s o) Q =
 (callK C I (St.mk (upd s 29 (s 5)) o) (some 30) 60 [(s 5)] (fun r1 or1 =>
demand (extV r1 0) (fun x2 =>
demand (extV r1 1) (fun x3 =>
wpB C I R_c5 (St.mk (look [(5, (s 5)), (6, (s 6)), (7, x2)]) (looko ([].map fun n => (n, or1 n)))) Q)))) := rfl

theorem g_law01_MoneyFirst_c7_sh {R_c6 : ACode} {C : Ctx} {I : Nat → Prop} {s : Nat → V} {o : Nat → Option Ob} {Q : Ex → St → Prop} : wpB C I (.seq (.region [5, 6] (some []) none
    [⟨some 24, .mv (.t 0), [], [], none, none⟩,
     ⟨some 25, .call 62 [(.t 24)], [], [], none, none⟩,
     ⟨some 26, .mv (.t 1), [], [], none, none⟩,
     ⟨some 27, .call 62 [(.t 26)], [], [], none, none⟩,
     ⟨some 5, .mv (.t 25), [], [], none, none⟩,
     ⟨some 6, .mv (.t 27), [], [], none, none⟩])
 (R_c6)) (St.mk s o) Q =
 (callK C I (St.mk (upd s 24 (s 0)) o) (some 25) 62 [(s 0)] (fun r1 or1 =>
callK C I (St.mk (upd (upd (upd s 24 (s 0)) 25 r1) 26 (s 1)) or1) (some 27) 62 [(s 1)] (fun r2 or2 =>
wpB C I R_c6 (St.mk (look [(5, r1), (6, r2)]) (looko ([].map fun n => (n, or2 n)))) Q))) := rfl

theorem g_law01_MoneyFirst_code_sh {R_o0 : List AOper} {R_c0 : ACode} {R_c7 : ACode} {C : Ctx} {I : Nat → Prop} {s : Nat → V} {o : Nat → Option Ob} {Q : Ex → St → Prop} : wpB C I (.seq (.region [0, 1] (some []) none
    [⟨some 4, .mv (.c (.d (.bool false))), [], [], none, none⟩])
 (.seq (.seq (.region [0, 1, 22] (some []) none
      (⟨some 15, .mv (.t 0), [], [], none, none⟩ ::
       ⟨some 16, .len (.t 15), [], [], none, none⟩ ::
       ⟨some 17, .bin .gtr (.t 16) (.c (.d (.int .i64 50))), [], [], none, none⟩ ::
       ⟨some 18, .mv (.t 17), [], [], none, (some ([0, 1, 18], (some [])))⟩ ::
       R_o0))
   (R_c0))
  (R_c7))) (St.mk s o) Q =
 (demand (lenV (looko ([].map fun n => (n, o n))) (s 0)) (fun x1 =>
demand (binV BinOp.gtr x1 (V.d (.int .i64 50))) (fun x2 =>
opsB C I R_o0 (St.mk (look [(0, (s 0)), (1, (s 1)), (18, x2)]) (looko ([].map fun n => (n, o n)))) (fun st => (seqK (fun st => wpB C I R_c0 st (seqK (fun st => wpB C I R_c7 st Q) Q)) (seqK (fun st => wpB C I R_c7 st Q) Q)) .normal (St.trim st [0, 1, 22] (some [])))))) := rfl

theorem g_law01_MoneyBack_o3_sh {C : Ctx} {I : Nat → Prop} {s : Nat → V} {o : Nat → Option Ob} {K : St → Prop} : opsB C I [⟨some 36, .pick (.t 34) (.t 35) (.c (.d (.bool false))), [], [], none, none⟩,
     ⟨some 4, .mv (.t 36), [], [], none, none⟩] (St.mk s o) K =
 (demand (pickV (s 34) (s 35) (V.d (.bool false))) (fun x1 =>
K (St.mk (upd (upd s 36 x1) 4 x1) o))) := rfl

theorem g_law01_MoneyBack_o2_sh {R_o3 : List AOper} {C : Ctx} {I : Nat → Prop} {s : Nat → V} {o : Nat → Option Ob} {K : St → Prop} : opsB C I (⟨some 35, .call 49 [], [], [], (some (7, 34, true)), (some ([34, 35], (some [])))⟩ ::
     R_o3) (St.mk s o) K =
 (guardK (s 34) true
 (callK C I (St.mk (upd s 34 (V.d (D.bool true))) o) (some 35) 49 [] (fun r1 or1 =>
opsB C I R_o3 (St.mk (look [(34, (V.d (D.bool true))), (35, r1)]) (looko ([].map fun n => (n, or1 n)))) K))
 (opsB C I R_o3 (St.mk (look [(34, (V.d (D.bool false))), (35, (V.tup []))]) (looko ([].map fun n => (n, o n)))) K)
 (opsB C I R_o3 (St.mk (look [(34, (V.tup [])), (35, (V.tup []))]) (looko ([].map fun n => (n, o n)))) K)) := rfl

theorem g_law01_MoneyBack_o1_sh {R_o2 : List AOper} {C : Ctx} {I : Nat → Prop} {s : Nat → V} {o : Nat → Option Ob} {K : St → Prop} : opsB C I (⟨some 33, .pick (.t 29) (.t 32) (.c (.d (.bool false))), [], [], none, none⟩ ::
     ⟨some 34, .mv (.t 33), [], [], none, (some ([34], (some [])))⟩ ::
     R_o2) (St.mk s o) K =
 (demand (pickV (s 29) (s 32) (V.d (.bool false))) (fun x1 =>
opsB C I R_o2 (St.mk (look [(34, x1)]) (looko ([].map fun n => (n, o n)))) K)) := rfl

theorem g_law01_MoneyBack_o0_sh {R_o1 : List AOper} {C : Ctx} {I : Nat → Prop} {s : Nat → V} {o : Nat → Option Ob} {K : St → Prop} : opsB C I (⟨some 30, .mv (.t 8), [], [], (some (2, 29, true)), none⟩ ::
     ⟨some 31, .mv (.t 6), [], [], (some (2, 29, true)), none⟩ ::
     ⟨some 32, .bin .eql (.t 30) (.t 31), [], [], (some (2, 29, true)), (some ([29, 32], (some [])))⟩ ::
     R_o1) (St.mk s o) K =
 (guardK (s 29) true
 (demand (binV BinOp.eql (s 8) (s 6)) (fun x1 =>
opsB C I R_o1 (St.mk (look [(29, (V.d (D.bool true))), (32, x1)]) (looko ([].map fun n => (n, o n)))) K))
 (opsB C I R_o1 (St.mk (look [(29, (V.d (D.bool false))), (32, (V.tup []))]) (looko ([].map fun n => (n, o n)))) K)
 (opsB C I R_o1 (St.mk (look [(29, (V.tup [])), (32, (V.tup []))]) (looko ([].map fun n => (n, o n)))) K)) := rfl

theorem g_law01_MoneyBack_c0_sh {C : Ctx} {I : Nat → Prop} {s : Nat → V} {o : Nat → Option Ob} {Q : Ex → St → Prop} : wpB C I (.ret) (St.mk s o) Q =
 (Q .ret (St.mk s o)) := rfl

theorem g_law01_MoneyBack_o15_sh {C : Ctx} {I : Nat → Prop} {s : Nat → V} {o : Nat → Option Ob} {K : St → Prop} : opsB C I [⟨some 76, .pick (.t 74) (.t 75) (.c (.d (.bool false))), [], [], none, none⟩,
     ⟨some 4, .mv (.t 76), [], [], none, none⟩] (St.mk s o) K =
 (demand (pickV (s 74) (s 75) (V.d (.bool false))) (fun x1 =>
K (St.mk (upd (upd s 76 x1) 4 x1) o))) := rfl

theorem g_law01_MoneyBack_o14_sh {R_o15 : List AOper} {C : Ctx} {I : Nat → Prop} {s : Nat → V} {o : Nat → Option Ob} {K : St → Prop} : opsB C I (⟨some 75, .call 49 [], [], [], (some (25, 74, true)), (some ([74, 75], (some [])))⟩ ::
     R_o15) (St.mk s o) K =
 (guardK (s 74) true
 (callK C I (St.mk (upd s 74 (V.d (D.bool true))) o) (some 75) 49 [] (fun r1 or1 =>
opsB C I R_o15 (St.mk (look [(74, (V.d (D.bool true))), (75, r1)]) (looko ([].map fun n => (n, or1 n)))) K))
 (opsB C I R_o15 (St.mk (look [(74, (V.d (D.bool false))), (75, (V.tup []))]) (looko ([].map fun n => (n, o n)))) K)
 (opsB C I R_o15 (St.mk (look [(74, (V.tup [])), (75, (V.tup []))]) (looko ([].map fun n => (n, o n)))) K)) := rfl

theorem g_law01_MoneyBack_o13_sh {R_o14 : List AOper} {C : Ctx} {I : Nat → Prop} {s : Nat → V} {o : Nat → Option Ob} {K : St → Prop} : opsB C I (⟨some 73, .pick (.t 70) (.t 72) (.c (.d (.bool false))), [], [], none, none⟩ ::
     ⟨some 74, .mv (.t 73), [], [], none, (some ([74], (some [])))⟩ ::
     R_o14) (St.mk s o) K =
 (demand (pickV (s 70) (s 72) (V.d (.bool false))) (fun x1 =>
opsB C I R_o14 (St.mk (look [(74, x1)]) (looko ([].map fun n => (n, o n)))) K)) := rfl

theorem g_law01_MoneyBack_o12_sh {R_o13 : List AOper} {C : Ctx} {I : Nat → Prop} {s : Nat → V} {o : Nat → Option Ob} {K : St → Prop} : opsB C I (⟨some 71, .mv (.t 12), [], [], (some (21, 70, true)), none⟩ ::
     ⟨some 72, .bin .eql (.t 71) (.c (.d (.int .i64 0))), [], [], (some (21, 70, true)), (some ([70, 72], (some [])))⟩ ::
     R_o13) (St.mk s o) K =
 (guardK (s 70) true
 (demand (binV BinOp.eql (s 12) (V.d (.int .i64 0))) (fun x1 =>
opsB C I R_o13 (St.mk (look [(70, (V.d (D.bool true))), (72, x1)]) (looko ([].map fun n => (n, o n)))) K))
 (opsB C I R_o13 (St.mk (look [(70, (V.d (D.bool false))), (72, (V.tup []))]) (looko ([].map fun n => (n, o n)))) K)
 (opsB C I R_o13 (St.mk (look [(70, (V.tup [])), (72, (V.tup []))]) (looko ([].map fun n => (n, o n)))) K)) := rfl

theorem g_law01_MoneyBack_o11_sh {R_o12 : List AOper} {C : Ctx} {I : Nat → Prop} {s : Nat → V} {o : Nat → Option Ob} {K : St → Prop} : opsB C I (⟨some 69, .pick (.t 65) (.t 68) (.c (.d (.bool false))), [], [], none, none⟩ ::
     ⟨some 70, .mv (.t 69), [], [], none, (some ([12, 70], (some [])))⟩ ::
     R_o12) (St.mk s o) K =
 (demand (pickV (s 65) (s 68) (V.d (.bool false))) (fun x1 =>
opsB C I R_o12 (St.mk (look [(12, (s 12)), (70, x1)]) (looko ([].map fun n => (n, o n)))) K)) := rfl

theorem g_law01_MoneyBack_o10_sh {R_o11 : List AOper} {C : Ctx} {I : Nat → Prop} {s : Nat → V} {o : Nat → Option Ob} {K : St → Prop} : opsB C I (⟨some 66, .mv (.t 11), [], [], (some (16, 65, true)), none⟩ ::
     ⟨some 67, .mv (.t 1), [], [], (some (16, 65, true)), none⟩ ::
     ⟨some 68, .bin .eql (.t 66) (.t 67), [], [], (some (16, 65, true)), (some ([12, 65, 68], (some [])))⟩ ::
     R_o11) (St.mk s o) K =
 (guardK (s 65) true
 (demand (binV BinOp.eql (s 11) (s 1)) (fun x1 =>
opsB C I R_o11 (St.mk (look [(12, (s 12)), (65, (V.d (D.bool true))), (68, x1)]) (looko ([].map fun n => (n, o n)))) K))
 (opsB C I R_o11 (St.mk (look [(12, (s 12)), (65, (V.d (D.bool false))), (68, (V.tup []))]) (looko ([].map fun n => (n, o n)))) K)
 (opsB C I R_o11 (St.mk (look [(12, (s 12)), (65, (V.tup [])), (68, (V.tup []))]) (looko ([].map fun n => (n, o n)))) K)) := rfl

theorem g_law01_MoneyBack_o9_sh {R_o10 : List AOper} {C : Ctx} {I : Nat → Prop} {s : Nat → V} {o : Nat → Option Ob} {K : St → Prop} : opsB C I (⟨some 64, .pick (.t 61) (.t 63) (.c (.d (.bool false))), [], [], none, none⟩ ::
     ⟨some 65, .mv (.t 64), [], [], none, (some ([1, 11, 12, 65], (some [])))⟩ ::
     R_o10) (St.mk s o) K =
 (demand (pickV (s 61) (s 63) (V.d (.bool false))) (fun x1 =>
opsB C I R_o10 (St.mk (look [(1, (s 1)), (11, (s 11)), (12, (s 12)), (65, x1)]) (looko ([].map fun n => (n, o n)))) K)) := rfl

theorem g_law01_MoneyBack_o8_sh {R_o9 : List AOper} {C : Ctx} {I : Nat → Prop} {s : Nat → V} {o : Nat → Option Ob} {K : St → Prop} : opsB C I (⟨some 62, .mv (.t 10), [], [], (some (12, 61, true)), none⟩ ::
     ⟨some 63, .bin .eql (.t 62) (.c (.d (.int .i64 0))), [], [], (some (12, 61, true)), (some ([1, 11, 12, 61, 63], (some [])))⟩ ::
     R_o9) (St.mk s o) K =
 (guardK (s 61) true
 (demand (binV BinOp.eql (s 10) (V.d (.int .i64 0))) (fun x1 =>
opsB C I R_o9 (St.mk (look [(1, (s 1)), (11, (s 11)), (12, (s 12)), (61, (V.d (D.bool true))), (63, x1)]) (looko ([].map fun n => (n, o n)))) K))
 (opsB C I R_o9 (St.mk (look [(1, (s 1)), (11, (s 11)), (12, (s 12)), (61, (V.d (D.bool false))), (63, (V.tup []))]) (looko ([].map fun n => (n, o n)))) K)
 (opsB C I R_o9 (St.mk (look [(1, (s 1)), (11, (s 11)), (12, (s 12)), (61, (V.tup [])), (63, (V.tup []))]) (looko ([].map fun n => (n, o n)))) K)) := rfl

theorem g_law01_MoneyBack_o7_sh {R_o8 : List AOper} {C : Ctx} {I : Nat → Prop} {s : Nat → V} {o : Nat → Option Ob} {K : St → Prop} : opsB C I (⟨some 60, .pick (.t 56) (.t 59) (.c (.d (.bool false))), [], [], none, none⟩ ::
     ⟨some 61, .mv (.t 60), [], [], none, (some ([1, 10, 11, 12, 61], (some [])))⟩ ::
     R_o8) (St.mk s o) K =
 (demand (pickV (s 56) (s 59) (V.d (.bool false))) (fun x1 =>
opsB C I R_o8 (St.mk (look [(1, (s 1)), (10, (s 10)), (11, (s 11)), (12, (s 12)), (61, x1)]) (looko ([].map fun n => (n, o n)))) K)) := rfl

theorem g_law01_MoneyBack_o6_sh {R_o7 : List AOper} {C : Ctx} {I : Nat → Prop} {s : Nat → V} {o : Nat → Option Ob} {K : St → Prop} : opsB C I (⟨some 57, .mv (.t 9), [], [], (some (7, 56, true)), none⟩ ::
     ⟨some 58, .mv (.t 0), [], [], (some (7, 56, true)), none⟩ ::
     ⟨some 59, .bin .eql (.t 57) (.t 58), [], [], (some (7, 56, true)), (some ([1, 10, 11, 12, 56, 59], (some [])))⟩ ::
     R_o7) (St.mk s o) K =
 (guardK (s 56) true
 (demand (binV BinOp.eql (s 9) (s 0)) (fun x1 =>
opsB C I R_o7 (St.mk (look [(1, (s 1)), (10, (s 10)), (11, (s 11)), (12, (s 12)), (56, (V.d (D.bool true))), (59, x1)]) (looko ([].map fun n => (n, o n)))) K))
 (opsB C I R_o7 (St.mk (look [(1, (s 1)), (10, (s 10)), (11, (s 11)), (12, (s 12)), (56, (V.d (D.bool false))), (59, (V.tup []))]) (looko ([].map fun n => (n, o n)))) K)
 (opsB C I R_o7 (St.mk (look [(1, (s 1)), (10, (s 10)), (11, (s 11)), (12, (s 12)), (56, (V.tup [])), (59, (V.tup []))]) (looko ([].map fun n => (n, o n)))) K)) := rfl

theorem g_law01_MoneyBack_o5_sh {R_o6 : List AOper} {C : Ctx} {I : Nat → Prop} {s : Nat → V} {o : Nat → Option Ob} {K : St → Prop} : opsB C I (⟨some 55, .pick (.t 52) (.t 54) (.c (.d (.bool false))), [], [], none, none⟩ ::
     ⟨some 56, .mv (.t 55), [], [], none, (some ([0, 1, 9, 10, 11, 12, 56], (some [])))⟩ ::
     R_o6) (St.mk s o) K =
 (demand (pickV (s 52) (s 54) (V.d (.bool false))) (fun x1 =>
opsB C I R_o6 (St.mk (look [(0, (s 0)), (1, (s 1)), (9, (s 9)), (10, (s 10)), (11, (s 11)), (12, (s 12)), (56, x1)]) (looko ([].map fun n => (n, o n)))) K)) := rfl

theorem g_law01_MoneyBack_o4_sh {R_o5 : List AOper} {C : Ctx} {I : Nat → Prop} {s : Nat → V} {o : Nat → Option Ob} {K : St → Prop} : opsB C I (⟨some 53, .mv (.t 8), [], [], (some (3, 52, true)), none⟩ ::
     ⟨some 54, .bin .eql (.t 53) (.c (.d (.int .i64 0))), [], [], (some (3, 52, true)), (some ([0, 1, 9, 10, 11, 12, 52, 54], (some [])))⟩ ::
     R_o5) (St.mk s o) K =
 (guardK (s 52) true
 (demand (binV BinOp.eql (s 8) (V.d (.int .i64 0))) (fun x1 =>
opsB C I R_o5 (St.mk (look [(0, (s 0)), (1, (s 1)), (9, (s 9)), (10, (s 10)), (11, (s 11)), (12, (s 12)), (52, (V.d (D.bool true))), (54, x1)]) (looko ([].map fun n => (n, o n)))) K))
 (opsB C I R_o5 (St.mk (look [(0, (s 0)), (1, (s 1)), (9, (s 9)), (10, (s 10)), (11, (s 11)), (12, (s 12)), (52, (V.d (D.bool false))), (54, (V.tup []))]) (looko ([].map fun n => (n, o n)))) K)
 (opsB C I R_o5 (St.mk (look [(0, (s 0)), (1, (s 1)), (9, (s 9)), (10, (s 10)), (11, (s 11)), (12, (s 12)), (52, (V.tup [])), (54, (V.tup []))]) (looko ([].map fun n => (n, o n)))) K)) := rfl

theorem g_law01_MoneyBack_c1_sh {C : Ctx} {I : Nat → Prop} {s : Nat → V} {o : Nat → Option Ob} {Q : Ex → St → Prop} : wpB C I (.ret) (St.mk s o) Q =
 (Q .ret (St.mk s o)) := rfl

theorem g_law01_MoneyBack_c2_sh {R_o4 : List AOper} {R_c1 : ACode} {C : Ctx} {I : Nat → Prop} {s : Nat → V} {o : Nat → Option Ob} {Q : Ex → St → Prop} : wpB C I (.seq (.region [4] (some []) none
    (⟨some 49, .mv (.t 5), [], [], none, none⟩ ::
     ⟨some 50, .mv (.t 7), [], [], none, none⟩ ::
     ⟨some 51, .bin .eql (.t 49) (.t 50), [], [], none, none⟩ ::
     ⟨some 52, .mv (.t 51), [], [], none, (some ([0, 1, 8, 9, 10, 11, 12, 52], (some [])))⟩ ::
     R_o4))
 (R_c1)) (St.mk s o) Q =
 (demand (binV BinOp.eql (s 5) (s 7)) (fun x1 =>
opsB C I R_o4 (St.mk (look [(0, (s 0)), (1, (s 1)), (8, (s 8)), (9, (s 9)), (10, (s 10)), (11, (s 11)), (12, (s 12)), (52, x1)]) (looko ([].map fun n => (n, o n)))) (fun st => (seqK (fun st => wpB C I R_c1 st Q) Q) .normal (St.trim st [4] (some []))))) := rfl

theorem g_law01_MoneyBack_c3_sh {R_c2 : ACode} {C : Ctx} {I : Nat → Prop} {s : Nat → V} {o : Nat → Option Ob} {Q : Ex → St → Prop} : wpB C I (.seq (.region [0, 1, 5, 7, 8, 9, 10, 11, 12] (some []) none
    [⟨some 44, .mv (.t 5), [], [], none, none⟩,
     ⟨some 45, .mv (.t 0), [], [], none, none⟩,
     ⟨some 46, .call 65 [(.t 44), (.t 45)], [], [], none, none⟩,
     ⟨some 43, .mv (.t 46), [], [], none, none⟩,
     ⟨some 47, .ext (.t 43) 0, [], [], none, none⟩,
     ⟨some 48, .ext (.t 43) 1, [], [], none, none⟩,
     ⟨some 11, .mv (.t 47), [], [], none, none⟩,
     ⟨some 12, .mv (.t 48), [], [], none, none⟩])
 (R_c2)) (St.mk s o) Q =
 (callK C I (St.mk (upd (upd s 44 (s 5)) 45 (s 0)) o) (some 46) 65 [(s 5), (s 0)] (fun r1 or1 =>
demand (extV r1 0) (fun x2 =>
demand (extV r1 1) (fun x3 =>
wpB C I R_c2 (St.mk (look [(0, (s 0)), (1, (s 1)), (5, (s 5)), (7, (s 7)), (8, (s 8)), (9, (s 9)), (10, (s 10)), (11, x2), (12, x3)]) (looko ([].map fun n => (n, or1 n)))) Q)))) := rfl

theorem g_law01_MoneyBack_c4_sh {R_c3 : ACode} {C : Ctx} {I : Nat → Prop} {s : Nat → V} {o : Nat → Option Ob} {Q : Ex → St → Prop} : wpB C I (.seq (.region [0, 1, 5, 7, 8, 9, 10] (some []) none
    [⟨some 38, .mv (.t 5), [], [], none, none⟩,
     ⟨some 39, .mv (.t 1), [], [], none, none⟩,
     ⟨some 40, .call 65 [(.t 38), (.t 39)], [], [], none, none⟩,
     ⟨some 37, .mv (.t 40), [], [], none, none⟩,
     ⟨some 41, .ext (.t 37) 0, [], [], none, none⟩,
     ⟨some 42, .ext (.t 37) 1, [], [], none, none⟩,
     ⟨some 9, .mv (.t 41), [], [], none, none⟩,
     ⟨some 10, .mv (.t 42), [], [], none, none⟩])
 (R_c3)) (St.mk s o) Q =
 (callK C I (St.mk (upd (upd s 38 (s 5)) 39 (s 1)) o) (some 40) 65 [(s 5), (s 1)] (fun r1 or1 =>
demand (extV r1 0) (fun x2 =>
demand (extV r1 1) (fun x3 =>
wpB C I R_c3 (St.mk (look [(0, (s 0)), (1, (s 1)), (5, (s 5)), (7, (s 7)), (8, (s 8)), (9, x2), (10, x3)]) (looko ([].map fun n => (n, or1 n)))) Q)))) := rfl

theorem g_law01_MoneyBack_c5_sh {R_o0 : List AOper} {R_c0 : ACode} {R_c4 : ACode} {C : Ctx} {I : Nat → Prop} {s : Nat → V} {o : Nat → Option Ob} {Q : Ex → St → Prop} : wpB C I (.seq (.seq (.region [0, 1, 5, 6, 7, 8, 26] (some []) none
     [⟨some 25, .mv (.t 6), [], [], none, none⟩,
      ⟨some 26, .bin .neq (.t 25) (.c (.d (.int .i64 0))), [], [], none, none⟩])
  (.cond (.t 26) (.seq (.region [4] (some []) none
       (⟨some 27, .mv (.t 5), [], [], none, none⟩ ::
        ⟨some 28, .bin .eql (.t 27) (.c (.d (.int .i64 0))), [], [], none, none⟩ ::
        ⟨some 29, .mv (.t 28), [], [], none, (some ([6, 8, 29], (some [])))⟩ ::
        R_o0))
    (R_c0))
   (.skip)))
 (R_c4)) (St.mk s o) Q =
 (demand (binV BinOp.neq (s 6) (V.d (.int .i64 0))) (fun x1 =>
condK x1
 (demand (binV BinOp.eql (s 5) (V.d (.int .i64 0))) (fun x2 =>
opsB C I R_o0 (St.mk (look [(6, (s 6)), (8, (s 8)), (29, x2)]) (looko ([].map fun n => (n, o n)))) (fun st => (seqK (fun st => wpB C I R_c0 st (seqK (fun st => wpB C I R_c4 st Q) Q)) (seqK (fun st => wpB C I R_c4 st Q) Q)) .normal (St.trim st [4] (some [])))))
 (wpB C I R_c4 (St.mk (look [(0, (s 0)), (1, (s 1)), (5, (s 5)), (6, (s 6)), (7, (s 7)), (8, (s 8)), (26, x1)]) (looko ([].map fun n => (n, o n)))) Q))) := rfl

theorem g_law01_MoneyBack_c6_sh {R_c5 : ACode} {C : Ctx} {I : Nat → Prop} {s : Nat → V} {o : Nat → Option Ob} {Q : Ex → St → Prop} : wpB C I (.seq (.region [0, 1, 5, 6, 7, 8] (some []) none
    [⟨some 20, .mv (.t 1), [], [], none, none⟩,
     ⟨some 21, .mv (.t 0), [], [], none, none⟩,
     ⟨some 22, .call 63 [(.t 20), (.t 21)], [], [], none, none⟩,
     ⟨some 19, .mv (.t 22), [], [], none, none⟩,
     ⟨some 23, .ext (.t 19) 0, [], [], none, none⟩,
     ⟨some 24, .ext (.t 19) 1, [], [], none, none⟩,
     ⟨some 7, .mv (.t 23), [], [], none, none⟩,
     ⟨some 8, .mv (.t 24), [], [], none, none⟩])
 (R_c5)) (St.mk s o) Q =
 (callK C I (St.mk (upd (upd s 20 (s 1)) 21 (s 0)) o) (some 22) 63 [(s 1), (s 0)] (fun r1 or1 =>
demand (extV r1 0) (fun x2 =>
demand (extV r1 1) (fun x3 =>
wpB C I R_c5 (St.mk (look [(0, (s 0)), (1, (s 1)), (5, (s 5)), (6, (s 6)), (7, x2), (8, x3)]) (looko ([].map fun n => (n, or1 n)))) Q)))) := rfl

theorem g_law01_MoneyBack_code_sh {R_c6 : ACode} {C : Ctx} {I : Nat → Prop} {s : Nat → V} {o : Nat → Option Ob} {Q : Ex → St → Prop} : wpB C I (.seq (.region [0, 1] (some []) none
    [⟨some 4, .mv (.c (.d (.bool false))), [], [], none, none⟩])
 (.seq (.region [0, 1, 5, 6] (some []) none
     [⟨some 14, .mv (.t 0), [], [], none, none⟩,
      ⟨some 15, .mv (.t 1), [], [], none, none⟩,
      ⟨some 16, .call 63 [(.t 14), (.t 15)], [], [], none, none⟩,
      ⟨some 13, .mv (.t 16), [], [], none, none⟩,
      ⟨some 17, .ext (.t 13) 0, [], [], none, none⟩,
      ⟨some 18, .ext (.t 13) 1, [], [], none, none⟩,
      ⟨some 5, .mv (.t 17), [], [], none, none⟩,
      ⟨some 6, .mv (.t 18), [], [], none, none⟩])
  (R_c6))) (St.mk s o) Q =
 (callK C I (St.mk (upd (upd (look [(0, (s 0)), (1, (s 1))]) 14 (s 0)) 15 (s 1)) (looko ([].map fun n => (n, o n)))) (some 16) 63 [(s 0), (s 1)] (fun r1 or1 =>
demand (extV r1 0) (fun x2 =>
demand (extV r1 1) (fun x3 =>
wpB C I R_c6 (St.mk (look [(0, (s 0)), (1, (s 1)), (5, x2), (6, x3)]) (looko ([].map fun n => (n, or1 n)))) Q)))) := rfl

theorem g_law01_MoneySums_o7_sh {C : Ctx} {I : Nat → Prop} {s : Nat → V} {o : Nat → Option Ob} {K : St → Prop} : opsB C I [⟨some 80, .pick (.t 74) (.c (.d (.bool true))) (.t 79), [], [], none, none⟩] (St.mk s o) K =
 (demand (pickV (s 74) (V.d (.bool true)) (s 79)) (fun x1 =>
K (St.mk (upd s 80 x1) o))) := rfl

theorem g_law01_MoneySums_o6_sh {R_o7 : List AOper} {C : Ctx} {I : Nat → Prop} {s : Nat → V} {o : Nat → Option Ob} {K : St → Prop} : opsB C I (⟨some 75, .mv (.t 0), [], [], (some (17, 74, false)), none⟩ ::
     ⟨some 76, .call 58 [(.t 75)], [], [], (some (17, 74, false)), none⟩ ::
     ⟨some 77, .mv (.t 0), [], [], (some (17, 74, false)), none⟩ ::
     ⟨some 78, .call 53 [(.t 77)], [], [], (some (17, 74, false)), none⟩ ::
     ⟨some 79, .beq true (.t 76) (.t 78), [], [], (some (17, 74, false)), (some ([0, 1, 2, 9, 10, 11, 12, 13, 14, 74, 79], (some [])))⟩ ::
     R_o7) (St.mk s o) K =
 (guardK (s 74) false
 (callK C I (St.mk (upd (upd (upd s 74 (V.d (D.bool false))) 75 (s 0)) 74 (V.d (D.bool false))) o) (some 76) 58 [(s 0)] (fun r1 or1 =>
callK C I (St.mk (upd (upd (upd (upd (upd (upd (upd s 74 (V.d (D.bool false))) 75 (s 0)) 74 (V.d (D.bool false))) 76 r1) 74 (V.d (D.bool false))) 77 (s 0)) 74 (V.d (D.bool false))) or1) (some 78) 53 [(s 0)] (fun r2 or2 =>
demand (beqV true r1 r2) (fun x3 =>
opsB C I R_o7 (St.mk (look [(0, (s 0)), (1, (s 1)), (2, (s 2)), (9, (s 9)), (10, (s 10)), (11, (s 11)), (12, (s 12)), (13, (s 13)), (14, (s 14)), (74, (V.d (D.bool false))), (79, x3)]) (looko ([].map fun n => (n, or2 n)))) K))))
 (opsB C I R_o7 (St.mk (look [(0, (s 0)), (1, (s 1)), (2, (s 2)), (9, (s 9)), (10, (s 10)), (11, (s 11)), (12, (s 12)), (13, (s 13)), (14, (s 14)), (74, (V.d (D.bool true))), (79, (V.tup []))]) (looko ([].map fun n => (n, o n)))) K)
 (opsB C I R_o7 (St.mk (look [(0, (s 0)), (1, (s 1)), (2, (s 2)), (9, (s 9)), (10, (s 10)), (11, (s 11)), (12, (s 12)), (13, (s 13)), (14, (s 14)), (74, (V.tup [])), (79, (V.tup []))]) (looko ([].map fun n => (n, o n)))) K)) := rfl

theorem g_law01_MoneySums_o5_sh {R_o6 : List AOper} {C : Ctx} {I : Nat → Prop} {s : Nat → V} {o : Nat → Option Ob} {K : St → Prop} : opsB C I (⟨some 73, .pick (.t 66) (.c (.d (.bool true))) (.t 72), [], [], none, none⟩ ::
     ⟨some 74, .mv (.t 73), [], [], none, (some ([0, 1, 2, 9, 10, 11, 12, 13, 14, 74], (some [])))⟩ ::
     R_o6) (St.mk s o) K =
 (demand (pickV (s 66) (V.d (.bool true)) (s 72)) (fun x1 =>
opsB C I R_o6 (St.mk (look [(0, (s 0)), (1, (s 1)), (2, (s 2)), (9, (s 9)), (10, (s 10)), (11, (s 11)), (12, (s 12)), (13, (s 13)), (14, (s 14)), (74, x1)]) (looko ([].map fun n => (n, o n)))) K)) := rfl

theorem g_law01_MoneySums_o4_sh {R_o5 : List AOper} {C : Ctx} {I : Nat → Prop} {s : Nat → V} {o : Nat → Option Ob} {K : St → Prop} : opsB C I (⟨some 72, .pick (.t 69) (.t 71) (.c (.d (.bool false))), [], [], (some (9, 66, false)), (some ([0, 1, 2, 9, 10, 11, 12, 13, 14, 66, 72], (some [])))⟩ ::
     R_o5) (St.mk s o) K =
 (guardK (s 66) false
 (demand (pickV (s 69) (s 71) (V.d (.bool false))) (fun x1 =>
opsB C I R_o5 (St.mk (look [(0, (s 0)), (1, (s 1)), (2, (s 2)), (9, (s 9)), (10, (s 10)), (11, (s 11)), (12, (s 12)), (13, (s 13)), (14, (s 14)), (66, (V.d (D.bool false))), (72, x1)]) (looko ([].map fun n => (n, o n)))) K))
 (opsB C I R_o5 (St.mk (look [(0, (s 0)), (1, (s 1)), (2, (s 2)), (9, (s 9)), (10, (s 10)), (11, (s 11)), (12, (s 12)), (13, (s 13)), (14, (s 14)), (66, (V.d (D.bool true))), (72, (V.tup []))]) (looko ([].map fun n => (n, o n)))) K)
 (opsB C I R_o5 (St.mk (look [(0, (s 0)), (1, (s 1)), (2, (s 2)), (9, (s 9)), (10, (s 10)), (11, (s 11)), (12, (s 12)), (13, (s 13)), (14, (s 14)), (66, (V.tup [])), (72, (V.tup []))]) (looko ([].map fun n => (n, o n)))) K)) := rfl

theorem g_law01_MoneySums_o3_sh {R_o4 : List AOper} {C : Ctx} {I : Nat → Prop} {s : Nat → V} {o : Nat → Option Ob} {K : St → Prop} : opsB C I (⟨some 70, .mv (.t 8), [], [], (some (12, 69, true)), none⟩ ::
     ⟨some 71, .bin .neq (.t 70) (.c (.d (.int .i64 3))), [], [], (some (12, 69, true)), (some ([0, 1, 2, 9, 10, 11, 12, 13, 14, 66, 69, 71], (some [])))⟩ ::
     R_o4) (St.mk s o) K =
 (guardK (s 69) true
 (demand (binV BinOp.neq (s 8) (V.d (.int .i64 3))) (fun x1 =>
opsB C I R_o4 (St.mk (look [(0, (s 0)), (1, (s 1)), (2, (s 2)), (9, (s 9)), (10, (s 10)), (11, (s 11)), (12, (s 12)), (13, (s 13)), (14, (s 14)), (66, (s 66)), (69, (V.d (D.bool true))), (71, x1)]) (looko ([].map fun n => (n, o n)))) K))
 (opsB C I R_o4 (St.mk (look [(0, (s 0)), (1, (s 1)), (2, (s 2)), (9, (s 9)), (10, (s 10)), (11, (s 11)), (12, (s 12)), (13, (s 13)), (14, (s 14)), (66, (s 66)), (69, (V.d (D.bool false))), (71, (V.tup []))]) (looko ([].map fun n => (n, o n)))) K)
 (opsB C I R_o4 (St.mk (look [(0, (s 0)), (1, (s 1)), (2, (s 2)), (9, (s 9)), (10, (s 10)), (11, (s 11)), (12, (s 12)), (13, (s 13)), (14, (s 14)), (66, (s 66)), (69, (V.tup [])), (71, (V.tup []))]) (looko ([].map fun n => (n, o n)))) K)) := rfl

theorem g_law01_MoneySums_o2_sh {R_o3 : List AOper} {C : Ctx} {I : Nat → Prop} {s : Nat → V} {o : Nat → Option Ob} {K : St → Prop} : opsB C I (⟨some 67, .mv (.t 8), [], [], (some (9, 66, false)), none⟩ ::
     ⟨some 68, .bin .neq (.t 67) (.c (.d (.int .i64 0))), [], [], (some (9, 66, false)), none⟩ ::
     ⟨some 69, .mv (.t 68), [], [], (some (9, 66, false)), (some ([0, 1, 2, 8, 9, 10, 11, 12, 13, 14, 66, 69], (some [])))⟩ ::
     R_o3) (St.mk s o) K =
 (guardK (s 66) false
 (demand (binV BinOp.neq (s 8) (V.d (.int .i64 0))) (fun x1 =>
opsB C I R_o3 (St.mk (look [(0, (s 0)), (1, (s 1)), (2, (s 2)), (8, (s 8)), (9, (s 9)), (10, (s 10)), (11, (s 11)), (12, (s 12)), (13, (s 13)), (14, (s 14)), (66, (V.d (D.bool false))), (69, x1)]) (looko ([].map fun n => (n, o n)))) K))
 (opsB C I R_o3 (St.mk (look [(0, (s 0)), (1, (s 1)), (2, (s 2)), (8, (s 8)), (9, (s 9)), (10, (s 10)), (11, (s 11)), (12, (s 12)), (13, (s 13)), (14, (s 14)), (66, (V.d (D.bool true))), (69, (V.tup []))]) (looko ([].map fun n => (n, o n)))) K)
 (opsB C I R_o3 (St.mk (look [(0, (s 0)), (1, (s 1)), (2, (s 2)), (8, (s 8)), (9, (s 9)), (10, (s 10)), (11, (s 11)), (12, (s 12)), (13, (s 13)), (14, (s 14)), (66, (V.tup [])), (69, (V.tup []))]) (looko ([].map fun n => (n, o n)))) K)) := rfl

theorem g_law01_MoneySums_o1_sh {R_o2 : List AOper} {C : Ctx} {I : Nat → Prop} {s : Nat → V} {o : Nat → Option Ob} {K : St → Prop} : opsB C I (⟨some 65, .pick (.t 60) (.c (.d (.bool true))) (.t 64), [], [], none, none⟩ ::
     ⟨some 66, .mv (.t 65), [], [], none, (some ([0, 1, 2, 8, 9, 10, 11, 12, 13, 14, 66], (some [])))⟩ ::
     R_o2) (St.mk s o) K =
 (demand (pickV (s 60) (V.d (.bool true)) (s 64)) (fun x1 =>
opsB C I R_o2 (St.mk (look [(0, (s 0)), (1, (s 1)), (2, (s 2)), (8, (s 8)), (9, (s 9)), (10, (s 10)), (11, (s 11)), (12, (s 12)), (13, (s 13)), (14, (s 14)), (66, x1)]) (looko ([].map fun n => (n, o n)))) K)) := rfl

theorem g_law01_MoneySums_o0_sh {R_o1 : List AOper} {C : Ctx} {I : Nat → Prop} {s : Nat → V} {o : Nat → Option Ob} {K : St → Prop} : opsB C I (⟨some 61, .mv (.t 8), [], [], (some (3, 60, false)), none⟩ ::
     ⟨some 62, .bin .eql (.t 61) (.c (.d (.int .i64 0))), [], [], (some (3, 60, false)), none⟩ ::
     ⟨some 63, .mv (.t 16), [], [], (some (3, 60, false)), none⟩ ::
     ⟨some 64, .beq true (.t 62) (.t 63), [], [], (some (3, 60, false)), (some ([0, 1, 2, 8, 9, 10, 11, 12, 13, 14, 60, 64], (some [])))⟩ ::
     R_o1) (St.mk s o) K =
 (guardK (s 60) false
 (demand (binV BinOp.eql (s 8) (V.d (.int .i64 0))) (fun x1 =>
demand (beqV true x1 (s 16)) (fun x2 =>
opsB C I R_o1 (St.mk (look [(0, (s 0)), (1, (s 1)), (2, (s 2)), (8, (s 8)), (9, (s 9)), (10, (s 10)), (11, (s 11)), (12, (s 12)), (13, (s 13)), (14, (s 14)), (60, (V.d (D.bool false))), (64, x2)]) (looko ([].map fun n => (n, o n)))) K)))
 (opsB C I R_o1 (St.mk (look [(0, (s 0)), (1, (s 1)), (2, (s 2)), (8, (s 8)), (9, (s 9)), (10, (s 10)), (11, (s 11)), (12, (s 12)), (13, (s 13)), (14, (s 14)), (60, (V.d (D.bool true))), (64, (V.tup []))]) (looko ([].map fun n => (n, o n)))) K)
 (opsB C I R_o1 (St.mk (look [(0, (s 0)), (1, (s 1)), (2, (s 2)), (8, (s 8)), (9, (s 9)), (10, (s 10)), (11, (s 11)), (12, (s 12)), (13, (s 13)), (14, (s 14)), (60, (V.tup [])), (64, (V.tup []))]) (looko ([].map fun n => (n, o n)))) K)) := rfl

theorem g_law01_MoneySums_c0_sh {C : Ctx} {I : Nat → Prop} {s : Nat → V} {o : Nat → Option Ob} {Q : Ex → St → Prop} : wpB C I (.cond (.t 80) (.seq (.region [6] (some []) none
     [⟨some 6, .mv (.c (.d (.bool false))), [], [], none, none⟩])
  (.ret))
 (.skip)) (St.mk s o) Q =
 (condK (s 80)
 (Q .ret (St.mk (look [(6, (V.d (.bool false)))]) (looko ([].map fun n => (n, o n)))))
 (Q .normal (St.mk s o))) := rfl

theorem g_law01_MoneySums_o13_sh {C : Ctx} {I : Nat → Prop} {s : Nat → V} {o : Nat → Option Ob} {K : St → Prop} : opsB C I [⟨some 107, .pick (.t 100) (.c (.d (.bool true))) (.t 106), [], [], none, none⟩] (St.mk s o) K =
 (demand (pickV (s 100) (V.d (.bool true)) (s 106)) (fun x1 =>
K (St.mk (upd s 107 x1) o))) := rfl

theorem g_law01_MoneySums_o12_sh {R_o13 : List AOper} {C : Ctx} {I : Nat → Prop} {s : Nat → V} {o : Nat → Option Ob} {K : St → Prop} : opsB C I (⟨some 106, .pick (.t 103) (.t 105) (.c (.d (.bool false))), [], [], (some (9, 100, false)), (some ([0, 2, 11, 12, 13, 14, 100, 106], (some [])))⟩ ::
     R_o13) (St.mk s o) K =
 (guardK (s 100) false
 (demand (pickV (s 103) (s 105) (V.d (.bool false))) (fun x1 =>
opsB C I R_o13 (St.mk (look [(0, (s 0)), (2, (s 2)), (11, (s 11)), (12, (s 12)), (13, (s 13)), (14, (s 14)), (100, (V.d (D.bool false))), (106, x1)]) (looko ([].map fun n => (n, o n)))) K))
 (opsB C I R_o13 (St.mk (look [(0, (s 0)), (2, (s 2)), (11, (s 11)), (12, (s 12)), (13, (s 13)), (14, (s 14)), (100, (V.d (D.bool true))), (106, (V.tup []))]) (looko ([].map fun n => (n, o n)))) K)
 (opsB C I R_o13 (St.mk (look [(0, (s 0)), (2, (s 2)), (11, (s 11)), (12, (s 12)), (13, (s 13)), (14, (s 14)), (100, (V.tup [])), (106, (V.tup []))]) (looko ([].map fun n => (n, o n)))) K)) := rfl

theorem g_law01_MoneySums_o11_sh {R_o12 : List AOper} {C : Ctx} {I : Nat → Prop} {s : Nat → V} {o : Nat → Option Ob} {K : St → Prop} : opsB C I (⟨some 104, .mv (.t 10), [], [], (some (12, 103, true)), none⟩ ::
     ⟨some 105, .bin .neq (.t 104) (.c (.d (.int .i64 3))), [], [], (some (12, 103, true)), (some ([0, 2, 11, 12, 13, 14, 100, 103, 105], (some [])))⟩ ::
     R_o12) (St.mk s o) K =
 (guardK (s 103) true
 (demand (binV BinOp.neq (s 10) (V.d (.int .i64 3))) (fun x1 =>
opsB C I R_o12 (St.mk (look [(0, (s 0)), (2, (s 2)), (11, (s 11)), (12, (s 12)), (13, (s 13)), (14, (s 14)), (100, (s 100)), (103, (V.d (D.bool true))), (105, x1)]) (looko ([].map fun n => (n, o n)))) K))
 (opsB C I R_o12 (St.mk (look [(0, (s 0)), (2, (s 2)), (11, (s 11)), (12, (s 12)), (13, (s 13)), (14, (s 14)), (100, (s 100)), (103, (V.d (D.bool false))), (105, (V.tup []))]) (looko ([].map fun n => (n, o n)))) K)
 (opsB C I R_o12 (St.mk (look [(0, (s 0)), (2, (s 2)), (11, (s 11)), (12, (s 12)), (13, (s 13)), (14, (s 14)), (100, (s 100)), (103, (V.tup [])), (105, (V.tup []))]) (looko ([].map fun n => (n, o n)))) K)) := rfl

theorem g_law01_MoneySums_o10_sh {R_o11 : List AOper} {C : Ctx} {I : Nat → Prop} {s : Nat → V} {o : Nat → Option Ob} {K : St → Prop} : opsB C I (⟨some 101, .mv (.t 10), [], [], (some (9, 100, false)), none⟩ ::
     ⟨some 102, .bin .neq (.t 101) (.c (.d (.int .i64 0))), [], [], (some (9, 100, false)), none⟩ ::
     ⟨some 103, .mv (.t 102), [], [], (some (9, 100, false)), (some ([0, 2, 10, 11, 12, 13, 14, 100, 103], (some [])))⟩ ::
     R_o11) (St.mk s o) K =
 (guardK (s 100) false
 (demand (binV BinOp.neq (s 10) (V.d (.int .i64 0))) (fun x1 =>
opsB C I R_o11 (St.mk (look [(0, (s 0)), (2, (s 2)), (10, (s 10)), (11, (s 11)), (12, (s 12)), (13, (s 13)), (14, (s 14)), (100, (V.d (D.bool false))), (103, x1)]) (looko ([].map fun n => (n, o n)))) K))
 (opsB C I R_o11 (St.mk (look [(0, (s 0)), (2, (s 2)), (10, (s 10)), (11, (s 11)), (12, (s 12)), (13, (s 13)), (14, (s 14)), (100, (V.d (D.bool true))), (103, (V.tup []))]) (looko ([].map fun n => (n, o n)))) K)
 (opsB C I R_o11 (St.mk (look [(0, (s 0)), (2, (s 2)), (10, (s 10)), (11, (s 11)), (12, (s 12)), (13, (s 13)), (14, (s 14)), (100, (V.tup [])), (103, (V.tup []))]) (looko ([].map fun n => (n, o n)))) K)) := rfl

theorem g_law01_MoneySums_o9_sh {R_o10 : List AOper} {C : Ctx} {I : Nat → Prop} {s : Nat → V} {o : Nat → Option Ob} {K : St → Prop} : opsB C I (⟨some 99, .pick (.t 94) (.c (.d (.bool true))) (.t 98), [], [], none, none⟩ ::
     ⟨some 100, .mv (.t 99), [], [], none, (some ([0, 2, 10, 11, 12, 13, 14, 100], (some [])))⟩ ::
     R_o10) (St.mk s o) K =
 (demand (pickV (s 94) (V.d (.bool true)) (s 98)) (fun x1 =>
opsB C I R_o10 (St.mk (look [(0, (s 0)), (2, (s 2)), (10, (s 10)), (11, (s 11)), (12, (s 12)), (13, (s 13)), (14, (s 14)), (100, x1)]) (looko ([].map fun n => (n, o n)))) K)) := rfl

theorem g_law01_MoneySums_o8_sh {R_o9 : List AOper} {C : Ctx} {I : Nat → Prop} {s : Nat → V} {o : Nat → Option Ob} {K : St → Prop} : opsB C I (⟨some 95, .mv (.t 10), [], [], (some (3, 94, false)), none⟩ ::
     ⟨some 96, .bin .eql (.t 95) (.c (.d (.int .i64 0))), [], [], (some (3, 94, false)), none⟩ ::
     ⟨some 97, .mv (.t 18), [], [], (some (3, 94, false)), none⟩ ::
     ⟨some 98, .beq true (.t 96) (.t 97), [], [], (some (3, 94, false)), (some ([0, 2, 10, 11, 12, 13, 14, 94, 98], (some [])))⟩ ::
     R_o9) (St.mk s o) K =
 (guardK (s 94) false
 (demand (binV BinOp.eql (s 10) (V.d (.int .i64 0))) (fun x1 =>
demand (beqV true x1 (s 18)) (fun x2 =>
opsB C I R_o9 (St.mk (look [(0, (s 0)), (2, (s 2)), (10, (s 10)), (11, (s 11)), (12, (s 12)), (13, (s 13)), (14, (s 14)), (94, (V.d (D.bool false))), (98, x2)]) (looko ([].map fun n => (n, o n)))) K)))
 (opsB C I R_o9 (St.mk (look [(0, (s 0)), (2, (s 2)), (10, (s 10)), (11, (s 11)), (12, (s 12)), (13, (s 13)), (14, (s 14)), (94, (V.d (D.bool true))), (98, (V.tup []))]) (looko ([].map fun n => (n, o n)))) K)
 (opsB C I R_o9 (St.mk (look [(0, (s 0)), (2, (s 2)), (10, (s 10)), (11, (s 11)), (12, (s 12)), (13, (s 13)), (14, (s 14)), (94, (V.tup [])), (98, (V.tup []))]) (looko ([].map fun n => (n, o n)))) K)) := rfl

theorem g_law01_MoneySums_c1_sh {C : Ctx} {I : Nat → Prop} {s : Nat → V} {o : Nat → Option Ob} {Q : Ex → St → Prop} : wpB C I (.cond (.t 107) (.seq (.region [6] (some []) none
     [⟨some 6, .mv (.c (.d (.bool false))), [], [], none, none⟩])
  (.ret))
 (.skip)) (St.mk s o) Q =
 (condK (s 107)
 (Q .ret (St.mk (look [(6, (V.d (.bool false)))]) (looko ([].map fun n => (n, o n)))))
 (Q .normal (St.mk s o))) := rfl

theorem g_law01_MoneySums_o19_sh {C : Ctx} {I : Nat → Prop} {s : Nat → V} {o : Nat → Option Ob} {K : St → Prop} : opsB C I [⟨some 129, .pick (.t 122) (.c (.d (.bool true))) (.t 128), [], [], none, none⟩] (St.mk s o) K =
 (demand (pickV (s 122) (V.d (.bool true)) (s 128)) (fun x1 =>
K (St.mk (upd s 129 x1) o))) := rfl

theorem g_law01_MoneySums_o18_sh {R_o19 : List AOper} {C : Ctx} {I : Nat → Prop} {s : Nat → V} {o : Nat → Option Ob} {K : St → Prop} : opsB C I (⟨some 128, .pick (.t 125) (.t 127) (.c (.d (.bool false))), [], [], (some (9, 122, false)), (some ([2, 13, 14, 122, 128], (some [])))⟩ ::
     R_o19) (St.mk s o) K =
 (guardK (s 122) false
 (demand (pickV (s 125) (s 127) (V.d (.bool false))) (fun x1 =>
opsB C I R_o19 (St.mk (look [(2, (s 2)), (13, (s 13)), (14, (s 14)), (122, (V.d (D.bool false))), (128, x1)]) (looko ([].map fun n => (n, o n)))) K))
 (opsB C I R_o19 (St.mk (look [(2, (s 2)), (13, (s 13)), (14, (s 14)), (122, (V.d (D.bool true))), (128, (V.tup []))]) (looko ([].map fun n => (n, o n)))) K)
 (opsB C I R_o19 (St.mk (look [(2, (s 2)), (13, (s 13)), (14, (s 14)), (122, (V.tup [])), (128, (V.tup []))]) (looko ([].map fun n => (n, o n)))) K)) := rfl

theorem g_law01_MoneySums_o17_sh {R_o18 : List AOper} {C : Ctx} {I : Nat → Prop} {s : Nat → V} {o : Nat → Option Ob} {K : St → Prop} : opsB C I (⟨some 126, .mv (.t 12), [], [], (some (12, 125, true)), none⟩ ::
     ⟨some 127, .bin .neq (.t 126) (.c (.d (.int .i64 3))), [], [], (some (12, 125, true)), (some ([2, 13, 14, 122, 125, 127], (some [])))⟩ ::
     R_o18) (St.mk s o) K =
 (guardK (s 125) true
 (demand (binV BinOp.neq (s 12) (V.d (.int .i64 3))) (fun x1 =>
opsB C I R_o18 (St.mk (look [(2, (s 2)), (13, (s 13)), (14, (s 14)), (122, (s 122)), (125, (V.d (D.bool true))), (127, x1)]) (looko ([].map fun n => (n, o n)))) K))
 (opsB C I R_o18 (St.mk (look [(2, (s 2)), (13, (s 13)), (14, (s 14)), (122, (s 122)), (125, (V.d (D.bool false))), (127, (V.tup []))]) (looko ([].map fun n => (n, o n)))) K)
 (opsB C I R_o18 (St.mk (look [(2, (s 2)), (13, (s 13)), (14, (s 14)), (122, (s 122)), (125, (V.tup [])), (127, (V.tup []))]) (looko ([].map fun n => (n, o n)))) K)) := rfl

theorem g_law01_MoneySums_o16_sh {R_o17 : List AOper} {C : Ctx} {I : Nat → Prop} {s : Nat → V} {o : Nat → Option Ob} {K : St → Prop} : opsB C I (⟨some 123, .mv (.t 12), [], [], (some (9, 122, false)), none⟩ ::
     ⟨some 124, .bin .neq (.t 123) (.c (.d (.int .i64 0))), [], [], (some (9, 122, false)), none⟩ ::
     ⟨some 125, .mv (.t 124), [], [], (some (9, 122, false)), (some ([2, 12, 13, 14, 122, 125], (some [])))⟩ ::
     R_o17) (St.mk s o) K =
 (guardK (s 122) false
 (demand (binV BinOp.neq (s 12) (V.d (.int .i64 0))) (fun x1 =>
opsB C I R_o17 (St.mk (look [(2, (s 2)), (12, (s 12)), (13, (s 13)), (14, (s 14)), (122, (V.d (D.bool false))), (125, x1)]) (looko ([].map fun n => (n, o n)))) K))
 (opsB C I R_o17 (St.mk (look [(2, (s 2)), (12, (s 12)), (13, (s 13)), (14, (s 14)), (122, (V.d (D.bool true))), (125, (V.tup []))]) (looko ([].map fun n => (n, o n)))) K)
 (opsB C I R_o17 (St.mk (look [(2, (s 2)), (12, (s 12)), (13, (s 13)), (14, (s 14)), (122, (V.tup [])), (125, (V.tup []))]) (looko ([].map fun n => (n, o n)))) K)) := rfl

theorem g_law01_MoneySums_o15_sh {R_o16 : List AOper} {C : Ctx} {I : Nat → Prop} {s : Nat → V} {o : Nat → Option Ob} {K : St → Prop} : opsB C I (⟨some 121, .pick (.t 116) (.c (.d (.bool true))) (.t 120), [], [], none, none⟩ ::
     ⟨some 122, .mv (.t 121), [], [], none, (some ([2, 12, 13, 14, 122], (some [])))⟩ ::
     R_o16) (St.mk s o) K =
 (demand (pickV (s 116) (V.d (.bool true)) (s 120)) (fun x1 =>
opsB C I R_o16 (St.mk (look [(2, (s 2)), (12, (s 12)), (13, (s 13)), (14, (s 14)), (122, x1)]) (looko ([].map fun n => (n, o n)))) K)) := rfl

theorem g_law01_MoneySums_o14_sh {R_o15 : List AOper} {C : Ctx} {I : Nat → Prop} {s : Nat → V} {o : Nat → Option Ob} {K : St → Prop} : opsB C I (⟨some 117, .mv (.t 12), [], [], (some (3, 116, false)), none⟩ ::
     ⟨some 118, .bin .eql (.t 117) (.c (.d (.int .i64 0))), [], [], (some (3, 116, false)), none⟩ ::
     ⟨some 119, .mv (.t 20), [], [], (some (3, 116, false)), none⟩ ::
     ⟨some 120, .beq true (.t 118) (.t 119), [], [], (some (3, 116, false)), (some ([2, 12, 13, 14, 116, 120], (some [])))⟩ ::
     R_o15) (St.mk s o) K =
 (guardK (s 116) false
 (demand (binV BinOp.eql (s 12) (V.d (.int .i64 0))) (fun x1 =>
demand (beqV true x1 (s 20)) (fun x2 =>
opsB C I R_o15 (St.mk (look [(2, (s 2)), (12, (s 12)), (13, (s 13)), (14, (s 14)), (116, (V.d (D.bool false))), (120, x2)]) (looko ([].map fun n => (n, o n)))) K)))
 (opsB C I R_o15 (St.mk (look [(2, (s 2)), (12, (s 12)), (13, (s 13)), (14, (s 14)), (116, (V.d (D.bool true))), (120, (V.tup []))]) (looko ([].map fun n => (n, o n)))) K)
 (opsB C I R_o15 (St.mk (look [(2, (s 2)), (12, (s 12)), (13, (s 13)), (14, (s 14)), (116, (V.tup [])), (120, (V.tup []))]) (looko ([].map fun n => (n, o n)))) K)) := rfl

theorem g_law01_MoneySums_c2_sh {C : Ctx} {I : Nat → Prop} {s : Nat → V} {o : Nat → Option Ob} {Q : Ex → St → Prop} : wpB C I (.cond (.t 129) (.seq (.region [6] (some []) none
     [⟨some 6, .mv (.c (.d (.bool false))), [], [], none, none⟩])
  (.ret))
 (.skip)) (St.mk s o) Q =
 (condK (s 129)
 (Q .ret (St.mk (look [(6, (V.d (.bool false)))]) (looko ([].map fun n => (n, o n)))))
 (Q .normal (St.mk s o))) := rfl

theorem g_law01_MoneySums_c3_sh {C : Ctx} {I : Nat → Prop} {s : Nat → V} {o : Nat → Option Ob} {Q : Ex → St → Prop} : wpB C I (.region [13, 14, 21, 22, 130, 131, 132] (some []) none
   [⟨some 143, .bin .add (.t 132) (.c (.d (.int .i64 1))), [], [], none, none⟩,
    ⟨some 132, .mv (.t 143), [], [], none, none⟩]) (St.mk s o) Q =
 (demand (binV BinOp.add (s 132) (V.d (.int .i64 1))) (fun x1 =>
Q .normal (St.mk (look [(13, (s 13)), (14, (s 14)), (21, (s 21)), (22, (s 22)), (130, (s 130)), (131, (s 131)), (132, x1)]) (looko ([].map fun n => (n, o n)))))) := rfl

theorem g_law01_MoneySums_l0_sh {R_l0 : ACode} {R_c3 : ACode} {C : Ctx} {I : Nat → Prop} {s : Nat → V} {o : Nat → Option Ob} {Q : Ex → St → Prop} (hL : R_l0 = .loop [13, 14, 21, 22, 130, 131, 132] (some []) (.seq (.region [13, 14, 21, 22, 130, 131, 132, 133] (some []) none
     [⟨some 133, .bin .lss (.t 132) (.t 131), [], [], none, none⟩])
  (.seq (.cond (.t 133) (.skip)
    (.exit 0))
   (.seq (.block 1 [13, 14, 21, 22, 130, 131, 132] (some []) (.seq (.region [13, 14, 21, 22, 24, 130, 131, 132] (some []) none
         [⟨some 134, .iaddr 1 (.t 130) (.t 132), [], [], none, none⟩,
          ⟨some 135, .load none (.t 134), [], [], none, none⟩,
          ⟨some 24, .mv (.t 135), [], [], none, none⟩])
      (.seq (.region [13, 14, 21, 22, 24, 130, 131, 132, 136] (some []) none
          [⟨some 136, .mv (.t 22), [], [], none, none⟩])
       (.cond (.t 136) (.region [13, 14, 21, 22, 130, 131, 132] (some []) none
           [⟨some 138, .mv (.t 21), [], [], none, none⟩,
            ⟨some 139, .mv (.t 24), [], [], none, none⟩,
            ⟨some 140, .call 67 [(.t 138), (.t 139)], [], [], none, none⟩,
            ⟨some 137, .mv (.t 140), [], [], none, none⟩,
            ⟨some 141, .ext (.t 137) 0, [], [], none, none⟩,
            ⟨some 142, .ext (.t 137) 1, [], [], none, none⟩,
            ⟨some 21, .mv (.t 141), [], [], none, none⟩,
            ⟨some 22, .mv (.t 142), [], [], none, none⟩])
        (.skip)))))
    (R_c3)))))
 (h : demand (binV BinOp.lss (s 132) (s 131)) (fun x1 =>
condK x1
 (demand (iaddrV (looko ([].map fun n => (n, o n))) 1 (s 130) (s 132)) (fun x2 =>
demand (loadV (looko ([].map fun n => (n, o n))) none x2) (fun x3 =>
condK (s 22)
 (callK C I (St.mk (upd (upd (look [(13, (s 13)), (14, (s 14)), (21, (s 21)), (22, (s 22)), (24, x3), (130, (s 130)), (131, (s 131)), (132, (s 132)), (136, (s 22))]) 138 (s 21)) 139 x3) (looko ([].map fun n => (n, o n)))) (some 140) 67 [(s 21), x3] (fun r4 or4 =>
demand (extV r4 0) (fun x5 =>
demand (extV r4 1) (fun x6 =>
wpB C I R_c3 (St.mk (look [(13, (s 13)), (14, (s 14)), (21, x5), (22, x6), (130, (s 130)), (131, (s 131)), (132, (s 132))]) (looko ([].map fun n => (n, or4 n)))) (seqK (fun s => wpB C I R_l0 s Q) Q)))))
 (wpB C I R_c3 (St.mk (look [(13, (s 13)), (14, (s 14)), (21, (s 21)), (22, (s 22)), (130, (s 130)), (131, (s 131)), (132, (s 132))]) (looko ([].map fun n => (n, o n)))) (seqK (fun s => wpB C I R_l0 s Q) Q)))))
 (Q (.exit 0) (St.mk (look [(13, (s 13)), (14, (s 14)), (21, (s 21)), (22, (s 22)), (130, (s 130)), (131, (s 131)), (132, (s 132)), (133, x1)]) (looko ([].map fun n => (n, o n))))))) : wpB C I R_l0 (St.mk s o) Q := w_loopC hL h

theorem g_law01_MoneySums_o27_sh {C : Ctx} {I : Nat → Prop} {s : Nat → V} {o : Nat → Option Ob} {K : St → Prop} : opsB C I [⟨some 165, .pick (.t 163) (.t 164) (.c (.d (.bool false))), [], [], none, none⟩,
     ⟨some 6, .mv (.t 165), [], [], none, none⟩] (St.mk s o) K =
 (demand (pickV (s 163) (s 164) (V.d (.bool false))) (fun x1 =>
K (St.mk (upd (upd s 165 x1) 6 x1) o))) := rfl

theorem g_law01_MoneySums_o26_sh {R_o27 : List AOper} {C : Ctx} {I : Nat → Prop} {s : Nat → V} {o : Nat → Option Ob} {K : St → Prop} : opsB C I (⟨some 164, .call 49 [], [], [], (some (17, 163, true)), (some ([163, 164], (some [])))⟩ ::
     R_o27) (St.mk s o) K =
 (guardK (s 163) true
 (callK C I (St.mk (upd s 163 (V.d (D.bool true))) o) (some 164) 49 [] (fun r1 or1 =>
opsB C I R_o27 (St.mk (look [(163, (V.d (D.bool true))), (164, r1)]) (looko ([].map fun n => (n, or1 n)))) K))
 (opsB C I R_o27 (St.mk (look [(163, (V.d (D.bool false))), (164, (V.tup []))]) (looko ([].map fun n => (n, o n)))) K)
 (opsB C I R_o27 (St.mk (look [(163, (V.tup [])), (164, (V.tup []))]) (looko ([].map fun n => (n, o n)))) K)) := rfl

theorem g_law01_MoneySums_o25_sh {R_o26 : List AOper} {C : Ctx} {I : Nat → Prop} {s : Nat → V} {o : Nat → Option Ob} {K : St → Prop} : opsB C I (⟨some 162, .pick (.t 155) (.t 161) (.c (.d (.bool false))), [], [], none, none⟩ ::
     ⟨some 163, .mv (.t 162), [], [], none, (some ([163], (some [])))⟩ ::
     R_o26) (St.mk s o) K =
 (demand (pickV (s 155) (s 161) (V.d (.bool false))) (fun x1 =>
opsB C I R_o26 (St.mk (look [(163, x1)]) (looko ([].map fun n => (n, o n)))) K)) := rfl

theorem g_law01_MoneySums_o24_sh {R_o25 : List AOper} {C : Ctx} {I : Nat → Prop} {s : Nat → V} {o : Nat → Option Ob} {K : St → Prop} : opsB C I (⟨some 161, .pick (.t 158) (.c (.d (.bool true))) (.t 160), [], [], (some (9, 155, true)), (some ([155, 161], (some [])))⟩ ::
     R_o25) (St.mk s o) K =
 (guardK (s 155) true
 (demand (pickV (s 158) (V.d (.bool true)) (s 160)) (fun x1 =>
opsB C I R_o25 (St.mk (look [(155, (V.d (D.bool true))), (161, x1)]) (looko ([].map fun n => (n, o n)))) K))
 (opsB C I R_o25 (St.mk (look [(155, (V.d (D.bool false))), (161, (V.tup []))]) (looko ([].map fun n => (n, o n)))) K)
 (opsB C I R_o25 (St.mk (look [(155, (V.tup [])), (161, (V.tup []))]) (looko ([].map fun n => (n, o n)))) K)) := rfl

theorem g_law01_MoneySums_o23_sh {R_o24 : List AOper} {C : Ctx} {I : Nat → Prop} {s : Nat → V} {o : Nat → Option Ob} {K : St → Prop} : opsB C I (⟨some 159, .mv (.t 14), [], [], (some (12, 158, false)), none⟩ ::
     ⟨some 160, .bin .eql (.t 159) (.c (.d (.int .i64 3))), [], [], (some (12, 158, false)), (some ([155, 158, 160], (some [])))⟩ ::
     R_o24) (St.mk s o) K =
 (guardK (s 158) false
 (demand (binV BinOp.eql (s 14) (V.d (.int .i64 3))) (fun x1 =>
opsB C I R_o24 (St.mk (look [(155, (s 155)), (158, (V.d (D.bool false))), (160, x1)]) (looko ([].map fun n => (n, o n)))) K))
 (opsB C I R_o24 (St.mk (look [(155, (s 155)), (158, (V.d (D.bool true))), (160, (V.tup []))]) (looko ([].map fun n => (n, o n)))) K)
 (opsB C I R_o24 (St.mk (look [(155, (s 155)), (158, (V.tup [])), (160, (V.tup []))]) (looko ([].map fun n => (n, o n)))) K)) := rfl

theorem g_law01_MoneySums_o22_sh {R_o23 : List AOper} {C : Ctx} {I : Nat → Prop} {s : Nat → V} {o : Nat → Option Ob} {K : St → Prop} : opsB C I (⟨some 156, .mv (.t 14), [], [], (some (9, 155, true)), none⟩ ::
     ⟨some 157, .bin .eql (.t 156) (.c (.d (.int .i64 0))), [], [], (some (9, 155, true)), none⟩ ::
     ⟨some 158, .mv (.t 157), [], [], (some (9, 155, true)), (some ([14, 155, 158], (some [])))⟩ ::
     R_o23) (St.mk s o) K =
 (guardK (s 155) true
 (demand (binV BinOp.eql (s 14) (V.d (.int .i64 0))) (fun x1 =>
opsB C I R_o23 (St.mk (look [(14, (s 14)), (155, (V.d (D.bool true))), (158, x1)]) (looko ([].map fun n => (n, o n)))) K))
 (opsB C I R_o23 (St.mk (look [(14, (s 14)), (155, (V.d (D.bool false))), (158, (V.tup []))]) (looko ([].map fun n => (n, o n)))) K)
 (opsB C I R_o23 (St.mk (look [(14, (s 14)), (155, (V.tup [])), (158, (V.tup []))]) (looko ([].map fun n => (n, o n)))) K)) := rfl

theorem g_law01_MoneySums_o21_sh {R_o22 : List AOper} {C : Ctx} {I : Nat → Prop} {s : Nat → V} {o : Nat → Option Ob} {K : St → Prop} : opsB C I (⟨some 154, .pick (.t 149) (.t 153) (.c (.d (.bool false))), [], [], none, none⟩ ::
     ⟨some 155, .mv (.t 154), [], [], none, (some ([14, 155], (some [])))⟩ ::
     R_o22) (St.mk s o) K =
 (demand (pickV (s 149) (s 153) (V.d (.bool false))) (fun x1 =>
opsB C I R_o22 (St.mk (look [(14, (s 14)), (155, x1)]) (looko ([].map fun n => (n, o n)))) K)) := rfl

theorem g_law01_MoneySums_o20_sh {R_o21 : List AOper} {C : Ctx} {I : Nat → Prop} {s : Nat → V} {o : Nat → Option Ob} {K : St → Prop} : opsB C I (⟨some 150, .mv (.t 14), [], [], (some (3, 149, true)), none⟩ ::
     ⟨some 151, .bin .eql (.t 150) (.c (.d (.int .i64 0))), [], [], (some (3, 149, true)), none⟩ ::
     ⟨some 152, .mv (.t 22), [], [], (some (3, 149, true)), none⟩ ::
     ⟨some 153, .beq false (.t 151) (.t 152), [], [], (some (3, 149, true)), (some ([14, 149, 153], (some [])))⟩ ::
     R_o21) (St.mk s o) K =
 (guardK (s 149) true
 (demand (binV BinOp.eql (s 14) (V.d (.int .i64 0))) (fun x1 =>
demand (beqV false x1 (s 22)) (fun x2 =>
opsB C I R_o21 (St.mk (look [(14, (s 14)), (149, (V.d (D.bool true))), (153, x2)]) (looko ([].map fun n => (n, o n)))) K)))
 (opsB C I R_o21 (St.mk (look [(14, (s 14)), (149, (V.d (D.bool false))), (153, (V.tup []))]) (looko ([].map fun n => (n, o n)))) K)
 (opsB C I R_o21 (St.mk (look [(14, (s 14)), (149, (V.tup [])), (153, (V.tup []))]) (looko ([].map fun n => (n, o n)))) K)) := rfl

theorem g_law01_MoneySums_c4_sh {C : Ctx} {I : Nat → Prop} {s : Nat → V} {o : Nat → Option Ob} {Q : Ex → St → Prop} : wpB C I (.ret) (St.mk s o) Q =
 (Q .ret (St.mk s o)) := rfl

theorem g_law01_MoneySums_c5_sh {R_o20 : List AOper} {R_c4 : ACode} {C : Ctx} {I : Nat → Prop} {s : Nat → V} {o : Nat → Option Ob} {Q : Ex → St → Prop} : wpB C I (.seq (.region [6] (some []) none
    (⟨some 146, .mv (.t 13), [], [], none, none⟩ ::
     ⟨some 147, .mv (.t 21), [], [], none, none⟩ ::
     ⟨some 148, .bin .eql (.t 146) (.t 147), [], [], none, none⟩ ::
     ⟨some 149, .mv (.t 148), [], [], none, (some ([14, 22, 149], (some [])))⟩ ::
     R_o20))
 (R_c4)) (St.mk s o) Q =
 (demand (binV BinOp.eql (s 13) (s 21)) (fun x1 =>
opsB C I R_o20 (St.mk (look [(14, (s 14)), (22, (s 22)), (149, x1)]) (looko ([].map fun n => (n, o n)))) (fun st => (seqK (fun st => wpB C I R_c4 st Q) Q) .normal (St.trim st [6] (some []))))) := rfl

theorem g_law01_MoneySums_c6_sh {R_c5 : ACode} {C : Ctx} {I : Nat → Prop} {s : Nat → V} {o : Nat → Option Ob} {Q : Ex → St → Prop} : wpB C I (.seq (.seq (.region [13, 14, 21, 22, 145] (some []) none
     [⟨some 144, .mv (.t 22), [], [], none, none⟩,
      ⟨some 145, .un .not (.t 144), [], [], none, none⟩])
  (.cond (.t 145) (.region [13, 14, 21, 22] (some []) none
      [⟨some 21, .mv (.c (.d (.int .i64 0))), [], [], none, none⟩])
   (.skip)))
 (R_c5)) (St.mk s o) Q =
 (demand (unV UnOp.not (s 22)) (fun x1 =>
condK x1
 (wpB C I R_c5 (St.mk (look [(13, (s 13)), (14, (s 14)), (21, (V.d (.int .i64 0))), (22, (s 22))]) (looko ([].map fun n => (n, o n)))) Q)
 (wpB C I R_c5 (St.mk (look [(13, (s 13)), (14, (s 14)), (21, (s 21)), (22, (s 22)), (145, x1)]) (looko ([].map fun n => (n, o n)))) Q))) := rfl

theorem g_law01_MoneySums_c7_sh {R_l0 : ACode} {R_c6 : ACode} {C : Ctx} {I : Nat → Prop} {s : Nat → V} {o : Nat → Option Ob} {Q : Ex → St → Prop} : wpB C I (.seq (.region [2, 13, 14, 21, 22] (some []) none
    [⟨some 21, .mv (.c (.d (.int .i64 0))), [], [], none, none⟩,
     ⟨some 22, .mv (.c (.d (.bool true))), [], [], none, none⟩])
 (.seq (.seq (.region [13, 14, 21, 22, 130, 131, 132] (some []) none
      [⟨some 130, .mv (.t 2), [], [], none, none⟩,
       ⟨some 131, .len (.t 130), [], [], none, none⟩,
       ⟨some 132, .mv (.c (.d (.int .i64 0))), [], [], none, none⟩])
   (.block 0 [13, 14, 21, 22] (some []) (R_l0)))
  (R_c6))) (St.mk s o) Q =
 (demand (lenV (looko ([].map fun n => (n, o n))) (s 2)) (fun x1 =>
wpB C I R_l0 (St.mk (look [(13, (s 13)), (14, (s 14)), (21, (V.d (.int .i64 0))), (22, (V.d (.bool true))), (130, (s 2)), (131, x1), (132, (V.d (.int .i64 0)))]) (looko ([].map fun n => (n, o n)))) (blockK 0 [13, 14, 21, 22] (some []) (seqK (fun st => wpB C I R_c6 st Q) Q)))) := rfl

theorem g_law01_MoneySums_c8_sh {R_o14 : List AOper} {R_c2 : ACode} {R_c7 : ACode} {C : Ctx} {I : Nat → Prop} {s : Nat → V} {o : Nat → Option Ob} {Q : Ex → St → Prop} : wpB C I (.seq (.seq (.region [2, 13, 14, 129] (some []) none
     (⟨some 113, .mv (.t 11), [], [], none, none⟩ ::
      ⟨some 114, .mv (.t 19), [], [], none, none⟩ ::
      ⟨some 115, .bin .neq (.t 113) (.t 114), [], [], none, none⟩ ::
      ⟨some 116, .mv (.t 115), [], [], none, (some ([2, 12, 13, 14, 20, 116], (some [])))⟩ ::
      R_o14))
  (R_c2))
 (R_c7)) (St.mk s o) Q =
 (demand (binV BinOp.neq (s 11) (s 19)) (fun x1 =>
opsB C I R_o14 (St.mk (look [(2, (s 2)), (12, (s 12)), (13, (s 13)), (14, (s 14)), (20, (s 20)), (116, x1)]) (looko ([].map fun n => (n, o n)))) (fun st => (seqK (fun st => wpB C I R_c2 st (seqK (fun st => wpB C I R_c7 st Q) Q)) (seqK (fun st => wpB C I R_c7 st Q) Q)) .normal (St.trim st [2, 13, 14, 129] (some []))))) := rfl

theorem g_law01_MoneySums_c9_sh {R_c8 : ACode} {C : Ctx} {I : Nat → Prop} {s : Nat → V} {o : Nat → Option Ob} {Q : Ex → St → Prop} : wpB C I (.seq (.seq (.region [0, 2, 11, 12, 13, 14, 19, 20, 110] (some []) none
     [⟨some 110, .mv (.t 20), [], [], none, none⟩])
  (.cond (.t 110) (.region [2, 11, 12, 13, 14, 19, 20] (some []) none
      [⟨some 111, .mv (.t 0), [], [], none, none⟩,
       ⟨some 112, .un .neg (.t 111), [], [], none, none⟩,
       ⟨some 19, .mv (.t 112), [], [], none, none⟩])
   (.skip)))
 (R_c8)) (St.mk s o) Q =
 (condK (s 20)
 (demand (unV UnOp.neg (s 0)) (fun x1 =>
wpB C I R_c8 (St.mk (look [(2, (s 2)), (11, (s 11)), (12, (s 12)), (13, (s 13)), (14, (s 14)), (19, x1), (20, (s 20))]) (looko ([].map fun n => (n, o n)))) Q))
 (wpB C I R_c8 (St.mk (look [(0, (s 0)), (2, (s 2)), (11, (s 11)), (12, (s 12)), (13, (s 13)), (14, (s 14)), (19, (s 19)), (20, (s 20)), (110, (s 20))]) (looko ([].map fun n => (n, o n)))) Q)) := rfl

theorem g_law01_MoneySums_c10_sh {R_c9 : ACode} {C : Ctx} {I : Nat → Prop} {s : Nat → V} {o : Nat → Option Ob} {Q : Ex → St → Prop} : wpB C I (.seq (.region [0, 2, 11, 12, 13, 14, 19, 20] (some []) none
    [⟨some 108, .mv (.t 0), [], [], none, none⟩,
     ⟨some 109, .call 53 [(.t 108)], [], [], none, none⟩,
     ⟨some 19, .mv (.c (.d (.int .i64 0))), [], [], none, none⟩,
     ⟨some 20, .mv (.t 109), [], [], none, none⟩])
 (R_c9)) (St.mk s o) Q =
 (callK C I (St.mk (upd s 108 (s 0)) o) (some 109) 53 [(s 0)] (fun r1 or1 =>
wpB C I R_c9 (St.mk (look [(0, (s 0)), (2, (s 2)), (11, (s 11)), (12, (s 12)), (13, (s 13)), (14, (s 14)), (19, (V.d (.int .i64 0))), (20, r1)]) (looko ([].map fun n => (n, or1 n)))) Q)) := rfl

theorem g_law01_MoneySums_c11_sh {R_o8 : List AOper} {R_c1 : ACode} {R_c10 : ACode} {C : Ctx} {I : Nat → Prop} {s : Nat → V} {o : Nat → Option Ob} {Q : Ex → St → Prop} : wpB C I (.seq (.seq (.region [0, 2, 11, 12, 13, 14, 107] (some []) none
     (⟨some 91, .mv (.t 9), [], [], none, none⟩ ::
      ⟨some 92, .mv (.t 17), [], [], none, none⟩ ::
      ⟨some 93, .bin .neq (.t 91) (.t 92), [], [], none, none⟩ ::
      ⟨some 94, .mv (.t 93), [], [], none, (some ([0, 2, 10, 11, 12, 13, 14, 18, 94], (some [])))⟩ ::
      R_o8))
  (R_c1))
 (R_c10)) (St.mk s o) Q =
 (demand (binV BinOp.neq (s 9) (s 17)) (fun x1 =>
opsB C I R_o8 (St.mk (look [(0, (s 0)), (2, (s 2)), (10, (s 10)), (11, (s 11)), (12, (s 12)), (13, (s 13)), (14, (s 14)), (18, (s 18)), (94, x1)]) (looko ([].map fun n => (n, o n)))) (fun st => (seqK (fun st => wpB C I R_c1 st (seqK (fun st => wpB C I R_c10 st Q) Q)) (seqK (fun st => wpB C I R_c10 st Q) Q)) .normal (St.trim st [0, 2, 11, 12, 13, 14, 107] (some []))))) := rfl

theorem g_law01_MoneySums_c12_sh {R_c11 : ACode} {C : Ctx} {I : Nat → Prop} {s : Nat → V} {o : Nat → Option Ob} {Q : Ex → St → Prop} : wpB C I (.seq (.seq (.region [0, 1, 2, 9, 10, 11, 12, 13, 14, 17, 18, 83] (some []) none
     [⟨some 83, .mv (.t 18), [], [], none, none⟩])
  (.cond (.t 83) (.region [0, 2, 9, 10, 11, 12, 13, 14, 17, 18] (some []) none
      [⟨some 85, .mv (.t 0), [], [], none, none⟩,
       ⟨some 86, .mv (.t 1), [], [], none, none⟩,
       ⟨some 87, .un .neg (.t 86), [], [], none, none⟩,
       ⟨some 88, .call 67 [(.t 85), (.t 87)], [], [], none, none⟩,
       ⟨some 84, .mv (.t 88), [], [], none, none⟩,
       ⟨some 89, .ext (.t 84) 0, [], [], none, none⟩,
       ⟨some 90, .ext (.t 84) 1, [], [], none, none⟩,
       ⟨some 17, .mv (.t 89), [], [], none, none⟩,
       ⟨some 18, .mv (.t 90), [], [], none, none⟩])
   (.skip)))
 (R_c11)) (St.mk s o) Q =
 (condK (s 18)
 (demand (unV UnOp.neg (s 1)) (fun x1 =>
callK C I (St.mk (upd (upd (upd (look [(0, (s 0)), (1, (s 1)), (2, (s 2)), (9, (s 9)), (10, (s 10)), (11, (s 11)), (12, (s 12)), (13, (s 13)), (14, (s 14)), (17, (s 17)), (18, (s 18)), (83, (s 18))]) 85 (s 0)) 86 (s 1)) 87 x1) (looko ([].map fun n => (n, o n)))) (some 88) 67 [(s 0), x1] (fun r2 or2 =>
demand (extV r2 0) (fun x3 =>
demand (extV r2 1) (fun x4 =>
wpB C I R_c11 (St.mk (look [(0, (s 0)), (2, (s 2)), (9, (s 9)), (10, (s 10)), (11, (s 11)), (12, (s 12)), (13, (s 13)), (14, (s 14)), (17, x3), (18, x4)]) (looko ([].map fun n => (n, or2 n)))) Q)))))
 (wpB C I R_c11 (St.mk (look [(0, (s 0)), (1, (s 1)), (2, (s 2)), (9, (s 9)), (10, (s 10)), (11, (s 11)), (12, (s 12)), (13, (s 13)), (14, (s 14)), (17, (s 17)), (18, (s 18)), (83, (s 18))]) (looko ([].map fun n => (n, o n)))) Q)) := rfl

theorem g_law01_MoneySums_c13_sh {R_c12 : ACode} {C : Ctx} {I : Nat → Prop} {s : Nat → V} {o : Nat → Option Ob} {Q : Ex → St → Prop} : wpB C I (.seq (.region [0, 1, 2, 9, 10, 11, 12, 13, 14, 17, 18] (some []) none
    [⟨some 81, .mv (.t 1), [], [], none, none⟩,
     ⟨some 82, .call 53 [(.t 81)], [], [], none, none⟩,
     ⟨some 17, .mv (.c (.d (.int .i64 0))), [], [], none, none⟩,
     ⟨some 18, .mv (.t 82), [], [], none, none⟩])
 (R_c12)) (St.mk s o) Q =
 (callK C I (St.mk (upd s 81 (s 1)) o) (some 82) 53 [(s 1)] (fun r1 or1 =>
wpB C I R_c12 (St.mk (look [(0, (s 0)), (1, (s 1)), (2, (s 2)), (9, (s 9)), (10, (s 10)), (11, (s 11)), (12, (s 12)), (13, (s 13)), (14, (s 14)), (17, (V.d (.int .i64 0))), (18, r1)]) (looko ([].map fun n => (n, or1 n)))) Q)) := rfl

theorem g_law01_MoneySums_c14_sh {R_o0 : List AOper} {R_c0 : ACode} {R_c13 : ACode} {C : Ctx} {I : Nat → Prop} {s : Nat → V} {o : Nat → Option Ob} {Q : Ex → St → Prop} : wpB C I (.seq (.seq (.region [0, 1, 2, 9, 10, 11, 12, 13, 14, 80] (some []) none
     (⟨some 57, .mv (.t 7), [], [], none, none⟩ ::
      ⟨some 58, .mv (.t 15), [], [], none, none⟩ ::
      ⟨some 59, .bin .neq (.t 57) (.t 58), [], [], none, none⟩ ::
      ⟨some 60, .mv (.t 59), [], [], none, (some ([0, 1, 2, 8, 9, 10, 11, 12, 13, 14, 16, 60], (some [])))⟩ ::
      R_o0))
  (R_c0))
 (R_c13)) (St.mk s o) Q =
 (demand (binV BinOp.neq (s 7) (s 15)) (fun x1 =>
opsB C I R_o0 (St.mk (look [(0, (s 0)), (1, (s 1)), (2, (s 2)), (8, (s 8)), (9, (s 9)), (10, (s 10)), (11, (s 11)), (12, (s 12)), (13, (s 13)), (14, (s 14)), (16, (s 16)), (60, x1)]) (looko ([].map fun n => (n, o n)))) (fun st => (seqK (fun st => wpB C I R_c0 st (seqK (fun st => wpB C I R_c13 st Q) Q)) (seqK (fun st => wpB C I R_c13 st Q) Q)) .normal (St.trim st [0, 1, 2, 9, 10, 11, 12, 13, 14, 80] (some []))))) := rfl

theorem g_law01_MoneySums_c15_sh {R_c14 : ACode} {C : Ctx} {I : Nat → Prop} {s : Nat → V} {o : Nat → Option Ob} {Q : Ex → St → Prop} : wpB C I (.seq (.region [0, 1, 2, 7, 8, 9, 10, 11, 12, 13, 14, 15, 16] (some []) none
    [⟨some 52, .mv (.t 0), [], [], none, none⟩,
     ⟨some 53, .mv (.t 1), [], [], none, none⟩,
     ⟨some 54, .call 67 [(.t 52), (.t 53)], [], [], none, none⟩,
     ⟨some 51, .mv (.t 54), [], [], none, none⟩,
     ⟨some 55, .ext (.t 51) 0, [], [], none, none⟩,
     ⟨some 56, .ext (.t 51) 1, [], [], none, none⟩,
     ⟨some 15, .mv (.t 55), [], [], none, none⟩,
     ⟨some 16, .mv (.t 56), [], [], none, none⟩])
 (R_c14)) (St.mk s o) Q =
 (callK C I (St.mk (upd (upd s 52 (s 0)) 53 (s 1)) o) (some 54) 67 [(s 0), (s 1)] (fun r1 or1 =>
demand (extV r1 0) (fun x2 =>
demand (extV r1 1) (fun x3 =>
wpB C I R_c14 (St.mk (look [(0, (s 0)), (1, (s 1)), (2, (s 2)), (7, (s 7)), (8, (s 8)), (9, (s 9)), (10, (s 10)), (11, (s 11)), (12, (s 12)), (13, (s 13)), (14, (s 14)), (15, x2), (16, x3)]) (looko ([].map fun n => (n, or1 n)))) Q)))) := rfl

theorem g_law01_MoneySums_c16_sh {R_c15 : ACode} {C : Ctx} {I : Nat → Prop} {s : Nat → V} {o : Nat → Option Ob} {Q : Ex → St → Prop} : wpB C I (.seq (.region [0, 1, 2, 7, 8, 9, 10, 11, 12, 13, 14] (some []) none
    [⟨some 47, .mv (.t 2), [], [], none, none⟩,
     ⟨some 48, .call 60 [(.t 47)], [], [], none, none⟩,
     ⟨some 46, .mv (.t 48), [], [], none, none⟩,
     ⟨some 49, .ext (.t 46) 0, [], [], none, none⟩,
     ⟨some 50, .ext (.t 46) 1, [], [], none, none⟩,
     ⟨some 13, .mv (.t 49), [], [], none, none⟩,
     ⟨some 14, .mv (.t 50), [], [], none, none⟩])
 (R_c15)) (St.mk s o) Q =
 (callK C I (St.mk (upd s 47 (s 2)) o) (some 48) 60 [(s 2)] (fun r1 or1 =>
demand (extV r1 0) (fun x2 =>
demand (extV r1 1) (fun x3 =>
wpB C I R_c15 (St.mk (look [(0, (s 0)), (1, (s 1)), (2, (s 2)), (7, (s 7)), (8, (s 8)), (9, (s 9)), (10, (s 10)), (11, (s 11)), (12, (s 12)), (13, x2), (14, x3)]) (looko ([].map fun n => (n, or1 n)))) Q)))) := rfl

theorem g_law01_MoneySums_c17_sh {R_c16 : ACode} {C : Ctx} {I : Nat → Prop} {s : Nat → V} {o : Nat → Option Ob} {Q : Ex → St → Prop} : wpB C I (.seq (.region [0, 1, 2, 7, 8, 9, 10, 11, 12] (some []) none
    [⟨some 42, .mv (.t 0), [], [], none, none⟩,
     ⟨some 43, .call 57 [(.t 42)], [], [], none, none⟩,
     ⟨some 41, .mv (.t 43), [], [], none, none⟩,
     ⟨some 44, .ext (.t 41) 0, [], [], none, none⟩,
     ⟨some 45, .ext (.t 41) 1, [], [], none, none⟩,
     ⟨some 11, .mv (.t 44), [], [], none, none⟩,
     ⟨some 12, .mv (.t 45), [], [], none, none⟩])
 (R_c16)) (St.mk s o) Q =
 (callK C I (St.mk (upd s 42 (s 0)) o) (some 43) 57 [(s 0)] (fun r1 or1 =>
demand (extV r1 0) (fun x2 =>
demand (extV r1 1) (fun x3 =>
wpB C I R_c16 (St.mk (look [(0, (s 0)), (1, (s 1)), (2, (s 2)), (7, (s 7)), (8, (s 8)), (9, (s 9)), (10, (s 10)), (11, x2), (12, x3)]) (looko ([].map fun n => (n, or1 n)))) Q)))) := rfl

theorem g_law01_MoneySums_c18_sh {R_c17 : ACode} {C : Ctx} {I : Nat → Prop} {s : Nat → V} {o : Nat → Option Ob} {Q : Ex → St → Prop} : wpB C I (.seq (.region [0, 1, 2, 7, 8, 9, 10] (some []) none
    [⟨some 36, .mv (.t 0), [], [], none, none⟩,
     ⟨some 37, .mv (.t 1), [], [], none, none⟩,
     ⟨some 38, .call 65 [(.t 36), (.t 37)], [], [], none, none⟩,
     ⟨some 35, .mv (.t 38), [], [], none, none⟩,
     ⟨some 39, .ext (.t 35) 0, [], [], none, none⟩,
     ⟨some 40, .ext (.t 35) 1, [], [], none, none⟩,
     ⟨some 9, .mv (.t 39), [], [], none, none⟩,
     ⟨some 10, .mv (.t 40), [], [], none, none⟩])
 (R_c17)) (St.mk s o) Q =
 (callK C I (St.mk (upd (upd s 36 (s 0)) 37 (s 1)) o) (some 38) 65 [(s 0), (s 1)] (fun r1 or1 =>
demand (extV r1 0) (fun x2 =>
demand (extV r1 1) (fun x3 =>
wpB C I R_c17 (St.mk (look [(0, (s 0)), (1, (s 1)), (2, (s 2)), (7, (s 7)), (8, (s 8)), (9, x2), (10, x3)]) (looko ([].map fun n => (n, or1 n)))) Q)))) := rfl

theorem g_law01_MoneySums_c19_sh {R_c18 : ACode} {C : Ctx} {I : Nat → Prop} {s : Nat → V} {o : Nat → Option Ob} {Q : Ex → St → Prop} : wpB C I (.seq (.region [0, 1, 2, 7, 8] (some []) none
    [⟨some 30, .mv (.t 0), [], [], none, none⟩,
     ⟨some 31, .mv (.t 1), [], [], none, none⟩,
     ⟨some 32, .call 63 [(.t 30), (.t 31)], [], [], none, none⟩,
     ⟨some 29, .mv (.t 32), [], [], none, none⟩,
     ⟨some 33, .ext (.t 29) 0, [], [], none, none⟩,
     ⟨some 34, .ext (.t 29) 1, [], [], none, none⟩,
     ⟨some 7, .mv (.t 33), [], [], none, none⟩,
     ⟨some 8, .mv (.t 34), [], [], none, none⟩])
 (R_c18)) (St.mk s o) Q =
 (callK C I (St.mk (upd (upd s 30 (s 0)) 31 (s 1)) o) (some 32) 63 [(s 0), (s 1)] (fun r1 or1 =>
demand (extV r1 0) (fun x2 =>
demand (extV r1 1) (fun x3 =>
wpB C I R_c18 (St.mk (look [(0, (s 0)), (1, (s 1)), (2, (s 2)), (7, x2), (8, x3)]) (looko ([].map fun n => (n, or1 n)))) Q)))) := rfl

theorem g_law01_MoneySums_code_sh {R_c19 : ACode} {C : Ctx} {I : Nat → Prop} {s : Nat → V} {o : Nat → Option Ob} {Q : Ex → St → Prop} : wpB C I (.seq (.region [0, 1, 2] (some []) none
    [⟨some 6, .mv (.c (.d (.bool false))), [], [], none, none⟩])
 (.seq (.seq (.region [0, 1, 2, 27] (some []) none
      [⟨some 25, .mv (.t 2), [], [], none, none⟩,
       ⟨some 26, .len (.t 25), [], [], none, none⟩,
       ⟨some 27, .bin .gtr (.t 26) (.c (.d (.int .i64 100))), [], [], none, none⟩])
   (.cond (.t 27) (.seq (.region [6] (some []) none
        [⟨some 28, .call 49 [], [], [], none, none⟩,
         ⟨some 6, .mv (.t 28), [], [], none, none⟩])
     (.ret))
    (.skip)))
  (R_c19))) (St.mk s o) Q =
 (demand (lenV (looko ([].map fun n => (n, o n))) (s 2)) (fun x1 =>
demand (binV BinOp.gtr x1 (V.d (.int .i64 100))) (fun x2 =>
condK x2
 (callK C I (St.mk (look [(0, (s 0)), (1, (s 1)), (2, (s 2)), (27, x2)]) (looko ([].map fun n => (n, o n)))) (some 28) 49 [] (fun r3 or3 =>
Q .ret (St.mk (look [(6, r3)]) (looko ([].map fun n => (n, or3 n))))))
 (wpB C I R_c19 (St.mk (look [(0, (s 0)), (1, (s 1)), (2, (s 2)), (27, x2)]) (looko ([].map fun n => (n, o n)))) Q)))) := rfl

theorem g_law01_awake_o7_sh {C : Ctx} {I : Nat → Prop} {s : Nat → V} {o : Nat → Option Ob} {K : St → Prop} : opsB C I [⟨some 35, .pick (.t 32) (.t 34) (.c (.d (.bool false))), [], [], none, none⟩,
     ⟨some 0, .mv (.t 35), [], [], none, none⟩] (St.mk s o) K =
 (demand (pickV (s 32) (s 34) (V.d (.bool false))) (fun x1 =>
K (St.mk (upd (upd s 35 x1) 0 x1) o))) := rfl

theorem g_law01_awake_o6_sh {R_o7 : List AOper} {C : Ctx} {I : Nat → Prop} {s : Nat → V} {o : Nat → Option Ob} {K : St → Prop} : opsB C I (⟨some 33, .mv (.t 6), [], [], (some (13, 32, true)), none⟩ ::
     ⟨some 34, .bin .eql (.t 33) (.c (.d (.int .i64 3))), [], [], (some (13, 32, true)), (some ([32, 34], (some [])))⟩ ::
     R_o7) (St.mk s o) K =
 (guardK (s 32) true
 (demand (binV BinOp.eql (s 6) (V.d (.int .i64 3))) (fun x1 =>
opsB C I R_o7 (St.mk (look [(32, (V.d (D.bool true))), (34, x1)]) (looko ([].map fun n => (n, o n)))) K))
 (opsB C I R_o7 (St.mk (look [(32, (V.d (D.bool false))), (34, (V.tup []))]) (looko ([].map fun n => (n, o n)))) K)
 (opsB C I R_o7 (St.mk (look [(32, (V.tup [])), (34, (V.tup []))]) (looko ([].map fun n => (n, o n)))) K)) := rfl

theorem g_law01_awake_o5_sh {R_o6 : List AOper} {C : Ctx} {I : Nat → Prop} {s : Nat → V} {o : Nat → Option Ob} {K : St → Prop} : opsB C I (⟨some 31, .pick (.t 29) (.t 30) (.c (.d (.bool false))), [], [], none, none⟩ ::
     ⟨some 32, .mv (.t 31), [], [], none, (some ([6, 32], (some [])))⟩ ::
     R_o6) (St.mk s o) K =
 (demand (pickV (s 29) (s 30) (V.d (.bool false))) (fun x1 =>
opsB C I R_o6 (St.mk (look [(6, (s 6)), (32, x1)]) (looko ([].map fun n => (n, o n)))) K)) := rfl

theorem g_law01_awake_o4_sh {R_o5 : List AOper} {C : Ctx} {I : Nat → Prop} {s : Nat → V} {o : Nat → Option Ob} {K : St → Prop} : opsB C I (⟨some 30, .mv (.t 4), [], [], (some (10, 29, true)), (some ([6, 29, 30], (some [])))⟩ ::
     R_o5) (St.mk s o) K =
 (guardK (s 29) true
 (opsB C I R_o5 (St.mk (look [(6, (s 6)), (29, (V.d (D.bool true))), (30, (s 4))]) (looko ([].map fun n => (n, o n)))) K)
 (opsB C I R_o5 (St.mk (look [(6, (s 6)), (29, (V.d (D.bool false))), (30, (V.tup []))]) (looko ([].map fun n => (n, o n)))) K)
 (opsB C I R_o5 (St.mk (look [(6, (s 6)), (29, (V.tup [])), (30, (V.tup []))]) (looko ([].map fun n => (n, o n)))) K)) := rfl

theorem g_law01_awake_o3_sh {R_o4 : List AOper} {C : Ctx} {I : Nat → Prop} {s : Nat → V} {o : Nat → Option Ob} {K : St → Prop} : opsB C I (⟨some 28, .pick (.t 25) (.t 27) (.c (.d (.bool false))), [], [], none, none⟩ ::
     ⟨some 29, .mv (.t 28), [], [], none, (some ([4, 6, 29], (some [])))⟩ ::
     R_o4) (St.mk s o) K =
 (demand (pickV (s 25) (s 27) (V.d (.bool false))) (fun x1 =>
opsB C I R_o4 (St.mk (look [(4, (s 4)), (6, (s 6)), (29, x1)]) (looko ([].map fun n => (n, o n)))) K)) := rfl

theorem g_law01_awake_o2_sh {R_o3 : List AOper} {C : Ctx} {I : Nat → Prop} {s : Nat → V} {o : Nat → Option Ob} {K : St → Prop} : opsB C I (⟨some 26, .mv (.t 3), [], [], (some (6, 25, true)), none⟩ ::
     ⟨some 27, .bin .eql (.t 26) (.c (.d (.int .i64 1234))), [], [], (some (6, 25, true)), (some ([4, 6, 25, 27], (some [])))⟩ ::
     R_o3) (St.mk s o) K =
 (guardK (s 25) true
 (demand (binV BinOp.eql (s 3) (V.d (.int .i64 1234))) (fun x1 =>
opsB C I R_o3 (St.mk (look [(4, (s 4)), (6, (s 6)), (25, (V.d (D.bool true))), (27, x1)]) (looko ([].map fun n => (n, o n)))) K))
 (opsB C I R_o3 (St.mk (look [(4, (s 4)), (6, (s 6)), (25, (V.d (D.bool false))), (27, (V.tup []))]) (looko ([].map fun n => (n, o n)))) K)
 (opsB C I R_o3 (St.mk (look [(4, (s 4)), (6, (s 6)), (25, (V.tup [])), (27, (V.tup []))]) (looko ([].map fun n => (n, o n)))) K)) := rfl

theorem g_law01_awake_o1_sh {R_o2 : List AOper} {C : Ctx} {I : Nat → Prop} {s : Nat → V} {o : Nat → Option Ob} {K : St → Prop} : opsB C I (⟨some 24, .pick (.t 21) (.t 23) (.c (.d (.bool false))), [], [], none, none⟩ ::
     ⟨some 25, .mv (.t 24), [], [], none, (some ([3, 4, 6, 25], (some [])))⟩ ::
     R_o2) (St.mk s o) K =
 (demand (pickV (s 21) (s 23) (V.d (.bool false))) (fun x1 =>
opsB C I R_o2 (St.mk (look [(3, (s 3)), (4, (s 4)), (6, (s 6)), (25, x1)]) (looko ([].map fun n => (n, o n)))) K)) := rfl

theorem g_law01_awake_o0_sh {R_o1 : List AOper} {C : Ctx} {I : Nat → Prop} {s : Nat → V} {o : Nat → Option Ob} {K : St → Prop} : opsB C I (⟨some 22, .mv (.t 2), [], [], (some (2, 21, true)), none⟩ ::
     ⟨some 23, .bin .eql (.t 22) (.c (.d (.int .i64 0))), [], [], (some (2, 21, true)), (some ([3, 4, 6, 21, 23], (some [])))⟩ ::
     R_o1) (St.mk s o) K =
 (guardK (s 21) true
 (demand (binV BinOp.eql (s 2) (V.d (.int .i64 0))) (fun x1 =>
opsB C I R_o1 (St.mk (look [(3, (s 3)), (4, (s 4)), (6, (s 6)), (21, (V.d (D.bool true))), (23, x1)]) (looko ([].map fun n => (n, o n)))) K))
 (opsB C I R_o1 (St.mk (look [(3, (s 3)), (4, (s 4)), (6, (s 6)), (21, (V.d (D.bool false))), (23, (V.tup []))]) (looko ([].map fun n => (n, o n)))) K)
 (opsB C I R_o1 (St.mk (look [(3, (s 3)), (4, (s 4)), (6, (s 6)), (21, (V.tup [])), (23, (V.tup []))]) (looko ([].map fun n => (n, o n)))) K)) := rfl

theorem g_law01_awake_c0_sh {C : Ctx} {I : Nat → Prop} {s : Nat → V} {o : Nat → Option Ob} {Q : Ex → St → Prop} : wpB C I (.ret) (St.mk s o) Q =
 (Q .ret (St.mk s o)) := rfl

theorem g_law01_awake_c1_sh {R_o0 : List AOper} {R_c0 : ACode} {C : Ctx} {I : Nat → Prop} {s : Nat → V} {o : Nat → Option Ob} {Q : Ex → St → Prop} : wpB C I (.seq (.region [0] (some []) none
    (⟨some 19, .mv (.t 1), [], [], none, none⟩ ::
     ⟨some 20, .bin .eql (.t 19) (.c (.d (.str [45, 48, 46, 48, 53]))), [], [], none, none⟩ ::
     ⟨some 21, .mv (.t 20), [], [], none, (some ([2, 3, 4, 6, 21], (some [])))⟩ ::
     R_o0))
 (R_c0)) (St.mk s o) Q =
 (demand (binV BinOp.eql (s 1) (V.d (.str [45, 48, 46, 48, 53]))) (fun x1 =>
opsB C I R_o0 (St.mk (look [(2, (s 2)), (3, (s 3)), (4, (s 4)), (6, (s 6)), (21, x1)]) (looko ([].map fun n => (n, o n)))) (fun st => (seqK (fun st => wpB C I R_c0 st Q) Q) .normal (St.trim st [0] (some []))))) := rfl

theorem g_law01_awake_c2_sh {R_c1 : ACode} {C : Ctx} {I : Nat → Prop} {s : Nat → V} {o : Nat → Option Ob} {Q : Ex → St → Prop} : wpB C I (.seq (.region [1, 2, 3, 4, 6] (some []) none
    [⟨some 16, .call 63 [(.c (.d (.int .i64 9223372036854775807))), (.c (.d (.int .i64 1)))], [], [], none, none⟩,
     ⟨some 15, .mv (.t 16), [], [], none, none⟩,
     ⟨some 17, .ext (.t 15) 0, [], [], none, none⟩,
     ⟨some 18, .ext (.t 15) 1, [], [], none, none⟩,
     ⟨some 5, .mv (.t 17), [], [], none, none⟩,
     ⟨some 6, .mv (.t 18), [], [], none, none⟩])
 (R_c1)) (St.mk s o) Q =
 (callK C I (St.mk s o) (some 16) 63 [(V.d (.int .i64 9223372036854775807)), (V.d (.int .i64 1))] (fun r1 or1 =>
demand (extV r1 0) (fun x2 =>
demand (extV r1 1) (fun x3 =>
wpB C I R_c1 (St.mk (look [(1, (s 1)), (2, (s 2)), (3, (s 3)), (4, (s 4)), (6, x3)]) (looko ([].map fun n => (n, or1 n)))) Q)))) := rfl

theorem g_law01_awake_c3_sh {R_c2 : ACode} {C : Ctx} {I : Nat → Prop} {s : Nat → V} {o : Nat → Option Ob} {Q : Ex → St → Prop} : wpB C I (.seq (.region [1, 2, 3, 4] (some []) none
    [⟨some 12, .call 51 [(.c (.d (.str [49, 50, 46, 51, 52])))], [], [], none, none⟩,
     ⟨some 11, .mv (.t 12), [], [], none, none⟩,
     ⟨some 13, .ext (.t 11) 0, [], [], none, none⟩,
     ⟨some 14, .ext (.t 11) 1, [], [], none, none⟩,
     ⟨some 3, .mv (.t 13), [], [], none, none⟩,
     ⟨some 4, .mv (.t 14), [], [], none, none⟩])
 (R_c2)) (St.mk s o) Q =
 (callK C I (St.mk s o) (some 12) 51 [(V.d (.str [49, 50, 46, 51, 52]))] (fun r1 or1 =>
demand (extV r1 0) (fun x2 =>
demand (extV r1 1) (fun x3 =>
wpB C I R_c2 (St.mk (look [(1, (s 1)), (2, (s 2)), (3, x2), (4, x3)]) (looko ([].map fun n => (n, or1 n)))) Q)))) := rfl

theorem g_law01_awake_code_sh {R_c3 : ACode} {C : Ctx} {I : Nat → Prop} {s : Nat → V} {o : Nat → Option Ob} {Q : Ex → St → Prop} : wpB C I (.seq (.region [] (some []) none
    [⟨some 0, .mv (.c (.d (.bool false))), [], [], none, none⟩])
 (.seq (.region [1, 2] (some []) none
     [⟨some 8, .call 50 [(.c (.d (.int .i64 (-5))))], [], [], none, none⟩,
      ⟨some 7, .mv (.t 8), [], [], none, none⟩,
      ⟨some 9, .ext (.t 7) 0, [], [], none, none⟩,
      ⟨some 10, .ext (.t 7) 1, [], [], none, none⟩,
      ⟨some 1, .mv (.t 9), [], [], none, none⟩,
      ⟨some 2, .mv (.t 10), [], [], none, none⟩])
  (R_c3))) (St.mk s o) Q =
 (callK C I (St.mk (look []) (looko ([].map fun n => (n, o n)))) (some 8) 50 [(V.d (.int .i64 (-5)))] (fun r1 or1 =>
demand (extV r1 0) (fun x2 =>
demand (extV r1 1) (fun x3 =>
wpB C I R_c3 (St.mk (look [(1, x2), (2, x3)]) (looko ([].map fun n => (n, or1 n)))) Q)))) := rfl

theorem g_money_Text_c0_sh {C : Ctx} {I : Nat → Prop} {s : Nat → V} {o : Nat → Option Ob} {Q : Ex → St → Prop} : wpB C I (.seq (.region [2, 3] (some []) (some ([0, 1, 2, 3, 4, 5, 6, 7, 8, 9, 10], .done))
    [⟨some 17, .mv (.t 4), [], [], none, none⟩,
     ⟨some 18, .mv (.t 0), [], [], none, none⟩,
     ⟨some 19, .bin .quo (.t 18) (.c (.d (.int .i64 100))), [], [1], none, none⟩,
     ⟨some 20, .call 68 [(.t 19)], [], [2], none, none⟩,
     ⟨some 21, .bin .add (.t 17) (.t 20), [], [0, 3], none, none⟩,
     ⟨some 22, .bin .add (.t 21) (.c (.d (.str [46]))), [], [4], none, none⟩,
     ⟨some 23, .mv (.t 5), [], [], none, none⟩,
     ⟨some 24, .slcS (.t 23) (some (.c (.d (.int .i64 1)))) none, [], [6], none, none⟩,
     ⟨some 25, .bin .add (.t 22) (.t 24), [], [5, 7], none, none⟩,
     ⟨some 2, .mv (.t 25), [], [8, 3, 0, 1, 2, 3, 4, 5, 6, 7, 8], none, none⟩,
     ⟨some 3, .mv (.c (.d (.int .i64 0))), [], [9, 0, 1, 2, 3, 4, 5, 6, 7, 8, 9], none, none⟩])
 (.ret)) (St.mk s o) Q =
 ((s 17) = V.undef ∧ (quietV o ((s 4) :: [(s 4)]) ∧
(s 18) = V.undef ∧ (quietV o ((s 0) :: [(s 0)]) ∧
(s 19) = V.undef ∧ (demand (binV BinOp.quo (s 0) (V.d (.int .i64 100))) (fun x3 => quietV o (x3 :: [(s 0), (V.d (.int .i64 100))]) ∧
(s 20) = V.undef ∧ (∃ x4, SoundAt C 68 ⟨[x3], fun _ => none⟩ ⟨x4, fun _ => none⟩ ∧ (∀ n, V.refs n x4 = false) ∧ quietV o (x4 :: [x3]) ∧
(s 21) = V.undef ∧ (demand (binV BinOp.add (s 4) x4) (fun x5 => quietV o (x5 :: [(s 4), x4]) ∧
(s 22) = V.undef ∧ (demand (binV BinOp.add x5 (V.d (.str [46]))) (fun x6 => quietV o (x6 :: [x5, (V.d (.str [46]))]) ∧
(s 23) = V.undef ∧ (quietV o ((s 5) :: [(s 5)]) ∧
(s 24) = V.undef ∧ (demand (slcSV (s 5) (some (V.d (.int .i64 1))) none) (fun x8 => quietV o (x8 :: [(s 5), (V.d (.int .i64 1))]) ∧
(s 25) = V.undef ∧ (demand (binV BinOp.add x6 x8) (fun x9 => quietV o (x9 :: [x6, x8]) ∧
(s 2) = V.undef ∧ (quietV o (x9 :: [x9]) ∧
(s 3) = V.undef ∧ (quietV o ((V.d (.int .i64 0)) :: [(V.d (.int .i64 0))]) ∧
Q .ret (St.mk (look [(2, x9), (3, (V.d (.int .i64 0)))]) (looko ([].map fun n => (n, o n))))))))))))))))))))) := rfl

theorem g_money_Text_c1_sh {R_c0 : ACode} {C : Ctx} {I : Nat → Prop} {s : Nat → V} {o : Nat → Option Ob} {Q : Ex → St → Prop} : wpB C I (.seq (.region [0, 4, 5] (some []) none
    [⟨some 13, .mv (.t 0), [], [], none, none⟩,
     ⟨some 14, .bin .rem (.t 13) (.c (.d (.int .i64 100))), [], [], none, none⟩,
     ⟨some 15, .bin .add (.c (.d (.int .i64 100))) (.t 14), [], [], none, none⟩,
     ⟨some 16, .call 68 [(.t 15)], [], [], none, none⟩,
     ⟨some 5, .mv (.t 16), [], [], none, none⟩])
 (R_c0)) (St.mk s o) Q =
 (demand (binV BinOp.rem (s 0) (V.d (.int .i64 100))) (fun x1 =>
demand (binV BinOp.add (V.d (.int .i64 100)) x1) (fun x2 =>
callK C I (St.mk (upd (upd (upd s 13 (s 0)) 14 x1) 15 x2) o) (some 16) 68 [x2] (fun r3 or3 =>
wpB C I R_c0 (St.mk (look [(0, (s 0)), (4, (s 4)), (5, r3)]) (looko ([].map fun n => (n, or3 n)))) Q)))) := rfl

theorem g_money_Text_c2_sh {R_c1 : ACode} {C : Ctx} {I : Nat → Prop} {s : Nat → V} {o : Nat → Option Ob} {Q : Ex → St → Prop} : wpB C I (.seq (.region [0, 4] (some []) none
    [⟨some 4, .mv (.c (.d (.str []))), [], [], none, none⟩])
 (.seq (.seq (.region [0, 4, 10] (some []) none
      [⟨some 9, .mv (.t 0), [], [], none, none⟩,
       ⟨some 10, .bin .lss (.t 9) (.c (.d (.int .i64 0))), [], [], none, none⟩])
   (.cond (.t 10) (.region [0, 4] (some []) none
       [⟨some 11, .mv (.t 0), [], [], none, none⟩,
        ⟨some 12, .un .neg (.t 11), [], [], none, none⟩,
        ⟨some 4, .mv (.c (.d (.str [45]))), [], [], none, none⟩,
        ⟨some 0, .mv (.t 12), [], [], none, none⟩])
    (.skip)))
  (R_c1))) (St.mk s o) Q =
 (demand (binV BinOp.lss (s 0) (V.d (.int .i64 0))) (fun x1 =>
condK x1
 (demand (unV UnOp.neg (s 0)) (fun x2 =>
wpB C I R_c1 (St.mk (look [(0, x2), (4, (V.d (.str [45])))]) (looko ([].map fun n => (n, o n)))) Q))
 (wpB C I R_c1 (St.mk (look [(0, (s 0)), (4, (V.d (.str []))), (10, x1)]) (looko ([].map fun n => (n, o n)))) Q))) := rfl

theorem g_money_Text_code_sh {R_c2 : ACode} {C : Ctx} {I : Nat → Prop} {s : Nat → V} {o : Nat → Option Ob} {Q : Ex → St → Prop} : wpB C I (.seq (.region [0] (some []) none
    [⟨some 2, .mv (.c (.d (.str []))), [], [], none, none⟩,
     ⟨some 3, .mv (.c (.d (.int .i64 0))), [], [], none, none⟩])
 (.seq (.seq (.region [0, 8] (some []) none
      [⟨some 6, .mv (.t 0), [], [], none, none⟩,
       ⟨some 7, .call 58 [(.t 6)], [], [], none, none⟩,
       ⟨some 8, .un .not (.t 7), [], [], none, none⟩])
   (.cond (.t 8) (.seq (.region [2, 3] (some []) none
        [⟨some 2, .mv (.c (.d (.str []))), [], [], none, none⟩,
         ⟨some 3, .mv (.c (.d (.int .i64 3))), [], [], none, none⟩])
     (.ret))
    (.skip)))
  (R_c2))) (St.mk s o) Q =
 (callK C I (St.mk (upd (look [(0, (s 0))]) 6 (s 0)) (looko ([].map fun n => (n, o n)))) (some 7) 58 [(s 0)] (fun r1 or1 =>
demand (unV UnOp.not r1) (fun x2 =>
condK x2
 (Q .ret (St.mk (look [(2, (V.d (.str []))), (3, (V.d (.int .i64 3)))]) (looko ([].map fun n => (n, or1 n)))))
 (wpB C I R_c2 (St.mk (look [(0, (s 0)), (8, x2)]) (looko ([].map fun n => (n, or1 n)))) Q)))) := rfl

theorem g_money_Parse_o1_sh {C : Ctx} {I : Nat → Prop} {s : Nat → V} {o : Nat → Option Ob} {K : St → Prop} : opsB C I [⟨some 20, .pick (.t 16) (.c (.d (.bool true))) (.t 19), [], [], none, none⟩] (St.mk s o) K =
 (demand (pickV (s 16) (V.d (.bool true)) (s 19)) (fun x1 =>
K (St.mk (upd s 20 x1) o))) := rfl

theorem g_money_Parse_o0_sh {R_o1 : List AOper} {C : Ctx} {I : Nat → Prop} {s : Nat → V} {o : Nat → Option Ob} {K : St → Prop} : opsB C I (⟨some 17, .mv (.t 4), [], [], (some (2, 16, false)), none⟩ ::
     ⟨some 18, .call 58 [(.t 17)], [], [], (some (2, 16, false)), none⟩ ::
     ⟨some 19, .un .not (.t 18), [], [], (some (2, 16, false)), (some ([0, 4, 16, 19], (some [])))⟩ ::
     R_o1) (St.mk s o) K =
 (guardK (s 16) false
 (callK C I (St.mk (upd (upd (upd s 16 (V.d (D.bool false))) 17 (s 4)) 16 (V.d (D.bool false))) o) (some 18) 58 [(s 4)] (fun r1 or1 =>
demand (unV UnOp.not r1) (fun x2 =>
opsB C I R_o1 (St.mk (look [(0, (s 0)), (4, (s 4)), (16, (V.d (D.bool false))), (19, x2)]) (looko ([].map fun n => (n, or1 n)))) K)))
 (opsB C I R_o1 (St.mk (look [(0, (s 0)), (4, (s 4)), (16, (V.d (D.bool true))), (19, (V.tup []))]) (looko ([].map fun n => (n, o n)))) K)
 (opsB C I R_o1 (St.mk (look [(0, (s 0)), (4, (s 4)), (16, (V.tup [])), (19, (V.tup []))]) (looko ([].map fun n => (n, o n)))) K)) := rfl

theorem g_money_Parse_c0_sh {C : Ctx} {I : Nat → Prop} {s : Nat → V} {o : Nat → Option Ob} {Q : Ex → St → Prop} : wpB C I (.cond (.t 20) (.seq (.region [2, 3] (some []) none
     [⟨some 2, .mv (.c (.d (.int .i64 0))), [], [], none, none⟩,
      ⟨some 3, .mv (.c (.d (.bool false))), [], [], none, none⟩])
  (.ret))
 (.skip)) (St.mk s o) Q =
 (condK (s 20)
 (Q .ret (St.mk (look [(2, (V.d (.int .i64 0))), (3, (V.d (.bool false)))]) (looko ([].map fun n => (n, o n)))))
 (Q .normal (St.mk s o))) := rfl

theorem g_money_Parse_c1_sh {C : Ctx} {I : Nat → Prop} {s : Nat → V} {o : Nat → Option Ob} {Q : Ex → St → Prop} : wpB C I (.seq (.region [4, 28] (some []) none
    [⟨some 26, .mv (.t 6), [], [], none, none⟩,
     ⟨some 27, .mv (.t 0), [], [], none, none⟩,
     ⟨some 28, .bin .neq (.t 26) (.t 27), [], [], none, none⟩])
 (.cond (.t 28) (.seq (.region [2, 3] (some []) none
      [⟨some 2, .mv (.c (.d (.int .i64 0))), [], [], none, none⟩,
       ⟨some 3, .mv (.c (.d (.bool false))), [], [], none, none⟩])
   (.ret))
  (.skip))) (St.mk s o) Q =
 (demand (binV BinOp.neq (s 6) (s 0)) (fun x1 =>
condK x1
 (Q .ret (St.mk (look [(2, (V.d (.int .i64 0))), (3, (V.d (.bool false)))]) (looko ([].map fun n => (n, o n)))))
 (Q .normal (St.mk (look [(4, (s 4)), (28, x1)]) (looko ([].map fun n => (n, o n))))))) := rfl

theorem g_money_Parse_c2_sh {C : Ctx} {I : Nat → Prop} {s : Nat → V} {o : Nat → Option Ob} {Q : Ex → St → Prop} : wpB C I (.seq (.region [2, 3] (some []) none
    [⟨some 29, .mv (.t 4), [], [], none, none⟩,
     ⟨some 2, .mv (.t 29), [], [], none, none⟩,
     ⟨some 3, .mv (.c (.d (.bool true))), [], [], none, none⟩])
 (.ret)) (St.mk s o) Q =
 (Q .ret (St.mk (look [(2, (s 4)), (3, (V.d (.bool true)))]) (looko ([].map fun n => (n, o n))))) := rfl

theorem g_money_Parse_c3_sh {R_c1 : ACode} {R_c2 : ACode} {C : Ctx} {I : Nat → Prop} {s : Nat → V} {o : Nat → Option Ob} {Q : Ex → St → Prop} : wpB C I (.seq (.seq (.region [0, 4, 6] (some []) none
     [⟨some 22, .mv (.t 4), [], [], none, none⟩,
      ⟨some 23, .call 50 [(.t 22)], [], [], none, none⟩,
      ⟨some 21, .mv (.t 23), [], [], none, none⟩,
      ⟨some 24, .ext (.t 21) 0, [], [], none, none⟩,
      ⟨some 25, .ext (.t 21) 1, [], [], none, none⟩,
      ⟨some 6, .mv (.t 24), [], [], none, none⟩,
      ⟨some 7, .mv (.t 25), [], [], none, none⟩])
  (R_c1))
 (R_c2)) (St.mk s o) Q =
 (callK C I (St.mk (upd s 22 (s 4)) o) (some 23) 50 [(s 4)] (fun r1 or1 =>
demand (extV r1 0) (fun x2 =>
demand (extV r1 1) (fun x3 =>
wpB C I R_c1 (St.mk (look [(0, (s 0)), (4, (s 4)), (6, x2)]) (looko ([].map fun n => (n, or1 n)))) (seqK (fun st => wpB C I R_c2 st Q) Q))))) := rfl

theorem g_money_Parse_c4_sh {R_o0 : List AOper} {R_c0 : ACode} {R_c3 : ACode} {C : Ctx} {I : Nat → Prop} {s : Nat → V} {o : Nat → Option Ob} {Q : Ex → St → Prop} : wpB C I (.seq (.seq (.region [0, 4, 20] (some []) none
     (⟨some 14, .mv (.t 5), [], [], none, none⟩ ::
      ⟨some 15, .nilE true (.t 14), [], [], none, none⟩ ::
      ⟨some 16, .mv (.t 15), [], [], none, (some ([0, 4, 16], (some [])))⟩ ::
      R_o0))
  (R_c0))
 (R_c3)) (St.mk s o) Q =
 (demand (nilEV true (s 5)) (fun x1 =>
opsB C I R_o0 (St.mk (look [(0, (s 0)), (4, (s 4)), (16, x1)]) (looko ([].map fun n => (n, o n)))) (fun st => (seqK (fun st => wpB C I R_c0 st (seqK (fun st => wpB C I R_c3 st Q) Q)) (seqK (fun st => wpB C I R_c3 st Q) Q)) .normal (St.trim st [0, 4, 20] (some []))))) := rfl

theorem g_money_Parse_code_sh {R_c4 : ACode} {C : Ctx} {I : Nat → Prop} {s : Nat → V} {o : Nat → Option Ob} {Q : Ex → St → Prop} : wpB C I (.seq (.region [0] (some []) none
    [⟨some 2, .mv (.c (.d (.int .i64 0))), [], [], none, none⟩,
     ⟨some 3, .mv (.c (.d (.bool false))), [], [], none, none⟩])
 (.seq (.region [0, 4, 5] (some []) none
     [⟨some 9, .mv (.t 0), [], [], none, none⟩,
      ⟨some 10, .call 69 [(.t 9), (.c (.d (.str [46]))), (.c (.d (.str []))), (.c (.d (.int .i64 1)))], [], [], none, none⟩,
      ⟨some 11, .call 70 [(.t 10)], [], [], none, none⟩,
      ⟨some 8, .mv (.t 11), [], [], none, none⟩,
      ⟨some 12, .ext (.t 8) 0, [], [], none, none⟩,
      ⟨some 13, .ext (.t 8) 1, [], [], none, none⟩,
      ⟨some 4, .mv (.t 12), [], [], none, none⟩,
      ⟨some 5, .mv (.t 13), [], [], none, none⟩])
  (R_c4))) (St.mk s o) Q =
 (callK C I (St.mk (upd (look [(0, (s 0))]) 9 (s 0)) (looko ([].map fun n => (n, o n)))) (some 10) 69 [(s 0), (V.d (.str [46])), (V.d (.str [])), (V.d (.int .i64 1))] (fun r1 or1 =>
callK C I (St.mk (upd (upd (look [(0, (s 0))]) 9 (s 0)) 10 r1) or1) (some 11) 70 [r1] (fun r2 or2 =>
demand (extV r2 0) (fun x3 =>
demand (extV r2 1) (fun x4 =>
wpB C I R_c4 (St.mk (look [(0, (s 0)), (4, x3), (5, x4)]) (looko ([].map fun n => (n, or2 n)))) Q))))) := rfl

theorem g_ref01_Parse_o1_sh {C : Ctx} {I : Nat → Prop} {s : Nat → V} {o : Nat → Option Ob} {K : St → Prop} : opsB C I [⟨some 18, .pick (.t 14) (.t 17) (.c (.d (.bool false))), [], [], none, none⟩] (St.mk s o) K =
 (demand (pickV (s 14) (s 17) (V.d (.bool false))) (fun x1 =>
K (St.mk (upd s 18 x1) o))) := rfl

theorem g_ref01_Parse_o0_sh {R_o1 : List AOper} {C : Ctx} {I : Nat → Prop} {s : Nat → V} {o : Nat → Option Ob} {K : St → Prop} : opsB C I (⟨some 15, .mv (.t 4), [], [], (some (3, 14, true)), none⟩ ::
     ⟨some 16, .idx (.t 15) (.c (.d (.int .i64 0))), [], [], (some (3, 14, true)), none⟩ ::
     ⟨some 17, .bin .eql (.t 16) (.c (.d (.int .u8 45))), [], [], (some (3, 14, true)), (some ([0, 4, 5, 14, 17], (some [])))⟩ ::
     R_o1) (St.mk s o) K =
 (guardK (s 14) true
 (demand (idxV (s 4) (V.d (.int .i64 0))) (fun x1 =>
demand (binV BinOp.eql x1 (V.d (.int .u8 45))) (fun x2 =>
opsB C I R_o1 (St.mk (look [(0, (s 0)), (4, (s 4)), (5, (s 5)), (14, (V.d (D.bool true))), (17, x2)]) (looko ([].map fun n => (n, o n)))) K)))
 (opsB C I R_o1 (St.mk (look [(0, (s 0)), (4, (s 4)), (5, (s 5)), (14, (V.d (D.bool false))), (17, (V.tup []))]) (looko ([].map fun n => (n, o n)))) K)
 (opsB C I R_o1 (St.mk (look [(0, (s 0)), (4, (s 4)), (5, (s 5)), (14, (V.tup [])), (17, (V.tup []))]) (looko ([].map fun n => (n, o n)))) K)) := rfl

theorem g_ref01_Parse_c0_sh {C : Ctx} {I : Nat → Prop} {s : Nat → V} {o : Nat → Option Ob} {Q : Ex → St → Prop} : wpB C I (.cond (.t 18) (.region [0, 4, 5] (some []) none
    [⟨some 19, .mv (.t 4), [], [], none, none⟩,
     ⟨some 20, .slcS (.t 19) (some (.c (.d (.int .i64 1)))) none, [], [], none, none⟩,
     ⟨some 4, .mv (.t 20), [], [], none, none⟩,
     ⟨some 5, .mv (.c (.d (.bool true))), [], [], none, none⟩])
 (.skip)) (St.mk s o) Q =
 (condK (s 18)
 (demand (slcSV (s 4) (some (V.d (.int .i64 1))) none) (fun x1 =>
Q .normal (St.mk (look [(0, (s 0)), (4, x1), (5, (V.d (.bool true)))]) (looko ([].map fun n => (n, o n))))))
 (Q .normal (St.mk s o))) := rfl

theorem g_ref01_Parse_o3_sh {C : Ctx} {I : Nat → Prop} {s : Nat → V} {o : Nat → Option Ob} {K : St → Prop} : opsB C I [⟨some 42, .pick (.t 39) (.c (.d (.bool true))) (.t 41), [], [], none, none⟩] (St.mk s o) K =
 (demand (pickV (s 39) (V.d (.bool true)) (s 41)) (fun x1 =>
K (St.mk (upd s 42 x1) o))) := rfl

theorem g_ref01_Parse_o2_sh {R_o3 : List AOper} {C : Ctx} {I : Nat → Prop} {s : Nat → V} {o : Nat → Option Ob} {K : St → Prop} : opsB C I (⟨some 40, .mv (.t 8), [], [], (some (2, 39, false)), none⟩ ::
     ⟨some 41, .bin .gtr (.t 40) (.c (.d (.int .u8 57))), [], [], (some (2, 39, false)), (some ([0, 4, 5, 6, 7, 8, 39, 41], (some [])))⟩ ::
     R_o3) (St.mk s o) K =
 (guardK (s 39) false
 (demand (binV BinOp.gtr (s 8) (V.d (.int .u8 57))) (fun x1 =>
opsB C I R_o3 (St.mk (look [(0, (s 0)), (4, (s 4)), (5, (s 5)), (6, (s 6)), (7, (s 7)), (8, (s 8)), (39, (V.d (D.bool false))), (41, x1)]) (looko ([].map fun n => (n, o n)))) K))
 (opsB C I R_o3 (St.mk (look [(0, (s 0)), (4, (s 4)), (5, (s 5)), (6, (s 6)), (7, (s 7)), (8, (s 8)), (39, (V.d (D.bool true))), (41, (V.tup []))]) (looko ([].map fun n => (n, o n)))) K)
 (opsB C I R_o3 (St.mk (look [(0, (s 0)), (4, (s 4)), (5, (s 5)), (6, (s 6)), (7, (s 7)), (8, (s 8)), (39, (V.tup [])), (41, (V.tup []))]) (looko ([].map fun n => (n, o n)))) K)) := rfl

theorem g_ref01_Parse_c1_sh {C : Ctx} {I : Nat → Prop} {s : Nat → V} {o : Nat → Option Ob} {Q : Ex → St → Prop} : wpB C I (.cond (.t 42) (.seq (.region [2, 3] (some []) none
     [⟨some 2, .mv (.c (.d (.int .i64 0))), [], [], none, none⟩,
      ⟨some 3, .mv (.c (.d (.bool false))), [], [], none, none⟩])
  (.ret))
 (.skip)) (St.mk s o) Q =
 (condK (s 42)
 (Q .ret (St.mk (look [(2, (V.d (.int .i64 0))), (3, (V.d (.bool false)))]) (looko ([].map fun n => (n, o n)))))
 (Q .normal (St.mk s o))) := rfl

theorem g_ref01_Parse_c2_sh {C : Ctx} {I : Nat → Prop} {s : Nat → V} {o : Nat → Option Ob} {Q : Ex → St → Prop} : wpB C I (.region [0, 4, 5, 6, 7] (some []) none
   [⟨some 51, .mv (.t 6), [], [], none, none⟩,
    ⟨some 52, .bin .mul (.c (.d (.int .i64 10))) (.t 51), [], [], none, none⟩,
    ⟨some 53, .mv (.t 9), [], [], none, none⟩,
    ⟨some 54, .bin .add (.t 52) (.t 53), [], [], none, none⟩,
    ⟨some 6, .mv (.t 54), [], [], none, none⟩]) (St.mk s o) Q =
 (demand (binV BinOp.mul (V.d (.int .i64 10)) (s 6)) (fun x1 =>
demand (binV BinOp.add x1 (s 9)) (fun x2 =>
Q .normal (St.mk (look [(0, (s 0)), (4, (s 4)), (5, (s 5)), (6, x2), (7, (s 7))]) (looko ([].map fun n => (n, o n))))))) := rfl

theorem g_ref01_Parse_c3_sh {R_c2 : ACode} {C : Ctx} {I : Nat → Prop} {s : Nat → V} {o : Nat → Option Ob} {Q : Ex → St → Prop} : wpB C I (.seq (.seq (.region [0, 4, 5, 6, 7, 9, 50] (some []) none
     [⟨some 46, .mv (.t 6), [], [], none, none⟩,
      ⟨some 47, .mv (.t 9), [], [], none, none⟩,
      ⟨some 48, .bin .sub (.c (.d (.int .i64 9223372036854775807))) (.t 47), [], [], none, none⟩,
      ⟨some 49, .bin .quo (.t 48) (.c (.d (.int .i64 10))), [], [], none, none⟩,
      ⟨some 50, .bin .gtr (.t 46) (.t 49), [], [], none, none⟩])
  (.cond (.t 50) (.seq (.region [2, 3] (some []) none
       [⟨some 2, .mv (.c (.d (.int .i64 0))), [], [], none, none⟩,
        ⟨some 3, .mv (.c (.d (.bool false))), [], [], none, none⟩])
    (.ret))
   (.skip)))
 (R_c2)) (St.mk s o) Q =
 (demand (binV BinOp.sub (V.d (.int .i64 9223372036854775807)) (s 9)) (fun x1 =>
demand (binV BinOp.quo x1 (V.d (.int .i64 10))) (fun x2 =>
demand (binV BinOp.gtr (s 6) x2) (fun x3 =>
condK x3
 (Q .ret (St.mk (look [(2, (V.d (.int .i64 0))), (3, (V.d (.bool false)))]) (looko ([].map fun n => (n, o n)))))
 (wpB C I R_c2 (St.mk (look [(0, (s 0)), (4, (s 4)), (5, (s 5)), (6, (s 6)), (7, (s 7)), (9, (s 9)), (50, x3)]) (looko ([].map fun n => (n, o n)))) Q))))) := rfl

theorem g_ref01_Parse_c4_sh {R_c3 : ACode} {C : Ctx} {I : Nat → Prop} {s : Nat → V} {o : Nat → Option Ob} {Q : Ex → St → Prop} : wpB C I (.seq (.region [0, 4, 5, 6, 7, 9] (some []) none
    [⟨some 43, .mv (.t 8), [], [], none, none⟩,
     ⟨some 44, .bin .sub (.t 43) (.c (.d (.int .u8 48))), [], [], none, none⟩,
     ⟨some 45, .conv .i64 (.t 44), [], [], none, none⟩,
     ⟨some 9, .mv (.t 45), [], [], none, none⟩])
 (R_c3)) (St.mk s o) Q =
 (demand (binV BinOp.sub (s 8) (V.d (.int .u8 48))) (fun x1 =>
demand (convV IntKind.i64 x1) (fun x2 =>
wpB C I R_c3 (St.mk (look [(0, (s 0)), (4, (s 4)), (5, (s 5)), (6, (s 6)), (7, (s 7)), (9, x2)]) (looko ([].map fun n => (n, o n)))) Q))) := rfl

theorem g_ref01_Parse_c5_sh {R_o2 : List AOper} {R_c1 : ACode} {R_c4 : ACode} {C : Ctx} {I : Nat → Prop} {s : Nat → V} {o : Nat → Option Ob} {Q : Ex → St → Prop} : wpB C I (.seq (.seq (.region [0, 4, 5, 6, 7, 8, 42] (some []) none
     (⟨some 37, .mv (.t 8), [], [], none, none⟩ ::
      ⟨some 38, .bin .lss (.t 37) (.c (.d (.int .u8 48))), [], [], none, none⟩ ::
      ⟨some 39, .mv (.t 38), [], [], none, (some ([0, 4, 5, 6, 7, 8, 39], (some [])))⟩ ::
      R_o2))
  (R_c1))
 (R_c4)) (St.mk s o) Q =
 (demand (binV BinOp.lss (s 8) (V.d (.int .u8 48))) (fun x1 =>
opsB C I R_o2 (St.mk (look [(0, (s 0)), (4, (s 4)), (5, (s 5)), (6, (s 6)), (7, (s 7)), (8, (s 8)), (39, x1)]) (looko ([].map fun n => (n, o n)))) (fun st => (seqK (fun st => wpB C I R_c1 st (seqK (fun st => wpB C I R_c4 st Q) Q)) (seqK (fun st => wpB C I R_c4 st Q) Q)) .normal (St.trim st [0, 4, 5, 6, 7, 8, 42] (some []))))) := rfl

theorem g_ref01_Parse_c6_sh {R_c5 : ACode} {C : Ctx} {I : Nat → Prop} {s : Nat → V} {o : Nat → Option Ob} {Q : Ex → St → Prop} : wpB C I (.seq (.seq (.region [0, 4, 5, 6, 7, 8, 34] (some []) none
     [⟨some 30, .mv (.t 7), [], [], none, none⟩,
      ⟨some 31, .mv (.t 4), [], [], none, none⟩,
      ⟨some 32, .lenS (.t 31), [], [], none, none⟩,
      ⟨some 33, .bin .sub (.t 32) (.c (.d (.int .i64 3))), [], [], none, none⟩,
      ⟨some 34, .bin .eql (.t 30) (.t 33), [], [], none, none⟩])
  (.cond (.t 34) (.seq (.seq (.region [0, 4, 5, 6, 7, 36] (some []) none
        [⟨some 35, .mv (.t 8), [], [], none, none⟩,
         ⟨some 36, .bin .neq (.t 35) (.c (.d (.int .u8 46))), [], [], none, none⟩])
     (.cond (.t 36) (.seq (.region [2, 3] (some []) none
          [⟨some 2, .mv (.c (.d (.int .i64 0))), [], [], none, none⟩,
           ⟨some 3, .mv (.c (.d (.bool false))), [], [], none, none⟩])
       (.ret))
      (.skip)))
    (.exit 1))
   (.skip)))
 (R_c5)) (St.mk s o) Q =
 (demand (lenSV (s 4)) (fun x1 =>
demand (binV BinOp.sub x1 (V.d (.int .i64 3))) (fun x2 =>
demand (binV BinOp.eql (s 7) x2) (fun x3 =>
condK x3
 (demand (binV BinOp.neq (s 8) (V.d (.int .u8 46))) (fun x4 =>
condK x4
 (Q .ret (St.mk (look [(2, (V.d (.int .i64 0))), (3, (V.d (.bool false)))]) (looko ([].map fun n => (n, o n)))))
 (Q (.exit 1) (St.mk (look [(0, (s 0)), (4, (s 4)), (5, (s 5)), (6, (s 6)), (7, (s 7)), (36, x4)]) (looko ([].map fun n => (n, o n)))))))
 (wpB C I R_c5 (St.mk (look [(0, (s 0)), (4, (s 4)), (5, (s 5)), (6, (s 6)), (7, (s 7)), (8, (s 8)), (34, x3)]) (looko ([].map fun n => (n, o n)))) Q))))) := rfl

theorem g_ref01_Parse_c7_sh {C : Ctx} {I : Nat → Prop} {s : Nat → V} {o : Nat → Option Ob} {Q : Ex → St → Prop} : wpB C I (.region [0, 4, 5, 6, 7] (some []) none
   [⟨some 25, .mv (.t 7), [], [], none, none⟩,
    ⟨some 26, .bin .add (.t 25) (.c (.d (.int .i64 1))), [], [], none, none⟩,
    ⟨some 7, .mv (.t 26), [], [], none, none⟩]) (St.mk s o) Q =
 (demand (binV BinOp.add (s 7) (V.d (.int .i64 1))) (fun x1 =>
Q .normal (St.mk (look [(0, (s 0)), (4, (s 4)), (5, (s 5)), (6, (s 6)), (7, x1)]) (looko ([].map fun n => (n, o n)))))) := rfl

theorem g_ref01_Parse_c8_sh {R_c6 : ACode} {R_c7 : ACode} {C : Ctx} {I : Nat → Prop} {s : Nat → V} {o : Nat → Option Ob} {Q : Ex → St → Prop} : wpB C I (.seq (.block 1 [0, 4, 5, 6, 7] (some []) (.seq (.region [0, 4, 5, 6, 7, 8] (some []) none
      [⟨some 27, .mv (.t 4), [], [], none, none⟩,
       ⟨some 28, .mv (.t 7), [], [], none, none⟩,
       ⟨some 29, .idx (.t 27) (.t 28), [], [], none, none⟩,
       ⟨some 8, .mv (.t 29), [], [], none, none⟩])
   (R_c6)))
 (R_c7)) (St.mk s o) Q =
 (demand (idxV (s 4) (s 7)) (fun x1 =>
wpB C I R_c6 (St.mk (look [(0, (s 0)), (4, (s 4)), (5, (s 5)), (6, (s 6)), (7, (s 7)), (8, x1)]) (looko ([].map fun n => (n, o n)))) (blockK 1 [0, 4, 5, 6, 7] (some []) (seqK (fun st => wpB C I R_c7 st Q) Q)))) := rfl

theorem g_ref01_Parse_l0_sh {R_l0 : ACode} {R_c8 : ACode} {C : Ctx} {I : Nat → Prop} {s : Nat → V} {o : Nat → Option Ob} {Q : Ex → St → Prop} (hL : R_l0 = .loop [0, 4, 5, 6, 7] (some []) (.seq (.seq (.region [0, 4, 5, 6, 7, 24] (some []) none
      [⟨some 21, .mv (.t 7), [], [], none, none⟩,
       ⟨some 22, .mv (.t 4), [], [], none, none⟩,
       ⟨some 23, .lenS (.t 22), [], [], none, none⟩,
       ⟨some 24, .bin .lss (.t 21) (.t 23), [], [], none, none⟩])
   (.cond (.t 24) (.skip)
    (.exit 0)))
  (R_c8)))
 (h : demand (lenSV (s 4)) (fun x1 =>
demand (binV BinOp.lss (s 7) x1) (fun x2 =>
condK x2
 (wpB C I R_c8 (St.mk (look [(0, (s 0)), (4, (s 4)), (5, (s 5)), (6, (s 6)), (7, (s 7)), (24, x2)]) (looko ([].map fun n => (n, o n)))) (seqK (fun s => wpB C I R_l0 s Q) Q))
 (Q (.exit 0) (St.mk (look [(0, (s 0)), (4, (s 4)), (5, (s 5)), (6, (s 6)), (7, (s 7)), (24, x2)]) (looko ([].map fun n => (n, o n)))))))) : wpB C I R_l0 (St.mk s o) Q := w_loopC hL h

theorem g_ref01_Parse_o5_sh {C : Ctx} {I : Nat → Prop} {s : Nat → V} {o : Nat → Option Ob} {K : St → Prop} : opsB C I [⟨some 67, .pick (.t 62) (.t 66) (.c (.d (.bool false))), [], [], none, none⟩,
     ⟨some 2, .mv (.t 58), [], [], none, none⟩,
     ⟨some 3, .mv (.t 67), [], [], none, none⟩] (St.mk s o) K =
 (demand (pickV (s 62) (s 66) (V.d (.bool false))) (fun x1 =>
K (St.mk (upd (upd (upd s 67 x1) 2 (s 58)) 3 x1) o))) := rfl

theorem g_ref01_Parse_o4_sh {R_o5 : List AOper} {C : Ctx} {I : Nat → Prop} {s : Nat → V} {o : Nat → Option Ob} {K : St → Prop} : opsB C I (⟨some 63, .mv (.t 6), [], [], (some (4, 62, true)), none⟩ ::
     ⟨some 64, .call 54 [(.t 63)], [], [], (some (4, 62, true)), none⟩ ::
     ⟨some 65, .mv (.t 0), [], [], (some (4, 62, true)), none⟩ ::
     ⟨some 66, .bin .eql (.t 64) (.t 65), [], [], (some (4, 62, true)), (some ([58, 62, 66], (some [])))⟩ ::
     R_o5) (St.mk s o) K =
 (guardK (s 62) true
 (callK C I (St.mk (upd (upd (upd s 62 (V.d (D.bool true))) 63 (s 6)) 62 (V.d (D.bool true))) o) (some 64) 54 [(s 6)] (fun r1 or1 =>
demand (binV BinOp.eql r1 (s 0)) (fun x2 =>
opsB C I R_o5 (St.mk (look [(58, (s 58)), (62, (V.d (D.bool true))), (66, x2)]) (looko ([].map fun n => (n, or1 n)))) K)))
 (opsB C I R_o5 (St.mk (look [(58, (s 58)), (62, (V.d (D.bool false))), (66, (V.tup []))]) (looko ([].map fun n => (n, o n)))) K)
 (opsB C I R_o5 (St.mk (look [(58, (s 58)), (62, (V.tup [])), (66, (V.tup []))]) (looko ([].map fun n => (n, o n)))) K)) := rfl

theorem g_ref01_Parse_c9_sh {C : Ctx} {I : Nat → Prop} {s : Nat → V} {o : Nat → Option Ob} {Q : Ex → St → Prop} : wpB C I (.ret) (St.mk s o) Q =
 (Q .ret (St.mk s o)) := rfl

theorem g_ref01_Parse_c10_sh {R_o4 : List AOper} {R_c9 : ACode} {C : Ctx} {I : Nat → Prop} {s : Nat → V} {o : Nat → Option Ob} {Q : Ex → St → Prop} : wpB C I (.seq (.region [2, 3] (some []) none
    (⟨some 58, .mv (.t 6), [], [], none, none⟩ ::
     ⟨some 59, .mv (.t 4), [], [], none, none⟩ ::
     ⟨some 60, .lenS (.t 59), [], [], none, none⟩ ::
     ⟨some 61, .bin .geq (.t 60) (.c (.d (.int .i64 4))), [], [], none, none⟩ ::
     ⟨some 62, .mv (.t 61), [], [], none, (some ([0, 6, 58, 62], (some [])))⟩ ::
     R_o4))
 (R_c9)) (St.mk s o) Q =
 (demand (lenSV (s 4)) (fun x1 =>
demand (binV BinOp.geq x1 (V.d (.int .i64 4))) (fun x2 =>
opsB C I R_o4 (St.mk (look [(0, (s 0)), (6, (s 6)), (58, (s 6)), (62, x2)]) (looko ([].map fun n => (n, o n)))) (fun st => (seqK (fun st => wpB C I R_c9 st Q) Q) .normal (St.trim st [2, 3] (some [])))))) := rfl

theorem g_ref01_Parse_c11_sh {R_c10 : ACode} {C : Ctx} {I : Nat → Prop} {s : Nat → V} {o : Nat → Option Ob} {Q : Ex → St → Prop} : wpB C I (.seq (.seq (.region [0, 4, 6, 55] (some []) none
     [⟨some 55, .mv (.t 5), [], [], none, none⟩])
  (.cond (.t 55) (.region [0, 4, 6] (some []) none
      [⟨some 56, .mv (.t 6), [], [], none, none⟩,
       ⟨some 57, .un .neg (.t 56), [], [], none, none⟩,
       ⟨some 6, .mv (.t 57), [], [], none, none⟩])
   (.skip)))
 (R_c10)) (St.mk s o) Q =
 (condK (s 5)
 (demand (unV UnOp.neg (s 6)) (fun x1 =>
wpB C I R_c10 (St.mk (look [(0, (s 0)), (4, (s 4)), (6, x1)]) (looko ([].map fun n => (n, o n)))) Q))
 (wpB C I R_c10 (St.mk (look [(0, (s 0)), (4, (s 4)), (6, (s 6)), (55, (s 5))]) (looko ([].map fun n => (n, o n)))) Q)) := rfl

theorem g_ref01_Parse_c12_sh {R_l0 : ACode} {R_c11 : ACode} {C : Ctx} {I : Nat → Prop} {s : Nat → V} {o : Nat → Option Ob} {Q : Ex → St → Prop} : wpB C I (.seq (.region [0, 4, 5, 6] (some []) none
    [⟨some 6, .mv (.c (.d (.int .i64 0))), [], [], none, none⟩])
 (.seq (.seq (.region [0, 4, 5, 6, 7] (some []) none
      [⟨some 7, .mv (.c (.d (.int .i64 0))), [], [], none, none⟩])
   (.block 0 [0, 4, 5, 6] (some []) (R_l0)))
  (R_c11))) (St.mk s o) Q =
 (wpB C I R_l0 (St.mk (look [(0, (s 0)), (4, (s 4)), (5, (s 5)), (6, (V.d (.int .i64 0))), (7, (V.d (.int .i64 0)))]) (looko ([].map fun n => (n, o n)))) (blockK 0 [0, 4, 5, 6] (some []) (seqK (fun st => wpB C I R_c11 st Q) Q))) := rfl

theorem g_ref01_Parse_code_sh {R_o0 : List AOper} {R_c0 : ACode} {R_c12 : ACode} {C : Ctx} {I : Nat → Prop} {s : Nat → V} {o : Nat → Option Ob} {Q : Ex → St → Prop} : wpB C I (.seq (.region [0] (some []) none
    [⟨some 2, .mv (.c (.d (.int .i64 0))), [], [], none, none⟩,
     ⟨some 3, .mv (.c (.d (.bool false))), [], [], none, none⟩])
 (.seq (.region [0, 4, 5] (some []) none
     [⟨some 10, .mv (.t 0), [], [], none, none⟩,
      ⟨some 4, .mv (.t 10), [], [], none, none⟩,
      ⟨some 5, .mv (.c (.d (.bool false))), [], [], none, none⟩])
  (.seq (.seq (.region [0, 4, 5, 18] (some []) none
       (⟨some 11, .mv (.t 4), [], [], none, none⟩ ::
        ⟨some 12, .lenS (.t 11), [], [], none, none⟩ ::
        ⟨some 13, .bin .gtr (.t 12) (.c (.d (.int .i64 0))), [], [], none, none⟩ ::
        ⟨some 14, .mv (.t 13), [], [], none, (some ([0, 4, 5, 14], (some [])))⟩ ::
        R_o0))
    (R_c0))
   (R_c12)))) (St.mk s o) Q =
 (demand (lenSV (s 0)) (fun x1 =>
demand (binV BinOp.gtr x1 (V.d (.int .i64 0))) (fun x2 =>
opsB C I R_o0 (St.mk (look [(0, (s 0)), (4, (s 0)), (5, (V.d (.bool false))), (14, x2)]) (looko ([].map fun n => (n, o n)))) (fun st => (seqK (fun st => wpB C I R_c0 st (seqK (fun st => wpB C I R_c12 st Q) Q)) (seqK (fun st => wpB C I R_c12 st Q) Q)) .normal (St.trim st [0, 4, 5, 18] (some [])))))) := rfl

theorem g_ref01_Right_code_sh {C : Ctx} {I : Nat → Prop} {s : Nat → V} {o : Nat → Option Ob} {Q : Ex → St → Prop} : wpB C I (.seq (.region [0] (some []) none
    [⟨some 2, .mv (.c (.d (.bool false))), [], [], none, none⟩])
 (.seq (.region [2] (some []) none
     [⟨some 3, .mv (.t 0), [], [], none, none⟩,
      ⟨some 4, .bin .neq (.t 3) (.c (.d (.int .i64 (-9223372036854775808)))), [], [], none, none⟩,
      ⟨some 2, .mv (.t 4), [], [], none, none⟩])
  (.ret))) (St.mk s o) Q =
 (demand (binV BinOp.neq (s 0) (V.d (.int .i64 (-9223372036854775808)))) (fun x1 =>
Q .ret (St.mk (look [(2, x1)]) (looko ([].map fun n => (n, o n)))))) := rfl

theorem g_ref01_Text_c0_sh {C : Ctx} {I : Nat → Prop} {s : Nat → V} {o : Nat → Option Ob} {Q : Ex → St → Prop} : wpB C I (.seq (.region [2] (some []) none
    [⟨some 9, .mv (.t 0), [], [], none, none⟩,
     ⟨some 10, .bin .quo (.t 9) (.c (.d (.int .i64 100))), [], [], none, none⟩,
     ⟨some 11, .call 71 [(.t 10)], [], [], none, none⟩,
     ⟨some 12, .bin .add (.t 11) (.c (.d (.str [46]))), [], [], none, none⟩,
     ⟨some 13, .mv (.t 0), [], [], none, none⟩,
     ⟨some 14, .bin .rem (.t 13) (.c (.d (.int .i64 100))), [], [], none, none⟩,
     ⟨some 15, .bin .quo (.t 14) (.c (.d (.int .i64 10))), [], [], none, none⟩,
     ⟨some 16, .call 71 [(.t 15)], [], [], none, none⟩,
     ⟨some 17, .bin .add (.t 12) (.t 16), [], [], none, none⟩,
     ⟨some 18, .mv (.t 0), [], [], none, none⟩,
     ⟨some 19, .bin .rem (.t 18) (.c (.d (.int .i64 10))), [], [], none, none⟩,
     ⟨some 20, .call 71 [(.t 19)], [], [], none, none⟩,
     ⟨some 21, .bin .add (.t 17) (.t 20), [], [], none, none⟩,
     ⟨some 2, .mv (.t 21), [], [], none, none⟩])
 (.ret)) (St.mk s o) Q =
 (demand (binV BinOp.quo (s 0) (V.d (.int .i64 100))) (fun x1 =>
callK C I (St.mk (upd (upd s 9 (s 0)) 10 x1) o) (some 11) 71 [x1] (fun r2 or2 =>
demand (binV BinOp.add r2 (V.d (.str [46]))) (fun x3 =>
demand (binV BinOp.rem (s 0) (V.d (.int .i64 100))) (fun x4 =>
demand (binV BinOp.quo x4 (V.d (.int .i64 10))) (fun x5 =>
callK C I (St.mk (upd (upd (upd (upd (upd (upd (upd s 9 (s 0)) 10 x1) 11 r2) 12 x3) 13 (s 0)) 14 x4) 15 x5) or2) (some 16) 71 [x5] (fun r6 or6 =>
demand (binV BinOp.add x3 r6) (fun x7 =>
demand (binV BinOp.rem (s 0) (V.d (.int .i64 10))) (fun x8 =>
callK C I (St.mk (upd (upd (upd (upd (upd (upd (upd (upd (upd (upd (upd s 9 (s 0)) 10 x1) 11 r2) 12 x3) 13 (s 0)) 14 x4) 15 x5) 16 r6) 17 x7) 18 (s 0)) 19 x8) or6) (some 20) 71 [x8] (fun r9 or9 =>
demand (binV BinOp.add x7 r9) (fun x10 =>
Q .ret (St.mk (look [(2, x10)]) (looko ([].map fun n => (n, or9 n))))))))))))))) := rfl

theorem g_ref01_Text_code_sh {R_c0 : ACode} {C : Ctx} {I : Nat → Prop} {s : Nat → V} {o : Nat → Option Ob} {Q : Ex → St → Prop} : wpB C I (.seq (.region [0] (some []) none
    [⟨some 2, .mv (.c (.d (.str []))), [], [], none, none⟩])
 (.seq (.seq (.region [0, 4] (some []) none
      [⟨some 3, .mv (.t 0), [], [], none, none⟩,
       ⟨some 4, .bin .lss (.t 3) (.c (.d (.int .i64 0))), [], [], none, none⟩])
   (.cond (.t 4) (.seq (.region [2] (some []) none
        [⟨some 5, .mv (.t 0), [], [], none, none⟩,
         ⟨some 6, .un .neg (.t 5), [], [], none, none⟩,
         ⟨some 7, .call 54 [(.t 6)], [], [], none, none⟩,
         ⟨some 8, .bin .add (.c (.d (.str [45]))) (.t 7), [], [], none, none⟩,
         ⟨some 2, .mv (.t 8), [], [], none, none⟩])
     (.ret))
    (.skip)))
  (R_c0))) (St.mk s o) Q =
 (demand (binV BinOp.lss (s 0) (V.d (.int .i64 0))) (fun x1 =>
condK x1
 (demand (unV UnOp.neg (s 0)) (fun x2 =>
callK C I (St.mk (upd (upd (look [(0, (s 0)), (4, x1)]) 5 (s 0)) 6 x2) (looko ([].map fun n => (n, o n)))) (some 7) 54 [x2] (fun r3 or3 =>
demand (binV BinOp.add (V.d (.str [45])) r3) (fun x4 =>
Q .ret (St.mk (look [(2, x4)]) (looko ([].map fun n => (n, or3 n))))))))
 (wpB C I R_c0 (St.mk (look [(0, (s 0)), (4, x1)]) (looko ([].map fun n => (n, o n)))) Q))) := rfl

theorem g_money_Neg_c0_sh {C : Ctx} {I : Nat → Prop} {s : Nat → V} {o : Nat → Option Ob} {Q : Ex → St → Prop} : wpB C I (.seq (.region [2, 3] (some []) none
    [⟨some 7, .mv (.t 0), [], [], none, none⟩,
     ⟨some 8, .un .neg (.t 7), [], [], none, none⟩,
     ⟨some 2, .mv (.t 8), [], [], none, none⟩,
     ⟨some 3, .mv (.c (.d (.int .i64 0))), [], [], none, none⟩])
 (.ret)) (St.mk s o) Q =
 (demand (unV UnOp.neg (s 0)) (fun x1 =>
Q .ret (St.mk (look [(2, x1), (3, (V.d (.int .i64 0)))]) (looko ([].map fun n => (n, o n)))))) := rfl

theorem g_money_Neg_code_sh {R_c0 : ACode} {C : Ctx} {I : Nat → Prop} {s : Nat → V} {o : Nat → Option Ob} {Q : Ex → St → Prop} : wpB C I (.seq (.region [0] (some []) none
    [⟨some 2, .mv (.c (.d (.int .i64 0))), [], [], none, none⟩,
     ⟨some 3, .mv (.c (.d (.int .i64 0))), [], [], none, none⟩])
 (.seq (.seq (.region [0, 6] (some []) none
      [⟨some 4, .mv (.t 0), [], [], none, none⟩,
       ⟨some 5, .call 58 [(.t 4)], [], [], none, none⟩,
       ⟨some 6, .un .not (.t 5), [], [], none, none⟩])
   (.cond (.t 6) (.seq (.region [2, 3] (some []) none
        [⟨some 2, .mv (.c (.d (.int .i64 0))), [], [], none, none⟩,
         ⟨some 3, .mv (.c (.d (.int .i64 3))), [], [], none, none⟩])
     (.ret))
    (.skip)))
  (R_c0))) (St.mk s o) Q =
 (callK C I (St.mk (upd (look [(0, (s 0))]) 4 (s 0)) (looko ([].map fun n => (n, o n)))) (some 5) 58 [(s 0)] (fun r1 or1 =>
demand (unV UnOp.not r1) (fun x2 =>
condK x2
 (Q .ret (St.mk (look [(2, (V.d (.int .i64 0))), (3, (V.d (.int .i64 3)))]) (looko ([].map fun n => (n, or1 n)))))
 (wpB C I R_c0 (St.mk (look [(0, (s 0)), (6, x2)]) (looko ([].map fun n => (n, or1 n)))) Q)))) := rfl

theorem g_money_Right_code_sh {C : Ctx} {I : Nat → Prop} {s : Nat → V} {o : Nat → Option Ob} {Q : Ex → St → Prop} : wpB C I (.seq (.region [0] (some []) none
    [⟨some 2, .mv (.c (.d (.bool false))), [], [], none, none⟩])
 (.seq (.region [2] (some []) none
     [⟨some 3, .mv (.t 0), [], [], none, none⟩,
      ⟨some 4, .bin .geq (.t 3) (.c (.d (.int .i64 (-9223372036854775807)))), [], [], none, none⟩,
      ⟨some 2, .mv (.t 4), [], [], none, none⟩])
  (.ret))) (St.mk s o) Q =
 (demand (binV BinOp.geq (s 0) (V.d (.int .i64 (-9223372036854775807)))) (fun x1 =>
Q .ret (St.mk (look [(2, x1)]) (looko ([].map fun n => (n, o n)))))) := rfl

theorem g_money_Sum_c0_sh {C : Ctx} {I : Nat → Prop} {s : Nat → V} {o : Nat → Option Ob} {Q : Ex → St → Prop} : wpB C I (.region [4, 9, 10, 11] (some []) none
   [⟨some 24, .mv (.t 7), [], [], none, none⟩,
    ⟨some 4, .mv (.t 24), [], [], none, none⟩]) (St.mk s o) Q =
 (Q .normal (St.mk (look [(4, (s 7)), (9, (s 9)), (10, (s 10)), (11, (s 11))]) (looko ([].map fun n => (n, o n))))) := rfl

theorem g_money_Sum_c1_sh {R_c0 : ACode} {C : Ctx} {I : Nat → Prop} {s : Nat → V} {o : Nat → Option Ob} {Q : Ex → St → Prop} : wpB C I (.seq (.seq (.region [7, 8, 9, 10, 11, 22] (some []) none
     [⟨some 21, .mv (.t 8), [], [], none, none⟩,
      ⟨some 22, .bin .neq (.t 21) (.c (.d (.int .i64 0))), [], [], none, none⟩])
  (.cond (.t 22) (.seq (.region [2, 3] (some []) none
       [⟨some 23, .mv (.t 8), [], [], none, none⟩,
        ⟨some 2, .mv (.c (.d (.int .i64 0))), [], [], none, none⟩,
        ⟨some 3, .mv (.t 23), [], [], none, none⟩])
    (.ret))
   (.skip)))
 (R_c0)) (St.mk s o) Q =
 (demand (binV BinOp.neq (s 8) (V.d (.int .i64 0))) (fun x1 =>
condK x1
 (Q .ret (St.mk (look [(2, (V.d (.int .i64 0))), (3, (s 8))]) (looko ([].map fun n => (n, o n)))))
 (wpB C I R_c0 (St.mk (look [(7, (s 7)), (8, (s 8)), (9, (s 9)), (10, (s 10)), (11, (s 11)), (22, x1)]) (looko ([].map fun n => (n, o n)))) Q))) := rfl

theorem g_money_Sum_c2_sh {C : Ctx} {I : Nat → Prop} {s : Nat → V} {o : Nat → Option Ob} {Q : Ex → St → Prop} : wpB C I (.region [4, 9, 10, 11] (some []) none
   [⟨some 25, .bin .add (.t 11) (.c (.d (.int .i64 1))), [], [], none, none⟩,
    ⟨some 11, .mv (.t 25), [], [], none, none⟩]) (St.mk s o) Q =
 (demand (binV BinOp.add (s 11) (V.d (.int .i64 1))) (fun x1 =>
Q .normal (St.mk (look [(4, (s 4)), (9, (s 9)), (10, (s 10)), (11, x1)]) (looko ([].map fun n => (n, o n)))))) := rfl

theorem g_money_Sum_l0_sh {R_l0 : ACode} {R_c1 : ACode} {R_c2 : ACode} {C : Ctx} {I : Nat → Prop} {s : Nat → V} {o : Nat → Option Ob} {Q : Ex → St → Prop} (hL : R_l0 = .loop [4, 9, 10, 11] (some []) (.seq (.region [4, 9, 10, 11, 12] (some []) none
     [⟨some 12, .bin .lss (.t 11) (.t 10), [], [], none, none⟩])
  (.seq (.cond (.t 12) (.skip)
    (.exit 0))
   (.seq (.block 1 [4, 9, 10, 11] (some []) (.seq (.region [4, 6, 9, 10, 11] (some []) none
         [⟨some 13, .iaddr 1 (.t 9) (.t 11), [], [], none, none⟩,
          ⟨some 14, .load none (.t 13), [], [], none, none⟩,
          ⟨some 6, .mv (.t 14), [], [], none, none⟩])
      (.seq (.region [7, 8, 9, 10, 11] (some []) none
          [⟨some 16, .mv (.t 4), [], [], none, none⟩,
           ⟨some 17, .mv (.t 6), [], [], none, none⟩,
           ⟨some 18, .call 63 [(.t 16), (.t 17)], [], [], none, none⟩,
           ⟨some 15, .mv (.t 18), [], [], none, none⟩,
           ⟨some 19, .ext (.t 15) 0, [], [], none, none⟩,
           ⟨some 20, .ext (.t 15) 1, [], [], none, none⟩,
           ⟨some 7, .mv (.t 19), [], [], none, none⟩,
           ⟨some 8, .mv (.t 20), [], [], none, none⟩])
       (R_c1))))
    (R_c2)))))
 (h : demand (binV BinOp.lss (s 11) (s 10)) (fun x1 =>
condK x1
 (demand (iaddrV (looko ([].map fun n => (n, o n))) 1 (s 9) (s 11)) (fun x2 =>
demand (loadV (looko ([].map fun n => (n, o n))) none x2) (fun x3 =>
callK C I (St.mk (upd (upd (look [(4, (s 4)), (6, x3), (9, (s 9)), (10, (s 10)), (11, (s 11))]) 16 (s 4)) 17 x3) (looko ([].map fun n => (n, o n)))) (some 18) 63 [(s 4), x3] (fun r4 or4 =>
demand (extV r4 0) (fun x5 =>
demand (extV r4 1) (fun x6 =>
wpB C I R_c1 (St.mk (look [(7, x5), (8, x6), (9, (s 9)), (10, (s 10)), (11, (s 11))]) (looko ([].map fun n => (n, or4 n)))) (blockK 1 [4, 9, 10, 11] (some []) (seqK (fun st => wpB C I R_c2 st (seqK (fun s => wpB C I R_l0 s Q) Q)) (seqK (fun s => wpB C I R_l0 s Q) Q)))))))))
 (Q (.exit 0) (St.mk (look [(4, (s 4)), (9, (s 9)), (10, (s 10)), (11, (s 11)), (12, x1)]) (looko ([].map fun n => (n, o n))))))) : wpB C I R_l0 (St.mk s o) Q := w_loopC hL h

theorem g_money_Sum_c3_sh {C : Ctx} {I : Nat → Prop} {s : Nat → V} {o : Nat → Option Ob} {Q : Ex → St → Prop} : wpB C I (.seq (.region [2, 3] (some []) none
    [⟨some 26, .mv (.t 4), [], [], none, none⟩,
     ⟨some 2, .mv (.t 26), [], [], none, none⟩,
     ⟨some 3, .mv (.c (.d (.int .i64 0))), [], [], none, none⟩])
 (.ret)) (St.mk s o) Q =
 (Q .ret (St.mk (look [(2, (s 4)), (3, (V.d (.int .i64 0)))]) (looko ([].map fun n => (n, o n))))) := rfl

theorem g_money_Sum_code_sh {R_l0 : ACode} {R_c3 : ACode} {C : Ctx} {I : Nat → Prop} {s : Nat → V} {o : Nat → Option Ob} {Q : Ex → St → Prop} : wpB C I (.seq (.region [0] (some []) none
    [⟨some 2, .mv (.c (.d (.int .i64 0))), [], [], none, none⟩,
     ⟨some 3, .mv (.c (.d (.int .i64 0))), [], [], none, none⟩])
 (.seq (.region [0, 4] (some []) none
     [⟨some 4, .mv (.c (.d (.int .i64 0))), [], [], none, none⟩])
  (.seq (.seq (.region [4, 9, 10, 11] (some []) none
       [⟨some 9, .mv (.t 0), [], [], none, none⟩,
        ⟨some 10, .len (.t 9), [], [], none, none⟩,
        ⟨some 11, .mv (.c (.d (.int .i64 0))), [], [], none, none⟩])
    (.block 0 [4] (some []) (R_l0)))
   (R_c3)))) (St.mk s o) Q =
 (demand (lenV (looko ([].map fun n => (n, o n))) (s 0)) (fun x1 =>
wpB C I R_l0 (St.mk (look [(4, (V.d (.int .i64 0))), (9, (s 0)), (10, x1), (11, (V.d (.int .i64 0)))]) (looko ([].map fun n => (n, o n)))) (blockK 0 [4] (some []) (seqK (fun st => wpB C I R_c3 st Q) Q)))) := rfl

theorem g_law01_little_c0_sh {C : Ctx} {I : Nat → Prop} {s : Nat → V} {o : Nat → Option Ob} {Q : Ex → St → Prop} : wpB C I (.region [3, 6, 7, 8] (some [16]) none
   [⟨some 17, .bin .add (.t 8) (.c (.d (.int .i64 1))), [], [], none, none⟩,
    ⟨some 8, .mv (.t 17), [], [], none, none⟩]) (St.mk s o) Q =
 (demand (binV BinOp.add (s 8) (V.d (.int .i64 1))) (fun x1 =>
Q .normal (St.mk (look [(3, (s 3)), (6, (s 6)), (7, (s 7)), (8, x1)]) (looko ([16].map fun n => (n, o n)))))) := rfl

theorem g_law01_little_l0_sh {R_l0 : ACode} {R_c0 : ACode} {C : Ctx} {I : Nat → Prop} {s : Nat → V} {o : Nat → Option Ob} {Q : Ex → St → Prop} (hL : R_l0 = .loop [3, 6, 7, 8] (some [16]) (.seq (.region [3, 6, 7, 8, 9] (some [16]) none
     [⟨some 9, .bin .lss (.t 8) (.t 7), [], [], none, none⟩])
  (.seq (.cond (.t 9) (.skip)
    (.exit 0))
   (.seq (.block 1 [3, 6, 7, 8] (some [16]) (.seq (.region [3, 5, 6, 7, 8] (some [16]) none
         [⟨some 10, .iaddr 1 (.t 6) (.t 8), [], [], none, none⟩,
          ⟨some 11, .load none (.t 10), [], [], none, none⟩,
          ⟨some 5, .mv (.t 11), [], [], none, none⟩])
      (.region [3, 6, 7, 8] (some [16]) none
         [⟨some 12, .mv (.t 3), [], [], none, none⟩,
          ⟨some 13, .mv (.t 5), [], [], none, none⟩,
          ⟨some 14, .bin .rem (.t 13) (.c (.d (.int .i64 9007199254740992))), [], [], none, none⟩,
          ⟨some 15, .bsl none 1 [] 1 [(0, (.t 14))], [], [], none, none⟩,
          ⟨some 16, .app (some 16) 1 8 (.t 12) (.t 15), [], [], none, none⟩,
          ⟨some 3, .mv (.t 16), [], [], none, none⟩])))
    (R_c0)))))
 (h : demand (binV BinOp.lss (s 8) (s 7)) (fun x1 =>
condK x1
 (demand (iaddrV (looko ([16].map fun n => (n, o n))) 1 (s 6) (s 8)) (fun x2 =>
demand (loadV (looko ([16].map fun n => (n, o n))) none x2) (fun x3 =>
demand (binV BinOp.rem x3 (V.d (.int .i64 9007199254740992))) (fun x4 =>
lstK (partsN 1 [x4]) (fun es5 =>
lstK (readD (looko ([16].map fun n => (n, o n))) (V.d (D.sl es5))) (fun ys6 => (∀ e ∈ ys6, e.length = 1) ∧ appK (s 3)
 (ys6.length * 8 ≤ 140737488355328 ∧ ys6.length ≤ 140737488355328 ∧ ¬ I 16 ∧ Fresh (St.mk (upd (upd (upd (upd (look [(3, (s 3)), (5, x3), (6, (s 6)), (7, (s 7)), (8, (s 8))]) 12 (s 3)) 13 x3) 14 x4) 15 (V.d (D.sl es5))) (looko ([16].map fun n => (n, o n)))) 16 (some 16) ∧
wpB C I R_c0 (St.mk (look [(3, (V.own 16)), (6, (s 6)), (7, (s 7)), (8, (s 8))]) (looko ([16].map fun n => (n, (upd (looko ([16].map fun n => (n, o n))) 16 (some (Ob.row 1 ys6))) n)))) (seqK (fun s => wpB C I R_l0 s Q) Q))
 (fun m7 => ¬ I m7 ∧ rowK ((looko ([16].map fun n => (n, o n))) m7) (fun z8 es9 => z8 = 1 ∧ (es9.length + ys6.length) * 8 ≤ 140737488355328 ∧ es9.length + ys6.length ≤ 140737488355328 ∧
wpB C I R_c0 (St.mk (look [(3, (V.own m7)), (6, (scrubV m7 (s 6))), (7, (scrubV m7 (s 7))), (8, (scrubV m7 (s 8)))]) (looko ([16].map fun n => (n, (upd (fun n => ((looko ([16].map fun n => (n, o n))) n).map (Ob.scrub m7)) m7 (some (Ob.row 1 (es9 ++ ys6)))) n)))) (seqK (fun s => wpB C I R_l0 s Q) Q)))))))))
 (Q (.exit 0) (St.mk (look [(3, (s 3)), (6, (s 6)), (7, (s 7)), (8, (s 8)), (9, x1)]) (looko ([16].map fun n => (n, o n))))))) : wpB C I R_l0 (St.mk s o) Q := w_loopC hL h

theorem g_law01_little_c1_sh {C : Ctx} {I : Nat → Prop} {s : Nat → V} {o : Nat → Option Ob} {Q : Ex → St → Prop} : wpB C I (.seq (.region [2] (some [16]) none
    [⟨some 18, .mv (.t 3), [], [], none, none⟩,
     ⟨some 2, .mv (.t 18), [], [], none, none⟩])
 (.ret)) (St.mk s o) Q =
 (Q .ret (St.mk (look [(2, (s 3))]) (looko ([16].map fun n => (n, o n))))) := rfl

theorem g_law01_little_code_sh {R_l0 : ACode} {R_c1 : ACode} {C : Ctx} {I : Nat → Prop} {s : Nat → V} {o : Nat → Option Ob} {Q : Ex → St → Prop} : wpB C I (.seq (.region [0] (some []) none
    [⟨some 2, .mv (.c (.cap0)), [], [], none, none⟩])
 (.seq (.region [0, 3] (some [16]) none
     [⟨some 3, .mv (.c (.cap0)), [], [], none, none⟩])
  (.seq (.seq (.region [3, 6, 7, 8] (some [16]) none
       [⟨some 6, .mv (.t 0), [], [], none, none⟩,
        ⟨some 7, .len (.t 6), [], [], none, none⟩,
        ⟨some 8, .mv (.c (.d (.int .i64 0))), [], [], none, none⟩])
    (.block 0 [3] (some [16]) (R_l0)))
   (R_c1)))) (St.mk s o) Q =
 (demand (lenV (looko ([16].map fun n => (n, (looko ([].map fun n => (n, o n))) n))) (s 0)) (fun x1 =>
wpB C I R_l0 (St.mk (look [(3, (V.cap0)), (6, (s 0)), (7, x1), (8, (V.d (.int .i64 0)))]) (looko ([16].map fun n => (n, (looko ([].map fun n => (n, o n))) n)))) (blockK 0 [3] (some [16]) (seqK (fun st => wpB C I R_c1 st Q) Q)))) := rfl

theorem g_money_Add_o15_sh {C : Ctx} {I : Nat → Prop} {s : Nat → V} {o : Nat → Option Ob} {K : St → Prop} : opsB C I [⟨some 46, .pick (.t 35) (.c (.d (.bool true))) (.t 45), [], [], none, none⟩] (St.mk s o) K =
 (demand (pickV (s 35) (V.d (.bool true)) (s 45)) (fun x1 =>
K (St.mk (upd s 46 x1) o))) := rfl

theorem g_money_Add_o14_sh {R_o15 : List AOper} {C : Ctx} {I : Nat → Prop} {s : Nat → V} {o : Nat → Option Ob} {K : St → Prop} : opsB C I (⟨some 45, .pick (.t 42) (.t 44) (.c (.d (.bool false))), [], [], (some (25, 35, false)), (some ([6, 35, 45], (some [])))⟩ ::
     R_o15) (St.mk s o) K =
 (guardK (s 35) false
 (demand (pickV (s 42) (s 44) (V.d (.bool false))) (fun x1 =>
opsB C I R_o15 (St.mk (look [(6, (s 6)), (35, (V.d (D.bool false))), (45, x1)]) (looko ([].map fun n => (n, o n)))) K))
 (opsB C I R_o15 (St.mk (look [(6, (s 6)), (35, (V.d (D.bool true))), (45, (V.tup []))]) (looko ([].map fun n => (n, o n)))) K)
 (opsB C I R_o15 (St.mk (look [(6, (s 6)), (35, (V.tup [])), (45, (V.tup []))]) (looko ([].map fun n => (n, o n)))) K)) := rfl

theorem g_money_Add_o13_sh {R_o14 : List AOper} {C : Ctx} {I : Nat → Prop} {s : Nat → V} {o : Nat → Option Ob} {K : St → Prop} : opsB C I (⟨some 43, .mv (.t 6), [], [], (some (32, 42, true)), none⟩ ::
     ⟨some 44, .bin .geq (.t 43) (.c (.d (.int .i64 0))), [], [], (some (32, 42, true)), (some ([6, 35, 42, 44], (some [])))⟩ ::
     R_o14) (St.mk s o) K =
 (guardK (s 42) true
 (demand (binV BinOp.geq (s 6) (V.d (.int .i64 0))) (fun x1 =>
opsB C I R_o14 (St.mk (look [(6, (s 6)), (35, (s 35)), (42, (V.d (D.bool true))), (44, x1)]) (looko ([].map fun n => (n, o n)))) K))
 (opsB C I R_o14 (St.mk (look [(6, (s 6)), (35, (s 35)), (42, (V.d (D.bool false))), (44, (V.tup []))]) (looko ([].map fun n => (n, o n)))) K)
 (opsB C I R_o14 (St.mk (look [(6, (s 6)), (35, (s 35)), (42, (V.tup [])), (44, (V.tup []))]) (looko ([].map fun n => (n, o n)))) K)) := rfl

theorem g_money_Add_o12_sh {R_o13 : List AOper} {C : Ctx} {I : Nat → Prop} {s : Nat → V} {o : Nat → Option Ob} {K : St → Prop} : opsB C I (⟨some 41, .pick (.t 38) (.t 40) (.c (.d (.bool false))), [], [], (some (25, 35, false)), none⟩ ::
     ⟨some 42, .mv (.t 41), [], [], (some (25, 35, false)), (some ([6, 35, 42], (some [])))⟩ ::
     R_o13) (St.mk s o) K =
 (guardK (s 35) false
 (demand (pickV (s 38) (s 40) (V.d (.bool false))) (fun x1 =>
opsB C I R_o13 (St.mk (look [(6, (s 6)), (35, (V.d (D.bool false))), (42, x1)]) (looko ([].map fun n => (n, o n)))) K))
 (opsB C I R_o13 (St.mk (look [(6, (s 6)), (35, (V.d (D.bool true))), (42, (V.tup []))]) (looko ([].map fun n => (n, o n)))) K)
 (opsB C I R_o13 (St.mk (look [(6, (s 6)), (35, (V.tup [])), (42, (V.tup []))]) (looko ([].map fun n => (n, o n)))) K)) := rfl

theorem g_money_Add_o11_sh {R_o12 : List AOper} {C : Ctx} {I : Nat → Prop} {s : Nat → V} {o : Nat → Option Ob} {K : St → Prop} : opsB C I (⟨some 39, .mv (.t 1), [], [], (some (28, 38, true)), none⟩ ::
     ⟨some 40, .bin .lss (.t 39) (.c (.d (.int .i64 0))), [], [], (some (28, 38, true)), (some ([6, 35, 38, 40], (some [])))⟩ ::
     R_o12) (St.mk s o) K =
 (guardK (s 38) true
 (demand (binV BinOp.lss (s 1) (V.d (.int .i64 0))) (fun x1 =>
opsB C I R_o12 (St.mk (look [(6, (s 6)), (35, (s 35)), (38, (V.d (D.bool true))), (40, x1)]) (looko ([].map fun n => (n, o n)))) K))
 (opsB C I R_o12 (St.mk (look [(6, (s 6)), (35, (s 35)), (38, (V.d (D.bool false))), (40, (V.tup []))]) (looko ([].map fun n => (n, o n)))) K)
 (opsB C I R_o12 (St.mk (look [(6, (s 6)), (35, (s 35)), (38, (V.tup [])), (40, (V.tup []))]) (looko ([].map fun n => (n, o n)))) K)) := rfl

theorem g_money_Add_o10_sh {R_o11 : List AOper} {C : Ctx} {I : Nat → Prop} {s : Nat → V} {o : Nat → Option Ob} {K : St → Prop} : opsB C I (⟨some 36, .mv (.t 0), [], [], (some (25, 35, false)), none⟩ ::
     ⟨some 37, .bin .lss (.t 36) (.c (.d (.int .i64 0))), [], [], (some (25, 35, false)), none⟩ ::
     ⟨some 38, .mv (.t 37), [], [], (some (25, 35, false)), (some ([1, 6, 35, 38], (some [])))⟩ ::
     R_o11) (St.mk s o) K =
 (guardK (s 35) false
 (demand (binV BinOp.lss (s 0) (V.d (.int .i64 0))) (fun x1 =>
opsB C I R_o11 (St.mk (look [(1, (s 1)), (6, (s 6)), (35, (V.d (D.bool false))), (38, x1)]) (looko ([].map fun n => (n, o n)))) K))
 (opsB C I R_o11 (St.mk (look [(1, (s 1)), (6, (s 6)), (35, (V.d (D.bool true))), (38, (V.tup []))]) (looko ([].map fun n => (n, o n)))) K)
 (opsB C I R_o11 (St.mk (look [(1, (s 1)), (6, (s 6)), (35, (V.tup [])), (38, (V.tup []))]) (looko ([].map fun n => (n, o n)))) K)) := rfl

theorem g_money_Add_o9_sh {R_o10 : List AOper} {C : Ctx} {I : Nat → Prop} {s : Nat → V} {o : Nat → Option Ob} {K : St → Prop} : opsB C I (⟨some 34, .pick (.t 23) (.c (.d (.bool true))) (.t 33), [], [], none, none⟩ ::
     ⟨some 35, .mv (.t 34), [], [], none, (some ([0, 1, 6, 35], (some [])))⟩ ::
     R_o10) (St.mk s o) K =
 (demand (pickV (s 23) (V.d (.bool true)) (s 33)) (fun x1 =>
opsB C I R_o10 (St.mk (look [(0, (s 0)), (1, (s 1)), (6, (s 6)), (35, x1)]) (looko ([].map fun n => (n, o n)))) K)) := rfl

theorem g_money_Add_o8_sh {R_o9 : List AOper} {C : Ctx} {I : Nat → Prop} {s : Nat → V} {o : Nat → Option Ob} {K : St → Prop} : opsB C I (⟨some 33, .pick (.t 30) (.t 32) (.c (.d (.bool false))), [], [], (some (13, 23, false)), (some ([0, 1, 6, 23, 33], (some [])))⟩ ::
     R_o9) (St.mk s o) K =
 (guardK (s 23) false
 (demand (pickV (s 30) (s 32) (V.d (.bool false))) (fun x1 =>
opsB C I R_o9 (St.mk (look [(0, (s 0)), (1, (s 1)), (6, (s 6)), (23, (V.d (D.bool false))), (33, x1)]) (looko ([].map fun n => (n, o n)))) K))
 (opsB C I R_o9 (St.mk (look [(0, (s 0)), (1, (s 1)), (6, (s 6)), (23, (V.d (D.bool true))), (33, (V.tup []))]) (looko ([].map fun n => (n, o n)))) K)
 (opsB C I R_o9 (St.mk (look [(0, (s 0)), (1, (s 1)), (6, (s 6)), (23, (V.tup [])), (33, (V.tup []))]) (looko ([].map fun n => (n, o n)))) K)) := rfl

theorem g_money_Add_o7_sh {R_o8 : List AOper} {C : Ctx} {I : Nat → Prop} {s : Nat → V} {o : Nat → Option Ob} {K : St → Prop} : opsB C I (⟨some 31, .mv (.t 6), [], [], (some (20, 30, true)), none⟩ ::
     ⟨some 32, .bin .lss (.t 31) (.c (.d (.int .i64 0))), [], [], (some (20, 30, true)), (some ([0, 1, 6, 23, 30, 32], (some [])))⟩ ::
     R_o8) (St.mk s o) K =
 (guardK (s 30) true
 (demand (binV BinOp.lss (s 6) (V.d (.int .i64 0))) (fun x1 =>
opsB C I R_o8 (St.mk (look [(0, (s 0)), (1, (s 1)), (6, (s 6)), (23, (s 23)), (30, (V.d (D.bool true))), (32, x1)]) (looko ([].map fun n => (n, o n)))) K))
 (opsB C I R_o8 (St.mk (look [(0, (s 0)), (1, (s 1)), (6, (s 6)), (23, (s 23)), (30, (V.d (D.bool false))), (32, (V.tup []))]) (looko ([].map fun n => (n, o n)))) K)
 (opsB C I R_o8 (St.mk (look [(0, (s 0)), (1, (s 1)), (6, (s 6)), (23, (s 23)), (30, (V.tup [])), (32, (V.tup []))]) (looko ([].map fun n => (n, o n)))) K)) := rfl

theorem g_money_Add_o6_sh {R_o7 : List AOper} {C : Ctx} {I : Nat → Prop} {s : Nat → V} {o : Nat → Option Ob} {K : St → Prop} : opsB C I (⟨some 29, .pick (.t 26) (.t 28) (.c (.d (.bool false))), [], [], (some (13, 23, false)), none⟩ ::
     ⟨some 30, .mv (.t 29), [], [], (some (13, 23, false)), (some ([0, 1, 6, 23, 30], (some [])))⟩ ::
     R_o7) (St.mk s o) K =
 (guardK (s 23) false
 (demand (pickV (s 26) (s 28) (V.d (.bool false))) (fun x1 =>
opsB C I R_o7 (St.mk (look [(0, (s 0)), (1, (s 1)), (6, (s 6)), (23, (V.d (D.bool false))), (30, x1)]) (looko ([].map fun n => (n, o n)))) K))
 (opsB C I R_o7 (St.mk (look [(0, (s 0)), (1, (s 1)), (6, (s 6)), (23, (V.d (D.bool true))), (30, (V.tup []))]) (looko ([].map fun n => (n, o n)))) K)
 (opsB C I R_o7 (St.mk (look [(0, (s 0)), (1, (s 1)), (6, (s 6)), (23, (V.tup [])), (30, (V.tup []))]) (looko ([].map fun n => (n, o n)))) K)) := rfl

theorem g_money_Add_o5_sh {R_o6 : List AOper} {C : Ctx} {I : Nat → Prop} {s : Nat → V} {o : Nat → Option Ob} {K : St → Prop} : opsB C I (⟨some 27, .mv (.t 1), [], [], (some (16, 26, true)), none⟩ ::
     ⟨some 28, .bin .gtr (.t 27) (.c (.d (.int .i64 0))), [], [], (some (16, 26, true)), (some ([0, 1, 6, 23, 26, 28], (some [])))⟩ ::
     R_o6) (St.mk s o) K =
 (guardK (s 26) true
 (demand (binV BinOp.gtr (s 1) (V.d (.int .i64 0))) (fun x1 =>
opsB C I R_o6 (St.mk (look [(0, (s 0)), (1, (s 1)), (6, (s 6)), (23, (s 23)), (26, (V.d (D.bool true))), (28, x1)]) (looko ([].map fun n => (n, o n)))) K))
 (opsB C I R_o6 (St.mk (look [(0, (s 0)), (1, (s 1)), (6, (s 6)), (23, (s 23)), (26, (V.d (D.bool false))), (28, (V.tup []))]) (looko ([].map fun n => (n, o n)))) K)
 (opsB C I R_o6 (St.mk (look [(0, (s 0)), (1, (s 1)), (6, (s 6)), (23, (s 23)), (26, (V.tup [])), (28, (V.tup []))]) (looko ([].map fun n => (n, o n)))) K)) := rfl

theorem g_money_Add_o4_sh {R_o5 : List AOper} {C : Ctx} {I : Nat → Prop} {s : Nat → V} {o : Nat → Option Ob} {K : St → Prop} : opsB C I (⟨some 24, .mv (.t 0), [], [], (some (13, 23, false)), none⟩ ::
     ⟨some 25, .bin .gtr (.t 24) (.c (.d (.int .i64 0))), [], [], (some (13, 23, false)), none⟩ ::
     ⟨some 26, .mv (.t 25), [], [], (some (13, 23, false)), (some ([0, 1, 6, 23, 26], (some [])))⟩ ::
     R_o5) (St.mk s o) K =
 (guardK (s 23) false
 (demand (binV BinOp.gtr (s 0) (V.d (.int .i64 0))) (fun x1 =>
opsB C I R_o5 (St.mk (look [(0, (s 0)), (1, (s 1)), (6, (s 6)), (23, (V.d (D.bool false))), (26, x1)]) (looko ([].map fun n => (n, o n)))) K))
 (opsB C I R_o5 (St.mk (look [(0, (s 0)), (1, (s 1)), (6, (s 6)), (23, (V.d (D.bool true))), (26, (V.tup []))]) (looko ([].map fun n => (n, o n)))) K)
 (opsB C I R_o5 (St.mk (look [(0, (s 0)), (1, (s 1)), (6, (s 6)), (23, (V.tup [])), (26, (V.tup []))]) (looko ([].map fun n => (n, o n)))) K)) := rfl

theorem g_money_Add_o3_sh {R_o4 : List AOper} {C : Ctx} {I : Nat → Prop} {s : Nat → V} {o : Nat → Option Ob} {K : St → Prop} : opsB C I (⟨some 22, .pick (.t 18) (.c (.d (.bool true))) (.t 21), [], [], none, none⟩ ::
     ⟨some 23, .mv (.t 22), [], [], none, (some ([0, 1, 6, 23], (some [])))⟩ ::
     R_o4) (St.mk s o) K =
 (demand (pickV (s 18) (V.d (.bool true)) (s 21)) (fun x1 =>
opsB C I R_o4 (St.mk (look [(0, (s 0)), (1, (s 1)), (6, (s 6)), (23, x1)]) (looko ([].map fun n => (n, o n)))) K)) := rfl

theorem g_money_Add_o2_sh {R_o3 : List AOper} {C : Ctx} {I : Nat → Prop} {s : Nat → V} {o : Nat → Option Ob} {K : St → Prop} : opsB C I (⟨some 19, .mv (.t 6), [], [], (some (8, 18, false)), none⟩ ::
     ⟨some 20, .call 58 [(.t 19)], [], [], (some (8, 18, false)), none⟩ ::
     ⟨some 21, .un .not (.t 20), [], [], (some (8, 18, false)), (some ([0, 1, 6, 18, 21], (some [])))⟩ ::
     R_o3) (St.mk s o) K =
 (guardK (s 18) false
 (callK C I (St.mk (upd (upd (upd s 18 (V.d (D.bool false))) 19 (s 6)) 18 (V.d (D.bool false))) o) (some 20) 58 [(s 6)] (fun r1 or1 =>
demand (unV UnOp.not r1) (fun x2 =>
opsB C I R_o3 (St.mk (look [(0, (s 0)), (1, (s 1)), (6, (s 6)), (18, (V.d (D.bool false))), (21, x2)]) (looko ([].map fun n => (n, or1 n)))) K)))
 (opsB C I R_o3 (St.mk (look [(0, (s 0)), (1, (s 1)), (6, (s 6)), (18, (V.d (D.bool true))), (21, (V.tup []))]) (looko ([].map fun n => (n, o n)))) K)
 (opsB C I R_o3 (St.mk (look [(0, (s 0)), (1, (s 1)), (6, (s 6)), (18, (V.tup [])), (21, (V.tup []))]) (looko ([].map fun n => (n, o n)))) K)) := rfl

theorem g_money_Add_o1_sh {R_o2 : List AOper} {C : Ctx} {I : Nat → Prop} {s : Nat → V} {o : Nat → Option Ob} {K : St → Prop} : opsB C I (⟨some 17, .pick (.t 13) (.c (.d (.bool true))) (.t 16), [], [], none, none⟩ ::
     ⟨some 18, .mv (.t 17), [], [], none, (some ([0, 1, 6, 18], (some [])))⟩ ::
     R_o2) (St.mk s o) K =
 (demand (pickV (s 13) (V.d (.bool true)) (s 16)) (fun x1 =>
opsB C I R_o2 (St.mk (look [(0, (s 0)), (1, (s 1)), (6, (s 6)), (18, x1)]) (looko ([].map fun n => (n, o n)))) K)) := rfl

theorem g_money_Add_o0_sh {R_o1 : List AOper} {C : Ctx} {I : Nat → Prop} {s : Nat → V} {o : Nat → Option Ob} {K : St → Prop} : opsB C I (⟨some 14, .mv (.t 1), [], [], (some (3, 13, false)), none⟩ ::
     ⟨some 15, .call 58 [(.t 14)], [], [], (some (3, 13, false)), none⟩ ::
     ⟨some 16, .un .not (.t 15), [], [], (some (3, 13, false)), (some ([0, 1, 6, 13, 16], (some [])))⟩ ::
     R_o1) (St.mk s o) K =
 (guardK (s 13) false
 (callK C I (St.mk (upd (upd (upd s 13 (V.d (D.bool false))) 14 (s 1)) 13 (V.d (D.bool false))) o) (some 15) 58 [(s 1)] (fun r1 or1 =>
demand (unV UnOp.not r1) (fun x2 =>
opsB C I R_o1 (St.mk (look [(0, (s 0)), (1, (s 1)), (6, (s 6)), (13, (V.d (D.bool false))), (16, x2)]) (looko ([].map fun n => (n, or1 n)))) K)))
 (opsB C I R_o1 (St.mk (look [(0, (s 0)), (1, (s 1)), (6, (s 6)), (13, (V.d (D.bool true))), (16, (V.tup []))]) (looko ([].map fun n => (n, o n)))) K)
 (opsB C I R_o1 (St.mk (look [(0, (s 0)), (1, (s 1)), (6, (s 6)), (13, (V.tup [])), (16, (V.tup []))]) (looko ([].map fun n => (n, o n)))) K)) := rfl

theorem g_money_Add_c0_sh {C : Ctx} {I : Nat → Prop} {s : Nat → V} {o : Nat → Option Ob} {Q : Ex → St → Prop} : wpB C I (.cond (.t 46) (.seq (.region [4, 5] (some []) none
     [⟨some 4, .mv (.c (.d (.int .i64 0))), [], [], none, none⟩,
      ⟨some 5, .mv (.c (.d (.int .i64 3))), [], [], none, none⟩])
  (.ret))
 (.skip)) (St.mk s o) Q =
 (condK (s 46)
 (Q .ret (St.mk (look [(4, (V.d (.int .i64 0))), (5, (V.d (.int .i64 3)))]) (looko ([].map fun n => (n, o n)))))
 (Q .normal (St.mk s o))) := rfl

theorem g_money_Add_c1_sh {C : Ctx} {I : Nat → Prop} {s : Nat → V} {o : Nat → Option Ob} {Q : Ex → St → Prop} : wpB C I (.seq (.region [4, 5] (some []) none
    [⟨some 47, .mv (.t 6), [], [], none, none⟩,
     ⟨some 4, .mv (.t 47), [], [], none, none⟩,
     ⟨some 5, .mv (.c (.d (.int .i64 0))), [], [], none, none⟩])
 (.ret)) (St.mk s o) Q =
 (Q .ret (St.mk (look [(4, (s 6)), (5, (V.d (.int .i64 0)))]) (looko ([].map fun n => (n, o n))))) := rfl

theorem g_money_Add_c2_sh {R_o0 : List AOper} {R_c0 : ACode} {R_c1 : ACode} {C : Ctx} {I : Nat → Prop} {s : Nat → V} {o : Nat → Option Ob} {Q : Ex → St → Prop} : wpB C I (.seq (.seq (.region [6, 46] (some []) none
     (⟨some 10, .mv (.t 0), [], [], none, none⟩ ::
      ⟨some 11, .call 58 [(.t 10)], [], [], none, none⟩ ::
      ⟨some 12, .un .not (.t 11), [], [], none, none⟩ ::
      ⟨some 13, .mv (.t 12), [], [], none, (some ([0, 1, 6, 13], (some [])))⟩ ::
      R_o0))
  (R_c0))
 (R_c1)) (St.mk s o) Q =
 (callK C I (St.mk (upd s 10 (s 0)) o) (some 11) 58 [(s 0)] (fun r1 or1 =>
demand (unV UnOp.not r1) (fun x2 =>
opsB C I R_o0 (St.mk (look [(0, (s 0)), (1, (s 1)), (6, (s 6)), (13, x2)]) (looko ([].map fun n => (n, or1 n)))) (fun st => (seqK (fun st => wpB C I R_c0 st (seqK (fun st => wpB C I R_c1 st Q) Q)) (seqK (fun st => wpB C I R_c1 st Q) Q)) .normal (St.trim st [6, 46] (some [])))))) := rfl

theorem g_money_Add_code_sh {R_c2 : ACode} {C : Ctx} {I : Nat → Prop} {s : Nat → V} {o : Nat → Option Ob} {Q : Ex → St → Prop} : wpB C I (.seq (.region [0, 1] (some []) none
    [⟨some 4, .mv (.c (.d (.int .i64 0))), [], [], none, none⟩,
     ⟨some 5, .mv (.c (.d (.int .i64 0))), [], [], none, none⟩])
 (.seq (.region [0, 1, 6] (some []) none
     [⟨some 7, .mv (.t 0), [], [], none, none⟩,
      ⟨some 8, .mv (.t 1), [], [], none, none⟩,
      ⟨some 9, .bin .add (.t 7) (.t 8), [], [], none, none⟩,
      ⟨some 6, .mv (.t 9), [], [], none, none⟩])
  (R_c2))) (St.mk s o) Q =
 (demand (binV BinOp.add (s 0) (s 1)) (fun x1 =>
wpB C I R_c2 (St.mk (look [(0, (s 0)), (1, (s 1)), (6, x1)]) (looko ([].map fun n => (n, o n)))) Q)) := rfl

theorem g_money_Sub_c0_sh {C : Ctx} {I : Nat → Prop} {s : Nat → V} {o : Nat → Option Ob} {Q : Ex → St → Prop} : wpB C I (.seq (.region [4, 5] (some []) none
    [⟨some 16, .mv (.t 0), [], [], none, none⟩,
     ⟨some 17, .mv (.t 6), [], [], none, none⟩,
     ⟨some 18, .call 63 [(.t 16), (.t 17)], [], [], none, none⟩,
     ⟨some 19, .ext (.t 18) 0, [], [], none, none⟩,
     ⟨some 20, .ext (.t 18) 1, [], [], none, none⟩,
     ⟨some 4, .mv (.t 19), [], [], none, none⟩,
     ⟨some 5, .mv (.t 20), [], [], none, none⟩])
 (.ret)) (St.mk s o) Q =
 (callK C I (St.mk (upd (upd s 16 (s 0)) 17 (s 6)) o) (some 18) 63 [(s 0), (s 6)] (fun r1 or1 =>
demand (extV r1 0) (fun x2 =>
demand (extV r1 1) (fun x3 =>
Q .ret (St.mk (look [(4, x2), (5, x3)]) (looko ([].map fun n => (n, or1 n)))))))) := rfl

theorem g_money_Sub_c1_sh {R_c0 : ACode} {C : Ctx} {I : Nat → Prop} {s : Nat → V} {o : Nat → Option Ob} {Q : Ex → St → Prop} : wpB C I (.seq (.seq (.region [0, 6, 7, 14] (some []) none
     [⟨some 13, .mv (.t 7), [], [], none, none⟩,
      ⟨some 14, .bin .neq (.t 13) (.c (.d (.int .i64 0))), [], [], none, none⟩])
  (.cond (.t 14) (.seq (.region [4, 5] (some []) none
       [⟨some 15, .mv (.t 7), [], [], none, none⟩,
        ⟨some 4, .mv (.c (.d (.int .i64 0))), [], [], none, none⟩,
        ⟨some 5, .mv (.t 15), [], [], none, none⟩])
    (.ret))
   (.skip)))
 (R_c0)) (St.mk s o) Q =
 (demand (binV BinOp.neq (s 7) (V.d (.int .i64 0))) (fun x1 =>
condK x1
 (Q .ret (St.mk (look [(4, (V.d (.int .i64 0))), (5, (s 7))]) (looko ([].map fun n => (n, o n)))))
 (wpB C I R_c0 (St.mk (look [(0, (s 0)), (6, (s 6)), (7, (s 7)), (14, x1)]) (looko ([].map fun n => (n, o n)))) Q))) := rfl

theorem g_money_Sub_code_sh {R_c1 : ACode} {C : Ctx} {I : Nat → Prop} {s : Nat → V} {o : Nat → Option Ob} {Q : Ex → St → Prop} : wpB C I (.seq (.region [0, 1] (some []) none
    [⟨some 4, .mv (.c (.d (.int .i64 0))), [], [], none, none⟩,
     ⟨some 5, .mv (.c (.d (.int .i64 0))), [], [], none, none⟩])
 (.seq (.region [0, 6, 7] (some []) none
     [⟨some 9, .mv (.t 1), [], [], none, none⟩,
      ⟨some 10, .call 57 [(.t 9)], [], [], none, none⟩,
      ⟨some 8, .mv (.t 10), [], [], none, none⟩,
      ⟨some 11, .ext (.t 8) 0, [], [], none, none⟩,
      ⟨some 12, .ext (.t 8) 1, [], [], none, none⟩,
      ⟨some 6, .mv (.t 11), [], [], none, none⟩,
      ⟨some 7, .mv (.t 12), [], [], none, none⟩])
  (R_c1))) (St.mk s o) Q =
 (callK C I (St.mk (upd (look [(0, (s 0)), (1, (s 1))]) 9 (s 1)) (looko ([].map fun n => (n, o n)))) (some 10) 57 [(s 1)] (fun r1 or1 =>
demand (extV r1 0) (fun x2 =>
demand (extV r1 1) (fun x3 =>
wpB C I R_c1 (St.mk (look [(0, (s 0)), (6, x2), (7, x3)]) (looko ([].map fun n => (n, or1 n)))) Q)))) := rfl

theorem g_ref01_Add_o1_sh {C : Ctx} {I : Nat → Prop} {s : Nat → V} {o : Nat → Option Ob} {K : St → Prop} : opsB C I [⟨some 13, .pick (.t 9) (.c (.d (.bool true))) (.t 12), [], [], none, none⟩] (St.mk s o) K =
 (demand (pickV (s 9) (V.d (.bool true)) (s 12)) (fun x1 =>
K (St.mk (upd s 13 x1) o))) := rfl

theorem g_ref01_Add_o0_sh {R_o1 : List AOper} {C : Ctx} {I : Nat → Prop} {s : Nat → V} {o : Nat → Option Ob} {K : St → Prop} : opsB C I (⟨some 10, .mv (.t 1), [], [], (some (3, 9, false)), none⟩ ::
     ⟨some 11, .call 53 [(.t 10)], [], [], (some (3, 9, false)), none⟩ ::
     ⟨some 12, .un .not (.t 11), [], [], (some (3, 9, false)), (some ([0, 1, 9, 12], (some [])))⟩ ::
     R_o1) (St.mk s o) K =
 (guardK (s 9) false
 (callK C I (St.mk (upd (upd (upd s 9 (V.d (D.bool false))) 10 (s 1)) 9 (V.d (D.bool false))) o) (some 11) 53 [(s 1)] (fun r1 or1 =>
demand (unV UnOp.not r1) (fun x2 =>
opsB C I R_o1 (St.mk (look [(0, (s 0)), (1, (s 1)), (9, (V.d (D.bool false))), (12, x2)]) (looko ([].map fun n => (n, or1 n)))) K)))
 (opsB C I R_o1 (St.mk (look [(0, (s 0)), (1, (s 1)), (9, (V.d (D.bool true))), (12, (V.tup []))]) (looko ([].map fun n => (n, o n)))) K)
 (opsB C I R_o1 (St.mk (look [(0, (s 0)), (1, (s 1)), (9, (V.tup [])), (12, (V.tup []))]) (looko ([].map fun n => (n, o n)))) K)) := rfl

theorem g_ref01_Add_c0_sh {C : Ctx} {I : Nat → Prop} {s : Nat → V} {o : Nat → Option Ob} {Q : Ex → St → Prop} : wpB C I (.cond (.t 13) (.seq (.region [4, 5] (some []) none
     [⟨some 4, .mv (.c (.d (.int .i64 0))), [], [], none, none⟩,
      ⟨some 5, .mv (.c (.d (.bool false))), [], [], none, none⟩])
  (.ret))
 (.skip)) (St.mk s o) Q =
 (condK (s 13)
 (Q .ret (St.mk (look [(4, (V.d (.int .i64 0))), (5, (V.d (.bool false)))]) (looko ([].map fun n => (n, o n)))))
 (Q .normal (St.mk s o))) := rfl

theorem g_ref01_Add_o7_sh {C : Ctx} {I : Nat → Prop} {s : Nat → V} {o : Nat → Option Ob} {K : St → Prop} : opsB C I [⟨some 31, .pick (.t 22) (.c (.d (.bool true))) (.t 30), [], [], none, none⟩] (St.mk s o) K =
 (demand (pickV (s 22) (V.d (.bool true)) (s 30)) (fun x1 =>
K (St.mk (upd s 31 x1) o))) := rfl

theorem g_ref01_Add_o6_sh {R_o7 : List AOper} {C : Ctx} {I : Nat → Prop} {s : Nat → V} {o : Nat → Option Ob} {K : St → Prop} : opsB C I (⟨some 30, .pick (.t 25) (.t 29) (.c (.d (.bool false))), [], [], (some (8, 22, false)), (some ([0, 1, 22, 30], (some [])))⟩ ::
     R_o7) (St.mk s o) K =
 (guardK (s 22) false
 (demand (pickV (s 25) (s 29) (V.d (.bool false))) (fun x1 =>
opsB C I R_o7 (St.mk (look [(0, (s 0)), (1, (s 1)), (22, (V.d (D.bool false))), (30, x1)]) (looko ([].map fun n => (n, o n)))) K))
 (opsB C I R_o7 (St.mk (look [(0, (s 0)), (1, (s 1)), (22, (V.d (D.bool true))), (30, (V.tup []))]) (looko ([].map fun n => (n, o n)))) K)
 (opsB C I R_o7 (St.mk (look [(0, (s 0)), (1, (s 1)), (22, (V.tup [])), (30, (V.tup []))]) (looko ([].map fun n => (n, o n)))) K)) := rfl

theorem g_ref01_Add_o5_sh {R_o6 : List AOper} {C : Ctx} {I : Nat → Prop} {s : Nat → V} {o : Nat → Option Ob} {K : St → Prop} : opsB C I (⟨some 26, .mv (.t 0), [], [], (some (11, 25, true)), none⟩ ::
     ⟨some 27, .mv (.t 1), [], [], (some (11, 25, true)), none⟩ ::
     ⟨some 28, .bin .sub (.c (.d (.int .i64 (-9223372036854775807)))) (.t 27), [], [], (some (11, 25, true)), none⟩ ::
     ⟨some 29, .bin .lss (.t 26) (.t 28), [], [], (some (11, 25, true)), (some ([0, 1, 22, 25, 29], (some [])))⟩ ::
     R_o6) (St.mk s o) K =
 (guardK (s 25) true
 (demand (binV BinOp.sub (V.d (.int .i64 (-9223372036854775807))) (s 1)) (fun x1 =>
demand (binV BinOp.lss (s 0) x1) (fun x2 =>
opsB C I R_o6 (St.mk (look [(0, (s 0)), (1, (s 1)), (22, (s 22)), (25, (V.d (D.bool true))), (29, x2)]) (looko ([].map fun n => (n, o n)))) K)))
 (opsB C I R_o6 (St.mk (look [(0, (s 0)), (1, (s 1)), (22, (s 22)), (25, (V.d (D.bool false))), (29, (V.tup []))]) (looko ([].map fun n => (n, o n)))) K)
 (opsB C I R_o6 (St.mk (look [(0, (s 0)), (1, (s 1)), (22, (s 22)), (25, (V.tup [])), (29, (V.tup []))]) (looko ([].map fun n => (n, o n)))) K)) := rfl

theorem g_ref01_Add_o4_sh {R_o5 : List AOper} {C : Ctx} {I : Nat → Prop} {s : Nat → V} {o : Nat → Option Ob} {K : St → Prop} : opsB C I (⟨some 23, .mv (.t 1), [], [], (some (8, 22, false)), none⟩ ::
     ⟨some 24, .bin .lss (.t 23) (.c (.d (.int .i64 0))), [], [], (some (8, 22, false)), none⟩ ::
     ⟨some 25, .mv (.t 24), [], [], (some (8, 22, false)), (some ([0, 1, 22, 25], (some [])))⟩ ::
     R_o5) (St.mk s o) K =
 (guardK (s 22) false
 (demand (binV BinOp.lss (s 1) (V.d (.int .i64 0))) (fun x1 =>
opsB C I R_o5 (St.mk (look [(0, (s 0)), (1, (s 1)), (22, (V.d (D.bool false))), (25, x1)]) (looko ([].map fun n => (n, o n)))) K))
 (opsB C I R_o5 (St.mk (look [(0, (s 0)), (1, (s 1)), (22, (V.d (D.bool true))), (25, (V.tup []))]) (looko ([].map fun n => (n, o n)))) K)
 (opsB C I R_o5 (St.mk (look [(0, (s 0)), (1, (s 1)), (22, (V.tup [])), (25, (V.tup []))]) (looko ([].map fun n => (n, o n)))) K)) := rfl

theorem g_ref01_Add_o3_sh {R_o4 : List AOper} {C : Ctx} {I : Nat → Prop} {s : Nat → V} {o : Nat → Option Ob} {K : St → Prop} : opsB C I (⟨some 21, .pick (.t 16) (.t 20) (.c (.d (.bool false))), [], [], none, none⟩ ::
     ⟨some 22, .mv (.t 21), [], [], none, (some ([0, 1, 22], (some [])))⟩ ::
     R_o4) (St.mk s o) K =
 (demand (pickV (s 16) (s 20) (V.d (.bool false))) (fun x1 =>
opsB C I R_o4 (St.mk (look [(0, (s 0)), (1, (s 1)), (22, x1)]) (looko ([].map fun n => (n, o n)))) K)) := rfl

theorem g_ref01_Add_o2_sh {R_o3 : List AOper} {C : Ctx} {I : Nat → Prop} {s : Nat → V} {o : Nat → Option Ob} {K : St → Prop} : opsB C I (⟨some 17, .mv (.t 0), [], [], (some (2, 16, true)), none⟩ ::
     ⟨some 18, .mv (.t 1), [], [], (some (2, 16, true)), none⟩ ::
     ⟨some 19, .bin .sub (.c (.d (.int .i64 9223372036854775807))) (.t 18), [], [], (some (2, 16, true)), none⟩ ::
     ⟨some 20, .bin .gtr (.t 17) (.t 19), [], [], (some (2, 16, true)), (some ([0, 1, 16, 20], (some [])))⟩ ::
     R_o3) (St.mk s o) K =
 (guardK (s 16) true
 (demand (binV BinOp.sub (V.d (.int .i64 9223372036854775807)) (s 1)) (fun x1 =>
demand (binV BinOp.gtr (s 0) x1) (fun x2 =>
opsB C I R_o3 (St.mk (look [(0, (s 0)), (1, (s 1)), (16, (V.d (D.bool true))), (20, x2)]) (looko ([].map fun n => (n, o n)))) K)))
 (opsB C I R_o3 (St.mk (look [(0, (s 0)), (1, (s 1)), (16, (V.d (D.bool false))), (20, (V.tup []))]) (looko ([].map fun n => (n, o n)))) K)
 (opsB C I R_o3 (St.mk (look [(0, (s 0)), (1, (s 1)), (16, (V.tup [])), (20, (V.tup []))]) (looko ([].map fun n => (n, o n)))) K)) := rfl

theorem g_ref01_Add_c1_sh {C : Ctx} {I : Nat → Prop} {s : Nat → V} {o : Nat → Option Ob} {Q : Ex → St → Prop} : wpB C I (.cond (.t 31) (.seq (.region [4, 5] (some []) none
     [⟨some 4, .mv (.c (.d (.int .i64 0))), [], [], none, none⟩,
      ⟨some 5, .mv (.c (.d (.bool false))), [], [], none, none⟩])
  (.ret))
 (.skip)) (St.mk s o) Q =
 (condK (s 31)
 (Q .ret (St.mk (look [(4, (V.d (.int .i64 0))), (5, (V.d (.bool false)))]) (looko ([].map fun n => (n, o n)))))
 (Q .normal (St.mk s o))) := rfl

theorem g_ref01_Add_c2_sh {C : Ctx} {I : Nat → Prop} {s : Nat → V} {o : Nat → Option Ob} {Q : Ex → St → Prop} : wpB C I (.seq (.region [4, 5] (some []) none
    [⟨some 32, .mv (.t 0), [], [], none, none⟩,
     ⟨some 33, .mv (.t 1), [], [], none, none⟩,
     ⟨some 34, .bin .add (.t 32) (.t 33), [], [], none, none⟩,
     ⟨some 4, .mv (.t 34), [], [], none, none⟩,
     ⟨some 5, .mv (.c (.d (.bool true))), [], [], none, none⟩])
 (.ret)) (St.mk s o) Q =
 (demand (binV BinOp.add (s 0) (s 1)) (fun x1 =>
Q .ret (St.mk (look [(4, x1), (5, (V.d (.bool true)))]) (looko ([].map fun n => (n, o n)))))) := rfl

theorem g_ref01_Add_c3_sh {R_o2 : List AOper} {R_c1 : ACode} {R_c2 : ACode} {C : Ctx} {I : Nat → Prop} {s : Nat → V} {o : Nat → Option Ob} {Q : Ex → St → Prop} : wpB C I (.seq (.seq (.region [0, 1, 31] (some []) none
     (⟨some 14, .mv (.t 1), [], [], none, none⟩ ::
      ⟨some 15, .bin .gtr (.t 14) (.c (.d (.int .i64 0))), [], [], none, none⟩ ::
      ⟨some 16, .mv (.t 15), [], [], none, (some ([0, 1, 16], (some [])))⟩ ::
      R_o2))
  (R_c1))
 (R_c2)) (St.mk s o) Q =
 (demand (binV BinOp.gtr (s 1) (V.d (.int .i64 0))) (fun x1 =>
opsB C I R_o2 (St.mk (look [(0, (s 0)), (1, (s 1)), (16, x1)]) (looko ([].map fun n => (n, o n)))) (fun st => (seqK (fun st => wpB C I R_c1 st (seqK (fun st => wpB C I R_c2 st Q) Q)) (seqK (fun st => wpB C I R_c2 st Q) Q)) .normal (St.trim st [0, 1, 31] (some []))))) := rfl

theorem g_ref01_Add_code_sh {R_o0 : List AOper} {R_c0 : ACode} {R_c3 : ACode} {C : Ctx} {I : Nat → Prop} {s : Nat → V} {o : Nat → Option Ob} {Q : Ex → St → Prop} : wpB C I (.seq (.region [0, 1] (some []) none
    [⟨some 4, .mv (.c (.d (.int .i64 0))), [], [], none, none⟩,
     ⟨some 5, .mv (.c (.d (.bool false))), [], [], none, none⟩])
 (.seq (.seq (.region [0, 1, 13] (some []) none
      (⟨some 6, .mv (.t 0), [], [], none, none⟩ ::
       ⟨some 7, .call 53 [(.t 6)], [], [], none, none⟩ ::
       ⟨some 8, .un .not (.t 7), [], [], none, none⟩ ::
       ⟨some 9, .mv (.t 8), [], [], none, (some ([0, 1, 9], (some [])))⟩ ::
       R_o0))
   (R_c0))
  (R_c3))) (St.mk s o) Q =
 (callK C I (St.mk (upd (look [(0, (s 0)), (1, (s 1))]) 6 (s 0)) (looko ([].map fun n => (n, o n)))) (some 7) 53 [(s 0)] (fun r1 or1 =>
demand (unV UnOp.not r1) (fun x2 =>
opsB C I R_o0 (St.mk (look [(0, (s 0)), (1, (s 1)), (9, x2)]) (looko ([].map fun n => (n, or1 n)))) (fun st => (seqK (fun st => wpB C I R_c0 st (seqK (fun st => wpB C I R_c3 st Q) Q)) (seqK (fun st => wpB C I R_c3 st Q) Q)) .normal (St.trim st [0, 1, 13] (some [])))))) := rfl

theorem g_ref01_Digits_l0_sh {R_l0 : ACode} {C : Ctx} {I : Nat → Prop} {s : Nat → V} {o : Nat → Option Ob} {Q : Ex → St → Prop} (hL : R_l0 = .loop [0, 3] (some []) (.seq (.seq (.region [0, 3, 11] (some []) none
      [⟨some 10, .mv (.t 0), [], [], none, none⟩,
       ⟨some 11, .bin .gtr (.t 10) (.c (.d (.int .i64 9))), [], [], none, none⟩])
   (.cond (.t 11) (.skip)
    (.exit 0)))
  (.block 1 [0, 3] (some []) (.seq (.region [0, 3] (some []) none
       [⟨some 12, .mv (.t 0), [], [], none, none⟩,
        ⟨some 13, .bin .quo (.t 12) (.c (.d (.int .i64 10))), [], [], none, none⟩,
        ⟨some 0, .mv (.t 13), [], [], none, none⟩])
    (.region [0, 3] (some []) none
       [⟨some 14, .mv (.t 0), [], [], none, none⟩,
        ⟨some 15, .bin .rem (.t 14) (.c (.d (.int .i64 10))), [], [], none, none⟩,
        ⟨some 16, .bin .add (.c (.d (.int .i64 48))) (.t 15), [], [], none, none⟩,
        ⟨some 17, .conv .u8 (.t 16), [], [], none, none⟩,
        ⟨some 18, .bsl none 1 [] 1 [(0, (.t 17))], [], [], none, none⟩,
        ⟨some 19, .bstr (.t 18), [], [], none, none⟩,
        ⟨some 20, .mv (.t 3), [], [], none, none⟩,
        ⟨some 21, .bin .add (.t 19) (.t 20), [], [], none, none⟩,
        ⟨some 3, .mv (.t 21), [], [], none, none⟩])))))
 (h : demand (binV BinOp.gtr (s 0) (V.d (.int .i64 9))) (fun x1 =>
condK x1
 (demand (binV BinOp.quo (s 0) (V.d (.int .i64 10))) (fun x2 =>
demand (binV BinOp.rem x2 (V.d (.int .i64 10))) (fun x3 =>
demand (binV BinOp.add (V.d (.int .i64 48)) x3) (fun x4 =>
demand (convV IntKind.u8 x4) (fun x5 =>
lstK (partsN 1 [x5]) (fun es6 =>
demand (bstrV (V.d (D.sl es6))) (fun x7 =>
demand (binV BinOp.add x7 (s 3)) (fun x8 =>
wpB C I R_l0 (St.mk (look [(0, x2), (3, x8)]) (looko ([].map fun n => (n, o n)))) Q))))))))
 (Q (.exit 0) (St.mk (look [(0, (s 0)), (3, (s 3)), (11, x1)]) (looko ([].map fun n => (n, o n))))))) : wpB C I R_l0 (St.mk s o) Q := w_loopC hL h


end Pay
