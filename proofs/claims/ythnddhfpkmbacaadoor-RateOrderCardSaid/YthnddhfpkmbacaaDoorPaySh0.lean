/- What the code of the functions comes to, without slots: an equation for each part; no condition. -/
import Derived.Test.YthnddhfpkmbacaaDoorPayU
import Derived.Test.YthnddhfpkmbacaaDoorPayCode0
set_option maxRecDepth 20000
set_option maxHeartbeats 400000
set_option linter.unusedVariables false
namespace Pay
open Go
theorem g_law03_RateParts_o3_sh {C : Ctx} {I : Nat → Prop} {s : Nat → V} {o : Nat → Option Ob} {K : St → Prop} : opsB C I [⟨some 23, .pick (.t 20) (.c (.d (.bool true))) (.t 22), [], [], none, none⟩] (St.mk s o) K =
 (demand (pickV (s 20) (V.d (.bool true)) (s 22)) (fun x1 =>
K (St.mk (upd s 23 x1) o))) := rfl
theorem g_law03_RateParts_o2_sh {R_o3 : List AOper} {C : Ctx} {I : Nat → Prop} {s : Nat → V} {o : Nat → Option Ob} {K : St → Prop} : opsB C I (⟨some 21, .mv (.t 1), [], [], (some (6, 20, false)), none⟩ ::
     ⟨some 22, .bin .gtr (.t 21) (.c (.d (.int .i64 10000))), [], [], (some (6, 20, false)), (some ([0, 1, 2, 20, 22], (some [])))⟩ ::
     R_o3) (St.mk s o) K =
 (guardK (s 20) false
 (demand (binV BinOp.gtr (s 1) (V.d (.int .i64 10000))) (fun x1 =>
opsB C I R_o3 (St.mk (look [(0, (s 0)), (1, (s 1)), (2, (s 2)), (20, (V.d (D.bool false))), (22, x1)]) (looko ([].map fun n => (n, o n)))) K))
 (opsB C I R_o3 (St.mk (look [(0, (s 0)), (1, (s 1)), (2, (s 2)), (20, (V.d (D.bool true))), (22, (V.tup []))]) (looko ([].map fun n => (n, o n)))) K)
 (opsB C I R_o3 (St.mk (look [(0, (s 0)), (1, (s 1)), (2, (s 2)), (20, (V.tup [])), (22, (V.tup []))]) (looko ([].map fun n => (n, o n)))) K)) := rfl
theorem g_law03_RateParts_o1_sh {R_o2 : List AOper} {C : Ctx} {I : Nat → Prop} {s : Nat → V} {o : Nat → Option Ob} {K : St → Prop} : opsB C I (⟨some 19, .pick (.t 16) (.c (.d (.bool true))) (.t 18), [], [], none, none⟩ ::
     ⟨some 20, .mv (.t 19), [], [], none, (some ([0, 1, 2, 20], (some [])))⟩ ::
     R_o2) (St.mk s o) K =
 (demand (pickV (s 16) (V.d (.bool true)) (s 18)) (fun x1 =>
opsB C I R_o2 (St.mk (look [(0, (s 0)), (1, (s 1)), (2, (s 2)), (20, x1)]) (looko ([].map fun n => (n, o n)))) K)) := rfl
theorem g_law03_RateParts_o0_sh {R_o1 : List AOper} {C : Ctx} {I : Nat → Prop} {s : Nat → V} {o : Nat → Option Ob} {K : St → Prop} : opsB C I (⟨some 17, .mv (.t 1), [], [], (some (2, 16, false)), none⟩ ::
     ⟨some 18, .bin .lss (.t 17) (.c (.d (.int .i64 0))), [], [], (some (2, 16, false)), (some ([0, 1, 2, 16, 18], (some [])))⟩ ::
     R_o1) (St.mk s o) K =
 (guardK (s 16) false
 (demand (binV BinOp.lss (s 1) (V.d (.int .i64 0))) (fun x1 =>
opsB C I R_o1 (St.mk (look [(0, (s 0)), (1, (s 1)), (2, (s 2)), (16, (V.d (D.bool false))), (18, x1)]) (looko ([].map fun n => (n, o n)))) K))
 (opsB C I R_o1 (St.mk (look [(0, (s 0)), (1, (s 1)), (2, (s 2)), (16, (V.d (D.bool true))), (18, (V.tup []))]) (looko ([].map fun n => (n, o n)))) K)
 (opsB C I R_o1 (St.mk (look [(0, (s 0)), (1, (s 1)), (2, (s 2)), (16, (V.tup [])), (18, (V.tup []))]) (looko ([].map fun n => (n, o n)))) K)) := rfl
theorem g_law03_RateParts_c0_sh {C : Ctx} {I : Nat → Prop} {s : Nat → V} {o : Nat → Option Ob} {Q : Ex → St → Prop} : wpB C I (.cond (.t 23) (.seq (.region [6] (some []) none
     [⟨some 24, .call 81 [], [], [], none, none⟩,
      ⟨some 6, .mv (.t 24), [], [], none, none⟩])
  (.ret))
 (.skip)) (St.mk s o) Q =
 (condK (s 23)
 (callK C I (St.mk s o) (some 24) 81 [] (fun r1 or1 =>
Q .ret (St.mk (look [(6, r1)]) (looko ([].map fun n => (n, or1 n))))))
 (Q .normal (St.mk s o))) := rfl
theorem g_law03_RateParts_o25_sh {C : Ctx} {I : Nat → Prop} {s : Nat → V} {o : Nat → Option Ob} {K : St → Prop} : opsB C I [⟨some 94, .pick (.t 92) (.t 93) (.c (.d (.bool false))), [], [], none, none⟩,
     ⟨some 6, .mv (.t 94), [], [], none, none⟩] (St.mk s o) K =
 (demand (pickV (s 92) (s 93) (V.d (.bool false))) (fun x1 =>
K (St.mk (upd (upd s 94 x1) 6 x1) o))) := rfl
theorem g_law03_RateParts_o24_sh {R_o25 : List AOper} {C : Ctx} {I : Nat → Prop} {s : Nat → V} {o : Nat → Option Ob} {K : St → Prop} : opsB C I (⟨some 93, .call 81 [], [], [], (some (45, 92, true)), (some ([92, 93], (some [])))⟩ ::
     R_o25) (St.mk s o) K =
 (guardK (s 92) true
 (callK C I (St.mk (upd s 92 (V.d (D.bool true))) o) (some 93) 81 [] (fun r1 or1 =>
opsB C I R_o25 (St.mk (look [(92, (V.d (D.bool true))), (93, r1)]) (looko ([].map fun n => (n, or1 n)))) K))
 (opsB C I R_o25 (St.mk (look [(92, (V.d (D.bool false))), (93, (V.tup []))]) (looko ([].map fun n => (n, o n)))) K)
 (opsB C I R_o25 (St.mk (look [(92, (V.tup [])), (93, (V.tup []))]) (looko ([].map fun n => (n, o n)))) K)) := rfl
theorem g_law03_RateParts_o23_sh {R_o24 : List AOper} {C : Ctx} {I : Nat → Prop} {s : Nat → V} {o : Nat → Option Ob} {K : St → Prop} : opsB C I (⟨some 91, .pick (.t 79) (.t 90) (.c (.d (.bool false))), [], [], none, none⟩ ::
     ⟨some 92, .mv (.t 91), [], [], none, (some ([92], (some [])))⟩ ::
     R_o24) (St.mk s o) K =
 (demand (pickV (s 79) (s 90) (V.d (.bool false))) (fun x1 =>
opsB C I R_o24 (St.mk (look [(92, x1)]) (looko ([].map fun n => (n, o n)))) K)) := rfl
theorem g_law03_RateParts_o22_sh {R_o23 : List AOper} {C : Ctx} {I : Nat → Prop} {s : Nat → V} {o : Nat → Option Ob} {K : St → Prop} : opsB C I (⟨some 90, .pick (.t 82) (.c (.d (.bool true))) (.t 89), [], [], (some (32, 79, true)), (some ([79, 90], (some [])))⟩ ::
     R_o23) (St.mk s o) K =
 (guardK (s 79) true
 (demand (pickV (s 82) (V.d (.bool true)) (s 89)) (fun x1 =>
opsB C I R_o23 (St.mk (look [(79, (V.d (D.bool true))), (90, x1)]) (looko ([].map fun n => (n, o n)))) K))
 (opsB C I R_o23 (St.mk (look [(79, (V.d (D.bool false))), (90, (V.tup []))]) (looko ([].map fun n => (n, o n)))) K)
 (opsB C I R_o23 (St.mk (look [(79, (V.tup [])), (90, (V.tup []))]) (looko ([].map fun n => (n, o n)))) K)) := rfl
theorem g_law03_RateParts_o21_sh {R_o22 : List AOper} {C : Ctx} {I : Nat → Prop} {s : Nat → V} {o : Nat → Option Ob} {K : St → Prop} : opsB C I (⟨some 89, .pick (.t 85) (.t 88) (.c (.d (.bool false))), [], [], (some (35, 82, false)), (some ([79, 82, 89], (some [])))⟩ ::
     R_o22) (St.mk s o) K =
 (guardK (s 82) false
 (demand (pickV (s 85) (s 88) (V.d (.bool false))) (fun x1 =>
opsB C I R_o22 (St.mk (look [(79, (s 79)), (82, (V.d (D.bool false))), (89, x1)]) (looko ([].map fun n => (n, o n)))) K))
 (opsB C I R_o22 (St.mk (look [(79, (s 79)), (82, (V.d (D.bool true))), (89, (V.tup []))]) (looko ([].map fun n => (n, o n)))) K)
 (opsB C I R_o22 (St.mk (look [(79, (s 79)), (82, (V.tup [])), (89, (V.tup []))]) (looko ([].map fun n => (n, o n)))) K)) := rfl
theorem g_law03_RateParts_o20_sh {R_o21 : List AOper} {C : Ctx} {I : Nat → Prop} {s : Nat → V} {o : Nat → Option Ob} {K : St → Prop} : opsB C I (⟨some 86, .mv (.t 8), [], [], (some (38, 85, true)), none⟩ ::
     ⟨some 87, .mv (.t 0), [], [], (some (38, 85, true)), none⟩ ::
     ⟨some 88, .bin .geq (.t 86) (.t 87), [], [], (some (38, 85, true)), (some ([79, 82, 85, 88], (some [])))⟩ ::
     R_o21) (St.mk s o) K =
 (guardK (s 85) true
 (demand (binV BinOp.geq (s 8) (s 0)) (fun x1 =>
opsB C I R_o21 (St.mk (look [(79, (s 79)), (82, (s 82)), (85, (V.d (D.bool true))), (88, x1)]) (looko ([].map fun n => (n, o n)))) K))
 (opsB C I R_o21 (St.mk (look [(79, (s 79)), (82, (s 82)), (85, (V.d (D.bool false))), (88, (V.tup []))]) (looko ([].map fun n => (n, o n)))) K)
 (opsB C I R_o21 (St.mk (look [(79, (s 79)), (82, (s 82)), (85, (V.tup [])), (88, (V.tup []))]) (looko ([].map fun n => (n, o n)))) K)) := rfl
theorem g_law03_RateParts_o19_sh {R_o20 : List AOper} {C : Ctx} {I : Nat → Prop} {s : Nat → V} {o : Nat → Option Ob} {K : St → Prop} : opsB C I (⟨some 83, .mv (.t 8), [], [], (some (35, 82, false)), none⟩ ::
     ⟨some 84, .bin .leq (.t 83) (.c (.d (.int .i64 0))), [], [], (some (35, 82, false)), none⟩ ::
     ⟨some 85, .mv (.t 84), [], [], (some (35, 82, false)), (some ([0, 8, 79, 82, 85], (some [])))⟩ ::
     R_o20) (St.mk s o) K =
 (guardK (s 82) false
 (demand (binV BinOp.leq (s 8) (V.d (.int .i64 0))) (fun x1 =>
opsB C I R_o20 (St.mk (look [(0, (s 0)), (8, (s 8)), (79, (s 79)), (82, (V.d (D.bool false))), (85, x1)]) (looko ([].map fun n => (n, o n)))) K))
 (opsB C I R_o20 (St.mk (look [(0, (s 0)), (8, (s 8)), (79, (s 79)), (82, (V.d (D.bool true))), (85, (V.tup []))]) (looko ([].map fun n => (n, o n)))) K)
 (opsB C I R_o20 (St.mk (look [(0, (s 0)), (8, (s 8)), (79, (s 79)), (82, (V.tup [])), (85, (V.tup []))]) (looko ([].map fun n => (n, o n)))) K)) := rfl
theorem g_law03_RateParts_o18_sh {R_o19 : List AOper} {C : Ctx} {I : Nat → Prop} {s : Nat → V} {o : Nat → Option Ob} {K : St → Prop} : opsB C I (⟨some 80, .mv (.t 0), [], [], (some (32, 79, true)), none⟩ ::
     ⟨some 81, .bin .geq (.t 80) (.c (.d (.int .i64 0))), [], [], (some (32, 79, true)), none⟩ ::
     ⟨some 82, .mv (.t 81), [], [], (some (32, 79, true)), (some ([0, 8, 79, 82], (some [])))⟩ ::
     R_o19) (St.mk s o) K =
 (guardK (s 79) true
 (demand (binV BinOp.geq (s 0) (V.d (.int .i64 0))) (fun x1 =>
opsB C I R_o19 (St.mk (look [(0, (s 0)), (8, (s 8)), (79, (V.d (D.bool true))), (82, x1)]) (looko ([].map fun n => (n, o n)))) K))
 (opsB C I R_o19 (St.mk (look [(0, (s 0)), (8, (s 8)), (79, (V.d (D.bool false))), (82, (V.tup []))]) (looko ([].map fun n => (n, o n)))) K)
 (opsB C I R_o19 (St.mk (look [(0, (s 0)), (8, (s 8)), (79, (V.tup [])), (82, (V.tup []))]) (looko ([].map fun n => (n, o n)))) K)) := rfl
theorem g_law03_RateParts_o17_sh {R_o18 : List AOper} {C : Ctx} {I : Nat → Prop} {s : Nat → V} {o : Nat → Option Ob} {K : St → Prop} : opsB C I (⟨some 78, .pick (.t 66) (.t 77) (.c (.d (.bool false))), [], [], none, none⟩ ::
     ⟨some 79, .mv (.t 78), [], [], none, (some ([0, 8, 79], (some [])))⟩ ::
     R_o18) (St.mk s o) K =
 (demand (pickV (s 66) (s 77) (V.d (.bool false))) (fun x1 =>
opsB C I R_o18 (St.mk (look [(0, (s 0)), (8, (s 8)), (79, x1)]) (looko ([].map fun n => (n, o n)))) K)) := rfl
theorem g_law03_RateParts_o16_sh {R_o17 : List AOper} {C : Ctx} {I : Nat → Prop} {s : Nat → V} {o : Nat → Option Ob} {K : St → Prop} : opsB C I (⟨some 77, .pick (.t 69) (.c (.d (.bool true))) (.t 76), [], [], (some (19, 66, true)), (some ([0, 8, 66, 77], (some [])))⟩ ::
     R_o17) (St.mk s o) K =
 (guardK (s 66) true
 (demand (pickV (s 69) (V.d (.bool true)) (s 76)) (fun x1 =>
opsB C I R_o17 (St.mk (look [(0, (s 0)), (8, (s 8)), (66, (V.d (D.bool true))), (77, x1)]) (looko ([].map fun n => (n, o n)))) K))
 (opsB C I R_o17 (St.mk (look [(0, (s 0)), (8, (s 8)), (66, (V.d (D.bool false))), (77, (V.tup []))]) (looko ([].map fun n => (n, o n)))) K)
 (opsB C I R_o17 (St.mk (look [(0, (s 0)), (8, (s 8)), (66, (V.tup [])), (77, (V.tup []))]) (looko ([].map fun n => (n, o n)))) K)) := rfl
theorem g_law03_RateParts_o15_sh {R_o16 : List AOper} {C : Ctx} {I : Nat → Prop} {s : Nat → V} {o : Nat → Option Ob} {K : St → Prop} : opsB C I (⟨some 76, .pick (.t 72) (.t 75) (.c (.d (.bool false))), [], [], (some (22, 69, false)), (some ([0, 8, 66, 69, 76], (some [])))⟩ ::
     R_o16) (St.mk s o) K =
 (guardK (s 69) false
 (demand (pickV (s 72) (s 75) (V.d (.bool false))) (fun x1 =>
opsB C I R_o16 (St.mk (look [(0, (s 0)), (8, (s 8)), (66, (s 66)), (69, (V.d (D.bool false))), (76, x1)]) (looko ([].map fun n => (n, o n)))) K))
 (opsB C I R_o16 (St.mk (look [(0, (s 0)), (8, (s 8)), (66, (s 66)), (69, (V.d (D.bool true))), (76, (V.tup []))]) (looko ([].map fun n => (n, o n)))) K)
 (opsB C I R_o16 (St.mk (look [(0, (s 0)), (8, (s 8)), (66, (s 66)), (69, (V.tup [])), (76, (V.tup []))]) (looko ([].map fun n => (n, o n)))) K)) := rfl
theorem g_law03_RateParts_o14_sh {R_o15 : List AOper} {C : Ctx} {I : Nat → Prop} {s : Nat → V} {o : Nat → Option Ob} {K : St → Prop} : opsB C I (⟨some 73, .mv (.t 8), [], [], (some (25, 72, true)), none⟩ ::
     ⟨some 74, .mv (.t 0), [], [], (some (25, 72, true)), none⟩ ::
     ⟨some 75, .bin .leq (.t 73) (.t 74), [], [], (some (25, 72, true)), (some ([0, 8, 66, 69, 72, 75], (some [])))⟩ ::
     R_o15) (St.mk s o) K =
 (guardK (s 72) true
 (demand (binV BinOp.leq (s 8) (s 0)) (fun x1 =>
opsB C I R_o15 (St.mk (look [(0, (s 0)), (8, (s 8)), (66, (s 66)), (69, (s 69)), (72, (V.d (D.bool true))), (75, x1)]) (looko ([].map fun n => (n, o n)))) K))
 (opsB C I R_o15 (St.mk (look [(0, (s 0)), (8, (s 8)), (66, (s 66)), (69, (s 69)), (72, (V.d (D.bool false))), (75, (V.tup []))]) (looko ([].map fun n => (n, o n)))) K)
 (opsB C I R_o15 (St.mk (look [(0, (s 0)), (8, (s 8)), (66, (s 66)), (69, (s 69)), (72, (V.tup [])), (75, (V.tup []))]) (looko ([].map fun n => (n, o n)))) K)) := rfl
theorem g_law03_RateParts_o13_sh {R_o14 : List AOper} {C : Ctx} {I : Nat → Prop} {s : Nat → V} {o : Nat → Option Ob} {K : St → Prop} : opsB C I (⟨some 70, .mv (.t 8), [], [], (some (22, 69, false)), none⟩ ::
     ⟨some 71, .bin .geq (.t 70) (.c (.d (.int .i64 0))), [], [], (some (22, 69, false)), none⟩ ::
     ⟨some 72, .mv (.t 71), [], [], (some (22, 69, false)), (some ([0, 8, 66, 69, 72], (some [])))⟩ ::
     R_o14) (St.mk s o) K =
 (guardK (s 69) false
 (demand (binV BinOp.geq (s 8) (V.d (.int .i64 0))) (fun x1 =>
opsB C I R_o14 (St.mk (look [(0, (s 0)), (8, (s 8)), (66, (s 66)), (69, (V.d (D.bool false))), (72, x1)]) (looko ([].map fun n => (n, o n)))) K))
 (opsB C I R_o14 (St.mk (look [(0, (s 0)), (8, (s 8)), (66, (s 66)), (69, (V.d (D.bool true))), (72, (V.tup []))]) (looko ([].map fun n => (n, o n)))) K)
 (opsB C I R_o14 (St.mk (look [(0, (s 0)), (8, (s 8)), (66, (s 66)), (69, (V.tup [])), (72, (V.tup []))]) (looko ([].map fun n => (n, o n)))) K)) := rfl
theorem g_law03_RateParts_o12_sh {R_o13 : List AOper} {C : Ctx} {I : Nat → Prop} {s : Nat → V} {o : Nat → Option Ob} {K : St → Prop} : opsB C I (⟨some 67, .mv (.t 0), [], [], (some (19, 66, true)), none⟩ ::
     ⟨some 68, .bin .lss (.t 67) (.c (.d (.int .i64 0))), [], [], (some (19, 66, true)), none⟩ ::
     ⟨some 69, .mv (.t 68), [], [], (some (19, 66, true)), (some ([0, 8, 66, 69], (some [])))⟩ ::
     R_o13) (St.mk s o) K =
 (guardK (s 66) true
 (demand (binV BinOp.lss (s 0) (V.d (.int .i64 0))) (fun x1 =>
opsB C I R_o13 (St.mk (look [(0, (s 0)), (8, (s 8)), (66, (V.d (D.bool true))), (69, x1)]) (looko ([].map fun n => (n, o n)))) K))
 (opsB C I R_o13 (St.mk (look [(0, (s 0)), (8, (s 8)), (66, (V.d (D.bool false))), (69, (V.tup []))]) (looko ([].map fun n => (n, o n)))) K)
 (opsB C I R_o13 (St.mk (look [(0, (s 0)), (8, (s 8)), (66, (V.tup [])), (69, (V.tup []))]) (looko ([].map fun n => (n, o n)))) K)) := rfl
theorem g_law03_RateParts_o11_sh {R_o12 : List AOper} {C : Ctx} {I : Nat → Prop} {s : Nat → V} {o : Nat → Option Ob} {K : St → Prop} : opsB C I (⟨some 65, .pick (.t 61) (.t 64) (.c (.d (.bool false))), [], [], none, none⟩ ::
     ⟨some 66, .mv (.t 65), [], [], none, (some ([0, 8, 66], (some [])))⟩ ::
     R_o12) (St.mk s o) K =
 (demand (pickV (s 61) (s 64) (V.d (.bool false))) (fun x1 =>
opsB C I R_o12 (St.mk (look [(0, (s 0)), (8, (s 8)), (66, x1)]) (looko ([].map fun n => (n, o n)))) K)) := rfl
theorem g_law03_RateParts_o10_sh {R_o11 : List AOper} {C : Ctx} {I : Nat → Prop} {s : Nat → V} {o : Nat → Option Ob} {K : St → Prop} : opsB C I (⟨some 62, .mv (.t 12), [], [], (some (14, 61, true)), none⟩ ::
     ⟨some 63, .mv (.t 0), [], [], (some (14, 61, true)), none⟩ ::
     ⟨some 64, .bin .eql (.t 62) (.t 63), [], [], (some (14, 61, true)), (some ([0, 8, 61, 64], (some [])))⟩ ::
     R_o11) (St.mk s o) K =
 (guardK (s 61) true
 (demand (binV BinOp.eql (s 12) (s 0)) (fun x1 =>
opsB C I R_o11 (St.mk (look [(0, (s 0)), (8, (s 8)), (61, (V.d (D.bool true))), (64, x1)]) (looko ([].map fun n => (n, o n)))) K))
 (opsB C I R_o11 (St.mk (look [(0, (s 0)), (8, (s 8)), (61, (V.d (D.bool false))), (64, (V.tup []))]) (looko ([].map fun n => (n, o n)))) K)
 (opsB C I R_o11 (St.mk (look [(0, (s 0)), (8, (s 8)), (61, (V.tup [])), (64, (V.tup []))]) (looko ([].map fun n => (n, o n)))) K)) := rfl
theorem g_law03_RateParts_o9_sh {R_o10 : List AOper} {C : Ctx} {I : Nat → Prop} {s : Nat → V} {o : Nat → Option Ob} {K : St → Prop} : opsB C I (⟨some 60, .pick (.t 57) (.t 59) (.c (.d (.bool false))), [], [], none, none⟩ ::
     ⟨some 61, .mv (.t 60), [], [], none, (some ([0, 8, 12, 61], (some [])))⟩ ::
     R_o10) (St.mk s o) K =
 (demand (pickV (s 57) (s 59) (V.d (.bool false))) (fun x1 =>
opsB C I R_o10 (St.mk (look [(0, (s 0)), (8, (s 8)), (12, (s 12)), (61, x1)]) (looko ([].map fun n => (n, o n)))) K)) := rfl
theorem g_law03_RateParts_o8_sh {R_o9 : List AOper} {C : Ctx} {I : Nat → Prop} {s : Nat → V} {o : Nat → Option Ob} {K : St → Prop} : opsB C I (⟨some 58, .mv (.t 10), [], [], (some (10, 57, true)), none⟩ ::
     ⟨some 59, .bin .eql (.t 58) (.c (.d (.int .i64 0))), [], [], (some (10, 57, true)), (some ([0, 8, 12, 57, 59], (some [])))⟩ ::
     R_o9) (St.mk s o) K =
 (guardK (s 57) true
 (demand (binV BinOp.eql (s 10) (V.d (.int .i64 0))) (fun x1 =>
opsB C I R_o9 (St.mk (look [(0, (s 0)), (8, (s 8)), (12, (s 12)), (57, (V.d (D.bool true))), (59, x1)]) (looko ([].map fun n => (n, o n)))) K))
 (opsB C I R_o9 (St.mk (look [(0, (s 0)), (8, (s 8)), (12, (s 12)), (57, (V.d (D.bool false))), (59, (V.tup []))]) (looko ([].map fun n => (n, o n)))) K)
 (opsB C I R_o9 (St.mk (look [(0, (s 0)), (8, (s 8)), (12, (s 12)), (57, (V.tup [])), (59, (V.tup []))]) (looko ([].map fun n => (n, o n)))) K)) := rfl
theorem g_law03_RateParts_o7_sh {R_o8 : List AOper} {C : Ctx} {I : Nat → Prop} {s : Nat → V} {o : Nat → Option Ob} {K : St → Prop} : opsB C I (⟨some 56, .pick (.t 53) (.t 55) (.c (.d (.bool false))), [], [], none, none⟩ ::
     ⟨some 57, .mv (.t 56), [], [], none, (some ([0, 8, 10, 12, 57], (some [])))⟩ ::
     R_o8) (St.mk s o) K =
 (demand (pickV (s 53) (s 55) (V.d (.bool false))) (fun x1 =>
opsB C I R_o8 (St.mk (look [(0, (s 0)), (8, (s 8)), (10, (s 10)), (12, (s 12)), (57, x1)]) (looko ([].map fun n => (n, o n)))) K)) := rfl
theorem g_law03_RateParts_o6_sh {R_o7 : List AOper} {C : Ctx} {I : Nat → Prop} {s : Nat → V} {o : Nat → Option Ob} {K : St → Prop} : opsB C I (⟨some 54, .mv (.t 13), [], [], (some (6, 53, true)), none⟩ ::
     ⟨some 55, .bin .eql (.t 54) (.c (.d (.int .i64 0))), [], [], (some (6, 53, true)), (some ([0, 8, 10, 12, 53, 55], (some [])))⟩ ::
     R_o7) (St.mk s o) K =
 (guardK (s 53) true
 (demand (binV BinOp.eql (s 13) (V.d (.int .i64 0))) (fun x1 =>
opsB C I R_o7 (St.mk (look [(0, (s 0)), (8, (s 8)), (10, (s 10)), (12, (s 12)), (53, (V.d (D.bool true))), (55, x1)]) (looko ([].map fun n => (n, o n)))) K))
 (opsB C I R_o7 (St.mk (look [(0, (s 0)), (8, (s 8)), (10, (s 10)), (12, (s 12)), (53, (V.d (D.bool false))), (55, (V.tup []))]) (looko ([].map fun n => (n, o n)))) K)
 (opsB C I R_o7 (St.mk (look [(0, (s 0)), (8, (s 8)), (10, (s 10)), (12, (s 12)), (53, (V.tup [])), (55, (V.tup []))]) (looko ([].map fun n => (n, o n)))) K)) := rfl
theorem g_law03_RateParts_o5_sh {R_o6 : List AOper} {C : Ctx} {I : Nat → Prop} {s : Nat → V} {o : Nat → Option Ob} {K : St → Prop} : opsB C I (⟨some 52, .pick (.t 49) (.t 51) (.c (.d (.bool false))), [], [], none, none⟩ ::
     ⟨some 53, .mv (.t 52), [], [], none, (some ([0, 8, 10, 12, 13, 53], (some [])))⟩ ::
     R_o6) (St.mk s o) K =
 (demand (pickV (s 49) (s 51) (V.d (.bool false))) (fun x1 =>
opsB C I R_o6 (St.mk (look [(0, (s 0)), (8, (s 8)), (10, (s 10)), (12, (s 12)), (13, (s 13)), (53, x1)]) (looko ([].map fun n => (n, o n)))) K)) := rfl
theorem g_law03_RateParts_o4_sh {R_o5 : List AOper} {C : Ctx} {I : Nat → Prop} {s : Nat → V} {o : Nat → Option Ob} {K : St → Prop} : opsB C I (⟨some 50, .mv (.t 11), [], [], (some (2, 49, true)), none⟩ ::
     ⟨some 51, .bin .eql (.t 50) (.c (.d (.int .i64 0))), [], [], (some (2, 49, true)), (some ([0, 8, 10, 12, 13, 49, 51], (some [])))⟩ ::
     R_o5) (St.mk s o) K =
 (guardK (s 49) true
 (demand (binV BinOp.eql (s 11) (V.d (.int .i64 0))) (fun x1 =>
opsB C I R_o5 (St.mk (look [(0, (s 0)), (8, (s 8)), (10, (s 10)), (12, (s 12)), (13, (s 13)), (49, (V.d (D.bool true))), (51, x1)]) (looko ([].map fun n => (n, o n)))) K))
 (opsB C I R_o5 (St.mk (look [(0, (s 0)), (8, (s 8)), (10, (s 10)), (12, (s 12)), (13, (s 13)), (49, (V.d (D.bool false))), (51, (V.tup []))]) (looko ([].map fun n => (n, o n)))) K)
 (opsB C I R_o5 (St.mk (look [(0, (s 0)), (8, (s 8)), (10, (s 10)), (12, (s 12)), (13, (s 13)), (49, (V.tup [])), (51, (V.tup []))]) (looko ([].map fun n => (n, o n)))) K)) := rfl
theorem g_law03_RateParts_c1_sh {C : Ctx} {I : Nat → Prop} {s : Nat → V} {o : Nat → Option Ob} {Q : Ex → St → Prop} : wpB C I (.ret) (St.mk s o) Q =
 (Q .ret (St.mk s o)) := rfl
theorem g_law03_RateParts_c2_sh {R_o4 : List AOper} {R_c1 : ACode} {C : Ctx} {I : Nat → Prop} {s : Nat → V} {o : Nat → Option Ob} {Q : Ex → St → Prop} : wpB C I (.seq (.region [6] (some []) none
    (⟨some 47, .mv (.t 9), [], [], none, none⟩ ::
     ⟨some 48, .bin .eql (.t 47) (.c (.d (.int .i64 0))), [], [], none, none⟩ ::
     ⟨some 49, .mv (.t 48), [], [], none, (some ([0, 8, 10, 11, 12, 13, 49], (some [])))⟩ ::
     R_o4))
 (R_c1)) (St.mk s o) Q =
 (demand (binV BinOp.eql (s 9) (V.d (.int .i64 0))) (fun x1 =>
opsB C I R_o4 (St.mk (look [(0, (s 0)), (8, (s 8)), (10, (s 10)), (11, (s 11)), (12, (s 12)), (13, (s 13)), (49, x1)]) (looko ([].map fun n => (n, o n)))) (fun st => (seqK (fun st => wpB C I R_c1 st Q) Q) .normal (St.trim st [6] (some []))))) := rfl
theorem g_law03_RateParts_c3_sh {R_c2 : ACode} {C : Ctx} {I : Nat → Prop} {s : Nat → V} {o : Nat → Option Ob} {Q : Ex → St → Prop} : wpB C I (.seq (.region [0, 8, 9, 10, 11, 12, 13] (some []) none
    [⟨some 42, .mv (.t 0), [], [], none, none⟩,
     ⟨some 43, .mv (.t 7), [], [], none, none⟩,
     ⟨some 44, .call 82 [(.t 42), (.c (.d (.int .i64 10000))), (.t 43)], [], [], none, none⟩,
     ⟨some 41, .mv (.t 44), [], [], none, none⟩,
     ⟨some 45, .ext (.t 41) 0, [], [], none, none⟩,
     ⟨some 46, .ext (.t 41) 1, [], [], none, none⟩,
     ⟨some 12, .mv (.t 45), [], [], none, none⟩,
     ⟨some 13, .mv (.t 46), [], [], none, none⟩])
 (R_c2)) (St.mk s o) Q =
 (callK C I (St.mk (upd (upd s 42 (s 0)) 43 (s 7)) o) (some 44) 82 [(s 0), (V.d (.int .i64 10000)), (s 7)] (fun r1 or1 =>
demand (extV r1 0) (fun x2 =>
demand (extV r1 1) (fun x3 =>
wpB C I R_c2 (St.mk (look [(0, (s 0)), (8, (s 8)), (9, (s 9)), (10, (s 10)), (11, (s 11)), (12, x2), (13, x3)]) (looko ([].map fun n => (n, or1 n)))) Q)))) := rfl
theorem g_law03_RateParts_c4_sh {R_c3 : ACode} {C : Ctx} {I : Nat → Prop} {s : Nat → V} {o : Nat → Option Ob} {Q : Ex → St → Prop} : wpB C I (.seq (.region [0, 7, 8, 9, 10, 11] (some []) none
    [⟨some 36, .mv (.t 0), [], [], none, none⟩,
     ⟨some 37, .mv (.t 7), [], [], none, none⟩,
     ⟨some 38, .call 82 [(.t 36), (.c (.d (.int .i64 0))), (.t 37)], [], [], none, none⟩,
     ⟨some 35, .mv (.t 38), [], [], none, none⟩,
     ⟨some 39, .ext (.t 35) 0, [], [], none, none⟩,
     ⟨some 40, .ext (.t 35) 1, [], [], none, none⟩,
     ⟨some 10, .mv (.t 39), [], [], none, none⟩,
     ⟨some 11, .mv (.t 40), [], [], none, none⟩])
 (R_c3)) (St.mk s o) Q =
 (callK C I (St.mk (upd (upd s 36 (s 0)) 37 (s 7)) o) (some 38) 82 [(s 0), (V.d (.int .i64 0)), (s 7)] (fun r1 or1 =>
demand (extV r1 0) (fun x2 =>
demand (extV r1 1) (fun x3 =>
wpB C I R_c3 (St.mk (look [(0, (s 0)), (7, (s 7)), (8, (s 8)), (9, (s 9)), (10, x2), (11, x3)]) (looko ([].map fun n => (n, or1 n)))) Q)))) := rfl
theorem g_law03_RateParts_c5_sh {R_c4 : ACode} {C : Ctx} {I : Nat → Prop} {s : Nat → V} {o : Nat → Option Ob} {Q : Ex → St → Prop} : wpB C I (.seq (.region [0, 7, 8, 9] (some []) none
    [⟨some 29, .mv (.t 0), [], [], none, none⟩,
     ⟨some 30, .mv (.t 1), [], [], none, none⟩,
     ⟨some 31, .mv (.t 7), [], [], none, none⟩,
     ⟨some 32, .call 82 [(.t 29), (.t 30), (.t 31)], [], [], none, none⟩,
     ⟨some 28, .mv (.t 32), [], [], none, none⟩,
     ⟨some 33, .ext (.t 28) 0, [], [], none, none⟩,
     ⟨some 34, .ext (.t 28) 1, [], [], none, none⟩,
     ⟨some 8, .mv (.t 33), [], [], none, none⟩,
     ⟨some 9, .mv (.t 34), [], [], none, none⟩])
 (R_c4)) (St.mk s o) Q =
 (callK C I (St.mk (upd (upd (upd s 29 (s 0)) 30 (s 1)) 31 (s 7)) o) (some 32) 82 [(s 0), (s 1), (s 7)] (fun r1 or1 =>
demand (extV r1 0) (fun x2 =>
demand (extV r1 1) (fun x3 =>
wpB C I R_c4 (St.mk (look [(0, (s 0)), (7, (s 7)), (8, x2), (9, x3)]) (looko ([].map fun n => (n, or1 n)))) Q)))) := rfl
theorem g_law03_RateParts_c6_sh {R_c5 : ACode} {C : Ctx} {I : Nat → Prop} {s : Nat → V} {o : Nat → Option Ob} {Q : Ex → St → Prop} : wpB C I (.seq (.region [0, 1, 7] (some []) none
    [⟨some 25, .mv (.t 2), [], [], none, none⟩,
     ⟨some 26, .bin .rem (.t 25) (.c (.d (.int .u8 4))), [], [], none, none⟩,
     ⟨some 27, .conv .i64 (.t 26), [], [], none, none⟩,
     ⟨some 7, .mv (.t 27), [], [], none, none⟩])
 (R_c5)) (St.mk s o) Q =
 (demand (binV BinOp.rem (s 2) (V.d (.int .u8 4))) (fun x1 =>
demand (convV IntKind.i64 x1) (fun x2 =>
wpB C I R_c5 (St.mk (look [(0, (s 0)), (1, (s 1)), (7, x2)]) (looko ([].map fun n => (n, o n)))) Q))) := rfl
theorem g_law03_RateParts_code_sh {R_o0 : List AOper} {R_c0 : ACode} {R_c6 : ACode} {C : Ctx} {I : Nat → Prop} {s : Nat → V} {o : Nat → Option Ob} {Q : Ex → St → Prop} : wpB C I (.seq (.region [0, 1, 2] (some []) none
    [⟨some 6, .mv (.c (.d (.bool false))), [], [], none, none⟩])
 (.seq (.seq (.region [0, 1, 2, 23] (some []) none
      (⟨some 14, .mv (.t 0), [], [], none, none⟩ ::
       ⟨some 15, .bin .eql (.t 14) (.c (.d (.int .i64 (-9223372036854775808)))), [], [], none, none⟩ ::
       ⟨some 16, .mv (.t 15), [], [], none, (some ([0, 1, 2, 16], (some [])))⟩ ::
       R_o0))
   (R_c0))
  (R_c6))) (St.mk s o) Q =
 (demand (binV BinOp.eql (s 0) (V.d (.int .i64 (-9223372036854775808)))) (fun x1 =>
opsB C I R_o0 (St.mk (look [(0, (s 0)), (1, (s 1)), (2, (s 2)), (16, x1)]) (looko ([].map fun n => (n, o n)))) (fun st => (seqK (fun st => wpB C I R_c0 st (seqK (fun st => wpB C I R_c6 st Q) Q)) (seqK (fun st => wpB C I R_c6 st Q) Q)) .normal (St.trim st [0, 1, 2, 23] (some []))))) := rfl
theorem g_law03_RateHalves_o11_sh {C : Ctx} {I : Nat → Prop} {s : Nat → V} {o : Nat → Option Ob} {K : St → Prop} : opsB C I [⟨some 82, .pick (.t 80) (.t 81) (.c (.d (.bool false))), [], [], none, none⟩,
     ⟨some 6, .mv (.t 82), [], [], none, none⟩] (St.mk s o) K =
 (demand (pickV (s 80) (s 81) (V.d (.bool false))) (fun x1 =>
K (St.mk (upd (upd s 82 x1) 6 x1) o))) := rfl
theorem g_law03_RateHalves_o10_sh {R_o11 : List AOper} {C : Ctx} {I : Nat → Prop} {s : Nat → V} {o : Nat → Option Ob} {K : St → Prop} : opsB C I (⟨some 81, .call 81 [], [], [], (some (26, 80, true)), (some ([80, 81], (some [])))⟩ ::
     R_o11) (St.mk s o) K =
 (guardK (s 80) true
 (callK C I (St.mk (upd s 80 (V.d (D.bool true))) o) (some 81) 81 [] (fun r1 or1 =>
opsB C I R_o11 (St.mk (look [(80, (V.d (D.bool true))), (81, r1)]) (looko ([].map fun n => (n, or1 n)))) K))
 (opsB C I R_o11 (St.mk (look [(80, (V.d (D.bool false))), (81, (V.tup []))]) (looko ([].map fun n => (n, o n)))) K)
 (opsB C I R_o11 (St.mk (look [(80, (V.tup [])), (81, (V.tup []))]) (looko ([].map fun n => (n, o n)))) K)) := rfl
theorem g_law03_RateHalves_o9_sh {R_o10 : List AOper} {C : Ctx} {I : Nat → Prop} {s : Nat → V} {o : Nat → Option Ob} {K : St → Prop} : opsB C I (⟨some 79, .pick (.t 75) (.t 78) (.c (.d (.bool false))), [], [], none, none⟩ ::
     ⟨some 80, .mv (.t 79), [], [], none, (some ([80], (some [])))⟩ ::
     R_o10) (St.mk s o) K =
 (demand (pickV (s 75) (s 78) (V.d (.bool false))) (fun x1 =>
opsB C I R_o10 (St.mk (look [(80, x1)]) (looko ([].map fun n => (n, o n)))) K)) := rfl
theorem g_law03_RateHalves_o8_sh {R_o9 : List AOper} {C : Ctx} {I : Nat → Prop} {s : Nat → V} {o : Nat → Option Ob} {K : St → Prop} : opsB C I (⟨some 76, .mv (.t 16), [], [], (some (21, 75, true)), none⟩ ::
     ⟨some 77, .mv (.t 14), [], [], (some (21, 75, true)), none⟩ ::
     ⟨some 78, .bin .leq (.t 76) (.t 77), [], [], (some (21, 75, true)), (some ([75, 78], (some [])))⟩ ::
     R_o9) (St.mk s o) K =
 (guardK (s 75) true
 (demand (binV BinOp.leq (s 16) (s 14)) (fun x1 =>
opsB C I R_o9 (St.mk (look [(75, (V.d (D.bool true))), (78, x1)]) (looko ([].map fun n => (n, o n)))) K))
 (opsB C I R_o9 (St.mk (look [(75, (V.d (D.bool false))), (78, (V.tup []))]) (looko ([].map fun n => (n, o n)))) K)
 (opsB C I R_o9 (St.mk (look [(75, (V.tup [])), (78, (V.tup []))]) (looko ([].map fun n => (n, o n)))) K)) := rfl
theorem g_law03_RateHalves_o7_sh {R_o8 : List AOper} {C : Ctx} {I : Nat → Prop} {s : Nat → V} {o : Nat → Option Ob} {K : St → Prop} : opsB C I (⟨some 74, .pick (.t 68) (.t 73) (.c (.d (.bool false))), [], [], none, none⟩ ::
     ⟨some 75, .mv (.t 74), [], [], none, (some ([14, 16, 75], (some [])))⟩ ::
     R_o8) (St.mk s o) K =
 (demand (pickV (s 68) (s 73) (V.d (.bool false))) (fun x1 =>
opsB C I R_o8 (St.mk (look [(14, (s 14)), (16, (s 16)), (75, x1)]) (looko ([].map fun n => (n, o n)))) K)) := rfl
theorem g_law03_RateHalves_o6_sh {R_o7 : List AOper} {C : Ctx} {I : Nat → Prop} {s : Nat → V} {o : Nat → Option Ob} {K : St → Prop} : opsB C I (⟨some 69, .mv (.t 10), [], [], (some (14, 68, true)), none⟩ ::
     ⟨some 70, .mv (.t 12), [], [], (some (14, 68, true)), none⟩ ::
     ⟨some 71, .bin .add (.t 69) (.t 70), [], [], (some (14, 68, true)), none⟩ ::
     ⟨some 72, .mv (.t 7), [], [], (some (14, 68, true)), none⟩ ::
     ⟨some 73, .bin .eql (.t 71) (.t 72), [], [], (some (14, 68, true)), (some ([14, 16, 68, 73], (some [])))⟩ ::
     R_o7) (St.mk s o) K =
 (guardK (s 68) true
 (demand (binV BinOp.add (s 10) (s 12)) (fun x1 =>
demand (binV BinOp.eql x1 (s 7)) (fun x2 =>
opsB C I R_o7 (St.mk (look [(14, (s 14)), (16, (s 16)), (68, (V.d (D.bool true))), (73, x2)]) (looko ([].map fun n => (n, o n)))) K)))
 (opsB C I R_o7 (St.mk (look [(14, (s 14)), (16, (s 16)), (68, (V.d (D.bool false))), (73, (V.tup []))]) (looko ([].map fun n => (n, o n)))) K)
 (opsB C I R_o7 (St.mk (look [(14, (s 14)), (16, (s 16)), (68, (V.tup [])), (73, (V.tup []))]) (looko ([].map fun n => (n, o n)))) K)) := rfl
theorem g_law03_RateHalves_o5_sh {R_o6 : List AOper} {C : Ctx} {I : Nat → Prop} {s : Nat → V} {o : Nat → Option Ob} {K : St → Prop} : opsB C I (⟨some 67, .pick (.t 64) (.t 66) (.c (.d (.bool false))), [], [], none, none⟩ ::
     ⟨some 68, .mv (.t 67), [], [], none, (some ([7, 10, 12, 14, 16, 68], (some [])))⟩ ::
     R_o6) (St.mk s o) K =
 (demand (pickV (s 64) (s 66) (V.d (.bool false))) (fun x1 =>
opsB C I R_o6 (St.mk (look [(7, (s 7)), (10, (s 10)), (12, (s 12)), (14, (s 14)), (16, (s 16)), (68, x1)]) (looko ([].map fun n => (n, o n)))) K)) := rfl
theorem g_law03_RateHalves_o4_sh {R_o5 : List AOper} {C : Ctx} {I : Nat → Prop} {s : Nat → V} {o : Nat → Option Ob} {K : St → Prop} : opsB C I (⟨some 65, .mv (.t 17), [], [], (some (10, 64, true)), none⟩ ::
     ⟨some 66, .bin .eql (.t 65) (.c (.d (.int .i64 0))), [], [], (some (10, 64, true)), (some ([7, 10, 12, 14, 16, 64, 66], (some [])))⟩ ::
     R_o5) (St.mk s o) K =
 (guardK (s 64) true
 (demand (binV BinOp.eql (s 17) (V.d (.int .i64 0))) (fun x1 =>
opsB C I R_o5 (St.mk (look [(7, (s 7)), (10, (s 10)), (12, (s 12)), (14, (s 14)), (16, (s 16)), (64, (V.d (D.bool true))), (66, x1)]) (looko ([].map fun n => (n, o n)))) K))
 (opsB C I R_o5 (St.mk (look [(7, (s 7)), (10, (s 10)), (12, (s 12)), (14, (s 14)), (16, (s 16)), (64, (V.d (D.bool false))), (66, (V.tup []))]) (looko ([].map fun n => (n, o n)))) K)
 (opsB C I R_o5 (St.mk (look [(7, (s 7)), (10, (s 10)), (12, (s 12)), (14, (s 14)), (16, (s 16)), (64, (V.tup [])), (66, (V.tup []))]) (looko ([].map fun n => (n, o n)))) K)) := rfl
theorem g_law03_RateHalves_o3_sh {R_o4 : List AOper} {C : Ctx} {I : Nat → Prop} {s : Nat → V} {o : Nat → Option Ob} {K : St → Prop} : opsB C I (⟨some 63, .pick (.t 60) (.t 62) (.c (.d (.bool false))), [], [], none, none⟩ ::
     ⟨some 64, .mv (.t 63), [], [], none, (some ([7, 10, 12, 14, 16, 17, 64], (some [])))⟩ ::
     R_o4) (St.mk s o) K =
 (demand (pickV (s 60) (s 62) (V.d (.bool false))) (fun x1 =>
opsB C I R_o4 (St.mk (look [(7, (s 7)), (10, (s 10)), (12, (s 12)), (14, (s 14)), (16, (s 16)), (17, (s 17)), (64, x1)]) (looko ([].map fun n => (n, o n)))) K)) := rfl
theorem g_law03_RateHalves_o2_sh {R_o3 : List AOper} {C : Ctx} {I : Nat → Prop} {s : Nat → V} {o : Nat → Option Ob} {K : St → Prop} : opsB C I (⟨some 61, .mv (.t 15), [], [], (some (6, 60, true)), none⟩ ::
     ⟨some 62, .bin .eql (.t 61) (.c (.d (.int .i64 0))), [], [], (some (6, 60, true)), (some ([7, 10, 12, 14, 16, 17, 60, 62], (some [])))⟩ ::
     R_o3) (St.mk s o) K =
 (guardK (s 60) true
 (demand (binV BinOp.eql (s 15) (V.d (.int .i64 0))) (fun x1 =>
opsB C I R_o3 (St.mk (look [(7, (s 7)), (10, (s 10)), (12, (s 12)), (14, (s 14)), (16, (s 16)), (17, (s 17)), (60, (V.d (D.bool true))), (62, x1)]) (looko ([].map fun n => (n, o n)))) K))
 (opsB C I R_o3 (St.mk (look [(7, (s 7)), (10, (s 10)), (12, (s 12)), (14, (s 14)), (16, (s 16)), (17, (s 17)), (60, (V.d (D.bool false))), (62, (V.tup []))]) (looko ([].map fun n => (n, o n)))) K)
 (opsB C I R_o3 (St.mk (look [(7, (s 7)), (10, (s 10)), (12, (s 12)), (14, (s 14)), (16, (s 16)), (17, (s 17)), (60, (V.tup [])), (62, (V.tup []))]) (looko ([].map fun n => (n, o n)))) K)) := rfl
theorem g_law03_RateHalves_o1_sh {R_o2 : List AOper} {C : Ctx} {I : Nat → Prop} {s : Nat → V} {o : Nat → Option Ob} {K : St → Prop} : opsB C I (⟨some 59, .pick (.t 56) (.t 58) (.c (.d (.bool false))), [], [], none, none⟩ ::
     ⟨some 60, .mv (.t 59), [], [], none, (some ([7, 10, 12, 14, 15, 16, 17, 60], (some [])))⟩ ::
     R_o2) (St.mk s o) K =
 (demand (pickV (s 56) (s 58) (V.d (.bool false))) (fun x1 =>
opsB C I R_o2 (St.mk (look [(7, (s 7)), (10, (s 10)), (12, (s 12)), (14, (s 14)), (15, (s 15)), (16, (s 16)), (17, (s 17)), (60, x1)]) (looko ([].map fun n => (n, o n)))) K)) := rfl
theorem g_law03_RateHalves_o0_sh {R_o1 : List AOper} {C : Ctx} {I : Nat → Prop} {s : Nat → V} {o : Nat → Option Ob} {K : St → Prop} : opsB C I (⟨some 57, .mv (.t 13), [], [], (some (2, 56, true)), none⟩ ::
     ⟨some 58, .bin .eql (.t 57) (.c (.d (.int .i64 0))), [], [], (some (2, 56, true)), (some ([7, 10, 12, 14, 15, 16, 17, 56, 58], (some [])))⟩ ::
     R_o1) (St.mk s o) K =
 (guardK (s 56) true
 (demand (binV BinOp.eql (s 13) (V.d (.int .i64 0))) (fun x1 =>
opsB C I R_o1 (St.mk (look [(7, (s 7)), (10, (s 10)), (12, (s 12)), (14, (s 14)), (15, (s 15)), (16, (s 16)), (17, (s 17)), (56, (V.d (D.bool true))), (58, x1)]) (looko ([].map fun n => (n, o n)))) K))
 (opsB C I R_o1 (St.mk (look [(7, (s 7)), (10, (s 10)), (12, (s 12)), (14, (s 14)), (15, (s 15)), (16, (s 16)), (17, (s 17)), (56, (V.d (D.bool false))), (58, (V.tup []))]) (looko ([].map fun n => (n, o n)))) K)
 (opsB C I R_o1 (St.mk (look [(7, (s 7)), (10, (s 10)), (12, (s 12)), (14, (s 14)), (15, (s 15)), (16, (s 16)), (17, (s 17)), (56, (V.tup [])), (58, (V.tup []))]) (looko ([].map fun n => (n, o n)))) K)) := rfl
theorem g_law03_RateHalves_c0_sh {C : Ctx} {I : Nat → Prop} {s : Nat → V} {o : Nat → Option Ob} {Q : Ex → St → Prop} : wpB C I (.ret) (St.mk s o) Q =
 (Q .ret (St.mk s o)) := rfl
theorem g_law03_RateHalves_c1_sh {R_o0 : List AOper} {R_c0 : ACode} {C : Ctx} {I : Nat → Prop} {s : Nat → V} {o : Nat → Option Ob} {Q : Ex → St → Prop} : wpB C I (.seq (.region [6] (some []) none
    (⟨some 54, .mv (.t 11), [], [], none, none⟩ ::
     ⟨some 55, .bin .eql (.t 54) (.c (.d (.int .i64 0))), [], [], none, none⟩ ::
     ⟨some 56, .mv (.t 55), [], [], none, (some ([7, 10, 12, 13, 14, 15, 16, 17, 56], (some [])))⟩ ::
     R_o0))
 (R_c0)) (St.mk s o) Q =
 (demand (binV BinOp.eql (s 11) (V.d (.int .i64 0))) (fun x1 =>
opsB C I R_o0 (St.mk (look [(7, (s 7)), (10, (s 10)), (12, (s 12)), (13, (s 13)), (14, (s 14)), (15, (s 15)), (16, (s 16)), (17, (s 17)), (56, x1)]) (looko ([].map fun n => (n, o n)))) (fun st => (seqK (fun st => wpB C I R_c0 st Q) Q) .normal (St.trim st [6] (some []))))) := rfl
theorem g_law03_RateHalves_c2_sh {R_c1 : ACode} {C : Ctx} {I : Nat → Prop} {s : Nat → V} {o : Nat → Option Ob} {Q : Ex → St → Prop} : wpB C I (.seq (.region [7, 10, 11, 12, 13, 14, 15, 16, 17] (some []) none
    [⟨some 49, .mv (.t 7), [], [], none, none⟩,
     ⟨some 50, .mv (.t 8), [], [], none, none⟩,
     ⟨some 51, .call 82 [(.t 49), (.t 50), (.c (.d (.int .i64 3)))], [], [], none, none⟩,
     ⟨some 48, .mv (.t 51), [], [], none, none⟩,
     ⟨some 52, .ext (.t 48) 0, [], [], none, none⟩,
     ⟨some 53, .ext (.t 48) 1, [], [], none, none⟩,
     ⟨some 16, .mv (.t 52), [], [], none, none⟩,
     ⟨some 17, .mv (.t 53), [], [], none, none⟩])
 (R_c1)) (St.mk s o) Q =
 (callK C I (St.mk (upd (upd s 49 (s 7)) 50 (s 8)) o) (some 51) 82 [(s 7), (s 8), (V.d (.int .i64 3))] (fun r1 or1 =>
demand (extV r1 0) (fun x2 =>
demand (extV r1 1) (fun x3 =>
wpB C I R_c1 (St.mk (look [(7, (s 7)), (10, (s 10)), (11, (s 11)), (12, (s 12)), (13, (s 13)), (14, (s 14)), (15, (s 15)), (16, x2), (17, x3)]) (looko ([].map fun n => (n, or1 n)))) Q)))) := rfl
theorem g_law03_RateHalves_c3_sh {R_c2 : ACode} {C : Ctx} {I : Nat → Prop} {s : Nat → V} {o : Nat → Option Ob} {Q : Ex → St → Prop} : wpB C I (.seq (.region [7, 8, 10, 11, 12, 13, 14, 15] (some []) none
    [⟨some 43, .mv (.t 7), [], [], none, none⟩,
     ⟨some 44, .mv (.t 9), [], [], none, none⟩,
     ⟨some 45, .call 82 [(.t 43), (.t 44), (.c (.d (.int .i64 3)))], [], [], none, none⟩,
     ⟨some 42, .mv (.t 45), [], [], none, none⟩,
     ⟨some 46, .ext (.t 42) 0, [], [], none, none⟩,
     ⟨some 47, .ext (.t 42) 1, [], [], none, none⟩,
     ⟨some 14, .mv (.t 46), [], [], none, none⟩,
     ⟨some 15, .mv (.t 47), [], [], none, none⟩])
 (R_c2)) (St.mk s o) Q =
 (callK C I (St.mk (upd (upd s 43 (s 7)) 44 (s 9)) o) (some 45) 82 [(s 7), (s 9), (V.d (.int .i64 3))] (fun r1 or1 =>
demand (extV r1 0) (fun x2 =>
demand (extV r1 1) (fun x3 =>
wpB C I R_c2 (St.mk (look [(7, (s 7)), (8, (s 8)), (10, (s 10)), (11, (s 11)), (12, (s 12)), (13, (s 13)), (14, x2), (15, x3)]) (looko ([].map fun n => (n, or1 n)))) Q)))) := rfl
theorem g_law03_RateHalves_c4_sh {R_c3 : ACode} {C : Ctx} {I : Nat → Prop} {s : Nat → V} {o : Nat → Option Ob} {Q : Ex → St → Prop} : wpB C I (.seq (.region [7, 8, 9, 10, 11, 12, 13] (some []) none
    [⟨some 36, .mv (.t 7), [], [], none, none⟩,
     ⟨some 37, .mv (.t 8), [], [], none, none⟩,
     ⟨some 38, .bin .sub (.c (.d (.int .i64 10000))) (.t 37), [], [], none, none⟩,
     ⟨some 39, .call 82 [(.t 36), (.t 38), (.c (.d (.int .i64 1)))], [], [], none, none⟩,
     ⟨some 35, .mv (.t 39), [], [], none, none⟩,
     ⟨some 40, .ext (.t 35) 0, [], [], none, none⟩,
     ⟨some 41, .ext (.t 35) 1, [], [], none, none⟩,
     ⟨some 12, .mv (.t 40), [], [], none, none⟩,
     ⟨some 13, .mv (.t 41), [], [], none, none⟩])
 (R_c3)) (St.mk s o) Q =
 (demand (binV BinOp.sub (V.d (.int .i64 10000)) (s 8)) (fun x1 =>
callK C I (St.mk (upd (upd (upd s 36 (s 7)) 37 (s 8)) 38 x1) o) (some 39) 82 [(s 7), x1, (V.d (.int .i64 1))] (fun r2 or2 =>
demand (extV r2 0) (fun x3 =>
demand (extV r2 1) (fun x4 =>
wpB C I R_c3 (St.mk (look [(7, (s 7)), (8, (s 8)), (9, (s 9)), (10, (s 10)), (11, (s 11)), (12, x3), (13, x4)]) (looko ([].map fun n => (n, or2 n)))) Q))))) := rfl
theorem g_law03_RateHalves_c5_sh {R_c4 : ACode} {C : Ctx} {I : Nat → Prop} {s : Nat → V} {o : Nat → Option Ob} {Q : Ex → St → Prop} : wpB C I (.seq (.region [7, 8, 9, 10, 11] (some []) none
    [⟨some 30, .mv (.t 7), [], [], none, none⟩,
     ⟨some 31, .mv (.t 8), [], [], none, none⟩,
     ⟨some 32, .call 82 [(.t 30), (.t 31), (.c (.d (.int .i64 0)))], [], [], none, none⟩,
     ⟨some 29, .mv (.t 32), [], [], none, none⟩,
     ⟨some 33, .ext (.t 29) 0, [], [], none, none⟩,
     ⟨some 34, .ext (.t 29) 1, [], [], none, none⟩,
     ⟨some 10, .mv (.t 33), [], [], none, none⟩,
     ⟨some 11, .mv (.t 34), [], [], none, none⟩])
 (R_c4)) (St.mk s o) Q =
 (callK C I (St.mk (upd (upd s 30 (s 7)) 31 (s 8)) o) (some 32) 82 [(s 7), (s 8), (V.d (.int .i64 0))] (fun r1 or1 =>
demand (extV r1 0) (fun x2 =>
demand (extV r1 1) (fun x3 =>
wpB C I R_c4 (St.mk (look [(7, (s 7)), (8, (s 8)), (9, (s 9)), (10, x2), (11, x3)]) (looko ([].map fun n => (n, or1 n)))) Q)))) := rfl
theorem g_law03_RateHalves_c6_sh {R_c5 : ACode} {C : Ctx} {I : Nat → Prop} {s : Nat → V} {o : Nat → Option Ob} {Q : Ex → St → Prop} : wpB C I (.seq (.region [7, 8, 9] (some []) none
    [⟨some 24, .mv (.t 8), [], [], none, none⟩,
     ⟨some 25, .mv (.t 2), [], [], none, none⟩,
     ⟨some 26, .conv .i64 (.t 25), [], [], none, none⟩,
     ⟨some 27, .bin .add (.t 24) (.t 26), [], [], none, none⟩,
     ⟨some 28, .mm false [(.t 27), (.c (.d (.int .i64 10000)))], [], [], none, none⟩,
     ⟨some 9, .mv (.t 28), [], [], none, none⟩])
 (R_c5)) (St.mk s o) Q =
 (demand (convV IntKind.i64 (s 2)) (fun x1 =>
demand (binV BinOp.add (s 8) x1) (fun x2 =>
demand (mmV false [x2, (V.d (.int .i64 10000))]) (fun x3 =>
wpB C I R_c5 (St.mk (look [(7, (s 7)), (8, (s 8)), (9, x3)]) (looko ([].map fun n => (n, o n)))) Q)))) := rfl
theorem g_law03_RateHalves_c7_sh {R_c6 : ACode} {C : Ctx} {I : Nat → Prop} {s : Nat → V} {o : Nat → Option Ob} {Q : Ex → St → Prop} : wpB C I (.seq (.region [2, 7, 8] (some []) none
    [⟨some 21, .mv (.t 1), [], [], none, none⟩,
     ⟨some 22, .bin .rem (.t 21) (.c (.d (.int .u16 10001))), [], [], none, none⟩,
     ⟨some 23, .conv .i64 (.t 22), [], [], none, none⟩,
     ⟨some 8, .mv (.t 23), [], [], none, none⟩])
 (R_c6)) (St.mk s o) Q =
 (demand (binV BinOp.rem (s 1) (V.d (.int .u16 10001))) (fun x1 =>
demand (convV IntKind.i64 x1) (fun x2 =>
wpB C I R_c6 (St.mk (look [(2, (s 2)), (7, (s 7)), (8, x2)]) (looko ([].map fun n => (n, o n)))) Q))) := rfl
theorem g_law03_RateHalves_code_sh {R_c7 : ACode} {C : Ctx} {I : Nat → Prop} {s : Nat → V} {o : Nat → Option Ob} {Q : Ex → St → Prop} : wpB C I (.seq (.region [0, 1, 2] (some []) none
    [⟨some 6, .mv (.c (.d (.bool false))), [], [], none, none⟩])
 (.seq (.region [1, 2, 7] (some []) none
     [⟨some 18, .mv (.t 0), [], [], none, none⟩,
      ⟨some 19, .bin .shr (.t 18) (.c (.d (.int .u64 1))), [], [], none, none⟩,
      ⟨some 20, .conv .i64 (.t 19), [], [], none, none⟩,
      ⟨some 7, .mv (.t 20), [], [], none, none⟩])
  (R_c7))) (St.mk s o) Q =
 (demand (binV BinOp.shr (s 0) (V.d (.int .u64 1))) (fun x1 =>
demand (convV IntKind.i64 x1) (fun x2 =>
wpB C I R_c7 (St.mk (look [(1, (s 1)), (2, (s 2)), (7, x2)]) (looko ([].map fun n => (n, o n)))) Q))) := rfl
theorem g_law03_RateSums_o9_sh {C : Ctx} {I : Nat → Prop} {s : Nat → V} {o : Nat → Option Ob} {K : St → Prop} : opsB C I [⟨some 72, .pick (.t 70) (.t 71) (.c (.d (.bool false))), [], [], none, none⟩,
     ⟨some 6, .mv (.t 72), [], [], none, none⟩] (St.mk s o) K =
 (demand (pickV (s 70) (s 71) (V.d (.bool false))) (fun x1 =>
K (St.mk (upd (upd s 72 x1) 6 x1) o))) := rfl
theorem g_law03_RateSums_o8_sh {R_o9 : List AOper} {C : Ctx} {I : Nat → Prop} {s : Nat → V} {o : Nat → Option Ob} {K : St → Prop} : opsB C I (⟨some 71, .call 81 [], [], [], (some (25, 70, true)), (some ([70, 71], (some [])))⟩ ::
     R_o9) (St.mk s o) K =
 (guardK (s 70) true
 (callK C I (St.mk (upd s 70 (V.d (D.bool true))) o) (some 71) 81 [] (fun r1 or1 =>
opsB C I R_o9 (St.mk (look [(70, (V.d (D.bool true))), (71, r1)]) (looko ([].map fun n => (n, or1 n)))) K))
 (opsB C I R_o9 (St.mk (look [(70, (V.d (D.bool false))), (71, (V.tup []))]) (looko ([].map fun n => (n, o n)))) K)
 (opsB C I R_o9 (St.mk (look [(70, (V.tup [])), (71, (V.tup []))]) (looko ([].map fun n => (n, o n)))) K)) := rfl
theorem g_law03_RateSums_o7_sh {R_o8 : List AOper} {C : Ctx} {I : Nat → Prop} {s : Nat → V} {o : Nat → Option Ob} {K : St → Prop} : opsB C I (⟨some 69, .pick (.t 62) (.t 68) (.c (.d (.bool false))), [], [], none, none⟩ ::
     ⟨some 70, .mv (.t 69), [], [], none, (some ([70], (some [])))⟩ ::
     R_o8) (St.mk s o) K =
 (demand (pickV (s 62) (s 68) (V.d (.bool false))) (fun x1 =>
opsB C I R_o8 (St.mk (look [(70, x1)]) (looko ([].map fun n => (n, o n)))) K)) := rfl
theorem g_law03_RateSums_o6_sh {R_o7 : List AOper} {C : Ctx} {I : Nat → Prop} {s : Nat → V} {o : Nat → Option Ob} {K : St → Prop} : opsB C I (⟨some 63, .mv (.t 14), [], [], (some (17, 62, true)), none⟩ ::
     ⟨some 64, .mv (.t 10), [], [], (some (17, 62, true)), none⟩ ::
     ⟨some 65, .bin .sub (.t 63) (.t 64), [], [], (some (17, 62, true)), none⟩ ::
     ⟨some 66, .mv (.t 12), [], [], (some (17, 62, true)), none⟩ ::
     ⟨some 67, .bin .sub (.t 65) (.t 66), [], [], (some (17, 62, true)), none⟩ ::
     ⟨some 68, .bin .leq (.t 67) (.c (.d (.int .i64 1))), [], [], (some (17, 62, true)), (some ([62, 68], (some [])))⟩ ::
     R_o7) (St.mk s o) K =
 (guardK (s 62) true
 (demand (binV BinOp.sub (s 14) (s 10)) (fun x1 =>
demand (binV BinOp.sub x1 (s 12)) (fun x2 =>
demand (binV BinOp.leq x2 (V.d (.int .i64 1))) (fun x3 =>
opsB C I R_o7 (St.mk (look [(62, (V.d (D.bool true))), (68, x3)]) (looko ([].map fun n => (n, o n)))) K))))
 (opsB C I R_o7 (St.mk (look [(62, (V.d (D.bool false))), (68, (V.tup []))]) (looko ([].map fun n => (n, o n)))) K)
 (opsB C I R_o7 (St.mk (look [(62, (V.tup [])), (68, (V.tup []))]) (looko ([].map fun n => (n, o n)))) K)) := rfl
theorem g_law03_RateSums_o5_sh {R_o6 : List AOper} {C : Ctx} {I : Nat → Prop} {s : Nat → V} {o : Nat → Option Ob} {K : St → Prop} : opsB C I (⟨some 61, .pick (.t 55) (.t 60) (.c (.d (.bool false))), [], [], none, none⟩ ::
     ⟨some 62, .mv (.t 61), [], [], none, (some ([10, 12, 14, 62], (some [])))⟩ ::
     R_o6) (St.mk s o) K =
 (demand (pickV (s 55) (s 60) (V.d (.bool false))) (fun x1 =>
opsB C I R_o6 (St.mk (look [(10, (s 10)), (12, (s 12)), (14, (s 14)), (62, x1)]) (looko ([].map fun n => (n, o n)))) K)) := rfl
theorem g_law03_RateSums_o4_sh {R_o5 : List AOper} {C : Ctx} {I : Nat → Prop} {s : Nat → V} {o : Nat → Option Ob} {K : St → Prop} : opsB C I (⟨some 56, .mv (.t 10), [], [], (some (10, 55, true)), none⟩ ::
     ⟨some 57, .mv (.t 12), [], [], (some (10, 55, true)), none⟩ ::
     ⟨some 58, .bin .add (.t 56) (.t 57), [], [], (some (10, 55, true)), none⟩ ::
     ⟨some 59, .mv (.t 14), [], [], (some (10, 55, true)), none⟩ ::
     ⟨some 60, .bin .leq (.t 58) (.t 59), [], [], (some (10, 55, true)), (some ([10, 12, 14, 55, 60], (some [])))⟩ ::
     R_o5) (St.mk s o) K =
 (guardK (s 55) true
 (demand (binV BinOp.add (s 10) (s 12)) (fun x1 =>
demand (binV BinOp.leq x1 (s 14)) (fun x2 =>
opsB C I R_o5 (St.mk (look [(10, (s 10)), (12, (s 12)), (14, (s 14)), (55, (V.d (D.bool true))), (60, x2)]) (looko ([].map fun n => (n, o n)))) K)))
 (opsB C I R_o5 (St.mk (look [(10, (s 10)), (12, (s 12)), (14, (s 14)), (55, (V.d (D.bool false))), (60, (V.tup []))]) (looko ([].map fun n => (n, o n)))) K)
 (opsB C I R_o5 (St.mk (look [(10, (s 10)), (12, (s 12)), (14, (s 14)), (55, (V.tup [])), (60, (V.tup []))]) (looko ([].map fun n => (n, o n)))) K)) := rfl
theorem g_law03_RateSums_o3_sh {R_o4 : List AOper} {C : Ctx} {I : Nat → Prop} {s : Nat → V} {o : Nat → Option Ob} {K : St → Prop} : opsB C I (⟨some 54, .pick (.t 51) (.t 53) (.c (.d (.bool false))), [], [], none, none⟩ ::
     ⟨some 55, .mv (.t 54), [], [], none, (some ([10, 12, 14, 55], (some [])))⟩ ::
     R_o4) (St.mk s o) K =
 (demand (pickV (s 51) (s 53) (V.d (.bool false))) (fun x1 =>
opsB C I R_o4 (St.mk (look [(10, (s 10)), (12, (s 12)), (14, (s 14)), (55, x1)]) (looko ([].map fun n => (n, o n)))) K)) := rfl
theorem g_law03_RateSums_o2_sh {R_o3 : List AOper} {C : Ctx} {I : Nat → Prop} {s : Nat → V} {o : Nat → Option Ob} {K : St → Prop} : opsB C I (⟨some 52, .mv (.t 15), [], [], (some (6, 51, true)), none⟩ ::
     ⟨some 53, .bin .eql (.t 52) (.c (.d (.int .i64 0))), [], [], (some (6, 51, true)), (some ([10, 12, 14, 51, 53], (some [])))⟩ ::
     R_o3) (St.mk s o) K =
 (guardK (s 51) true
 (demand (binV BinOp.eql (s 15) (V.d (.int .i64 0))) (fun x1 =>
opsB C I R_o3 (St.mk (look [(10, (s 10)), (12, (s 12)), (14, (s 14)), (51, (V.d (D.bool true))), (53, x1)]) (looko ([].map fun n => (n, o n)))) K))
 (opsB C I R_o3 (St.mk (look [(10, (s 10)), (12, (s 12)), (14, (s 14)), (51, (V.d (D.bool false))), (53, (V.tup []))]) (looko ([].map fun n => (n, o n)))) K)
 (opsB C I R_o3 (St.mk (look [(10, (s 10)), (12, (s 12)), (14, (s 14)), (51, (V.tup [])), (53, (V.tup []))]) (looko ([].map fun n => (n, o n)))) K)) := rfl
theorem g_law03_RateSums_o1_sh {R_o2 : List AOper} {C : Ctx} {I : Nat → Prop} {s : Nat → V} {o : Nat → Option Ob} {K : St → Prop} : opsB C I (⟨some 50, .pick (.t 47) (.t 49) (.c (.d (.bool false))), [], [], none, none⟩ ::
     ⟨some 51, .mv (.t 50), [], [], none, (some ([10, 12, 14, 15, 51], (some [])))⟩ ::
     R_o2) (St.mk s o) K =
 (demand (pickV (s 47) (s 49) (V.d (.bool false))) (fun x1 =>
opsB C I R_o2 (St.mk (look [(10, (s 10)), (12, (s 12)), (14, (s 14)), (15, (s 15)), (51, x1)]) (looko ([].map fun n => (n, o n)))) K)) := rfl
theorem g_law03_RateSums_o0_sh {R_o1 : List AOper} {C : Ctx} {I : Nat → Prop} {s : Nat → V} {o : Nat → Option Ob} {K : St → Prop} : opsB C I (⟨some 48, .mv (.t 13), [], [], (some (2, 47, true)), none⟩ ::
     ⟨some 49, .bin .eql (.t 48) (.c (.d (.int .i64 0))), [], [], (some (2, 47, true)), (some ([10, 12, 14, 15, 47, 49], (some [])))⟩ ::
     R_o1) (St.mk s o) K =
 (guardK (s 47) true
 (demand (binV BinOp.eql (s 13) (V.d (.int .i64 0))) (fun x1 =>
opsB C I R_o1 (St.mk (look [(10, (s 10)), (12, (s 12)), (14, (s 14)), (15, (s 15)), (47, (V.d (D.bool true))), (49, x1)]) (looko ([].map fun n => (n, o n)))) K))
 (opsB C I R_o1 (St.mk (look [(10, (s 10)), (12, (s 12)), (14, (s 14)), (15, (s 15)), (47, (V.d (D.bool false))), (49, (V.tup []))]) (looko ([].map fun n => (n, o n)))) K)
 (opsB C I R_o1 (St.mk (look [(10, (s 10)), (12, (s 12)), (14, (s 14)), (15, (s 15)), (47, (V.tup [])), (49, (V.tup []))]) (looko ([].map fun n => (n, o n)))) K)) := rfl
theorem g_law03_RateSums_c0_sh {C : Ctx} {I : Nat → Prop} {s : Nat → V} {o : Nat → Option Ob} {Q : Ex → St → Prop} : wpB C I (.ret) (St.mk s o) Q =
 (Q .ret (St.mk s o)) := rfl
theorem g_law03_RateSums_c1_sh {R_o0 : List AOper} {R_c0 : ACode} {C : Ctx} {I : Nat → Prop} {s : Nat → V} {o : Nat → Option Ob} {Q : Ex → St → Prop} : wpB C I (.seq (.region [6] (some []) none
    (⟨some 45, .mv (.t 11), [], [], none, none⟩ ::
     ⟨some 46, .bin .eql (.t 45) (.c (.d (.int .i64 0))), [], [], none, none⟩ ::
     ⟨some 47, .mv (.t 46), [], [], none, (some ([10, 12, 13, 14, 15, 47], (some [])))⟩ ::
     R_o0))
 (R_c0)) (St.mk s o) Q =
 (demand (binV BinOp.eql (s 11) (V.d (.int .i64 0))) (fun x1 =>
opsB C I R_o0 (St.mk (look [(10, (s 10)), (12, (s 12)), (13, (s 13)), (14, (s 14)), (15, (s 15)), (47, x1)]) (looko ([].map fun n => (n, o n)))) (fun st => (seqK (fun st => wpB C I R_c0 st Q) Q) .normal (St.trim st [6] (some []))))) := rfl
theorem g_law03_RateSums_c2_sh {R_c1 : ACode} {C : Ctx} {I : Nat → Prop} {s : Nat → V} {o : Nat → Option Ob} {Q : Ex → St → Prop} : wpB C I (.seq (.region [10, 11, 12, 13, 14, 15] (some []) none
    [⟨some 38, .mv (.t 7), [], [], none, none⟩,
     ⟨some 39, .mv (.t 8), [], [], none, none⟩,
     ⟨some 40, .mv (.t 9), [], [], none, none⟩,
     ⟨some 41, .bin .add (.t 39) (.t 40), [], [], none, none⟩,
     ⟨some 42, .call 82 [(.t 38), (.t 41), (.c (.d (.int .i64 0)))], [], [], none, none⟩,
     ⟨some 37, .mv (.t 42), [], [], none, none⟩,
     ⟨some 43, .ext (.t 37) 0, [], [], none, none⟩,
     ⟨some 44, .ext (.t 37) 1, [], [], none, none⟩,
     ⟨some 14, .mv (.t 43), [], [], none, none⟩,
     ⟨some 15, .mv (.t 44), [], [], none, none⟩])
 (R_c1)) (St.mk s o) Q =
 (demand (binV BinOp.add (s 8) (s 9)) (fun x1 =>
callK C I (St.mk (upd (upd (upd (upd s 38 (s 7)) 39 (s 8)) 40 (s 9)) 41 x1) o) (some 42) 82 [(s 7), x1, (V.d (.int .i64 0))] (fun r2 or2 =>
demand (extV r2 0) (fun x3 =>
demand (extV r2 1) (fun x4 =>
wpB C I R_c1 (St.mk (look [(10, (s 10)), (11, (s 11)), (12, (s 12)), (13, (s 13)), (14, x3), (15, x4)]) (looko ([].map fun n => (n, or2 n)))) Q))))) := rfl
theorem g_law03_RateSums_c3_sh {R_c2 : ACode} {C : Ctx} {I : Nat → Prop} {s : Nat → V} {o : Nat → Option Ob} {Q : Ex → St → Prop} : wpB C I (.seq (.region [7, 8, 9, 10, 11, 12, 13] (some []) none
    [⟨some 32, .mv (.t 7), [], [], none, none⟩,
     ⟨some 33, .mv (.t 9), [], [], none, none⟩,
     ⟨some 34, .call 82 [(.t 32), (.t 33), (.c (.d (.int .i64 0)))], [], [], none, none⟩,
     ⟨some 31, .mv (.t 34), [], [], none, none⟩,
     ⟨some 35, .ext (.t 31) 0, [], [], none, none⟩,
     ⟨some 36, .ext (.t 31) 1, [], [], none, none⟩,
     ⟨some 12, .mv (.t 35), [], [], none, none⟩,
     ⟨some 13, .mv (.t 36), [], [], none, none⟩])
 (R_c2)) (St.mk s o) Q =
 (callK C I (St.mk (upd (upd s 32 (s 7)) 33 (s 9)) o) (some 34) 82 [(s 7), (s 9), (V.d (.int .i64 0))] (fun r1 or1 =>
demand (extV r1 0) (fun x2 =>
demand (extV r1 1) (fun x3 =>
wpB C I R_c2 (St.mk (look [(7, (s 7)), (8, (s 8)), (9, (s 9)), (10, (s 10)), (11, (s 11)), (12, x2), (13, x3)]) (looko ([].map fun n => (n, or1 n)))) Q)))) := rfl
theorem g_law03_RateSums_c4_sh {R_c3 : ACode} {C : Ctx} {I : Nat → Prop} {s : Nat → V} {o : Nat → Option Ob} {Q : Ex → St → Prop} : wpB C I (.seq (.region [7, 8, 9, 10, 11] (some []) none
    [⟨some 26, .mv (.t 7), [], [], none, none⟩,
     ⟨some 27, .mv (.t 8), [], [], none, none⟩,
     ⟨some 28, .call 82 [(.t 26), (.t 27), (.c (.d (.int .i64 0)))], [], [], none, none⟩,
     ⟨some 25, .mv (.t 28), [], [], none, none⟩,
     ⟨some 29, .ext (.t 25) 0, [], [], none, none⟩,
     ⟨some 30, .ext (.t 25) 1, [], [], none, none⟩,
     ⟨some 10, .mv (.t 29), [], [], none, none⟩,
     ⟨some 11, .mv (.t 30), [], [], none, none⟩])
 (R_c3)) (St.mk s o) Q =
 (callK C I (St.mk (upd (upd s 26 (s 7)) 27 (s 8)) o) (some 28) 82 [(s 7), (s 8), (V.d (.int .i64 0))] (fun r1 or1 =>
demand (extV r1 0) (fun x2 =>
demand (extV r1 1) (fun x3 =>
wpB C I R_c3 (St.mk (look [(7, (s 7)), (8, (s 8)), (9, (s 9)), (10, x2), (11, x3)]) (looko ([].map fun n => (n, or1 n)))) Q)))) := rfl
theorem g_law03_RateSums_c5_sh {R_c4 : ACode} {C : Ctx} {I : Nat → Prop} {s : Nat → V} {o : Nat → Option Ob} {Q : Ex → St → Prop} : wpB C I (.seq (.region [7, 8, 9] (some []) none
    [⟨some 22, .mv (.t 2), [], [], none, none⟩,
     ⟨some 23, .bin .rem (.t 22) (.c (.d (.int .u16 5001))), [], [], none, none⟩,
     ⟨some 24, .conv .i64 (.t 23), [], [], none, none⟩,
     ⟨some 9, .mv (.t 24), [], [], none, none⟩])
 (R_c4)) (St.mk s o) Q =
 (demand (binV BinOp.rem (s 2) (V.d (.int .u16 5001))) (fun x1 =>
demand (convV IntKind.i64 x1) (fun x2 =>
wpB C I R_c4 (St.mk (look [(7, (s 7)), (8, (s 8)), (9, x2)]) (looko ([].map fun n => (n, o n)))) Q))) := rfl
theorem g_law03_RateSums_c6_sh {R_c5 : ACode} {C : Ctx} {I : Nat → Prop} {s : Nat → V} {o : Nat → Option Ob} {Q : Ex → St → Prop} : wpB C I (.seq (.region [2, 7, 8] (some []) none
    [⟨some 19, .mv (.t 1), [], [], none, none⟩,
     ⟨some 20, .bin .rem (.t 19) (.c (.d (.int .u16 5001))), [], [], none, none⟩,
     ⟨some 21, .conv .i64 (.t 20), [], [], none, none⟩,
     ⟨some 8, .mv (.t 21), [], [], none, none⟩])
 (R_c5)) (St.mk s o) Q =
 (demand (binV BinOp.rem (s 1) (V.d (.int .u16 5001))) (fun x1 =>
demand (convV IntKind.i64 x1) (fun x2 =>
wpB C I R_c5 (St.mk (look [(2, (s 2)), (7, (s 7)), (8, x2)]) (looko ([].map fun n => (n, o n)))) Q))) := rfl
theorem g_law03_RateSums_code_sh {R_c6 : ACode} {C : Ctx} {I : Nat → Prop} {s : Nat → V} {o : Nat → Option Ob} {Q : Ex → St → Prop} : wpB C I (.seq (.region [0, 1, 2] (some []) none
    [⟨some 6, .mv (.c (.d (.bool false))), [], [], none, none⟩])
 (.seq (.region [1, 2, 7] (some []) none
     [⟨some 16, .mv (.t 0), [], [], none, none⟩,
      ⟨some 17, .bin .shr (.t 16) (.c (.d (.int .u64 1))), [], [], none, none⟩,
      ⟨some 18, .conv .i64 (.t 17), [], [], none, none⟩,
      ⟨some 7, .mv (.t 18), [], [], none, none⟩])
  (R_c6))) (St.mk s o) Q =
 (demand (binV BinOp.shr (s 0) (V.d (.int .u64 1))) (fun x1 =>
demand (convV IntKind.i64 x1) (fun x2 =>
wpB C I R_c6 (St.mk (look [(1, (s 1)), (2, (s 2)), (7, x2)]) (looko ([].map fun n => (n, o n)))) Q))) := rfl
theorem g_law03_RateAll_o13_sh {C : Ctx} {I : Nat → Prop} {s : Nat → V} {o : Nat → Option Ob} {K : St → Prop} : opsB C I [⟨some 90, .pick (.t 88) (.t 89) (.c (.d (.bool false))), [], [], none, none⟩,
     ⟨some 6, .mv (.t 90), [], [], none, none⟩] (St.mk s o) K =
 (demand (pickV (s 88) (s 89) (V.d (.bool false))) (fun x1 =>
K (St.mk (upd (upd s 90 x1) 6 x1) o))) := rfl
theorem g_law03_RateAll_o12_sh {R_o13 : List AOper} {C : Ctx} {I : Nat → Prop} {s : Nat → V} {o : Nat → Option Ob} {K : St → Prop} : opsB C I (⟨some 89, .call 81 [], [], [], (some (30, 88, true)), (some ([88, 89], (some [])))⟩ ::
     R_o13) (St.mk s o) K =
 (guardK (s 88) true
 (callK C I (St.mk (upd s 88 (V.d (D.bool true))) o) (some 89) 81 [] (fun r1 or1 =>
opsB C I R_o13 (St.mk (look [(88, (V.d (D.bool true))), (89, r1)]) (looko ([].map fun n => (n, or1 n)))) K))
 (opsB C I R_o13 (St.mk (look [(88, (V.d (D.bool false))), (89, (V.tup []))]) (looko ([].map fun n => (n, o n)))) K)
 (opsB C I R_o13 (St.mk (look [(88, (V.tup [])), (89, (V.tup []))]) (looko ([].map fun n => (n, o n)))) K)) := rfl
theorem g_law03_RateAll_o11_sh {R_o12 : List AOper} {C : Ctx} {I : Nat → Prop} {s : Nat → V} {o : Nat → Option Ob} {K : St → Prop} : opsB C I (⟨some 87, .pick (.t 84) (.t 86) (.c (.d (.bool false))), [], [], none, none⟩ ::
     ⟨some 88, .mv (.t 87), [], [], none, (some ([88], (some [])))⟩ ::
     R_o12) (St.mk s o) K =
 (demand (pickV (s 84) (s 86) (V.d (.bool false))) (fun x1 =>
opsB C I R_o12 (St.mk (look [(88, x1)]) (looko ([].map fun n => (n, o n)))) K)) := rfl
theorem g_law03_RateAll_o10_sh {R_o11 : List AOper} {C : Ctx} {I : Nat → Prop} {s : Nat → V} {o : Nat → Option Ob} {K : St → Prop} : opsB C I (⟨some 85, .mv (.t 17), [], [], (some (26, 84, true)), none⟩ ::
     ⟨some 86, .bin .eql (.t 85) (.c (.d (.int .i64 0))), [], [], (some (26, 84, true)), (some ([84, 86], (some [])))⟩ ::
     R_o11) (St.mk s o) K =
 (guardK (s 84) true
 (demand (binV BinOp.eql (s 17) (V.d (.int .i64 0))) (fun x1 =>
opsB C I R_o11 (St.mk (look [(84, (V.d (D.bool true))), (86, x1)]) (looko ([].map fun n => (n, o n)))) K))
 (opsB C I R_o11 (St.mk (look [(84, (V.d (D.bool false))), (86, (V.tup []))]) (looko ([].map fun n => (n, o n)))) K)
 (opsB C I R_o11 (St.mk (look [(84, (V.tup [])), (86, (V.tup []))]) (looko ([].map fun n => (n, o n)))) K)) := rfl
theorem g_law03_RateAll_o9_sh {R_o10 : List AOper} {C : Ctx} {I : Nat → Prop} {s : Nat → V} {o : Nat → Option Ob} {K : St → Prop} : opsB C I (⟨some 83, .pick (.t 80) (.t 82) (.c (.d (.bool false))), [], [], none, none⟩ ::
     ⟨some 84, .mv (.t 83), [], [], none, (some ([17, 84], (some [])))⟩ ::
     R_o10) (St.mk s o) K =
 (demand (pickV (s 80) (s 82) (V.d (.bool false))) (fun x1 =>
opsB C I R_o10 (St.mk (look [(17, (s 17)), (84, x1)]) (looko ([].map fun n => (n, o n)))) K)) := rfl
theorem g_law03_RateAll_o8_sh {R_o9 : List AOper} {C : Ctx} {I : Nat → Prop} {s : Nat → V} {o : Nat → Option Ob} {K : St → Prop} : opsB C I (⟨some 81, .mv (.t 15), [], [], (some (22, 80, true)), none⟩ ::
     ⟨some 82, .bin .eql (.t 81) (.c (.d (.int .i64 0))), [], [], (some (22, 80, true)), (some ([17, 80, 82], (some [])))⟩ ::
     R_o9) (St.mk s o) K =
 (guardK (s 80) true
 (demand (binV BinOp.eql (s 15) (V.d (.int .i64 0))) (fun x1 =>
opsB C I R_o9 (St.mk (look [(17, (s 17)), (80, (V.d (D.bool true))), (82, x1)]) (looko ([].map fun n => (n, o n)))) K))
 (opsB C I R_o9 (St.mk (look [(17, (s 17)), (80, (V.d (D.bool false))), (82, (V.tup []))]) (looko ([].map fun n => (n, o n)))) K)
 (opsB C I R_o9 (St.mk (look [(17, (s 17)), (80, (V.tup [])), (82, (V.tup []))]) (looko ([].map fun n => (n, o n)))) K)) := rfl
theorem g_law03_RateAll_o7_sh {R_o8 : List AOper} {C : Ctx} {I : Nat → Prop} {s : Nat → V} {o : Nat → Option Ob} {K : St → Prop} : opsB C I (⟨some 79, .pick (.t 76) (.t 78) (.c (.d (.bool false))), [], [], none, none⟩ ::
     ⟨some 80, .mv (.t 79), [], [], none, (some ([15, 17, 80], (some [])))⟩ ::
     R_o8) (St.mk s o) K =
 (demand (pickV (s 76) (s 78) (V.d (.bool false))) (fun x1 =>
opsB C I R_o8 (St.mk (look [(15, (s 15)), (17, (s 17)), (80, x1)]) (looko ([].map fun n => (n, o n)))) K)) := rfl
theorem g_law03_RateAll_o6_sh {R_o7 : List AOper} {C : Ctx} {I : Nat → Prop} {s : Nat → V} {o : Nat → Option Ob} {K : St → Prop} : opsB C I (⟨some 77, .mv (.t 13), [], [], (some (18, 76, true)), none⟩ ::
     ⟨some 78, .bin .eql (.t 77) (.c (.d (.int .i64 0))), [], [], (some (18, 76, true)), (some ([15, 17, 76, 78], (some [])))⟩ ::
     R_o7) (St.mk s o) K =
 (guardK (s 76) true
 (demand (binV BinOp.eql (s 13) (V.d (.int .i64 0))) (fun x1 =>
opsB C I R_o7 (St.mk (look [(15, (s 15)), (17, (s 17)), (76, (V.d (D.bool true))), (78, x1)]) (looko ([].map fun n => (n, o n)))) K))
 (opsB C I R_o7 (St.mk (look [(15, (s 15)), (17, (s 17)), (76, (V.d (D.bool false))), (78, (V.tup []))]) (looko ([].map fun n => (n, o n)))) K)
 (opsB C I R_o7 (St.mk (look [(15, (s 15)), (17, (s 17)), (76, (V.tup [])), (78, (V.tup []))]) (looko ([].map fun n => (n, o n)))) K)) := rfl
theorem g_law03_RateAll_o5_sh {R_o6 : List AOper} {C : Ctx} {I : Nat → Prop} {s : Nat → V} {o : Nat → Option Ob} {K : St → Prop} : opsB C I (⟨some 75, .pick (.t 72) (.t 74) (.c (.d (.bool false))), [], [], none, none⟩ ::
     ⟨some 76, .mv (.t 75), [], [], none, (some ([13, 15, 17, 76], (some [])))⟩ ::
     R_o6) (St.mk s o) K =
 (demand (pickV (s 72) (s 74) (V.d (.bool false))) (fun x1 =>
opsB C I R_o6 (St.mk (look [(13, (s 13)), (15, (s 15)), (17, (s 17)), (76, x1)]) (looko ([].map fun n => (n, o n)))) K)) := rfl
theorem g_law03_RateAll_o4_sh {R_o5 : List AOper} {C : Ctx} {I : Nat → Prop} {s : Nat → V} {o : Nat → Option Ob} {K : St → Prop} : opsB C I (⟨some 73, .mv (.t 11), [], [], (some (14, 72, true)), none⟩ ::
     ⟨some 74, .bin .eql (.t 73) (.c (.d (.int .i64 0))), [], [], (some (14, 72, true)), (some ([13, 15, 17, 72, 74], (some [])))⟩ ::
     R_o5) (St.mk s o) K =
 (guardK (s 72) true
 (demand (binV BinOp.eql (s 11) (V.d (.int .i64 0))) (fun x1 =>
opsB C I R_o5 (St.mk (look [(13, (s 13)), (15, (s 15)), (17, (s 17)), (72, (V.d (D.bool true))), (74, x1)]) (looko ([].map fun n => (n, o n)))) K))
 (opsB C I R_o5 (St.mk (look [(13, (s 13)), (15, (s 15)), (17, (s 17)), (72, (V.d (D.bool false))), (74, (V.tup []))]) (looko ([].map fun n => (n, o n)))) K)
 (opsB C I R_o5 (St.mk (look [(13, (s 13)), (15, (s 15)), (17, (s 17)), (72, (V.tup [])), (74, (V.tup []))]) (looko ([].map fun n => (n, o n)))) K)) := rfl
theorem g_law03_RateAll_o3_sh {R_o4 : List AOper} {C : Ctx} {I : Nat → Prop} {s : Nat → V} {o : Nat → Option Ob} {K : St → Prop} : opsB C I (⟨some 71, .pick (.t 65) (.t 70) (.c (.d (.bool false))), [], [], none, none⟩ ::
     ⟨some 72, .mv (.t 71), [], [], none, (some ([11, 13, 15, 17, 72], (some [])))⟩ ::
     R_o4) (St.mk s o) K =
 (demand (pickV (s 65) (s 70) (V.d (.bool false))) (fun x1 =>
opsB C I R_o4 (St.mk (look [(11, (s 11)), (13, (s 13)), (15, (s 15)), (17, (s 17)), (72, x1)]) (looko ([].map fun n => (n, o n)))) K)) := rfl
theorem g_law03_RateAll_o2_sh {R_o3 : List AOper} {C : Ctx} {I : Nat → Prop} {s : Nat → V} {o : Nat → Option Ob} {K : St → Prop} : opsB C I (⟨some 66, .mv (.t 14), [], [], (some (7, 65, true)), none⟩ ::
     ⟨some 67, .mv (.t 16), [], [], (some (7, 65, true)), none⟩ ::
     ⟨some 68, .bin .add (.t 66) (.t 67), [], [], (some (7, 65, true)), none⟩ ::
     ⟨some 69, .mv (.t 7), [], [], (some (7, 65, true)), none⟩ ::
     ⟨some 70, .bin .eql (.t 68) (.t 69), [], [], (some (7, 65, true)), (some ([11, 13, 15, 17, 65, 70], (some [])))⟩ ::
     R_o3) (St.mk s o) K =
 (guardK (s 65) true
 (demand (binV BinOp.add (s 14) (s 16)) (fun x1 =>
demand (binV BinOp.eql x1 (s 7)) (fun x2 =>
opsB C I R_o3 (St.mk (look [(11, (s 11)), (13, (s 13)), (15, (s 15)), (17, (s 17)), (65, (V.d (D.bool true))), (70, x2)]) (looko ([].map fun n => (n, o n)))) K)))
 (opsB C I R_o3 (St.mk (look [(11, (s 11)), (13, (s 13)), (15, (s 15)), (17, (s 17)), (65, (V.d (D.bool false))), (70, (V.tup []))]) (looko ([].map fun n => (n, o n)))) K)
 (opsB C I R_o3 (St.mk (look [(11, (s 11)), (13, (s 13)), (15, (s 15)), (17, (s 17)), (65, (V.tup [])), (70, (V.tup []))]) (looko ([].map fun n => (n, o n)))) K)) := rfl
theorem g_law03_RateAll_o1_sh {R_o2 : List AOper} {C : Ctx} {I : Nat → Prop} {s : Nat → V} {o : Nat → Option Ob} {K : St → Prop} : opsB C I (⟨some 64, .pick (.t 61) (.t 63) (.c (.d (.bool false))), [], [], none, none⟩ ::
     ⟨some 65, .mv (.t 64), [], [], none, (some ([7, 11, 13, 14, 15, 16, 17, 65], (some [])))⟩ ::
     R_o2) (St.mk s o) K =
 (demand (pickV (s 61) (s 63) (V.d (.bool false))) (fun x1 =>
opsB C I R_o2 (St.mk (look [(7, (s 7)), (11, (s 11)), (13, (s 13)), (14, (s 14)), (15, (s 15)), (16, (s 16)), (17, (s 17)), (65, x1)]) (looko ([].map fun n => (n, o n)))) K)) := rfl
theorem g_law03_RateAll_o0_sh {R_o1 : List AOper} {C : Ctx} {I : Nat → Prop} {s : Nat → V} {o : Nat → Option Ob} {K : St → Prop} : opsB C I (⟨some 62, .mv (.t 12), [], [], (some (3, 61, true)), none⟩ ::
     ⟨some 63, .bin .eql (.t 62) (.c (.d (.int .i64 0))), [], [], (some (3, 61, true)), (some ([7, 11, 13, 14, 15, 16, 17, 61, 63], (some [])))⟩ ::
     R_o1) (St.mk s o) K =
 (guardK (s 61) true
 (demand (binV BinOp.eql (s 12) (V.d (.int .i64 0))) (fun x1 =>
opsB C I R_o1 (St.mk (look [(7, (s 7)), (11, (s 11)), (13, (s 13)), (14, (s 14)), (15, (s 15)), (16, (s 16)), (17, (s 17)), (61, (V.d (D.bool true))), (63, x1)]) (looko ([].map fun n => (n, o n)))) K))
 (opsB C I R_o1 (St.mk (look [(7, (s 7)), (11, (s 11)), (13, (s 13)), (14, (s 14)), (15, (s 15)), (16, (s 16)), (17, (s 17)), (61, (V.d (D.bool false))), (63, (V.tup []))]) (looko ([].map fun n => (n, o n)))) K)
 (opsB C I R_o1 (St.mk (look [(7, (s 7)), (11, (s 11)), (13, (s 13)), (14, (s 14)), (15, (s 15)), (16, (s 16)), (17, (s 17)), (61, (V.tup [])), (63, (V.tup []))]) (looko ([].map fun n => (n, o n)))) K)) := rfl
theorem g_law03_RateAll_c0_sh {C : Ctx} {I : Nat → Prop} {s : Nat → V} {o : Nat → Option Ob} {Q : Ex → St → Prop} : wpB C I (.ret) (St.mk s o) Q =
 (Q .ret (St.mk s o)) := rfl
theorem g_law03_RateAll_c1_sh {R_o0 : List AOper} {R_c0 : ACode} {C : Ctx} {I : Nat → Prop} {s : Nat → V} {o : Nat → Option Ob} {Q : Ex → St → Prop} : wpB C I (.seq (.region [6] (some []) none
    (⟨some 58, .mv (.t 10), [], [], none, none⟩ ::
     ⟨some 59, .mv (.t 7), [], [], none, none⟩ ::
     ⟨some 60, .bin .eql (.t 58) (.t 59), [], [], none, none⟩ ::
     ⟨some 61, .mv (.t 60), [], [], none, (some ([7, 11, 12, 13, 14, 15, 16, 17, 61], (some [])))⟩ ::
     R_o0))
 (R_c0)) (St.mk s o) Q =
 (demand (binV BinOp.eql (s 10) (s 7)) (fun x1 =>
opsB C I R_o0 (St.mk (look [(7, (s 7)), (11, (s 11)), (12, (s 12)), (13, (s 13)), (14, (s 14)), (15, (s 15)), (16, (s 16)), (17, (s 17)), (61, x1)]) (looko ([].map fun n => (n, o n)))) (fun st => (seqK (fun st => wpB C I R_c0 st Q) Q) .normal (St.trim st [6] (some []))))) := rfl
theorem g_law03_RateAll_c2_sh {R_c1 : ACode} {C : Ctx} {I : Nat → Prop} {s : Nat → V} {o : Nat → Option Ob} {Q : Ex → St → Prop} : wpB C I (.seq (.region [7, 10, 11, 12, 13, 14, 15, 16, 17] (some []) none
    [⟨some 50, .mv (.t 7), [], [], none, none⟩,
     ⟨some 51, .mv (.t 8), [], [], none, none⟩,
     ⟨some 52, .mv (.t 9), [], [], none, none⟩,
     ⟨some 53, .bin .sub (.t 51) (.t 52), [], [], none, none⟩,
     ⟨some 54, .mv (.t 8), [], [], none, none⟩,
     ⟨some 55, .call 86 [(.t 50), (.t 53), (.t 54), (.c (.d (.int .i64 1)))], [], [], none, none⟩,
     ⟨some 49, .mv (.t 55), [], [], none, none⟩,
     ⟨some 56, .ext (.t 49) 0, [], [], none, none⟩,
     ⟨some 57, .ext (.t 49) 1, [], [], none, none⟩,
     ⟨some 16, .mv (.t 56), [], [], none, none⟩,
     ⟨some 17, .mv (.t 57), [], [], none, none⟩])
 (R_c1)) (St.mk s o) Q =
 (demand (binV BinOp.sub (s 8) (s 9)) (fun x1 =>
callK C I (St.mk (upd (upd (upd (upd (upd s 50 (s 7)) 51 (s 8)) 52 (s 9)) 53 x1) 54 (s 8)) o) (some 55) 86 [(s 7), x1, (s 8), (V.d (.int .i64 1))] (fun r2 or2 =>
demand (extV r2 0) (fun x3 =>
demand (extV r2 1) (fun x4 =>
wpB C I R_c1 (St.mk (look [(7, (s 7)), (10, (s 10)), (11, (s 11)), (12, (s 12)), (13, (s 13)), (14, (s 14)), (15, (s 15)), (16, x3), (17, x4)]) (looko ([].map fun n => (n, or2 n)))) Q))))) := rfl
theorem g_law03_RateAll_c3_sh {R_c2 : ACode} {C : Ctx} {I : Nat → Prop} {s : Nat → V} {o : Nat → Option Ob} {Q : Ex → St → Prop} : wpB C I (.seq (.region [7, 8, 9, 10, 11, 12, 13, 14, 15] (some []) none
    [⟨some 43, .mv (.t 7), [], [], none, none⟩,
     ⟨some 44, .mv (.t 9), [], [], none, none⟩,
     ⟨some 45, .mv (.t 8), [], [], none, none⟩,
     ⟨some 46, .call 86 [(.t 43), (.t 44), (.t 45), (.c (.d (.int .i64 0)))], [], [], none, none⟩,
     ⟨some 42, .mv (.t 46), [], [], none, none⟩,
     ⟨some 47, .ext (.t 42) 0, [], [], none, none⟩,
     ⟨some 48, .ext (.t 42) 1, [], [], none, none⟩,
     ⟨some 14, .mv (.t 47), [], [], none, none⟩,
     ⟨some 15, .mv (.t 48), [], [], none, none⟩])
 (R_c2)) (St.mk s o) Q =
 (callK C I (St.mk (upd (upd (upd s 43 (s 7)) 44 (s 9)) 45 (s 8)) o) (some 46) 86 [(s 7), (s 9), (s 8), (V.d (.int .i64 0))] (fun r1 or1 =>
demand (extV r1 0) (fun x2 =>
demand (extV r1 1) (fun x3 =>
wpB C I R_c2 (St.mk (look [(7, (s 7)), (8, (s 8)), (9, (s 9)), (10, (s 10)), (11, (s 11)), (12, (s 12)), (13, (s 13)), (14, x2), (15, x3)]) (looko ([].map fun n => (n, or1 n)))) Q)))) := rfl
theorem g_law03_RateAll_c4_sh {R_c3 : ACode} {C : Ctx} {I : Nat → Prop} {s : Nat → V} {o : Nat → Option Ob} {Q : Ex → St → Prop} : wpB C I (.seq (.region [7, 8, 9, 10, 11, 12, 13] (some []) none
    [⟨some 37, .mv (.t 7), [], [], none, none⟩,
     ⟨some 38, .mv (.t 8), [], [], none, none⟩,
     ⟨some 39, .call 86 [(.t 37), (.c (.d (.int .i64 0))), (.t 38), (.c (.d (.int .i64 1)))], [], [], none, none⟩,
     ⟨some 36, .mv (.t 39), [], [], none, none⟩,
     ⟨some 40, .ext (.t 36) 0, [], [], none, none⟩,
     ⟨some 41, .ext (.t 36) 1, [], [], none, none⟩,
     ⟨some 12, .mv (.t 40), [], [], none, none⟩,
     ⟨some 13, .mv (.t 41), [], [], none, none⟩])
 (R_c3)) (St.mk s o) Q =
 (callK C I (St.mk (upd (upd s 37 (s 7)) 38 (s 8)) o) (some 39) 86 [(s 7), (V.d (.int .i64 0)), (s 8), (V.d (.int .i64 1))] (fun r1 or1 =>
demand (extV r1 0) (fun x2 =>
demand (extV r1 1) (fun x3 =>
wpB C I R_c3 (St.mk (look [(7, (s 7)), (8, (s 8)), (9, (s 9)), (10, (s 10)), (11, (s 11)), (12, x2), (13, x3)]) (looko ([].map fun n => (n, or1 n)))) Q)))) := rfl
theorem g_law03_RateAll_c5_sh {R_c4 : ACode} {C : Ctx} {I : Nat → Prop} {s : Nat → V} {o : Nat → Option Ob} {Q : Ex → St → Prop} : wpB C I (.seq (.region [7, 8, 9, 10, 11] (some []) none
    [⟨some 30, .mv (.t 7), [], [], none, none⟩,
     ⟨some 31, .mv (.t 8), [], [], none, none⟩,
     ⟨some 32, .mv (.t 8), [], [], none, none⟩,
     ⟨some 33, .call 86 [(.t 30), (.t 31), (.t 32), (.c (.d (.int .i64 2)))], [], [], none, none⟩,
     ⟨some 29, .mv (.t 33), [], [], none, none⟩,
     ⟨some 34, .ext (.t 29) 0, [], [], none, none⟩,
     ⟨some 35, .ext (.t 29) 1, [], [], none, none⟩,
     ⟨some 10, .mv (.t 34), [], [], none, none⟩,
     ⟨some 11, .mv (.t 35), [], [], none, none⟩])
 (R_c4)) (St.mk s o) Q =
 (callK C I (St.mk (upd (upd (upd s 30 (s 7)) 31 (s 8)) 32 (s 8)) o) (some 33) 86 [(s 7), (s 8), (s 8), (V.d (.int .i64 2))] (fun r1 or1 =>
demand (extV r1 0) (fun x2 =>
demand (extV r1 1) (fun x3 =>
wpB C I R_c4 (St.mk (look [(7, (s 7)), (8, (s 8)), (9, (s 9)), (10, x2), (11, x3)]) (looko ([].map fun n => (n, or1 n)))) Q)))) := rfl
theorem g_law03_RateAll_c6_sh {R_c5 : ACode} {C : Ctx} {I : Nat → Prop} {s : Nat → V} {o : Nat → Option Ob} {Q : Ex → St → Prop} : wpB C I (.seq (.region [7, 8, 9] (some []) none
    [⟨some 24, .mv (.t 1), [], [], none, none⟩,
     ⟨some 25, .conv .i64 (.t 24), [], [], none, none⟩,
     ⟨some 26, .mv (.t 8), [], [], none, none⟩,
     ⟨some 27, .bin .add (.t 26) (.c (.d (.int .i64 1))), [], [], none, none⟩,
     ⟨some 28, .bin .rem (.t 25) (.t 27), [], [], none, none⟩,
     ⟨some 9, .mv (.t 28), [], [], none, none⟩])
 (R_c5)) (St.mk s o) Q =
 (demand (convV IntKind.i64 (s 1)) (fun x1 =>
demand (binV BinOp.add (s 8) (V.d (.int .i64 1))) (fun x2 =>
demand (binV BinOp.rem x1 x2) (fun x3 =>
wpB C I R_c5 (St.mk (look [(7, (s 7)), (8, (s 8)), (9, x3)]) (looko ([].map fun n => (n, o n)))) Q)))) := rfl
theorem g_law03_RateAll_code_sh {R_c6 : ACode} {C : Ctx} {I : Nat → Prop} {s : Nat → V} {o : Nat → Option Ob} {Q : Ex → St → Prop} : wpB C I (.seq (.region [0, 1, 2] (some []) none
    [⟨some 6, .mv (.c (.d (.bool false))), [], [], none, none⟩])
 (.seq (.region [1, 7, 8] (some []) none
     [⟨some 18, .mv (.t 0), [], [], none, none⟩,
      ⟨some 19, .bin .shr (.t 18) (.c (.d (.int .u64 1))), [], [], none, none⟩,
      ⟨some 20, .conv .i64 (.t 19), [], [], none, none⟩,
      ⟨some 21, .mv (.t 2), [], [], none, none⟩,
      ⟨some 22, .conv .i64 (.t 21), [], [], none, none⟩,
      ⟨some 23, .bin .add (.c (.d (.int .i64 1))) (.t 22), [], [], none, none⟩,
      ⟨some 7, .mv (.t 20), [], [], none, none⟩,
      ⟨some 8, .mv (.t 23), [], [], none, none⟩])
  (R_c6))) (St.mk s o) Q =
 (demand (binV BinOp.shr (s 0) (V.d (.int .u64 1))) (fun x1 =>
demand (convV IntKind.i64 x1) (fun x2 =>
demand (convV IntKind.i64 (s 2)) (fun x3 =>
demand (binV BinOp.add (V.d (.int .i64 1)) x3) (fun x4 =>
wpB C I R_c6 (St.mk (look [(1, (s 1)), (7, x2), (8, x4)]) (looko ([].map fun n => (n, o n)))) Q))))) := rfl
theorem g_law03_RateTexts_o1_sh {C : Ctx} {I : Nat → Prop} {s : Nat → V} {o : Nat → Option Ob} {K : St → Prop} : opsB C I [⟨some 39, .pick (.t 35) (.c (.d (.bool true))) (.t 38), [], [], none, none⟩] (St.mk s o) K =
 (demand (pickV (s 35) (V.d (.bool true)) (s 38)) (fun x1 =>
K (St.mk (upd s 39 x1) o))) := rfl
theorem g_law03_RateTexts_o0_sh {R_o1 : List AOper} {C : Ctx} {I : Nat → Prop} {s : Nat → V} {o : Nat → Option Ob} {K : St → Prop} : opsB C I (⟨some 36, .mv (.t 8), [], [], (some (3, 35, false)), none⟩ ::
     ⟨some 37, .mv (.t 10), [], [], (some (3, 35, false)), none⟩ ::
     ⟨some 38, .beq true (.t 36) (.t 37), [], [], (some (3, 35, false)), (some ([0, 5, 6, 35, 38], (some [])))⟩ ::
     R_o1) (St.mk s o) K =
 (guardK (s 35) false
 (demand (beqV true (s 8) (s 10)) (fun x1 =>
opsB C I R_o1 (St.mk (look [(0, (s 0)), (5, (s 5)), (6, (s 6)), (35, (V.d (D.bool false))), (38, x1)]) (looko ([].map fun n => (n, o n)))) K))
 (opsB C I R_o1 (St.mk (look [(0, (s 0)), (5, (s 5)), (6, (s 6)), (35, (V.d (D.bool true))), (38, (V.tup []))]) (looko ([].map fun n => (n, o n)))) K)
 (opsB C I R_o1 (St.mk (look [(0, (s 0)), (5, (s 5)), (6, (s 6)), (35, (V.tup [])), (38, (V.tup []))]) (looko ([].map fun n => (n, o n)))) K)) := rfl
theorem g_law03_RateTexts_c0_sh {C : Ctx} {I : Nat → Prop} {s : Nat → V} {o : Nat → Option Ob} {Q : Ex → St → Prop} : wpB C I (.cond (.t 39) (.seq (.region [4] (some []) none
     [⟨some 4, .mv (.c (.d (.bool false))), [], [], none, none⟩])
  (.ret))
 (.skip)) (St.mk s o) Q =
 (condK (s 39)
 (Q .ret (St.mk (look [(4, (V.d (.bool false)))]) (looko ([].map fun n => (n, o n)))))
 (Q .normal (St.mk s o))) := rfl
theorem g_law03_RateTexts_o3_sh {C : Ctx} {I : Nat → Prop} {s : Nat → V} {o : Nat → Option Ob} {K : St → Prop} : opsB C I [⟨some 45, .pick (.t 42) (.c (.d (.bool true))) (.t 44), [], [], none, none⟩] (St.mk s o) K =
 (demand (pickV (s 42) (V.d (.bool true)) (s 44)) (fun x1 =>
K (St.mk (upd s 45 x1) o))) := rfl
theorem g_law03_RateTexts_o2_sh {R_o3 : List AOper} {C : Ctx} {I : Nat → Prop} {s : Nat → V} {o : Nat → Option Ob} {K : St → Prop} : opsB C I (⟨some 43, .mv (.t 0), [], [], (some (2, 42, false)), none⟩ ::
     ⟨some 44, .bin .gtr (.t 43) (.c (.d (.int .i64 10000))), [], [], (some (2, 42, false)), (some ([0, 5, 6, 42, 44], (some [])))⟩ ::
     R_o3) (St.mk s o) K =
 (guardK (s 42) false
 (demand (binV BinOp.gtr (s 0) (V.d (.int .i64 10000))) (fun x1 =>
opsB C I R_o3 (St.mk (look [(0, (s 0)), (5, (s 5)), (6, (s 6)), (42, (V.d (D.bool false))), (44, x1)]) (looko ([].map fun n => (n, o n)))) K))
 (opsB C I R_o3 (St.mk (look [(0, (s 0)), (5, (s 5)), (6, (s 6)), (42, (V.d (D.bool true))), (44, (V.tup []))]) (looko ([].map fun n => (n, o n)))) K)
 (opsB C I R_o3 (St.mk (look [(0, (s 0)), (5, (s 5)), (6, (s 6)), (42, (V.tup [])), (44, (V.tup []))]) (looko ([].map fun n => (n, o n)))) K)) := rfl
theorem g_law03_RateTexts_o7_sh {C : Ctx} {I : Nat → Prop} {s : Nat → V} {o : Nat → Option Ob} {K : St → Prop} : opsB C I [⟨some 54, .pick (.t 52) (.t 53) (.c (.d (.bool false))), [], [], none, none⟩,
     ⟨some 4, .mv (.t 54), [], [], none, none⟩] (St.mk s o) K =
 (demand (pickV (s 52) (s 53) (V.d (.bool false))) (fun x1 =>
K (St.mk (upd (upd s 54 x1) 4 x1) o))) := rfl
theorem g_law03_RateTexts_o6_sh {R_o7 : List AOper} {C : Ctx} {I : Nat → Prop} {s : Nat → V} {o : Nat → Option Ob} {K : St → Prop} : opsB C I (⟨some 53, .call 81 [], [], [], (some (6, 52, true)), (some ([52, 53], (some [])))⟩ ::
     R_o7) (St.mk s o) K =
 (guardK (s 52) true
 (callK C I (St.mk (upd s 52 (V.d (D.bool true))) o) (some 53) 81 [] (fun r1 or1 =>
opsB C I R_o7 (St.mk (look [(52, (V.d (D.bool true))), (53, r1)]) (looko ([].map fun n => (n, or1 n)))) K))
 (opsB C I R_o7 (St.mk (look [(52, (V.d (D.bool false))), (53, (V.tup []))]) (looko ([].map fun n => (n, o n)))) K)
 (opsB C I R_o7 (St.mk (look [(52, (V.tup [])), (53, (V.tup []))]) (looko ([].map fun n => (n, o n)))) K)) := rfl
theorem g_law03_RateTexts_o5_sh {R_o6 : List AOper} {C : Ctx} {I : Nat → Prop} {s : Nat → V} {o : Nat → Option Ob} {K : St → Prop} : opsB C I (⟨some 51, .pick (.t 48) (.t 50) (.c (.d (.bool false))), [], [], none, none⟩ ::
     ⟨some 52, .mv (.t 51), [], [], none, (some ([52], (some [])))⟩ ::
     R_o6) (St.mk s o) K =
 (demand (pickV (s 48) (s 50) (V.d (.bool false))) (fun x1 =>
opsB C I R_o6 (St.mk (look [(52, x1)]) (looko ([].map fun n => (n, o n)))) K)) := rfl
theorem g_law03_RateTexts_o4_sh {R_o5 : List AOper} {C : Ctx} {I : Nat → Prop} {s : Nat → V} {o : Nat → Option Ob} {K : St → Prop} : opsB C I (⟨some 49, .mv (.t 6), [], [], (some (2, 48, true)), none⟩ ::
     ⟨some 50, .bin .eql (.t 49) (.c (.d (.int .i64 1))), [], [], (some (2, 48, true)), (some ([48, 50], (some [])))⟩ ::
     R_o5) (St.mk s o) K =
 (guardK (s 48) true
 (demand (binV BinOp.eql (s 6) (V.d (.int .i64 1))) (fun x1 =>
opsB C I R_o5 (St.mk (look [(48, (V.d (D.bool true))), (50, x1)]) (looko ([].map fun n => (n, o n)))) K))
 (opsB C I R_o5 (St.mk (look [(48, (V.d (D.bool false))), (50, (V.tup []))]) (looko ([].map fun n => (n, o n)))) K)
 (opsB C I R_o5 (St.mk (look [(48, (V.tup [])), (50, (V.tup []))]) (looko ([].map fun n => (n, o n)))) K)) := rfl
theorem g_law03_RateTexts_c1_sh {C : Ctx} {I : Nat → Prop} {s : Nat → V} {o : Nat → Option Ob} {Q : Ex → St → Prop} : wpB C I (.ret) (St.mk s o) Q =
 (Q .ret (St.mk s o)) := rfl
theorem g_law03_RateTexts_c2_sh {R_o4 : List AOper} {R_c1 : ACode} {C : Ctx} {I : Nat → Prop} {s : Nat → V} {o : Nat → Option Ob} {Q : Ex → St → Prop} : wpB C I (.cond (.t 45) (.seq (.region [4] (some []) none
     (⟨some 46, .mv (.t 5), [], [], none, none⟩ ::
      ⟨some 47, .bin .eql (.t 46) (.c (.d (.str []))), [], [], none, none⟩ ::
      ⟨some 48, .mv (.t 47), [], [], none, (some ([6, 48], (some [])))⟩ ::
      R_o4))
  (R_c1))
 (.skip)) (St.mk s o) Q =
 (condK (s 45)
 (demand (binV BinOp.eql (s 5) (V.d (.str []))) (fun x1 =>
opsB C I R_o4 (St.mk (look [(6, (s 6)), (48, x1)]) (looko ([].map fun n => (n, o n)))) (fun st => (seqK (fun st => wpB C I R_c1 st Q) Q) .normal (St.trim st [4] (some [])))))
 (Q .normal (St.mk s o))) := rfl
theorem g_law03_RateTexts_o15_sh {C : Ctx} {I : Nat → Prop} {s : Nat → V} {o : Nat → Option Ob} {K : St → Prop} : opsB C I [⟨some 78, .pick (.t 76) (.t 77) (.c (.d (.bool false))), [], [], none, none⟩,
     ⟨some 4, .mv (.t 78), [], [], none, none⟩] (St.mk s o) K =
 (demand (pickV (s 76) (s 77) (V.d (.bool false))) (fun x1 =>
K (St.mk (upd (upd s 78 x1) 4 x1) o))) := rfl
theorem g_law03_RateTexts_o14_sh {R_o15 : List AOper} {C : Ctx} {I : Nat → Prop} {s : Nat → V} {o : Nat → Option Ob} {K : St → Prop} : opsB C I (⟨some 77, .call 81 [], [], [], (some (16, 76, true)), (some ([76, 77], (some [])))⟩ ::
     R_o15) (St.mk s o) K =
 (guardK (s 76) true
 (callK C I (St.mk (upd s 76 (V.d (D.bool true))) o) (some 77) 81 [] (fun r1 or1 =>
opsB C I R_o15 (St.mk (look [(76, (V.d (D.bool true))), (77, r1)]) (looko ([].map fun n => (n, or1 n)))) K))
 (opsB C I R_o15 (St.mk (look [(76, (V.d (D.bool false))), (77, (V.tup []))]) (looko ([].map fun n => (n, o n)))) K)
 (opsB C I R_o15 (St.mk (look [(76, (V.tup [])), (77, (V.tup []))]) (looko ([].map fun n => (n, o n)))) K)) := rfl
theorem g_law03_RateTexts_o13_sh {R_o14 : List AOper} {C : Ctx} {I : Nat → Prop} {s : Nat → V} {o : Nat → Option Ob} {K : St → Prop} : opsB C I (⟨some 75, .pick (.t 73) (.t 74) (.c (.d (.bool false))), [], [], none, none⟩ ::
     ⟨some 76, .mv (.t 75), [], [], none, (some ([76], (some [])))⟩ ::
     R_o14) (St.mk s o) K =
 (demand (pickV (s 73) (s 74) (V.d (.bool false))) (fun x1 =>
opsB C I R_o14 (St.mk (look [(76, x1)]) (looko ([].map fun n => (n, o n)))) K)) := rfl
theorem g_law03_RateTexts_o12_sh {R_o13 : List AOper} {C : Ctx} {I : Nat → Prop} {s : Nat → V} {o : Nat → Option Ob} {K : St → Prop} : opsB C I (⟨some 74, .mv (.t 12), [], [], (some (13, 73, true)), (some ([73, 74], (some [])))⟩ ::
     R_o13) (St.mk s o) K =
 (guardK (s 73) true
 (opsB C I R_o13 (St.mk (look [(73, (V.d (D.bool true))), (74, (s 12))]) (looko ([].map fun n => (n, o n)))) K)
 (opsB C I R_o13 (St.mk (look [(73, (V.d (D.bool false))), (74, (V.tup []))]) (looko ([].map fun n => (n, o n)))) K)
 (opsB C I R_o13 (St.mk (look [(73, (V.tup [])), (74, (V.tup []))]) (looko ([].map fun n => (n, o n)))) K)) := rfl
theorem g_law03_RateTexts_o11_sh {R_o12 : List AOper} {C : Ctx} {I : Nat → Prop} {s : Nat → V} {o : Nat → Option Ob} {K : St → Prop} : opsB C I (⟨some 72, .pick (.t 68) (.t 71) (.c (.d (.bool false))), [], [], none, none⟩ ::
     ⟨some 73, .mv (.t 72), [], [], none, (some ([12, 73], (some [])))⟩ ::
     R_o12) (St.mk s o) K =
 (demand (pickV (s 68) (s 71) (V.d (.bool false))) (fun x1 =>
opsB C I R_o12 (St.mk (look [(12, (s 12)), (73, x1)]) (looko ([].map fun n => (n, o n)))) K)) := rfl
theorem g_law03_RateTexts_o10_sh {R_o11 : List AOper} {C : Ctx} {I : Nat → Prop} {s : Nat → V} {o : Nat → Option Ob} {K : St → Prop} : opsB C I (⟨some 69, .mv (.t 11), [], [], (some (8, 68, true)), none⟩ ::
     ⟨some 70, .mv (.t 0), [], [], (some (8, 68, true)), none⟩ ::
     ⟨some 71, .bin .eql (.t 69) (.t 70), [], [], (some (8, 68, true)), (some ([12, 68, 71], (some [])))⟩ ::
     R_o11) (St.mk s o) K =
 (guardK (s 68) true
 (demand (binV BinOp.eql (s 11) (s 0)) (fun x1 =>
opsB C I R_o11 (St.mk (look [(12, (s 12)), (68, (V.d (D.bool true))), (71, x1)]) (looko ([].map fun n => (n, o n)))) K))
 (opsB C I R_o11 (St.mk (look [(12, (s 12)), (68, (V.d (D.bool false))), (71, (V.tup []))]) (looko ([].map fun n => (n, o n)))) K)
 (opsB C I R_o11 (St.mk (look [(12, (s 12)), (68, (V.tup [])), (71, (V.tup []))]) (looko ([].map fun n => (n, o n)))) K)) := rfl
theorem g_law03_RateTexts_o9_sh {R_o10 : List AOper} {C : Ctx} {I : Nat → Prop} {s : Nat → V} {o : Nat → Option Ob} {K : St → Prop} : opsB C I (⟨some 67, .pick (.t 64) (.t 66) (.c (.d (.bool false))), [], [], none, none⟩ ::
     ⟨some 68, .mv (.t 67), [], [], none, (some ([0, 11, 12, 68], (some [])))⟩ ::
     R_o10) (St.mk s o) K =
 (demand (pickV (s 64) (s 66) (V.d (.bool false))) (fun x1 =>
opsB C I R_o10 (St.mk (look [(0, (s 0)), (11, (s 11)), (12, (s 12)), (68, x1)]) (looko ([].map fun n => (n, o n)))) K)) := rfl
theorem g_law03_RateTexts_o8_sh {R_o9 : List AOper} {C : Ctx} {I : Nat → Prop} {s : Nat → V} {o : Nat → Option Ob} {K : St → Prop} : opsB C I (⟨some 65, .mv (.t 6), [], [], (some (4, 64, true)), none⟩ ::
     ⟨some 66, .bin .eql (.t 65) (.c (.d (.int .i64 0))), [], [], (some (4, 64, true)), (some ([0, 11, 12, 64, 66], (some [])))⟩ ::
     R_o9) (St.mk s o) K =
 (guardK (s 64) true
 (demand (binV BinOp.eql (s 6) (V.d (.int .i64 0))) (fun x1 =>
opsB C I R_o9 (St.mk (look [(0, (s 0)), (11, (s 11)), (12, (s 12)), (64, (V.d (D.bool true))), (66, x1)]) (looko ([].map fun n => (n, o n)))) K))
 (opsB C I R_o9 (St.mk (look [(0, (s 0)), (11, (s 11)), (12, (s 12)), (64, (V.d (D.bool false))), (66, (V.tup []))]) (looko ([].map fun n => (n, o n)))) K)
 (opsB C I R_o9 (St.mk (look [(0, (s 0)), (11, (s 11)), (12, (s 12)), (64, (V.tup [])), (66, (V.tup []))]) (looko ([].map fun n => (n, o n)))) K)) := rfl
theorem g_law03_RateTexts_c3_sh {C : Ctx} {I : Nat → Prop} {s : Nat → V} {o : Nat → Option Ob} {Q : Ex → St → Prop} : wpB C I (.ret) (St.mk s o) Q =
 (Q .ret (St.mk s o)) := rfl
theorem g_law03_RateTexts_c4_sh {R_o8 : List AOper} {R_c3 : ACode} {C : Ctx} {I : Nat → Prop} {s : Nat → V} {o : Nat → Option Ob} {Q : Ex → St → Prop} : wpB C I (.seq (.region [4] (some []) none
    (⟨some 60, .mv (.t 5), [], [], none, none⟩ ::
     ⟨some 61, .mv (.t 0), [], [], none, none⟩ ::
     ⟨some 62, .call 94 [(.t 61)], [], [], none, none⟩ ::
     ⟨some 63, .bin .eql (.t 60) (.t 62), [], [], none, none⟩ ::
     ⟨some 64, .mv (.t 63), [], [], none, (some ([0, 6, 11, 12, 64], (some [])))⟩ ::
     R_o8))
 (R_c3)) (St.mk s o) Q =
 (callK C I (St.mk (upd (upd s 60 (s 5)) 61 (s 0)) o) (some 62) 94 [(s 0)] (fun r1 or1 =>
demand (binV BinOp.eql (s 5) r1) (fun x2 =>
opsB C I R_o8 (St.mk (look [(0, (s 0)), (6, (s 6)), (11, (s 11)), (12, (s 12)), (64, x2)]) (looko ([].map fun n => (n, or1 n)))) (fun st => (seqK (fun st => wpB C I R_c3 st Q) Q) .normal (St.trim st [4] (some [])))))) := rfl
theorem g_law03_RateTexts_c5_sh {R_c4 : ACode} {C : Ctx} {I : Nat → Prop} {s : Nat → V} {o : Nat → Option Ob} {Q : Ex → St → Prop} : wpB C I (.seq (.region [0, 5, 6, 11, 12] (some []) none
    [⟨some 56, .mv (.t 5), [], [], none, none⟩,
     ⟨some 57, .call 92 [(.t 56)], [], [], none, none⟩,
     ⟨some 55, .mv (.t 57), [], [], none, none⟩,
     ⟨some 58, .ext (.t 55) 0, [], [], none, none⟩,
     ⟨some 59, .ext (.t 55) 1, [], [], none, none⟩,
     ⟨some 11, .mv (.t 58), [], [], none, none⟩,
     ⟨some 12, .mv (.t 59), [], [], none, none⟩])
 (R_c4)) (St.mk s o) Q =
 (callK C I (St.mk (upd s 56 (s 5)) o) (some 57) 92 [(s 5)] (fun r1 or1 =>
demand (extV r1 0) (fun x2 =>
demand (extV r1 1) (fun x3 =>
wpB C I R_c4 (St.mk (look [(0, (s 0)), (5, (s 5)), (6, (s 6)), (11, x2), (12, x3)]) (looko ([].map fun n => (n, or1 n)))) Q)))) := rfl
theorem g_law03_RateTexts_c6_sh {R_o2 : List AOper} {R_c2 : ACode} {R_c5 : ACode} {C : Ctx} {I : Nat → Prop} {s : Nat → V} {o : Nat → Option Ob} {Q : Ex → St → Prop} : wpB C I (.seq (.seq (.region [0, 5, 6, 45] (some []) none
     (⟨some 40, .mv (.t 0), [], [], none, none⟩ ::
      ⟨some 41, .bin .lss (.t 40) (.c (.d (.int .i64 0))), [], [], none, none⟩ ::
      ⟨some 42, .mv (.t 41), [], [], none, (some ([0, 5, 6, 42], (some [])))⟩ ::
      R_o2))
  (R_c2))
 (R_c5)) (St.mk s o) Q =
 (demand (binV BinOp.lss (s 0) (V.d (.int .i64 0))) (fun x1 =>
opsB C I R_o2 (St.mk (look [(0, (s 0)), (5, (s 5)), (6, (s 6)), (42, x1)]) (looko ([].map fun n => (n, o n)))) (fun st => (seqK (fun st => wpB C I R_c2 st (seqK (fun st => wpB C I R_c5 st Q) Q)) (seqK (fun st => wpB C I R_c5 st Q) Q)) .normal (St.trim st [0, 5, 6, 45] (some []))))) := rfl
theorem g_law03_RateTexts_c7_sh {R_o0 : List AOper} {R_c0 : ACode} {R_c6 : ACode} {C : Ctx} {I : Nat → Prop} {s : Nat → V} {o : Nat → Option Ob} {Q : Ex → St → Prop} : wpB C I (.seq (.seq (.region [0, 5, 6, 39] (some []) none
     (⟨some 32, .mv (.t 7), [], [], none, none⟩ ::
      ⟨some 33, .mv (.t 9), [], [], none, none⟩ ::
      ⟨some 34, .bin .neq (.t 32) (.t 33), [], [], none, none⟩ ::
      ⟨some 35, .mv (.t 34), [], [], none, (some ([0, 5, 6, 8, 10, 35], (some [])))⟩ ::
      R_o0))
  (R_c0))
 (R_c6)) (St.mk s o) Q =
 (demand (binV BinOp.neq (s 7) (s 9)) (fun x1 =>
opsB C I R_o0 (St.mk (look [(0, (s 0)), (5, (s 5)), (6, (s 6)), (8, (s 8)), (10, (s 10)), (35, x1)]) (looko ([].map fun n => (n, o n)))) (fun st => (seqK (fun st => wpB C I R_c0 st (seqK (fun st => wpB C I R_c6 st Q) Q)) (seqK (fun st => wpB C I R_c6 st Q) Q)) .normal (St.trim st [0, 5, 6, 39] (some []))))) := rfl
theorem g_law03_RateTexts_c8_sh {R_c7 : ACode} {C : Ctx} {I : Nat → Prop} {s : Nat → V} {o : Nat → Option Ob} {Q : Ex → St → Prop} : wpB C I (.seq (.region [0, 5, 6, 7, 8, 9, 10] (some []) none
    [⟨some 28, .mv (.t 1), [], [], none, none⟩,
     ⟨some 29, .call 93 [(.t 28)], [], [], none, none⟩,
     ⟨some 27, .mv (.t 29), [], [], none, none⟩,
     ⟨some 30, .ext (.t 27) 0, [], [], none, none⟩,
     ⟨some 31, .ext (.t 27) 1, [], [], none, none⟩,
     ⟨some 9, .mv (.t 30), [], [], none, none⟩,
     ⟨some 10, .mv (.t 31), [], [], none, none⟩])
 (R_c7)) (St.mk s o) Q =
 (callK C I (St.mk (upd s 28 (s 1)) o) (some 29) 93 [(s 1)] (fun r1 or1 =>
demand (extV r1 0) (fun x2 =>
demand (extV r1 1) (fun x3 =>
wpB C I R_c7 (St.mk (look [(0, (s 0)), (5, (s 5)), (6, (s 6)), (7, (s 7)), (8, (s 8)), (9, x2), (10, x3)]) (looko ([].map fun n => (n, or1 n)))) Q)))) := rfl
theorem g_law03_RateTexts_c9_sh {R_c8 : ACode} {C : Ctx} {I : Nat → Prop} {s : Nat → V} {o : Nat → Option Ob} {Q : Ex → St → Prop} : wpB C I (.seq (.region [0, 1, 5, 6, 7, 8] (some []) none
    [⟨some 23, .mv (.t 1), [], [], none, none⟩,
     ⟨some 24, .call 92 [(.t 23)], [], [], none, none⟩,
     ⟨some 22, .mv (.t 24), [], [], none, none⟩,
     ⟨some 25, .ext (.t 22) 0, [], [], none, none⟩,
     ⟨some 26, .ext (.t 22) 1, [], [], none, none⟩,
     ⟨some 7, .mv (.t 25), [], [], none, none⟩,
     ⟨some 8, .mv (.t 26), [], [], none, none⟩])
 (R_c8)) (St.mk s o) Q =
 (callK C I (St.mk (upd s 23 (s 1)) o) (some 24) 92 [(s 1)] (fun r1 or1 =>
demand (extV r1 0) (fun x2 =>
demand (extV r1 1) (fun x3 =>
wpB C I R_c8 (St.mk (look [(0, (s 0)), (1, (s 1)), (5, (s 5)), (6, (s 6)), (7, x2), (8, x3)]) (looko ([].map fun n => (n, or1 n)))) Q)))) := rfl
theorem g_law03_RateTexts_c10_sh {R_c9 : ACode} {C : Ctx} {I : Nat → Prop} {s : Nat → V} {o : Nat → Option Ob} {Q : Ex → St → Prop} : wpB C I (.seq (.region [0, 1, 5, 6] (some []) none
    [⟨some 18, .mv (.t 0), [], [], none, none⟩,
     ⟨some 19, .call 91 [(.t 18)], [], [], none, none⟩,
     ⟨some 17, .mv (.t 19), [], [], none, none⟩,
     ⟨some 20, .ext (.t 17) 0, [], [], none, none⟩,
     ⟨some 21, .ext (.t 17) 1, [], [], none, none⟩,
     ⟨some 5, .mv (.t 20), [], [], none, none⟩,
     ⟨some 6, .mv (.t 21), [], [], none, none⟩])
 (R_c9)) (St.mk s o) Q =
 (callK C I (St.mk (upd s 18 (s 0)) o) (some 19) 91 [(s 0)] (fun r1 or1 =>
demand (extV r1 0) (fun x2 =>
demand (extV r1 1) (fun x3 =>
wpB C I R_c9 (St.mk (look [(0, (s 0)), (1, (s 1)), (5, x2), (6, x3)]) (looko ([].map fun n => (n, or1 n)))) Q)))) := rfl
theorem g_law03_RateTexts_code_sh {R_c10 : ACode} {C : Ctx} {I : Nat → Prop} {s : Nat → V} {o : Nat → Option Ob} {Q : Ex → St → Prop} : wpB C I (.seq (.region [0, 1] (some []) none
    [⟨some 4, .mv (.c (.d (.bool false))), [], [], none, none⟩])
 (.seq (.seq (.region [0, 1, 15] (some []) none
      [⟨some 13, .mv (.t 1), [], [], none, none⟩,
       ⟨some 14, .lenS (.t 13), [], [], none, none⟩,
       ⟨some 15, .bin .gtr (.t 14) (.c (.d (.int .i64 60))), [], [], none, none⟩])
   (.cond (.t 15) (.seq (.region [4] (some []) none
        [⟨some 16, .call 81 [], [], [], none, none⟩,
         ⟨some 4, .mv (.t 16), [], [], none, none⟩])
     (.ret))
    (.skip)))
  (R_c10))) (St.mk s o) Q =
 (demand (lenSV (s 1)) (fun x1 =>
demand (binV BinOp.gtr x1 (V.d (.int .i64 60))) (fun x2 =>
condK x2
 (callK C I (St.mk (look [(0, (s 0)), (1, (s 1)), (15, x2)]) (looko ([].map fun n => (n, o n)))) (some 16) 81 [] (fun r3 or3 =>
Q .ret (St.mk (look [(4, r3)]) (looko ([].map fun n => (n, or3 n))))))
 (wpB C I R_c10 (St.mk (look [(0, (s 0)), (1, (s 1)), (15, x2)]) (looko ([].map fun n => (n, o n)))) Q)))) := rfl
theorem g_law03_RateOrder_o11_sh {C : Ctx} {I : Nat → Prop} {s : Nat → V} {o : Nat → Option Ob} {K : St → Prop} : opsB C I [⟨some 62, .pick (.t 60) (.t 61) (.c (.d (.bool false))), [], [], none, none⟩,
     ⟨some 4, .mv (.t 62), [], [], none, none⟩] (St.mk s o) K =
 (demand (pickV (s 60) (s 61) (V.d (.bool false))) (fun x1 =>
K (St.mk (upd (upd s 62 x1) 4 x1) o))) := rfl
theorem g_law03_RateOrder_o10_sh {R_o11 : List AOper} {C : Ctx} {I : Nat → Prop} {s : Nat → V} {o : Nat → Option Ob} {K : St → Prop} : opsB C I (⟨some 61, .call 81 [], [], [], (some (33, 60, true)), (some ([60, 61], (some [])))⟩ ::
     R_o11) (St.mk s o) K =
 (guardK (s 60) true
 (callK C I (St.mk (upd s 60 (V.d (D.bool true))) o) (some 61) 81 [] (fun r1 or1 =>
opsB C I R_o11 (St.mk (look [(60, (V.d (D.bool true))), (61, r1)]) (looko ([].map fun n => (n, or1 n)))) K))
 (opsB C I R_o11 (St.mk (look [(60, (V.d (D.bool false))), (61, (V.tup []))]) (looko ([].map fun n => (n, o n)))) K)
 (opsB C I R_o11 (St.mk (look [(60, (V.tup [])), (61, (V.tup []))]) (looko ([].map fun n => (n, o n)))) K)) := rfl
theorem g_law03_RateOrder_o9_sh {R_o10 : List AOper} {C : Ctx} {I : Nat → Prop} {s : Nat → V} {o : Nat → Option Ob} {K : St → Prop} : opsB C I (⟨some 59, .pick (.t 52) (.t 58) (.c (.d (.bool false))), [], [], none, none⟩ ::
     ⟨some 60, .mv (.t 59), [], [], none, (some ([60], (some [])))⟩ ::
     R_o10) (St.mk s o) K =
 (demand (pickV (s 52) (s 58) (V.d (.bool false))) (fun x1 =>
opsB C I R_o10 (St.mk (look [(60, x1)]) (looko ([].map fun n => (n, o n)))) K)) := rfl
theorem g_law03_RateOrder_o8_sh {R_o9 : List AOper} {C : Ctx} {I : Nat → Prop} {s : Nat → V} {o : Nat → Option Ob} {K : St → Prop} : opsB C I (⟨some 53, .mv (.t 7), [], [], (some (25, 52, true)), none⟩ ::
     ⟨some 54, .mv (.t 7), [], [], (some (25, 52, true)), none⟩ ::
     ⟨some 55, .lenS (.t 54), [], [], (some (25, 52, true)), none⟩ ::
     ⟨some 56, .bin .sub (.t 55) (.c (.d (.int .i64 1))), [], [], (some (25, 52, true)), none⟩ ::
     ⟨some 57, .idx (.t 53) (.t 56), [], [], (some (25, 52, true)), none⟩ ::
     ⟨some 58, .bin .eql (.t 57) (.c (.d (.int .u8 37))), [], [], (some (25, 52, true)), (some ([52, 58], (some [])))⟩ ::
     R_o9) (St.mk s o) K =
 (guardK (s 52) true
 (demand (lenSV (s 7)) (fun x1 =>
demand (binV BinOp.sub x1 (V.d (.int .i64 1))) (fun x2 =>
demand (idxV (s 7) x2) (fun x3 =>
demand (binV BinOp.eql x3 (V.d (.int .u8 37))) (fun x4 =>
opsB C I R_o9 (St.mk (look [(52, (V.d (D.bool true))), (58, x4)]) (looko ([].map fun n => (n, o n)))) K)))))
 (opsB C I R_o9 (St.mk (look [(52, (V.d (D.bool false))), (58, (V.tup []))]) (looko ([].map fun n => (n, o n)))) K)
 (opsB C I R_o9 (St.mk (look [(52, (V.tup [])), (58, (V.tup []))]) (looko ([].map fun n => (n, o n)))) K)) := rfl
theorem g_law03_RateOrder_o7_sh {R_o8 : List AOper} {C : Ctx} {I : Nat → Prop} {s : Nat → V} {o : Nat → Option Ob} {K : St → Prop} : opsB C I (⟨some 51, .pick (.t 47) (.t 50) (.c (.d (.bool false))), [], [], none, none⟩ ::
     ⟨some 52, .mv (.t 51), [], [], none, (some ([7, 52], (some [])))⟩ ::
     R_o8) (St.mk s o) K =
 (demand (pickV (s 47) (s 50) (V.d (.bool false))) (fun x1 =>
opsB C I R_o8 (St.mk (look [(7, (s 7)), (52, x1)]) (looko ([].map fun n => (n, o n)))) K)) := rfl
theorem g_law03_RateOrder_o6_sh {R_o7 : List AOper} {C : Ctx} {I : Nat → Prop} {s : Nat → V} {o : Nat → Option Ob} {K : St → Prop} : opsB C I (⟨some 48, .mv (.t 7), [], [], (some (20, 47, true)), none⟩ ::
     ⟨some 49, .lenS (.t 48), [], [], (some (20, 47, true)), none⟩ ::
     ⟨some 50, .bin .leq (.t 49) (.c (.d (.int .i64 7))), [], [], (some (20, 47, true)), (some ([7, 47, 50], (some [])))⟩ ::
     R_o7) (St.mk s o) K =
 (guardK (s 47) true
 (demand (lenSV (s 7)) (fun x1 =>
demand (binV BinOp.leq x1 (V.d (.int .i64 7))) (fun x2 =>
opsB C I R_o7 (St.mk (look [(7, (s 7)), (47, (V.d (D.bool true))), (50, x2)]) (looko ([].map fun n => (n, o n)))) K)))
 (opsB C I R_o7 (St.mk (look [(7, (s 7)), (47, (V.d (D.bool false))), (50, (V.tup []))]) (looko ([].map fun n => (n, o n)))) K)
 (opsB C I R_o7 (St.mk (look [(7, (s 7)), (47, (V.tup [])), (50, (V.tup []))]) (looko ([].map fun n => (n, o n)))) K)) := rfl
theorem g_law03_RateOrder_o5_sh {R_o6 : List AOper} {C : Ctx} {I : Nat → Prop} {s : Nat → V} {o : Nat → Option Ob} {K : St → Prop} : opsB C I (⟨some 46, .pick (.t 42) (.t 45) (.c (.d (.bool false))), [], [], none, none⟩ ::
     ⟨some 47, .mv (.t 46), [], [], none, (some ([7, 47], (some [])))⟩ ::
     R_o6) (St.mk s o) K =
 (demand (pickV (s 42) (s 45) (V.d (.bool false))) (fun x1 =>
opsB C I R_o6 (St.mk (look [(7, (s 7)), (47, x1)]) (looko ([].map fun n => (n, o n)))) K)) := rfl
theorem g_law03_RateOrder_o4_sh {R_o5 : List AOper} {C : Ctx} {I : Nat → Prop} {s : Nat → V} {o : Nat → Option Ob} {K : St → Prop} : opsB C I (⟨some 43, .mv (.t 7), [], [], (some (15, 42, true)), none⟩ ::
     ⟨some 44, .lenS (.t 43), [], [], (some (15, 42, true)), none⟩ ::
     ⟨some 45, .bin .geq (.t 44) (.c (.d (.int .i64 5))), [], [], (some (15, 42, true)), (some ([7, 42, 45], (some [])))⟩ ::
     R_o5) (St.mk s o) K =
 (guardK (s 42) true
 (demand (lenSV (s 7)) (fun x1 =>
demand (binV BinOp.geq x1 (V.d (.int .i64 5))) (fun x2 =>
opsB C I R_o5 (St.mk (look [(7, (s 7)), (42, (V.d (D.bool true))), (45, x2)]) (looko ([].map fun n => (n, o n)))) K)))
 (opsB C I R_o5 (St.mk (look [(7, (s 7)), (42, (V.d (D.bool false))), (45, (V.tup []))]) (looko ([].map fun n => (n, o n)))) K)
 (opsB C I R_o5 (St.mk (look [(7, (s 7)), (42, (V.tup [])), (45, (V.tup []))]) (looko ([].map fun n => (n, o n)))) K)) := rfl
theorem g_law03_RateOrder_o3_sh {R_o4 : List AOper} {C : Ctx} {I : Nat → Prop} {s : Nat → V} {o : Nat → Option Ob} {K : St → Prop} : opsB C I (⟨some 41, .pick (.t 33) (.t 40) (.c (.d (.bool false))), [], [], none, none⟩ ::
     ⟨some 42, .mv (.t 41), [], [], none, (some ([7, 42], (some [])))⟩ ::
     R_o4) (St.mk s o) K =
 (demand (pickV (s 33) (s 40) (V.d (.bool false))) (fun x1 =>
opsB C I R_o4 (St.mk (look [(7, (s 7)), (42, x1)]) (looko ([].map fun n => (n, o n)))) K)) := rfl
theorem g_law03_RateOrder_o2_sh {R_o3 : List AOper} {C : Ctx} {I : Nat → Prop} {s : Nat → V} {o : Nat → Option Ob} {K : St → Prop} : opsB C I (⟨some 34, .mv (.t 7), [], [], (some (6, 33, true)), none⟩ ::
     ⟨some 35, .mv (.t 9), [], [], (some (6, 33, true)), none⟩ ::
     ⟨some 36, .bin .eql (.t 34) (.t 35), [], [], (some (6, 33, true)), none⟩ ::
     ⟨some 37, .mv (.t 5), [], [], (some (6, 33, true)), none⟩ ::
     ⟨some 38, .mv (.t 6), [], [], (some (6, 33, true)), none⟩ ::
     ⟨some 39, .bin .eql (.t 37) (.t 38), [], [], (some (6, 33, true)), none⟩ ::
     ⟨some 40, .beq false (.t 36) (.t 39), [], [], (some (6, 33, true)), (some ([7, 33, 40], (some [])))⟩ ::
     R_o3) (St.mk s o) K =
 (guardK (s 33) true
 (demand (binV BinOp.eql (s 7) (s 9)) (fun x1 =>
demand (binV BinOp.eql (s 5) (s 6)) (fun x2 =>
demand (beqV false x1 x2) (fun x3 =>
opsB C I R_o3 (St.mk (look [(7, (s 7)), (33, (V.d (D.bool true))), (40, x3)]) (looko ([].map fun n => (n, o n)))) K))))
 (opsB C I R_o3 (St.mk (look [(7, (s 7)), (33, (V.d (D.bool false))), (40, (V.tup []))]) (looko ([].map fun n => (n, o n)))) K)
 (opsB C I R_o3 (St.mk (look [(7, (s 7)), (33, (V.tup [])), (40, (V.tup []))]) (looko ([].map fun n => (n, o n)))) K)) := rfl
theorem g_law03_RateOrder_o1_sh {R_o2 : List AOper} {C : Ctx} {I : Nat → Prop} {s : Nat → V} {o : Nat → Option Ob} {K : St → Prop} : opsB C I (⟨some 32, .pick (.t 29) (.t 31) (.c (.d (.bool false))), [], [], none, none⟩ ::
     ⟨some 33, .mv (.t 32), [], [], none, (some ([5, 6, 7, 9, 33], (some [])))⟩ ::
     R_o2) (St.mk s o) K =
 (demand (pickV (s 29) (s 31) (V.d (.bool false))) (fun x1 =>
opsB C I R_o2 (St.mk (look [(5, (s 5)), (6, (s 6)), (7, (s 7)), (9, (s 9)), (33, x1)]) (looko ([].map fun n => (n, o n)))) K)) := rfl
theorem g_law03_RateOrder_o0_sh {R_o1 : List AOper} {C : Ctx} {I : Nat → Prop} {s : Nat → V} {o : Nat → Option Ob} {K : St → Prop} : opsB C I (⟨some 30, .mv (.t 10), [], [], (some (2, 29, true)), none⟩ ::
     ⟨some 31, .bin .eql (.t 30) (.c (.d (.int .i64 0))), [], [], (some (2, 29, true)), (some ([5, 6, 7, 9, 29, 31], (some [])))⟩ ::
     R_o1) (St.mk s o) K =
 (guardK (s 29) true
 (demand (binV BinOp.eql (s 10) (V.d (.int .i64 0))) (fun x1 =>
opsB C I R_o1 (St.mk (look [(5, (s 5)), (6, (s 6)), (7, (s 7)), (9, (s 9)), (29, (V.d (D.bool true))), (31, x1)]) (looko ([].map fun n => (n, o n)))) K))
 (opsB C I R_o1 (St.mk (look [(5, (s 5)), (6, (s 6)), (7, (s 7)), (9, (s 9)), (29, (V.d (D.bool false))), (31, (V.tup []))]) (looko ([].map fun n => (n, o n)))) K)
 (opsB C I R_o1 (St.mk (look [(5, (s 5)), (6, (s 6)), (7, (s 7)), (9, (s 9)), (29, (V.tup [])), (31, (V.tup []))]) (looko ([].map fun n => (n, o n)))) K)) := rfl
theorem g_law03_RateOrder_c0_sh {C : Ctx} {I : Nat → Prop} {s : Nat → V} {o : Nat → Option Ob} {Q : Ex → St → Prop} : wpB C I (.ret) (St.mk s o) Q =
 (Q .ret (St.mk s o)) := rfl
theorem g_law03_RateOrder_c1_sh {R_o0 : List AOper} {R_c0 : ACode} {C : Ctx} {I : Nat → Prop} {s : Nat → V} {o : Nat → Option Ob} {Q : Ex → St → Prop} : wpB C I (.seq (.region [4] (some []) none
    (⟨some 27, .mv (.t 8), [], [], none, none⟩ ::
     ⟨some 28, .bin .eql (.t 27) (.c (.d (.int .i64 0))), [], [], none, none⟩ ::
     ⟨some 29, .mv (.t 28), [], [], none, (some ([5, 6, 7, 9, 10, 29], (some [])))⟩ ::
     R_o0))
 (R_c0)) (St.mk s o) Q =
 (demand (binV BinOp.eql (s 8) (V.d (.int .i64 0))) (fun x1 =>
opsB C I R_o0 (St.mk (look [(5, (s 5)), (6, (s 6)), (7, (s 7)), (9, (s 9)), (10, (s 10)), (29, x1)]) (looko ([].map fun n => (n, o n)))) (fun st => (seqK (fun st => wpB C I R_c0 st Q) Q) .normal (St.trim st [4] (some []))))) := rfl
theorem g_law03_RateOrder_c2_sh {R_c1 : ACode} {C : Ctx} {I : Nat → Prop} {s : Nat → V} {o : Nat → Option Ob} {Q : Ex → St → Prop} : wpB C I (.seq (.region [5, 6, 7, 8, 9, 10] (some []) none
    [⟨some 23, .mv (.t 6), [], [], none, none⟩,
     ⟨some 24, .call 91 [(.t 23)], [], [], none, none⟩,
     ⟨some 22, .mv (.t 24), [], [], none, none⟩,
     ⟨some 25, .ext (.t 22) 0, [], [], none, none⟩,
     ⟨some 26, .ext (.t 22) 1, [], [], none, none⟩,
     ⟨some 9, .mv (.t 25), [], [], none, none⟩,
     ⟨some 10, .mv (.t 26), [], [], none, none⟩])
 (R_c1)) (St.mk s o) Q =
 (callK C I (St.mk (upd s 23 (s 6)) o) (some 24) 91 [(s 6)] (fun r1 or1 =>
demand (extV r1 0) (fun x2 =>
demand (extV r1 1) (fun x3 =>
wpB C I R_c1 (St.mk (look [(5, (s 5)), (6, (s 6)), (7, (s 7)), (8, (s 8)), (9, x2), (10, x3)]) (looko ([].map fun n => (n, or1 n)))) Q)))) := rfl
theorem g_law03_RateOrder_c3_sh {R_c2 : ACode} {C : Ctx} {I : Nat → Prop} {s : Nat → V} {o : Nat → Option Ob} {Q : Ex → St → Prop} : wpB C I (.seq (.region [5, 6, 7, 8] (some []) none
    [⟨some 18, .mv (.t 5), [], [], none, none⟩,
     ⟨some 19, .call 91 [(.t 18)], [], [], none, none⟩,
     ⟨some 17, .mv (.t 19), [], [], none, none⟩,
     ⟨some 20, .ext (.t 17) 0, [], [], none, none⟩,
     ⟨some 21, .ext (.t 17) 1, [], [], none, none⟩,
     ⟨some 7, .mv (.t 20), [], [], none, none⟩,
     ⟨some 8, .mv (.t 21), [], [], none, none⟩])
 (R_c2)) (St.mk s o) Q =
 (callK C I (St.mk (upd s 18 (s 5)) o) (some 19) 91 [(s 5)] (fun r1 or1 =>
demand (extV r1 0) (fun x2 =>
demand (extV r1 1) (fun x3 =>
wpB C I R_c2 (St.mk (look [(5, (s 5)), (6, (s 6)), (7, x2), (8, x3)]) (looko ([].map fun n => (n, or1 n)))) Q)))) := rfl
theorem g_law03_RateOrder_code_sh {R_c3 : ACode} {C : Ctx} {I : Nat → Prop} {s : Nat → V} {o : Nat → Option Ob} {Q : Ex → St → Prop} : wpB C I (.seq (.region [0, 1] (some []) none
    [⟨some 4, .mv (.c (.d (.bool false))), [], [], none, none⟩])
 (.seq (.region [5, 6] (some []) none
     [⟨some 11, .mv (.t 0), [], [], none, none⟩,
      ⟨some 12, .bin .rem (.t 11) (.c (.d (.int .u16 10001))), [], [], none, none⟩,
      ⟨some 13, .conv .i64 (.t 12), [], [], none, none⟩,
      ⟨some 14, .mv (.t 1), [], [], none, none⟩,
      ⟨some 15, .bin .rem (.t 14) (.c (.d (.int .u16 10001))), [], [], none, none⟩,
      ⟨some 16, .conv .i64 (.t 15), [], [], none, none⟩,
      ⟨some 5, .mv (.t 13), [], [], none, none⟩,
      ⟨some 6, .mv (.t 16), [], [], none, none⟩])
  (R_c3))) (St.mk s o) Q =
 (demand (binV BinOp.rem (s 0) (V.d (.int .u16 10001))) (fun x1 =>
demand (convV IntKind.i64 x1) (fun x2 =>
demand (binV BinOp.rem (s 1) (V.d (.int .u16 10001))) (fun x3 =>
demand (convV IntKind.i64 x3) (fun x4 =>
wpB C I R_c3 (St.mk (look [(5, x2), (6, x4)]) (looko ([].map fun n => (n, o n)))) Q))))) := rfl
theorem g_law03_awake_o9_sh {C : Ctx} {I : Nat → Prop} {s : Nat → V} {o : Nat → Option Ob} {K : St → Prop} : opsB C I [⟨some 32, .pick (.t 29) (.t 31) (.c (.d (.bool false))), [], [], none, none⟩,
     ⟨some 0, .mv (.t 32), [], [], none, none⟩] (St.mk s o) K =
 (demand (pickV (s 29) (s 31) (V.d (.bool false))) (fun x1 =>
K (St.mk (upd (upd s 32 x1) 0 x1) o))) := rfl
theorem g_law03_awake_o8_sh {R_o9 : List AOper} {C : Ctx} {I : Nat → Prop} {s : Nat → V} {o : Nat → Option Ob} {K : St → Prop} : opsB C I (⟨some 30, .call 88 [(.c (.d (.int .i64 10001)))], [], [], (some (16, 29, true)), none⟩ ::
     ⟨some 31, .un .not (.t 30), [], [], (some (16, 29, true)), (some ([29, 31], (some [])))⟩ ::
     R_o9) (St.mk s o) K =
 (guardK (s 29) true
 (callK C I (St.mk (upd s 29 (V.d (D.bool true))) o) (some 30) 88 [(V.d (.int .i64 10001))] (fun r1 or1 =>
demand (unV UnOp.not r1) (fun x2 =>
opsB C I R_o9 (St.mk (look [(29, (V.d (D.bool true))), (31, x2)]) (looko ([].map fun n => (n, or1 n)))) K)))
 (opsB C I R_o9 (St.mk (look [(29, (V.d (D.bool false))), (31, (V.tup []))]) (looko ([].map fun n => (n, o n)))) K)
 (opsB C I R_o9 (St.mk (look [(29, (V.tup [])), (31, (V.tup []))]) (looko ([].map fun n => (n, o n)))) K)) := rfl
theorem g_law03_awake_o7_sh {R_o8 : List AOper} {C : Ctx} {I : Nat → Prop} {s : Nat → V} {o : Nat → Option Ob} {K : St → Prop} : opsB C I (⟨some 28, .pick (.t 26) (.t 27) (.c (.d (.bool false))), [], [], none, none⟩ ::
     ⟨some 29, .mv (.t 28), [], [], none, (some ([29], (some [])))⟩ ::
     R_o8) (St.mk s o) K =
 (demand (pickV (s 26) (s 27) (V.d (.bool false))) (fun x1 =>
opsB C I R_o8 (St.mk (look [(29, x1)]) (looko ([].map fun n => (n, o n)))) K)) := rfl
theorem g_law03_awake_o6_sh {R_o7 : List AOper} {C : Ctx} {I : Nat → Prop} {s : Nat → V} {o : Nat → Option Ob} {K : St → Prop} : opsB C I (⟨some 27, .call 88 [(.c (.d (.int .i64 10000)))], [], [], (some (13, 26, true)), (some ([26, 27], (some [])))⟩ ::
     R_o7) (St.mk s o) K =
 (guardK (s 26) true
 (callK C I (St.mk (upd s 26 (V.d (D.bool true))) o) (some 27) 88 [(V.d (.int .i64 10000))] (fun r1 or1 =>
opsB C I R_o7 (St.mk (look [(26, (V.d (D.bool true))), (27, r1)]) (looko ([].map fun n => (n, or1 n)))) K))
 (opsB C I R_o7 (St.mk (look [(26, (V.d (D.bool false))), (27, (V.tup []))]) (looko ([].map fun n => (n, o n)))) K)
 (opsB C I R_o7 (St.mk (look [(26, (V.tup [])), (27, (V.tup []))]) (looko ([].map fun n => (n, o n)))) K)) := rfl
theorem g_law03_awake_o5_sh {R_o6 : List AOper} {C : Ctx} {I : Nat → Prop} {s : Nat → V} {o : Nat → Option Ob} {K : St → Prop} : opsB C I (⟨some 25, .pick (.t 23) (.t 24) (.c (.d (.bool false))), [], [], none, none⟩ ::
     ⟨some 26, .mv (.t 25), [], [], none, (some ([26], (some [])))⟩ ::
     R_o6) (St.mk s o) K =
 (demand (pickV (s 23) (s 24) (V.d (.bool false))) (fun x1 =>
opsB C I R_o6 (St.mk (look [(26, x1)]) (looko ([].map fun n => (n, o n)))) K)) := rfl
theorem g_law03_awake_o4_sh {R_o5 : List AOper} {C : Ctx} {I : Nat → Prop} {s : Nat → V} {o : Nat → Option Ob} {K : St → Prop} : opsB C I (⟨some 24, .mv (.t 4), [], [], (some (10, 23, true)), (some ([23, 24], (some [])))⟩ ::
     R_o5) (St.mk s o) K =
 (guardK (s 23) true
 (opsB C I R_o5 (St.mk (look [(23, (V.d (D.bool true))), (24, (s 4))]) (looko ([].map fun n => (n, o n)))) K)
 (opsB C I R_o5 (St.mk (look [(23, (V.d (D.bool false))), (24, (V.tup []))]) (looko ([].map fun n => (n, o n)))) K)
 (opsB C I R_o5 (St.mk (look [(23, (V.tup [])), (24, (V.tup []))]) (looko ([].map fun n => (n, o n)))) K)) := rfl
theorem g_law03_awake_o3_sh {R_o4 : List AOper} {C : Ctx} {I : Nat → Prop} {s : Nat → V} {o : Nat → Option Ob} {K : St → Prop} : opsB C I (⟨some 22, .pick (.t 19) (.t 21) (.c (.d (.bool false))), [], [], none, none⟩ ::
     ⟨some 23, .mv (.t 22), [], [], none, (some ([4, 23], (some [])))⟩ ::
     R_o4) (St.mk s o) K =
 (demand (pickV (s 19) (s 21) (V.d (.bool false))) (fun x1 =>
opsB C I R_o4 (St.mk (look [(4, (s 4)), (23, x1)]) (looko ([].map fun n => (n, o n)))) K)) := rfl
theorem g_law03_awake_o2_sh {R_o3 : List AOper} {C : Ctx} {I : Nat → Prop} {s : Nat → V} {o : Nat → Option Ob} {K : St → Prop} : opsB C I (⟨some 20, .mv (.t 3), [], [], (some (6, 19, true)), none⟩ ::
     ⟨some 21, .bin .eql (.t 20) (.c (.d (.int .i64 1250))), [], [], (some (6, 19, true)), (some ([4, 19, 21], (some [])))⟩ ::
     R_o3) (St.mk s o) K =
 (guardK (s 19) true
 (demand (binV BinOp.eql (s 3) (V.d (.int .i64 1250))) (fun x1 =>
opsB C I R_o3 (St.mk (look [(4, (s 4)), (19, (V.d (D.bool true))), (21, x1)]) (looko ([].map fun n => (n, o n)))) K))
 (opsB C I R_o3 (St.mk (look [(4, (s 4)), (19, (V.d (D.bool false))), (21, (V.tup []))]) (looko ([].map fun n => (n, o n)))) K)
 (opsB C I R_o3 (St.mk (look [(4, (s 4)), (19, (V.tup [])), (21, (V.tup []))]) (looko ([].map fun n => (n, o n)))) K)) := rfl
theorem g_law03_awake_o1_sh {R_o2 : List AOper} {C : Ctx} {I : Nat → Prop} {s : Nat → V} {o : Nat → Option Ob} {K : St → Prop} : opsB C I (⟨some 18, .pick (.t 15) (.t 17) (.c (.d (.bool false))), [], [], none, none⟩ ::
     ⟨some 19, .mv (.t 18), [], [], none, (some ([3, 4, 19], (some [])))⟩ ::
     R_o2) (St.mk s o) K =
 (demand (pickV (s 15) (s 17) (V.d (.bool false))) (fun x1 =>
opsB C I R_o2 (St.mk (look [(3, (s 3)), (4, (s 4)), (19, x1)]) (looko ([].map fun n => (n, o n)))) K)) := rfl
theorem g_law03_awake_o0_sh {R_o1 : List AOper} {C : Ctx} {I : Nat → Prop} {s : Nat → V} {o : Nat → Option Ob} {K : St → Prop} : opsB C I (⟨some 16, .mv (.t 2), [], [], (some (2, 15, true)), none⟩ ::
     ⟨some 17, .bin .eql (.t 16) (.c (.d (.int .i64 0))), [], [], (some (2, 15, true)), (some ([3, 4, 15, 17], (some [])))⟩ ::
     R_o1) (St.mk s o) K =
 (guardK (s 15) true
 (demand (binV BinOp.eql (s 2) (V.d (.int .i64 0))) (fun x1 =>
opsB C I R_o1 (St.mk (look [(3, (s 3)), (4, (s 4)), (15, (V.d (D.bool true))), (17, x1)]) (looko ([].map fun n => (n, o n)))) K))
 (opsB C I R_o1 (St.mk (look [(3, (s 3)), (4, (s 4)), (15, (V.d (D.bool false))), (17, (V.tup []))]) (looko ([].map fun n => (n, o n)))) K)
 (opsB C I R_o1 (St.mk (look [(3, (s 3)), (4, (s 4)), (15, (V.tup [])), (17, (V.tup []))]) (looko ([].map fun n => (n, o n)))) K)) := rfl
theorem g_law03_awake_c0_sh {C : Ctx} {I : Nat → Prop} {s : Nat → V} {o : Nat → Option Ob} {Q : Ex → St → Prop} : wpB C I (.ret) (St.mk s o) Q =
 (Q .ret (St.mk s o)) := rfl
theorem g_law03_awake_c1_sh {R_o0 : List AOper} {R_c0 : ACode} {C : Ctx} {I : Nat → Prop} {s : Nat → V} {o : Nat → Option Ob} {Q : Ex → St → Prop} : wpB C I (.seq (.region [0] (some []) none
    (⟨some 13, .mv (.t 1), [], [], none, none⟩ ::
     ⟨some 14, .bin .eql (.t 13) (.c (.d (.int .i64 126))), [], [], none, none⟩ ::
     ⟨some 15, .mv (.t 14), [], [], none, (some ([2, 3, 4, 15], (some [])))⟩ ::
     R_o0))
 (R_c0)) (St.mk s o) Q =
 (demand (binV BinOp.eql (s 1) (V.d (.int .i64 126))) (fun x1 =>
opsB C I R_o0 (St.mk (look [(2, (s 2)), (3, (s 3)), (4, (s 4)), (15, x1)]) (looko ([].map fun n => (n, o n)))) (fun st => (seqK (fun st => wpB C I R_c0 st Q) Q) .normal (St.trim st [0] (some []))))) := rfl
theorem g_law03_awake_c2_sh {R_c1 : ACode} {C : Ctx} {I : Nat → Prop} {s : Nat → V} {o : Nat → Option Ob} {Q : Ex → St → Prop} : wpB C I (.seq (.region [1, 2, 3, 4] (some []) none
    [⟨some 10, .call 92 [(.c (.d (.str [49, 50, 46, 53, 48, 37])))], [], [], none, none⟩,
     ⟨some 9, .mv (.t 10), [], [], none, none⟩,
     ⟨some 11, .ext (.t 9) 0, [], [], none, none⟩,
     ⟨some 12, .ext (.t 9) 1, [], [], none, none⟩,
     ⟨some 3, .mv (.t 11), [], [], none, none⟩,
     ⟨some 4, .mv (.t 12), [], [], none, none⟩])
 (R_c1)) (St.mk s o) Q =
 (callK C I (St.mk s o) (some 10) 92 [(V.d (.str [49, 50, 46, 53, 48, 37]))] (fun r1 or1 =>
demand (extV r1 0) (fun x2 =>
demand (extV r1 1) (fun x3 =>
wpB C I R_c1 (St.mk (look [(1, (s 1)), (2, (s 2)), (3, x2), (4, x3)]) (looko ([].map fun n => (n, or1 n)))) Q)))) := rfl
theorem g_law03_awake_code_sh {R_c2 : ACode} {C : Ctx} {I : Nat → Prop} {s : Nat → V} {o : Nat → Option Ob} {Q : Ex → St → Prop} : wpB C I (.seq (.region [] (some []) none
    [⟨some 0, .mv (.c (.d (.bool false))), [], [], none, none⟩])
 (.seq (.region [1, 2] (some []) none
     [⟨some 6, .call 82 [(.c (.d (.int .i64 1005))), (.c (.d (.int .i64 1250))), (.c (.d (.int .i64 3)))], [], [], none, none⟩,
      ⟨some 5, .mv (.t 6), [], [], none, none⟩,
      ⟨some 7, .ext (.t 5) 0, [], [], none, none⟩,
      ⟨some 8, .ext (.t 5) 1, [], [], none, none⟩,
      ⟨some 1, .mv (.t 7), [], [], none, none⟩,
      ⟨some 2, .mv (.t 8), [], [], none, none⟩])
  (R_c2))) (St.mk s o) Q =
 (callK C I (St.mk (look []) (looko ([].map fun n => (n, o n)))) (some 6) 82 [(V.d (.int .i64 1005)), (V.d (.int .i64 1250)), (V.d (.int .i64 3))] (fun r1 or1 =>
demand (extV r1 0) (fun x2 =>
demand (extV r1 1) (fun x3 =>
wpB C I R_c2 (St.mk (look [(1, x2), (2, x3)]) (looko ([].map fun n => (n, or1 n)))) Q)))) := rfl
theorem g_rate_Of_c0_sh {C : Ctx} {I : Nat → Prop} {s : Nat → V} {o : Nat → Option Ob} {Q : Ex → St → Prop} : wpB C I (.seq (.region [6, 7] (some []) none
    [⟨some 11, .mv (.t 0), [], [], none, none⟩,
     ⟨some 12, .mv (.t 1), [], [], none, none⟩,
     ⟨some 13, .mv (.t 2), [], [], none, none⟩,
     ⟨some 14, .call 99 [(.t 11), (.t 12), (.c (.d (.int .i64 10000))), (.t 13)], [], [], none, none⟩,
     ⟨some 15, .ext (.t 14) 0, [], [], none, none⟩,
     ⟨some 16, .ext (.t 14) 1, [], [], none, none⟩,
     ⟨some 6, .mv (.t 15), [], [], none, none⟩,
     ⟨some 7, .mv (.t 16), [], [], none, none⟩])
 (.ret)) (St.mk s o) Q =
 (callK C I (St.mk (upd (upd (upd s 11 (s 0)) 12 (s 1)) 13 (s 2)) o) (some 14) 99 [(s 0), (s 1), (V.d (.int .i64 10000)), (s 2)] (fun r1 or1 =>
demand (extV r1 0) (fun x2 =>
demand (extV r1 1) (fun x3 =>
Q .ret (St.mk (look [(6, x2), (7, x3)]) (looko ([].map fun n => (n, or1 n)))))))) := rfl
theorem g_rate_Of_code_sh {R_c0 : ACode} {C : Ctx} {I : Nat → Prop} {s : Nat → V} {o : Nat → Option Ob} {Q : Ex → St → Prop} : wpB C I (.seq (.region [0, 1, 2] (some []) none
    [⟨some 6, .mv (.c (.d (.int .i64 0))), [], [], none, none⟩,
     ⟨some 7, .mv (.c (.d (.int .i64 0))), [], [], none, none⟩])
 (.seq (.seq (.region [0, 1, 2, 10] (some []) none
      [⟨some 8, .mv (.t 1), [], [], none, none⟩,
       ⟨some 9, .call 88 [(.t 8)], [], [], none, none⟩,
       ⟨some 10, .un .not (.t 9), [], [], none, none⟩])
   (.cond (.t 10) (.seq (.region [6, 7] (some []) none
        [⟨some 6, .mv (.c (.d (.int .i64 0))), [], [], none, none⟩,
         ⟨some 7, .mv (.c (.d (.int .i64 1))), [], [], none, none⟩])
     (.ret))
    (.skip)))
  (R_c0))) (St.mk s o) Q =
 (callK C I (St.mk (upd (look [(0, (s 0)), (1, (s 1)), (2, (s 2))]) 8 (s 1)) (looko ([].map fun n => (n, o n)))) (some 9) 88 [(s 1)] (fun r1 or1 =>
demand (unV UnOp.not r1) (fun x2 =>
condK x2
 (Q .ret (St.mk (look [(6, (V.d (.int .i64 0))), (7, (V.d (.int .i64 1)))]) (looko ([].map fun n => (n, or1 n)))))
 (wpB C I R_c0 (St.mk (look [(0, (s 0)), (1, (s 1)), (2, (s 2)), (10, x2)]) (looko ([].map fun n => (n, or1 n)))) Q)))) := rfl
theorem g_rate_Prorate_o3_sh {C : Ctx} {I : Nat → Prop} {s : Nat → V} {o : Nat → Option Ob} {K : St → Prop} : opsB C I [⟨some 20, .pick (.t 16) (.c (.d (.bool true))) (.t 19), [], [], none, none⟩] (St.mk s o) K =
 (demand (pickV (s 16) (V.d (.bool true)) (s 19)) (fun x1 =>
K (St.mk (upd s 20 x1) o))) := rfl
theorem g_rate_Prorate_o2_sh {R_o3 : List AOper} {C : Ctx} {I : Nat → Prop} {s : Nat → V} {o : Nat → Option Ob} {K : St → Prop} : opsB C I (⟨some 17, .mv (.t 1), [], [], (some (6, 16, false)), none⟩ ::
     ⟨some 18, .mv (.t 2), [], [], (some (6, 16, false)), none⟩ ::
     ⟨some 19, .bin .gtr (.t 17) (.t 18), [], [], (some (6, 16, false)), (some ([0, 1, 2, 3, 16, 19], (some [])))⟩ ::
     R_o3) (St.mk s o) K =
 (guardK (s 16) false
 (demand (binV BinOp.gtr (s 1) (s 2)) (fun x1 =>
opsB C I R_o3 (St.mk (look [(0, (s 0)), (1, (s 1)), (2, (s 2)), (3, (s 3)), (16, (V.d (D.bool false))), (19, x1)]) (looko ([].map fun n => (n, o n)))) K))
 (opsB C I R_o3 (St.mk (look [(0, (s 0)), (1, (s 1)), (2, (s 2)), (3, (s 3)), (16, (V.d (D.bool true))), (19, (V.tup []))]) (looko ([].map fun n => (n, o n)))) K)
 (opsB C I R_o3 (St.mk (look [(0, (s 0)), (1, (s 1)), (2, (s 2)), (3, (s 3)), (16, (V.tup [])), (19, (V.tup []))]) (looko ([].map fun n => (n, o n)))) K)) := rfl
theorem g_rate_Prorate_o1_sh {R_o2 : List AOper} {C : Ctx} {I : Nat → Prop} {s : Nat → V} {o : Nat → Option Ob} {K : St → Prop} : opsB C I (⟨some 15, .pick (.t 12) (.c (.d (.bool true))) (.t 14), [], [], none, none⟩ ::
     ⟨some 16, .mv (.t 15), [], [], none, (some ([0, 1, 2, 3, 16], (some [])))⟩ ::
     R_o2) (St.mk s o) K =
 (demand (pickV (s 12) (V.d (.bool true)) (s 14)) (fun x1 =>
opsB C I R_o2 (St.mk (look [(0, (s 0)), (1, (s 1)), (2, (s 2)), (3, (s 3)), (16, x1)]) (looko ([].map fun n => (n, o n)))) K)) := rfl
theorem g_rate_Prorate_o0_sh {R_o1 : List AOper} {C : Ctx} {I : Nat → Prop} {s : Nat → V} {o : Nat → Option Ob} {K : St → Prop} : opsB C I (⟨some 13, .mv (.t 1), [], [], (some (2, 12, false)), none⟩ ::
     ⟨some 14, .bin .lss (.t 13) (.c (.d (.int .i64 0))), [], [], (some (2, 12, false)), (some ([0, 1, 2, 3, 12, 14], (some [])))⟩ ::
     R_o1) (St.mk s o) K =
 (guardK (s 12) false
 (demand (binV BinOp.lss (s 1) (V.d (.int .i64 0))) (fun x1 =>
opsB C I R_o1 (St.mk (look [(0, (s 0)), (1, (s 1)), (2, (s 2)), (3, (s 3)), (12, (V.d (D.bool false))), (14, x1)]) (looko ([].map fun n => (n, o n)))) K))
 (opsB C I R_o1 (St.mk (look [(0, (s 0)), (1, (s 1)), (2, (s 2)), (3, (s 3)), (12, (V.d (D.bool true))), (14, (V.tup []))]) (looko ([].map fun n => (n, o n)))) K)
 (opsB C I R_o1 (St.mk (look [(0, (s 0)), (1, (s 1)), (2, (s 2)), (3, (s 3)), (12, (V.tup [])), (14, (V.tup []))]) (looko ([].map fun n => (n, o n)))) K)) := rfl
theorem g_rate_Prorate_c0_sh {C : Ctx} {I : Nat → Prop} {s : Nat → V} {o : Nat → Option Ob} {Q : Ex → St → Prop} : wpB C I (.cond (.t 20) (.seq (.region [8, 9] (some []) none
     [⟨some 8, .mv (.c (.d (.int .i64 0))), [], [], none, none⟩,
      ⟨some 9, .mv (.c (.d (.int .i64 1))), [], [], none, none⟩])
  (.ret))
 (.skip)) (St.mk s o) Q =
 (condK (s 20)
 (Q .ret (St.mk (look [(8, (V.d (.int .i64 0))), (9, (V.d (.int .i64 1)))]) (looko ([].map fun n => (n, o n)))))
 (Q .normal (St.mk s o))) := rfl
theorem g_rate_Prorate_c1_sh {C : Ctx} {I : Nat → Prop} {s : Nat → V} {o : Nat → Option Ob} {Q : Ex → St → Prop} : wpB C I (.seq (.region [8, 9] (some []) none
    [⟨some 21, .mv (.t 0), [], [], none, none⟩,
     ⟨some 22, .mv (.t 1), [], [], none, none⟩,
     ⟨some 23, .mv (.t 2), [], [], none, none⟩,
     ⟨some 24, .mv (.t 3), [], [], none, none⟩,
     ⟨some 25, .call 99 [(.t 21), (.t 22), (.t 23), (.t 24)], [], [], none, none⟩,
     ⟨some 26, .ext (.t 25) 0, [], [], none, none⟩,
     ⟨some 27, .ext (.t 25) 1, [], [], none, none⟩,
     ⟨some 8, .mv (.t 26), [], [], none, none⟩,
     ⟨some 9, .mv (.t 27), [], [], none, none⟩])
 (.ret)) (St.mk s o) Q =
 (callK C I (St.mk (upd (upd (upd (upd s 21 (s 0)) 22 (s 1)) 23 (s 2)) 24 (s 3)) o) (some 25) 99 [(s 0), (s 1), (s 2), (s 3)] (fun r1 or1 =>
demand (extV r1 0) (fun x2 =>
demand (extV r1 1) (fun x3 =>
Q .ret (St.mk (look [(8, x2), (9, x3)]) (looko ([].map fun n => (n, or1 n)))))))) := rfl
theorem g_rate_Prorate_code_sh {R_o0 : List AOper} {R_c0 : ACode} {R_c1 : ACode} {C : Ctx} {I : Nat → Prop} {s : Nat → V} {o : Nat → Option Ob} {Q : Ex → St → Prop} : wpB C I (.seq (.region [0, 1, 2, 3] (some []) none
    [⟨some 8, .mv (.c (.d (.int .i64 0))), [], [], none, none⟩,
     ⟨some 9, .mv (.c (.d (.int .i64 0))), [], [], none, none⟩])
 (.seq (.seq (.region [0, 1, 2, 3, 20] (some []) none
      (⟨some 10, .mv (.t 2), [], [], none, none⟩ ::
       ⟨some 11, .bin .lss (.t 10) (.c (.d (.int .i64 1))), [], [], none, none⟩ ::
       ⟨some 12, .mv (.t 11), [], [], none, (some ([0, 1, 2, 3, 12], (some [])))⟩ ::
       R_o0))
   (R_c0))
  (R_c1))) (St.mk s o) Q =
 (demand (binV BinOp.lss (s 2) (V.d (.int .i64 1))) (fun x1 =>
opsB C I R_o0 (St.mk (look [(0, (s 0)), (1, (s 1)), (2, (s 2)), (3, (s 3)), (12, x1)]) (looko ([].map fun n => (n, o n)))) (fun st => (seqK (fun st => wpB C I R_c0 st (seqK (fun st => wpB C I R_c1 st Q) Q)) (seqK (fun st => wpB C I R_c1 st Q) Q)) .normal (St.trim st [0, 1, 2, 3, 20] (some []))))) := rfl
theorem g_rate_Right_o1_sh {C : Ctx} {I : Nat → Prop} {s : Nat → V} {o : Nat → Option Ob} {K : St → Prop} : opsB C I [⟨some 8, .pick (.t 5) (.t 7) (.c (.d (.bool false))), [], [], none, none⟩,
     ⟨some 2, .mv (.t 8), [], [], none, none⟩] (St.mk s o) K =
 (demand (pickV (s 5) (s 7) (V.d (.bool false))) (fun x1 =>
K (St.mk (upd (upd s 8 x1) 2 x1) o))) := rfl
theorem g_rate_Right_o0_sh {R_o1 : List AOper} {C : Ctx} {I : Nat → Prop} {s : Nat → V} {o : Nat → Option Ob} {K : St → Prop} : opsB C I (⟨some 6, .mv (.t 0), [], [], (some (2, 5, true)), none⟩ ::
     ⟨some 7, .bin .leq (.t 6) (.c (.d (.int .i64 10000))), [], [], (some (2, 5, true)), (some ([5, 7], (some [])))⟩ ::
     R_o1) (St.mk s o) K =
 (guardK (s 5) true
 (demand (binV BinOp.leq (s 0) (V.d (.int .i64 10000))) (fun x1 =>
opsB C I R_o1 (St.mk (look [(5, (V.d (D.bool true))), (7, x1)]) (looko ([].map fun n => (n, o n)))) K))
 (opsB C I R_o1 (St.mk (look [(5, (V.d (D.bool false))), (7, (V.tup []))]) (looko ([].map fun n => (n, o n)))) K)
 (opsB C I R_o1 (St.mk (look [(5, (V.tup [])), (7, (V.tup []))]) (looko ([].map fun n => (n, o n)))) K)) := rfl
theorem g_rate_Right_c0_sh {C : Ctx} {I : Nat → Prop} {s : Nat → V} {o : Nat → Option Ob} {Q : Ex → St → Prop} : wpB C I (.ret) (St.mk s o) Q =
 (Q .ret (St.mk s o)) := rfl
theorem g_rate_Right_code_sh {R_o0 : List AOper} {R_c0 : ACode} {C : Ctx} {I : Nat → Prop} {s : Nat → V} {o : Nat → Option Ob} {Q : Ex → St → Prop} : wpB C I (.seq (.region [0] (some []) none
    [⟨some 2, .mv (.c (.d (.bool false))), [], [], none, none⟩])
 (.seq (.region [2] (some []) none
     (⟨some 3, .mv (.t 0), [], [], none, none⟩ ::
      ⟨some 4, .bin .geq (.t 3) (.c (.d (.int .i64 0))), [], [], none, none⟩ ::
      ⟨some 5, .mv (.t 4), [], [], none, (some ([0, 5], (some [])))⟩ ::
      R_o0))
  (R_c0))) (St.mk s o) Q =
 (demand (binV BinOp.geq (s 0) (V.d (.int .i64 0))) (fun x1 =>
opsB C I R_o0 (St.mk (look [(0, (s 0)), (5, x1)]) (looko ([].map fun n => (n, o n)))) (fun st => (seqK (fun st => wpB C I R_c0 st Q) Q) .normal (St.trim st [2] (some []))))) := rfl
theorem g_rate_Text_c0_sh {C : Ctx} {I : Nat → Prop} {s : Nat → V} {o : Nat → Option Ob} {Q : Ex → St → Prop} : wpB C I (.seq (.region [2, 3] (some []) none
    [⟨some 14, .mv (.t 4), [], [], none, none⟩,
     ⟨some 15, .bin .add (.t 14) (.c (.d (.str [37]))), [], [], none, none⟩,
     ⟨some 2, .mv (.t 15), [], [], none, none⟩,
     ⟨some 3, .mv (.c (.d (.int .i64 0))), [], [], none, none⟩])
 (.ret)) (St.mk s o) Q =
 (demand (binV BinOp.add (s 4) (V.d (.str [37]))) (fun x1 =>
Q .ret (St.mk (look [(2, x1), (3, (V.d (.int .i64 0)))]) (looko ([].map fun n => (n, o n)))))) := rfl
theorem g_rate_Text_c1_sh {R_c0 : ACode} {C : Ctx} {I : Nat → Prop} {s : Nat → V} {o : Nat → Option Ob} {Q : Ex → St → Prop} : wpB C I (.seq (.region [4] (some []) none
    [⟨some 10, .mv (.t 0), [], [], none, none⟩,
     ⟨some 11, .call 50 [(.t 10)], [], [], none, none⟩,
     ⟨some 9, .mv (.t 11), [], [], none, none⟩,
     ⟨some 12, .ext (.t 9) 0, [], [], none, none⟩,
     ⟨some 13, .ext (.t 9) 1, [], [], none, none⟩,
     ⟨some 4, .mv (.t 12), [], [], none, none⟩,
     ⟨some 5, .mv (.t 13), [], [], none, none⟩])
 (R_c0)) (St.mk s o) Q =
 (callK C I (St.mk (upd s 10 (s 0)) o) (some 11) 50 [(s 0)] (fun r1 or1 =>
demand (extV r1 0) (fun x2 =>
demand (extV r1 1) (fun x3 =>
wpB C I R_c0 (St.mk (look [(4, x2)]) (looko ([].map fun n => (n, or1 n)))) Q)))) := rfl
theorem g_rate_Text_code_sh {R_c1 : ACode} {C : Ctx} {I : Nat → Prop} {s : Nat → V} {o : Nat → Option Ob} {Q : Ex → St → Prop} : wpB C I (.seq (.region [0] (some []) none
    [⟨some 2, .mv (.c (.d (.str []))), [], [], none, none⟩,
     ⟨some 3, .mv (.c (.d (.int .i64 0))), [], [], none, none⟩])
 (.seq (.seq (.region [0, 8] (some []) none
      [⟨some 6, .mv (.t 0), [], [], none, none⟩,
       ⟨some 7, .call 88 [(.t 6)], [], [], none, none⟩,
       ⟨some 8, .un .not (.t 7), [], [], none, none⟩])
   (.cond (.t 8) (.seq (.region [2, 3] (some []) none
        [⟨some 2, .mv (.c (.d (.str []))), [], [], none, none⟩,
         ⟨some 3, .mv (.c (.d (.int .i64 1))), [], [], none, none⟩])
     (.ret))
    (.skip)))
  (R_c1))) (St.mk s o) Q =
 (callK C I (St.mk (upd (look [(0, (s 0))]) 6 (s 0)) (looko ([].map fun n => (n, o n)))) (some 7) 88 [(s 0)] (fun r1 or1 =>
demand (unV UnOp.not r1) (fun x2 =>
condK x2
 (Q .ret (St.mk (look [(2, (V.d (.str []))), (3, (V.d (.int .i64 1)))]) (looko ([].map fun n => (n, or1 n)))))
 (wpB C I R_c1 (St.mk (look [(0, (s 0)), (8, x2)]) (looko ([].map fun n => (n, or1 n)))) Q)))) := rfl
theorem g_rate_Parse_o3_sh {C : Ctx} {I : Nat → Prop} {s : Nat → V} {o : Nat → Option Ob} {K : St → Prop} : opsB C I [⟨some 28, .pick (.t 24) (.c (.d (.bool true))) (.t 27), [], [], none, none⟩] (St.mk s o) K =
 (demand (pickV (s 24) (V.d (.bool true)) (s 27)) (fun x1 =>
K (St.mk (upd s 28 x1) o))) := rfl
theorem g_rate_Parse_o2_sh {R_o3 : List AOper} {C : Ctx} {I : Nat → Prop} {s : Nat → V} {o : Nat → Option Ob} {K : St → Prop} : opsB C I (⟨some 25, .mv (.t 6), [], [], (some (6, 24, false)), none⟩ ::
     ⟨some 26, .call 88 [(.t 25)], [], [], (some (6, 24, false)), none⟩ ::
     ⟨some 27, .un .not (.t 26), [], [], (some (6, 24, false)), (some ([6, 24, 27], (some [])))⟩ ::
     R_o3) (St.mk s o) K =
 (guardK (s 24) false
 (callK C I (St.mk (upd (upd (upd s 24 (V.d (D.bool false))) 25 (s 6)) 24 (V.d (D.bool false))) o) (some 26) 88 [(s 6)] (fun r1 or1 =>
demand (unV UnOp.not r1) (fun x2 =>
opsB C I R_o3 (St.mk (look [(6, (s 6)), (24, (V.d (D.bool false))), (27, x2)]) (looko ([].map fun n => (n, or1 n)))) K)))
 (opsB C I R_o3 (St.mk (look [(6, (s 6)), (24, (V.d (D.bool true))), (27, (V.tup []))]) (looko ([].map fun n => (n, o n)))) K)
 (opsB C I R_o3 (St.mk (look [(6, (s 6)), (24, (V.tup [])), (27, (V.tup []))]) (looko ([].map fun n => (n, o n)))) K)) := rfl
theorem g_rate_Parse_o1_sh {R_o2 : List AOper} {C : Ctx} {I : Nat → Prop} {s : Nat → V} {o : Nat → Option Ob} {K : St → Prop} : opsB C I (⟨some 23, .pick (.t 20) (.c (.d (.bool true))) (.t 22), [], [], none, none⟩ ::
     ⟨some 24, .mv (.t 23), [], [], none, (some ([6, 24], (some [])))⟩ ::
     R_o2) (St.mk s o) K =
 (demand (pickV (s 20) (V.d (.bool true)) (s 22)) (fun x1 =>
opsB C I R_o2 (St.mk (look [(6, (s 6)), (24, x1)]) (looko ([].map fun n => (n, o n)))) K)) := rfl
theorem g_rate_Parse_o0_sh {R_o1 : List AOper} {C : Ctx} {I : Nat → Prop} {s : Nat → V} {o : Nat → Option Ob} {K : St → Prop} : opsB C I (⟨some 21, .mv (.t 7), [], [], (some (2, 20, false)), none⟩ ::
     ⟨some 22, .un .not (.t 21), [], [], (some (2, 20, false)), (some ([6, 20, 22], (some [])))⟩ ::
     R_o1) (St.mk s o) K =
 (guardK (s 20) false
 (demand (unV UnOp.not (s 7)) (fun x1 =>
opsB C I R_o1 (St.mk (look [(6, (s 6)), (20, (V.d (D.bool false))), (22, x1)]) (looko ([].map fun n => (n, o n)))) K))
 (opsB C I R_o1 (St.mk (look [(6, (s 6)), (20, (V.d (D.bool true))), (22, (V.tup []))]) (looko ([].map fun n => (n, o n)))) K)
 (opsB C I R_o1 (St.mk (look [(6, (s 6)), (20, (V.tup [])), (22, (V.tup []))]) (looko ([].map fun n => (n, o n)))) K)) := rfl
theorem g_rate_Parse_c0_sh {C : Ctx} {I : Nat → Prop} {s : Nat → V} {o : Nat → Option Ob} {Q : Ex → St → Prop} : wpB C I (.cond (.t 28) (.seq (.region [2, 3] (some []) none
     [⟨some 2, .mv (.c (.d (.int .i64 0))), [], [], none, none⟩,
      ⟨some 3, .mv (.c (.d (.bool false))), [], [], none, none⟩])
  (.ret))
 (.skip)) (St.mk s o) Q =
 (condK (s 28)
 (Q .ret (St.mk (look [(2, (V.d (.int .i64 0))), (3, (V.d (.bool false)))]) (looko ([].map fun n => (n, o n)))))
 (Q .normal (St.mk s o))) := rfl
theorem g_rate_Parse_c1_sh {C : Ctx} {I : Nat → Prop} {s : Nat → V} {o : Nat → Option Ob} {Q : Ex → St → Prop} : wpB C I (.seq (.region [2, 3] (some []) none
    [⟨some 29, .mv (.t 6), [], [], none, none⟩,
     ⟨some 2, .mv (.t 29), [], [], none, none⟩,
     ⟨some 3, .mv (.c (.d (.bool true))), [], [], none, none⟩])
 (.ret)) (St.mk s o) Q =
 (Q .ret (St.mk (look [(2, (s 6)), (3, (V.d (.bool true)))]) (looko ([].map fun n => (n, o n))))) := rfl
theorem g_rate_Parse_c2_sh {R_o0 : List AOper} {R_c0 : ACode} {R_c1 : ACode} {C : Ctx} {I : Nat → Prop} {s : Nat → V} {o : Nat → Option Ob} {Q : Ex → St → Prop} : wpB C I (.seq (.seq (.region [6, 28] (some []) none
     (⟨some 18, .mv (.t 5), [], [], none, none⟩ ::
      ⟨some 19, .un .not (.t 18), [], [], none, none⟩ ::
      ⟨some 20, .mv (.t 19), [], [], none, (some ([6, 7, 20], (some [])))⟩ ::
      R_o0))
  (R_c0))
 (R_c1)) (St.mk s o) Q =
 (demand (unV UnOp.not (s 5)) (fun x1 =>
opsB C I R_o0 (St.mk (look [(6, (s 6)), (7, (s 7)), (20, x1)]) (looko ([].map fun n => (n, o n)))) (fun st => (seqK (fun st => wpB C I R_c0 st (seqK (fun st => wpB C I R_c1 st Q) Q)) (seqK (fun st => wpB C I R_c1 st Q) Q)) .normal (St.trim st [6, 28] (some []))))) := rfl
theorem g_rate_Parse_c3_sh {R_c2 : ACode} {C : Ctx} {I : Nat → Prop} {s : Nat → V} {o : Nat → Option Ob} {Q : Ex → St → Prop} : wpB C I (.seq (.region [5, 6, 7] (some []) none
    [⟨some 14, .mv (.t 4), [], [], none, none⟩,
     ⟨some 15, .call 51 [(.t 14)], [], [], none, none⟩,
     ⟨some 13, .mv (.t 15), [], [], none, none⟩,
     ⟨some 16, .ext (.t 13) 0, [], [], none, none⟩,
     ⟨some 17, .ext (.t 13) 1, [], [], none, none⟩,
     ⟨some 6, .mv (.t 16), [], [], none, none⟩,
     ⟨some 7, .mv (.t 17), [], [], none, none⟩])
 (R_c2)) (St.mk s o) Q =
 (callK C I (St.mk (upd s 14 (s 4)) o) (some 15) 51 [(s 4)] (fun r1 or1 =>
demand (extV r1 0) (fun x2 =>
demand (extV r1 1) (fun x3 =>
wpB C I R_c2 (St.mk (look [(5, (s 5)), (6, x2), (7, x3)]) (looko ([].map fun n => (n, or1 n)))) Q)))) := rfl
theorem g_rate_Parse_code_sh {R_c3 : ACode} {C : Ctx} {I : Nat → Prop} {s : Nat → V} {o : Nat → Option Ob} {Q : Ex → St → Prop} : wpB C I (.seq (.region [0] (some []) none
    [⟨some 2, .mv (.c (.d (.int .i64 0))), [], [], none, none⟩,
     ⟨some 3, .mv (.c (.d (.bool false))), [], [], none, none⟩])
 (.seq (.region [4, 5] (some []) none
     [⟨some 9, .mv (.t 0), [], [], none, none⟩,
      ⟨some 10, .call 101 [(.t 9), (.c (.d (.str [37])))], [], [], none, none⟩,
      ⟨some 8, .mv (.t 10), [], [], none, none⟩,
      ⟨some 11, .ext (.t 8) 0, [], [], none, none⟩,
      ⟨some 12, .ext (.t 8) 1, [], [], none, none⟩,
      ⟨some 4, .mv (.t 11), [], [], none, none⟩,
      ⟨some 5, .mv (.t 12), [], [], none, none⟩])
  (R_c3))) (St.mk s o) Q =
 (callK C I (St.mk (upd (look [(0, (s 0))]) 9 (s 0)) (looko ([].map fun n => (n, o n)))) (some 10) 101 [(s 0), (V.d (.str [37]))] (fun r1 or1 =>
demand (extV r1 0) (fun x2 =>
demand (extV r1 1) (fun x3 =>
wpB C I R_c3 (St.mk (look [(4, x2), (5, x3)]) (looko ([].map fun n => (n, or1 n)))) Q)))) := rfl
theorem g_ref03_Parse_o1_sh {C : Ctx} {I : Nat → Prop} {s : Nat → V} {o : Nat → Option Ob} {K : St → Prop} : opsB C I [⟨some 17, .pick (.t 12) (.t 16) (.c (.d (.bool false))), [], [], none, none⟩] (St.mk s o) K =
 (demand (pickV (s 12) (s 16) (V.d (.bool false))) (fun x1 =>
K (St.mk (upd s 17 x1) o))) := rfl
theorem g_ref03_Parse_o0_sh {R_o1 : List AOper} {C : Ctx} {I : Nat → Prop} {s : Nat → V} {o : Nat → Option Ob} {K : St → Prop} : opsB C I (⟨some 13, .mv (.t 4), [], [], (some (3, 12, true)), none⟩ ::
     ⟨some 14, .call 94 [(.t 13)], [], [], (some (3, 12, true)), none⟩ ::
     ⟨some 15, .mv (.t 0), [], [], (some (3, 12, true)), none⟩ ::
     ⟨some 16, .bin .eql (.t 14) (.t 15), [], [], (some (3, 12, true)), (some ([0, 4, 12, 16], (some [])))⟩ ::
     R_o1) (St.mk s o) K =
 (guardK (s 12) true
 (callK C I (St.mk (upd (upd (upd s 12 (V.d (D.bool true))) 13 (s 4)) 12 (V.d (D.bool true))) o) (some 14) 94 [(s 4)] (fun r1 or1 =>
demand (binV BinOp.eql r1 (s 0)) (fun x2 =>
opsB C I R_o1 (St.mk (look [(0, (s 0)), (4, (s 4)), (12, (V.d (D.bool true))), (16, x2)]) (looko ([].map fun n => (n, or1 n)))) K)))
 (opsB C I R_o1 (St.mk (look [(0, (s 0)), (4, (s 4)), (12, (V.d (D.bool false))), (16, (V.tup []))]) (looko ([].map fun n => (n, o n)))) K)
 (opsB C I R_o1 (St.mk (look [(0, (s 0)), (4, (s 4)), (12, (V.tup [])), (16, (V.tup []))]) (looko ([].map fun n => (n, o n)))) K)) := rfl
theorem g_ref03_Parse_c0_sh {C : Ctx} {I : Nat → Prop} {s : Nat → V} {o : Nat → Option Ob} {Q : Ex → St → Prop} : wpB C I (.cond (.t 17) (.seq (.region [2, 3] (some []) none
     [⟨some 18, .mv (.t 4), [], [], none, none⟩,
      ⟨some 2, .mv (.t 18), [], [], none, none⟩,
      ⟨some 3, .mv (.c (.d (.bool true))), [], [], none, none⟩])
  (.ret))
 (.skip)) (St.mk s o) Q =
 (condK (s 17)
 (Q .ret (St.mk (look [(2, (s 4)), (3, (V.d (.bool true)))]) (looko ([].map fun n => (n, o n)))))
 (Q .normal (St.mk s o))) := rfl
theorem g_ref03_Parse_c1_sh {C : Ctx} {I : Nat → Prop} {s : Nat → V} {o : Nat → Option Ob} {Q : Ex → St → Prop} : wpB C I (.region [0, 4] (some []) none
   [⟨some 7, .mv (.t 4), [], [], none, none⟩,
    ⟨some 8, .bin .add (.t 7) (.c (.d (.int .i64 1))), [], [], none, none⟩,
    ⟨some 4, .mv (.t 8), [], [], none, none⟩]) (St.mk s o) Q =
 (demand (binV BinOp.add (s 4) (V.d (.int .i64 1))) (fun x1 =>
Q .normal (St.mk (look [(0, (s 0)), (4, x1)]) (looko ([].map fun n => (n, o n)))))) := rfl
theorem g_ref03_Parse_l0_sh {R_l0 : ACode} {R_o0 : List AOper} {R_c0 : ACode} {R_c1 : ACode} {C : Ctx} {I : Nat → Prop} {s : Nat → V} {o : Nat → Option Ob} {Q : Ex → St → Prop} (hL : R_l0 = .loop [0, 4] (some []) (.seq (.seq (.region [0, 4, 6] (some []) none
      [⟨some 5, .mv (.t 4), [], [], none, none⟩,
       ⟨some 6, .bin .leq (.t 5) (.c (.d (.int .i64 10000))), [], [], none, none⟩])
   (.cond (.t 6) (.skip)
    (.exit 0)))
  (.seq (.block 1 [0, 4] (some []) (.seq (.region [0, 4, 17] (some []) none
        (⟨some 9, .mv (.t 0), [], [], none, none⟩ ::
         ⟨some 10, .lenS (.t 9), [], [], none, none⟩ ::
         ⟨some 11, .bin .lss (.t 10) (.c (.d (.int .i64 9))), [], [], none, none⟩ ::
         ⟨some 12, .mv (.t 11), [], [], none, (some ([0, 4, 12], (some [])))⟩ ::
         R_o0))
     (R_c0)))
   (R_c1))))
 (h : demand (binV BinOp.leq (s 4) (V.d (.int .i64 10000))) (fun x1 =>
condK x1
 (demand (lenSV (s 0)) (fun x2 =>
demand (binV BinOp.lss x2 (V.d (.int .i64 9))) (fun x3 =>
opsB C I R_o0 (St.mk (look [(0, (s 0)), (4, (s 4)), (12, x3)]) (looko ([].map fun n => (n, o n)))) (fun st => (seqK (fun st => wpB C I R_c0 st (blockK 1 [0, 4] (some []) (seqK (fun st => wpB C I R_c1 st (seqK (fun s => wpB C I R_l0 s Q) Q)) (seqK (fun s => wpB C I R_l0 s Q) Q)))) (blockK 1 [0, 4] (some []) (seqK (fun st => wpB C I R_c1 st (seqK (fun s => wpB C I R_l0 s Q) Q)) (seqK (fun s => wpB C I R_l0 s Q) Q)))) .normal (St.trim st [0, 4, 17] (some []))))))
 (Q (.exit 0) (St.mk (look [(0, (s 0)), (4, (s 4)), (6, x1)]) (looko ([].map fun n => (n, o n))))))) : wpB C I R_l0 (St.mk s o) Q := w_loopC hL h
theorem g_ref03_Parse_c2_sh {C : Ctx} {I : Nat → Prop} {s : Nat → V} {o : Nat → Option Ob} {Q : Ex → St → Prop} : wpB C I (.seq (.region [2, 3] (some []) none
    [⟨some 2, .mv (.c (.d (.int .i64 0))), [], [], none, none⟩,
     ⟨some 3, .mv (.c (.d (.bool false))), [], [], none, none⟩])
 (.ret)) (St.mk s o) Q =
 (Q .ret (St.mk (look [(2, (V.d (.int .i64 0))), (3, (V.d (.bool false)))]) (looko ([].map fun n => (n, o n))))) := rfl
theorem g_ref03_Parse_code_sh {R_l0 : ACode} {R_c2 : ACode} {C : Ctx} {I : Nat → Prop} {s : Nat → V} {o : Nat → Option Ob} {Q : Ex → St → Prop} : wpB C I (.seq (.region [0] (some []) none
    [⟨some 2, .mv (.c (.d (.int .i64 0))), [], [], none, none⟩,
     ⟨some 3, .mv (.c (.d (.bool false))), [], [], none, none⟩])
 (.seq (.seq (.region [0, 4] (some []) none
      [⟨some 4, .mv (.c (.d (.int .i64 0))), [], [], none, none⟩])
   (.block 0 [] (some []) (R_l0)))
  (R_c2))) (St.mk s o) Q =
 (wpB C I R_l0 (St.mk (look [(0, (s 0)), (4, (V.d (.int .i64 0)))]) (looko ([].map fun n => (n, o n)))) (blockK 0 [] (some []) (seqK (fun st => wpB C I R_c2 st Q) Q))) := rfl
theorem g_ref03_Text_code_sh {C : Ctx} {I : Nat → Prop} {s : Nat → V} {o : Nat → Option Ob} {Q : Ex → St → Prop} : wpB C I (.seq (.region [0] (some []) none
    [⟨some 2, .mv (.c (.d (.str []))), [], [], none, none⟩])
 (.seq (.region [2] (some []) none
     [⟨some 3, .mv (.t 0), [], [], none, none⟩,
      ⟨some 4, .call 54 [(.t 3)], [], [], none, none⟩,
      ⟨some 5, .bin .add (.t 4) (.c (.d (.str [37]))), [], [], none, none⟩,
      ⟨some 2, .mv (.t 5), [], [], none, none⟩])
  (.ret))) (St.mk s o) Q =
 (callK C I (St.mk (upd (look [(0, (s 0))]) 3 (s 0)) (looko ([].map fun n => (n, o n)))) (some 4) 54 [(s 0)] (fun r1 or1 =>
demand (binV BinOp.add r1 (V.d (.str [37]))) (fun x2 =>
Q .ret (St.mk (look [(2, x2)]) (looko ([].map fun n => (n, or1 n))))))) := rfl
theorem g_wide_MulDiv_o1_sh {C : Ctx} {I : Nat → Prop} {s : Nat → V} {o : Nat → Option Ob} {K : St → Prop} : opsB C I [⟨some 22, .pick (.t 19) (.c (.d (.bool true))) (.t 21), [], [], none, none⟩,
     ⟨some 16, .mv (.t 22), [], [], none, none⟩] (St.mk s o) K =
 (demand (pickV (s 19) (V.d (.bool true)) (s 21)) (fun x1 =>
K (St.mk (upd (upd s 22 x1) 16 x1) o))) := rfl
theorem g_wide_MulDiv_o0_sh {R_o1 : List AOper} {C : Ctx} {I : Nat → Prop} {s : Nat → V} {o : Nat → Option Ob} {K : St → Prop} : opsB C I (⟨some 20, .mv (.t 3), [], [], (some (2, 19, false)), none⟩ ::
     ⟨some 21, .bin .gtr (.t 20) (.c (.d (.int .i64 3))), [], [], (some (2, 19, false)), (some ([0, 1, 2, 3, 19, 21], (some [])))⟩ ::
     R_o1) (St.mk s o) K =
 (guardK (s 19) false
 (demand (binV BinOp.gtr (s 3) (V.d (.int .i64 3))) (fun x1 =>
opsB C I R_o1 (St.mk (look [(0, (s 0)), (1, (s 1)), (2, (s 2)), (3, (s 3)), (19, (V.d (D.bool false))), (21, x1)]) (looko ([].map fun n => (n, o n)))) K))
 (opsB C I R_o1 (St.mk (look [(0, (s 0)), (1, (s 1)), (2, (s 2)), (3, (s 3)), (19, (V.d (D.bool true))), (21, (V.tup []))]) (looko ([].map fun n => (n, o n)))) K)
 (opsB C I R_o1 (St.mk (look [(0, (s 0)), (1, (s 1)), (2, (s 2)), (3, (s 3)), (19, (V.tup [])), (21, (V.tup []))]) (looko ([].map fun n => (n, o n)))) K)) := rfl
theorem g_wide_MulDiv_o5_sh {C : Ctx} {I : Nat → Prop} {s : Nat → V} {o : Nat → Option Ob} {K : St → Prop} : opsB C I [⟨some 36, .pick (.t 32) (.c (.d (.bool true))) (.t 35), [], [], none, none⟩,
     ⟨some 23, .mv (.t 36), [], [], none, none⟩] (St.mk s o) K =
 (demand (pickV (s 32) (V.d (.bool true)) (s 35)) (fun x1 =>
K (St.mk (upd (upd s 36 x1) 23 x1) o))) := rfl
theorem g_wide_MulDiv_o4_sh {R_o5 : List AOper} {C : Ctx} {I : Nat → Prop} {s : Nat → V} {o : Nat → Option Ob} {K : St → Prop} : opsB C I (⟨some 33, .mv (.t 2), [], [], (some (8, 32, false)), none⟩ ::
     ⟨some 34, .call 58 [(.t 33)], [], [], (some (8, 32, false)), none⟩ ::
     ⟨some 35, .un .not (.t 34), [], [], (some (8, 32, false)), (some ([0, 1, 2, 3, 32, 35], (some [])))⟩ ::
     R_o5) (St.mk s o) K =
 (guardK (s 32) false
 (callK C I (St.mk (upd (upd (upd s 32 (V.d (D.bool false))) 33 (s 2)) 32 (V.d (D.bool false))) o) (some 34) 58 [(s 2)] (fun r1 or1 =>
demand (unV UnOp.not r1) (fun x2 =>
opsB C I R_o5 (St.mk (look [(0, (s 0)), (1, (s 1)), (2, (s 2)), (3, (s 3)), (32, (V.d (D.bool false))), (35, x2)]) (looko ([].map fun n => (n, or1 n)))) K)))
 (opsB C I R_o5 (St.mk (look [(0, (s 0)), (1, (s 1)), (2, (s 2)), (3, (s 3)), (32, (V.d (D.bool true))), (35, (V.tup []))]) (looko ([].map fun n => (n, o n)))) K)
 (opsB C I R_o5 (St.mk (look [(0, (s 0)), (1, (s 1)), (2, (s 2)), (3, (s 3)), (32, (V.tup [])), (35, (V.tup []))]) (looko ([].map fun n => (n, o n)))) K)) := rfl
theorem g_wide_MulDiv_o3_sh {R_o4 : List AOper} {C : Ctx} {I : Nat → Prop} {s : Nat → V} {o : Nat → Option Ob} {K : St → Prop} : opsB C I (⟨some 31, .pick (.t 27) (.c (.d (.bool true))) (.t 30), [], [], none, none⟩ ::
     ⟨some 32, .mv (.t 31), [], [], none, (some ([0, 1, 2, 3, 32], (some [])))⟩ ::
     R_o4) (St.mk s o) K =
 (demand (pickV (s 27) (V.d (.bool true)) (s 30)) (fun x1 =>
opsB C I R_o4 (St.mk (look [(0, (s 0)), (1, (s 1)), (2, (s 2)), (3, (s 3)), (32, x1)]) (looko ([].map fun n => (n, o n)))) K)) := rfl
theorem g_wide_MulDiv_o2_sh {R_o3 : List AOper} {C : Ctx} {I : Nat → Prop} {s : Nat → V} {o : Nat → Option Ob} {K : St → Prop} : opsB C I (⟨some 28, .mv (.t 1), [], [], (some (3, 27, false)), none⟩ ::
     ⟨some 29, .call 58 [(.t 28)], [], [], (some (3, 27, false)), none⟩ ::
     ⟨some 30, .un .not (.t 29), [], [], (some (3, 27, false)), (some ([0, 1, 2, 3, 27, 30], (some [])))⟩ ::
     R_o3) (St.mk s o) K =
 (guardK (s 27) false
 (callK C I (St.mk (upd (upd (upd s 27 (V.d (D.bool false))) 28 (s 1)) 27 (V.d (D.bool false))) o) (some 29) 58 [(s 1)] (fun r1 or1 =>
demand (unV UnOp.not r1) (fun x2 =>
opsB C I R_o3 (St.mk (look [(0, (s 0)), (1, (s 1)), (2, (s 2)), (3, (s 3)), (27, (V.d (D.bool false))), (30, x2)]) (looko ([].map fun n => (n, or1 n)))) K)))
 (opsB C I R_o3 (St.mk (look [(0, (s 0)), (1, (s 1)), (2, (s 2)), (3, (s 3)), (27, (V.d (D.bool true))), (30, (V.tup []))]) (looko ([].map fun n => (n, o n)))) K)
 (opsB C I R_o3 (St.mk (look [(0, (s 0)), (1, (s 1)), (2, (s 2)), (3, (s 3)), (27, (V.tup [])), (30, (V.tup []))]) (looko ([].map fun n => (n, o n)))) K)) := rfl
theorem g_wide_MulDiv_c0_sh {C : Ctx} {I : Nat → Prop} {s : Nat → V} {o : Nat → Option Ob} {Q : Ex → St → Prop} : wpB C I (.cond (.t 23) (.seq (.region [8, 9] (some []) none
     [⟨some 8, .mv (.c (.d (.int .i64 0))), [], [], none, none⟩,
      ⟨some 9, .mv (.c (.d (.int .i64 3))), [], [], none, none⟩])
  (.ret))
 (.seq (.region [0, 1, 2, 3, 37] (some []) none
     [⟨some 38, .mv (.t 2), [], [], none, none⟩,
      ⟨some 39, .bin .eql (.t 38) (.c (.d (.int .i64 0))), [], [], none, none⟩,
      ⟨some 37, .mv (.t 39), [], [], none, none⟩])
  (.cond (.t 37) (.seq (.region [8, 9] (some []) none
       [⟨some 8, .mv (.c (.d (.int .i64 0))), [], [], none, none⟩,
        ⟨some 9, .mv (.c (.d (.int .i64 4))), [], [], none, none⟩])
    (.ret))
   (.skip)))) (St.mk s o) Q =
 (condK (s 23)
 (Q .ret (St.mk (look [(8, (V.d (.int .i64 0))), (9, (V.d (.int .i64 3)))]) (looko ([].map fun n => (n, o n)))))
 (demand (binV BinOp.eql (s 2) (V.d (.int .i64 0))) (fun x1 =>
condK x1
 (Q .ret (St.mk (look [(8, (V.d (.int .i64 0))), (9, (V.d (.int .i64 4)))]) (looko ([].map fun n => (n, o n)))))
 (Q .normal (St.mk (look [(0, (s 0)), (1, (s 1)), (2, (s 2)), (3, (s 3)), (37, x1)]) (looko ([].map fun n => (n, o n)))))))) := rfl
theorem g_wide_MulDiv_c1_sh {R_o2 : List AOper} {R_c0 : ACode} {C : Ctx} {I : Nat → Prop} {s : Nat → V} {o : Nat → Option Ob} {Q : Ex → St → Prop} : wpB C I (.cond (.t 16) (.seq (.region [8, 9] (some []) none
     [⟨some 8, .mv (.c (.d (.int .i64 0))), [], [], none, none⟩,
      ⟨some 9, .mv (.c (.d (.int .i64 1))), [], [], none, none⟩])
  (.ret))
 (.seq (.region [0, 1, 2, 3, 23] (some []) none
     (⟨some 24, .mv (.t 0), [], [], none, none⟩ ::
      ⟨some 25, .call 58 [(.t 24)], [], [], none, none⟩ ::
      ⟨some 26, .un .not (.t 25), [], [], none, none⟩ ::
      ⟨some 27, .mv (.t 26), [], [], none, (some ([0, 1, 2, 3, 27], (some [])))⟩ ::
      R_o2))
  (R_c0))) (St.mk s o) Q =
 (condK (s 16)
 (Q .ret (St.mk (look [(8, (V.d (.int .i64 0))), (9, (V.d (.int .i64 1)))]) (looko ([].map fun n => (n, o n)))))
 (callK C I (St.mk (upd s 24 (s 0)) o) (some 25) 58 [(s 0)] (fun r1 or1 =>
demand (unV UnOp.not r1) (fun x2 =>
opsB C I R_o2 (St.mk (look [(0, (s 0)), (1, (s 1)), (2, (s 2)), (3, (s 3)), (27, x2)]) (looko ([].map fun n => (n, or1 n)))) (fun st => (seqK (fun st => wpB C I R_c0 st Q) Q) .normal (St.trim st [0, 1, 2, 3, 23] (some []))))))) := rfl
theorem g_wide_MulDiv_o7_sh {C : Ctx} {I : Nat → Prop} {s : Nat → V} {o : Nat → Option Ob} {K : St → Prop} : opsB C I [⟨some 68, .pick (.t 62) (.t 67) (.c (.d (.bool false))), [], [], none, none⟩] (St.mk s o) K =
 (demand (pickV (s 62) (s 67) (V.d (.bool false))) (fun x1 =>
K (St.mk (upd s 68 x1) o))) := rfl
theorem g_wide_MulDiv_o6_sh {R_o7 : List AOper} {C : Ctx} {I : Nat → Prop} {s : Nat → V} {o : Nat → Option Ob} {K : St → Prop} : opsB C I (⟨some 63, .mv (.t 3), [], [], (some (2, 62, true)), none⟩ ::
     ⟨some 64, .mv (.t 13), [], [], (some (2, 62, true)), none⟩ ::
     ⟨some 65, .mv (.t 14), [], [], (some (2, 62, true)), none⟩ ::
     ⟨some 66, .mv (.t 12), [], [], (some (2, 62, true)), none⟩ ::
     ⟨some 67, .call 115 [(.t 63), (.t 64), (.t 65), (.t 66)], [], [], (some (2, 62, true)), (some ([0, 1, 2, 13, 62, 67], (some [])))⟩ ::
     R_o7) (St.mk s o) K =
 (guardK (s 62) true
 (callK C I (St.mk (upd (upd (upd (upd (upd (upd (upd (upd (upd s 62 (V.d (D.bool true))) 63 (s 3)) 62 (V.d (D.bool true))) 64 (s 13)) 62 (V.d (D.bool true))) 65 (s 14)) 62 (V.d (D.bool true))) 66 (s 12)) 62 (V.d (D.bool true))) o) (some 67) 115 [(s 3), (s 13), (s 14), (s 12)] (fun r1 or1 =>
opsB C I R_o7 (St.mk (look [(0, (s 0)), (1, (s 1)), (2, (s 2)), (13, (s 13)), (62, (V.d (D.bool true))), (67, r1)]) (looko ([].map fun n => (n, or1 n)))) K))
 (opsB C I R_o7 (St.mk (look [(0, (s 0)), (1, (s 1)), (2, (s 2)), (13, (s 13)), (62, (V.d (D.bool false))), (67, (V.tup []))]) (looko ([].map fun n => (n, o n)))) K)
 (opsB C I R_o7 (St.mk (look [(0, (s 0)), (1, (s 1)), (2, (s 2)), (13, (s 13)), (62, (V.tup [])), (67, (V.tup []))]) (looko ([].map fun n => (n, o n)))) K)) := rfl
theorem g_wide_MulDiv_c2_sh {C : Ctx} {I : Nat → Prop} {s : Nat → V} {o : Nat → Option Ob} {Q : Ex → St → Prop} : wpB C I (.cond (.t 68) (.region [0, 1, 2, 13] (some []) none
    [⟨some 69, .mv (.t 13), [], [], none, none⟩,
     ⟨some 70, .bin .add (.t 69) (.c (.d (.int .u64 1))), [], [], none, none⟩,
     ⟨some 13, .mv (.t 70), [], [], none, none⟩])
 (.skip)) (St.mk s o) Q =
 (condK (s 68)
 (demand (binV BinOp.add (s 13) (V.d (.int .u64 1))) (fun x1 =>
Q .normal (St.mk (look [(0, (s 0)), (1, (s 1)), (2, (s 2)), (13, x1)]) (looko ([].map fun n => (n, o n))))))
 (Q .normal (St.mk s o))) := rfl
theorem g_wide_MulDiv_c3_sh {C : Ctx} {I : Nat → Prop} {s : Nat → V} {o : Nat → Option Ob} {Q : Ex → St → Prop} : wpB C I (.seq (.region [8, 9] (some []) none
    [⟨some 85, .mv (.t 15), [], [], none, none⟩,
     ⟨some 8, .mv (.t 85), [], [], none, none⟩,
     ⟨some 9, .mv (.c (.d (.int .i64 0))), [], [], none, none⟩])
 (.ret)) (St.mk s o) Q =
 (Q .ret (St.mk (look [(8, (s 15)), (9, (V.d (.int .i64 0)))]) (looko ([].map fun n => (n, o n))))) := rfl
theorem g_wide_MulDiv_c4_sh {R_c3 : ACode} {C : Ctx} {I : Nat → Prop} {s : Nat → V} {o : Nat → Option Ob} {Q : Ex → St → Prop} : wpB C I (.seq (.region [0, 1, 2, 15] (some []) none
    [⟨some 73, .mv (.t 13), [], [], none, none⟩,
     ⟨some 74, .conv .i64 (.t 73), [], [], none, none⟩,
     ⟨some 15, .mv (.t 74), [], [], none, none⟩])
 (.seq (.seq (.region [15, 82] (some []) none
      [⟨some 75, .mv (.t 0), [], [], none, none⟩,
       ⟨some 76, .bin .lss (.t 75) (.c (.d (.int .i64 0))), [], [], none, none⟩,
       ⟨some 77, .mv (.t 1), [], [], none, none⟩,
       ⟨some 78, .bin .lss (.t 77) (.c (.d (.int .i64 0))), [], [], none, none⟩,
       ⟨some 79, .beq true (.t 76) (.t 78), [], [], none, none⟩,
       ⟨some 80, .mv (.t 2), [], [], none, none⟩,
       ⟨some 81, .bin .lss (.t 80) (.c (.d (.int .i64 0))), [], [], none, none⟩,
       ⟨some 82, .beq true (.t 79) (.t 81), [], [], none, none⟩])
   (.cond (.t 82) (.region [15] (some []) none
       [⟨some 83, .mv (.t 15), [], [], none, none⟩,
        ⟨some 84, .un .neg (.t 83), [], [], none, none⟩,
        ⟨some 15, .mv (.t 84), [], [], none, none⟩])
    (.skip)))
  (R_c3))) (St.mk s o) Q =
 (demand (convV IntKind.i64 (s 13)) (fun x1 =>
demand (binV BinOp.lss (s 0) (V.d (.int .i64 0))) (fun x2 =>
demand (binV BinOp.lss (s 1) (V.d (.int .i64 0))) (fun x3 =>
demand (beqV true x2 x3) (fun x4 =>
demand (binV BinOp.lss (s 2) (V.d (.int .i64 0))) (fun x5 =>
demand (beqV true x4 x5) (fun x6 =>
condK x6
 (demand (unV UnOp.neg x1) (fun x7 =>
wpB C I R_c3 (St.mk (look [(15, x7)]) (looko ([].map fun n => (n, o n)))) Q))
 (wpB C I R_c3 (St.mk (look [(15, x1), (82, x6)]) (looko ([].map fun n => (n, o n)))) Q)))))))) := rfl
theorem g_wide_MulDiv_c5_sh {R_c4 : ACode} {C : Ctx} {I : Nat → Prop} {s : Nat → V} {o : Nat → Option Ob} {Q : Ex → St → Prop} : wpB C I (.seq (.seq (.region [0, 1, 2, 13, 72] (some []) none
     [⟨some 71, .mv (.t 13), [], [], none, none⟩,
      ⟨some 72, .bin .gtr (.t 71) (.c (.d (.int .u64 9223372036854775807))), [], [], none, none⟩])
  (.cond (.t 72) (.seq (.region [8, 9] (some []) none
       [⟨some 8, .mv (.c (.d (.int .i64 0))), [], [], none, none⟩,
        ⟨some 9, .mv (.c (.d (.int .i64 3))), [], [], none, none⟩])
    (.ret))
   (.skip)))
 (R_c4)) (St.mk s o) Q =
 (demand (binV BinOp.gtr (s 13) (V.d (.int .u64 9223372036854775807))) (fun x1 =>
condK x1
 (Q .ret (St.mk (look [(8, (V.d (.int .i64 0))), (9, (V.d (.int .i64 3)))]) (looko ([].map fun n => (n, o n)))))
 (wpB C I R_c4 (St.mk (look [(0, (s 0)), (1, (s 1)), (2, (s 2)), (13, (s 13)), (72, x1)]) (looko ([].map fun n => (n, o n)))) Q))) := rfl
theorem g_wide_MulDiv_c6_sh {R_o6 : List AOper} {R_c2 : ACode} {R_c5 : ACode} {C : Ctx} {I : Nat → Prop} {s : Nat → V} {o : Nat → Option Ob} {Q : Ex → St → Prop} : wpB C I (.seq (.seq (.region [0, 1, 2, 13, 68] (some []) none
     (⟨some 60, .mv (.t 13), [], [], none, none⟩ ::
      ⟨some 61, .bin .leq (.t 60) (.c (.d (.int .u64 9223372036854775807))), [], [], none, none⟩ ::
      ⟨some 62, .mv (.t 61), [], [], none, (some ([0, 1, 2, 3, 12, 13, 14, 62], (some [])))⟩ ::
      R_o6))
  (R_c2))
 (R_c5)) (St.mk s o) Q =
 (demand (binV BinOp.leq (s 13) (V.d (.int .u64 9223372036854775807))) (fun x1 =>
opsB C I R_o6 (St.mk (look [(0, (s 0)), (1, (s 1)), (2, (s 2)), (3, (s 3)), (12, (s 12)), (13, (s 13)), (14, (s 14)), (62, x1)]) (looko ([].map fun n => (n, o n)))) (fun st => (seqK (fun st => wpB C I R_c2 st (seqK (fun st => wpB C I R_c5 st Q) Q)) (seqK (fun st => wpB C I R_c5 st Q) Q)) .normal (St.trim st [0, 1, 2, 13, 68] (some []))))) := rfl
theorem g_wide_MulDiv_c7_sh {R_c6 : ACode} {C : Ctx} {I : Nat → Prop} {s : Nat → V} {o : Nat → Option Ob} {Q : Ex → St → Prop} : wpB C I (.seq (.region [0, 1, 2, 3, 12, 13, 14] (some []) none
    [⟨some 54, .mv (.t 10), [], [], none, none⟩,
     ⟨some 55, .mv (.t 11), [], [], none, none⟩,
     ⟨some 56, .mv (.t 12), [], [], none, none⟩,
     ⟨some 57, .call 114 [(.t 54), (.t 55), (.t 56)], [], [], none, none⟩,
     ⟨some 53, .mv (.t 57), [], [], none, none⟩,
     ⟨some 58, .ext (.t 53) 0, [], [], none, none⟩,
     ⟨some 59, .ext (.t 53) 1, [], [], none, none⟩,
     ⟨some 13, .mv (.t 58), [], [], none, none⟩,
     ⟨some 14, .mv (.t 59), [], [], none, none⟩])
 (R_c6)) (St.mk s o) Q =
 (callK C I (St.mk (upd (upd (upd s 54 (s 10)) 55 (s 11)) 56 (s 12)) o) (some 57) 114 [(s 10), (s 11), (s 12)] (fun r1 or1 =>
demand (extV r1 0) (fun x2 =>
demand (extV r1 1) (fun x3 =>
wpB C I R_c6 (St.mk (look [(0, (s 0)), (1, (s 1)), (2, (s 2)), (3, (s 3)), (12, (s 12)), (13, x2), (14, x3)]) (looko ([].map fun n => (n, or1 n)))) Q)))) := rfl
theorem g_wide_MulDiv_c8_sh {R_c7 : ACode} {C : Ctx} {I : Nat → Prop} {s : Nat → V} {o : Nat → Option Ob} {Q : Ex → St → Prop} : wpB C I (.seq (.region [0, 1, 2, 3, 10, 11, 12] (some []) none
    [⟨some 48, .mv (.t 2), [], [], none, none⟩,
     ⟨some 49, .call 112 [(.t 48)], [], [], none, none⟩,
     ⟨some 12, .mv (.t 49), [], [], none, none⟩])
 (.seq (.seq (.region [0, 1, 2, 3, 10, 11, 12, 52] (some []) none
      [⟨some 50, .mv (.t 10), [], [], none, none⟩,
       ⟨some 51, .mv (.t 12), [], [], none, none⟩,
       ⟨some 52, .bin .geq (.t 50) (.t 51), [], [], none, none⟩])
   (.cond (.t 52) (.seq (.region [8, 9] (some []) none
        [⟨some 8, .mv (.c (.d (.int .i64 0))), [], [], none, none⟩,
         ⟨some 9, .mv (.c (.d (.int .i64 3))), [], [], none, none⟩])
     (.ret))
    (.skip)))
  (R_c7))) (St.mk s o) Q =
 (callK C I (St.mk (upd s 48 (s 2)) o) (some 49) 112 [(s 2)] (fun r1 or1 =>
demand (binV BinOp.geq (s 10) r1) (fun x2 =>
condK x2
 (Q .ret (St.mk (look [(8, (V.d (.int .i64 0))), (9, (V.d (.int .i64 3)))]) (looko ([].map fun n => (n, or1 n)))))
 (wpB C I R_c7 (St.mk (look [(0, (s 0)), (1, (s 1)), (2, (s 2)), (3, (s 3)), (10, (s 10)), (11, (s 11)), (12, r1), (52, x2)]) (looko ([].map fun n => (n, or1 n)))) Q)))) := rfl
theorem g_wide_MulDiv_c9_sh {R_c8 : ACode} {C : Ctx} {I : Nat → Prop} {s : Nat → V} {o : Nat → Option Ob} {Q : Ex → St → Prop} : wpB C I (.seq (.region [0, 1, 2, 3, 10, 11] (some []) none
    [⟨some 41, .mv (.t 0), [], [], none, none⟩,
     ⟨some 42, .call 112 [(.t 41)], [], [], none, none⟩,
     ⟨some 43, .mv (.t 1), [], [], none, none⟩,
     ⟨some 44, .call 112 [(.t 43)], [], [], none, none⟩,
     ⟨some 45, .call 113 [(.t 42), (.t 44)], [], [], none, none⟩,
     ⟨some 40, .mv (.t 45), [], [], none, none⟩,
     ⟨some 46, .ext (.t 40) 0, [], [], none, none⟩,
     ⟨some 47, .ext (.t 40) 1, [], [], none, none⟩,
     ⟨some 10, .mv (.t 46), [], [], none, none⟩,
     ⟨some 11, .mv (.t 47), [], [], none, none⟩])
 (R_c8)) (St.mk s o) Q =
 (callK C I (St.mk (upd s 41 (s 0)) o) (some 42) 112 [(s 0)] (fun r1 or1 =>
callK C I (St.mk (upd (upd (upd s 41 (s 0)) 42 r1) 43 (s 1)) or1) (some 44) 112 [(s 1)] (fun r2 or2 =>
callK C I (St.mk (upd (upd (upd (upd s 41 (s 0)) 42 r1) 43 (s 1)) 44 r2) or2) (some 45) 113 [r1, r2] (fun r3 or3 =>
demand (extV r3 0) (fun x4 =>
demand (extV r3 1) (fun x5 =>
wpB C I R_c8 (St.mk (look [(0, (s 0)), (1, (s 1)), (2, (s 2)), (3, (s 3)), (10, x4), (11, x5)]) (looko ([].map fun n => (n, or3 n)))) Q)))))) := rfl
theorem g_wide_MulDiv_code_sh {R_o0 : List AOper} {R_c1 : ACode} {R_c9 : ACode} {C : Ctx} {I : Nat → Prop} {s : Nat → V} {o : Nat → Option Ob} {Q : Ex → St → Prop} : wpB C I (.seq (.region [0, 1, 2, 3] (some []) none
    [⟨some 8, .mv (.c (.d (.int .i64 0))), [], [], none, none⟩,
     ⟨some 9, .mv (.c (.d (.int .i64 0))), [], [], none, none⟩])
 (.seq (.block 0 [0, 1, 2, 3] (some []) (.seq (.region [0, 1, 2, 3, 16] (some []) none
       (⟨some 17, .mv (.t 3), [], [], none, none⟩ ::
        ⟨some 18, .bin .lss (.t 17) (.c (.d (.int .i64 0))), [], [], none, none⟩ ::
        ⟨some 19, .mv (.t 18), [], [], none, (some ([0, 1, 2, 3, 19], (some [])))⟩ ::
        R_o0))
    (R_c1)))
  (R_c9))) (St.mk s o) Q =
 (demand (binV BinOp.lss (s 3) (V.d (.int .i64 0))) (fun x1 =>
opsB C I R_o0 (St.mk (look [(0, (s 0)), (1, (s 1)), (2, (s 2)), (3, (s 3)), (19, x1)]) (looko ([].map fun n => (n, o n)))) (fun st => (seqK (fun st => wpB C I R_c1 st (blockK 0 [0, 1, 2, 3] (some []) (seqK (fun st => wpB C I R_c9 st Q) Q))) (blockK 0 [0, 1, 2, 3] (some []) (seqK (fun st => wpB C I R_c9 st Q) Q))) .normal (St.trim st [0, 1, 2, 3, 16] (some []))))) := rfl
theorem g_money_Text_c0_sh {C : Ctx} {I : Nat → Prop} {s : Nat → V} {o : Nat → Option Ob} {Q : Ex → St → Prop} : wpB C I (.seq (.region [2, 3] (some []) (some ([0, 1, 2, 3, 4, 5, 6, 7, 8, 9, 10], .done))
    [⟨some 17, .mv (.t 4), [], [], none, none⟩,
     ⟨some 18, .mv (.t 0), [], [], none, none⟩,
     ⟨some 19, .bin .quo (.t 18) (.c (.d (.int .i64 100))), [], [1], none, none⟩,
     ⟨some 20, .call 68 [(.t 19)], [], [2], none, none⟩,
     ⟨some 21, .bin .add (.t 17) (.t 20), [], [0, 3], none, none⟩,
     ⟨some 22, .bin .add (.t 21) (.c (.d (.str [46]))), [], [4], none, none⟩,
     ⟨some 23, .mv (.t 5), [], [], none, none⟩,
     ⟨some 24, .slcS (.t 23) (some (.c (.d (.int .i64 1)))) none, [], [6], none, none⟩,
     ⟨some 25, .bin .add (.t 22) (.t 24), [], [5, 7], none, none⟩,
     ⟨some 2, .mv (.t 25), [], [8, 3, 0, 1, 2, 3, 4, 5, 6, 7, 8], none, none⟩,
     ⟨some 3, .mv (.c (.d (.int .i64 0))), [], [9, 0, 1, 2, 3, 4, 5, 6, 7, 8, 9], none, none⟩])
 (.ret)) (St.mk s o) Q =
 ((s 17) = V.undef ∧ (quietV o ((s 4) :: [(s 4)]) ∧
(s 18) = V.undef ∧ (quietV o ((s 0) :: [(s 0)]) ∧
(s 19) = V.undef ∧ (demand (binV BinOp.quo (s 0) (V.d (.int .i64 100))) (fun x3 => quietV o (x3 :: [(s 0), (V.d (.int .i64 100))]) ∧
(s 20) = V.undef ∧ (∃ x4, SoundAt C 68 ⟨[x3], fun _ => none⟩ ⟨x4, fun _ => none⟩ ∧ (∀ n, V.refs n x4 = false) ∧ quietV o (x4 :: [x3]) ∧
(s 21) = V.undef ∧ (demand (binV BinOp.add (s 4) x4) (fun x5 => quietV o (x5 :: [(s 4), x4]) ∧
(s 22) = V.undef ∧ (demand (binV BinOp.add x5 (V.d (.str [46]))) (fun x6 => quietV o (x6 :: [x5, (V.d (.str [46]))]) ∧
(s 23) = V.undef ∧ (quietV o ((s 5) :: [(s 5)]) ∧
(s 24) = V.undef ∧ (demand (slcSV (s 5) (some (V.d (.int .i64 1))) none) (fun x8 => quietV o (x8 :: [(s 5), (V.d (.int .i64 1))]) ∧
(s 25) = V.undef ∧ (demand (binV BinOp.add x6 x8) (fun x9 => quietV o (x9 :: [x6, x8]) ∧
(s 2) = V.undef ∧ (quietV o (x9 :: [x9]) ∧
(s 3) = V.undef ∧ (quietV o ((V.d (.int .i64 0)) :: [(V.d (.int .i64 0))]) ∧
Q .ret (St.mk (look [(2, x9), (3, (V.d (.int .i64 0)))]) (looko ([].map fun n => (n, o n))))))))))))))))))))) := rfl
theorem g_money_Text_c1_sh {R_c0 : ACode} {C : Ctx} {I : Nat → Prop} {s : Nat → V} {o : Nat → Option Ob} {Q : Ex → St → Prop} : wpB C I (.seq (.region [0, 4, 5] (some []) none
    [⟨some 13, .mv (.t 0), [], [], none, none⟩,
     ⟨some 14, .bin .rem (.t 13) (.c (.d (.int .i64 100))), [], [], none, none⟩,
     ⟨some 15, .bin .add (.c (.d (.int .i64 100))) (.t 14), [], [], none, none⟩,
     ⟨some 16, .call 68 [(.t 15)], [], [], none, none⟩,
     ⟨some 5, .mv (.t 16), [], [], none, none⟩])
 (R_c0)) (St.mk s o) Q =
 (demand (binV BinOp.rem (s 0) (V.d (.int .i64 100))) (fun x1 =>
demand (binV BinOp.add (V.d (.int .i64 100)) x1) (fun x2 =>
callK C I (St.mk (upd (upd (upd s 13 (s 0)) 14 x1) 15 x2) o) (some 16) 68 [x2] (fun r3 or3 =>
wpB C I R_c0 (St.mk (look [(0, (s 0)), (4, (s 4)), (5, r3)]) (looko ([].map fun n => (n, or3 n)))) Q)))) := rfl
theorem g_money_Text_c2_sh {R_c1 : ACode} {C : Ctx} {I : Nat → Prop} {s : Nat → V} {o : Nat → Option Ob} {Q : Ex → St → Prop} : wpB C I (.seq (.region [0, 4] (some []) none
    [⟨some 4, .mv (.c (.d (.str []))), [], [], none, none⟩])
 (.seq (.seq (.region [0, 4, 10] (some []) none
      [⟨some 9, .mv (.t 0), [], [], none, none⟩,
       ⟨some 10, .bin .lss (.t 9) (.c (.d (.int .i64 0))), [], [], none, none⟩])
   (.cond (.t 10) (.region [0, 4] (some []) none
       [⟨some 11, .mv (.t 0), [], [], none, none⟩,
        ⟨some 12, .un .neg (.t 11), [], [], none, none⟩,
        ⟨some 4, .mv (.c (.d (.str [45]))), [], [], none, none⟩,
        ⟨some 0, .mv (.t 12), [], [], none, none⟩])
    (.skip)))
  (R_c1))) (St.mk s o) Q =
 (demand (binV BinOp.lss (s 0) (V.d (.int .i64 0))) (fun x1 =>
condK x1
 (demand (unV UnOp.neg (s 0)) (fun x2 =>
wpB C I R_c1 (St.mk (look [(0, x2), (4, (V.d (.str [45])))]) (looko ([].map fun n => (n, o n)))) Q))
 (wpB C I R_c1 (St.mk (look [(0, (s 0)), (4, (V.d (.str []))), (10, x1)]) (looko ([].map fun n => (n, o n)))) Q))) := rfl
theorem g_money_Text_code_sh {R_c2 : ACode} {C : Ctx} {I : Nat → Prop} {s : Nat → V} {o : Nat → Option Ob} {Q : Ex → St → Prop} : wpB C I (.seq (.region [0] (some []) none
    [⟨some 2, .mv (.c (.d (.str []))), [], [], none, none⟩,
     ⟨some 3, .mv (.c (.d (.int .i64 0))), [], [], none, none⟩])
 (.seq (.seq (.region [0, 8] (some []) none
      [⟨some 6, .mv (.t 0), [], [], none, none⟩,
       ⟨some 7, .call 58 [(.t 6)], [], [], none, none⟩,
       ⟨some 8, .un .not (.t 7), [], [], none, none⟩])
   (.cond (.t 8) (.seq (.region [2, 3] (some []) none
        [⟨some 2, .mv (.c (.d (.str []))), [], [], none, none⟩,
         ⟨some 3, .mv (.c (.d (.int .i64 3))), [], [], none, none⟩])
     (.ret))
    (.skip)))
  (R_c2))) (St.mk s o) Q =
 (callK C I (St.mk (upd (look [(0, (s 0))]) 6 (s 0)) (looko ([].map fun n => (n, o n)))) (some 7) 58 [(s 0)] (fun r1 or1 =>
demand (unV UnOp.not r1) (fun x2 =>
condK x2
 (Q .ret (St.mk (look [(2, (V.d (.str []))), (3, (V.d (.int .i64 3)))]) (looko ([].map fun n => (n, or1 n)))))
 (wpB C I R_c2 (St.mk (look [(0, (s 0)), (8, x2)]) (looko ([].map fun n => (n, or1 n)))) Q)))) := rfl
theorem g_strings_CutSuffix_code_sh {C : Ctx} {I : Nat → Prop} {s : Nat → V} {o : Nat → Option Ob} {Q : Ex → St → Prop} : wpB C I (.seq (.region [0, 1] (some []) none
    [⟨some 4, .mv (.c (.d (.str []))), [], [], none, none⟩,
     ⟨some 5, .mv (.c (.d (.bool false))), [], [], none, none⟩])
 (.seq (.region [4, 5] (some []) none
     [⟨some 6, .mv (.t 0), [], [], none, none⟩,
      ⟨some 7, .mv (.t 1), [], [], none, none⟩,
      ⟨some 8, .call 122 [(.t 6), (.t 7)], [], [], none, none⟩,
      ⟨some 9, .ext (.t 8) 0, [], [], none, none⟩,
      ⟨some 10, .ext (.t 8) 1, [], [], none, none⟩,
      ⟨some 4, .mv (.t 9), [], [], none, none⟩,
      ⟨some 5, .mv (.t 10), [], [], none, none⟩])
  (.ret))) (St.mk s o) Q =
 (callK C I (St.mk (upd (upd (look [(0, (s 0)), (1, (s 1))]) 6 (s 0)) 7 (s 1)) (looko ([].map fun n => (n, o n)))) (some 8) 122 [(s 0), (s 1)] (fun r1 or1 =>
demand (extV r1 0) (fun x2 =>
demand (extV r1 1) (fun x3 =>
Q .ret (St.mk (look [(4, x2), (5, x3)]) (looko ([].map fun n => (n, or1 n)))))))) := rfl
theorem g_money_Parse_o1_sh {C : Ctx} {I : Nat → Prop} {s : Nat → V} {o : Nat → Option Ob} {K : St → Prop} : opsB C I [⟨some 20, .pick (.t 16) (.c (.d (.bool true))) (.t 19), [], [], none, none⟩] (St.mk s o) K =
 (demand (pickV (s 16) (V.d (.bool true)) (s 19)) (fun x1 =>
K (St.mk (upd s 20 x1) o))) := rfl
theorem g_money_Parse_o0_sh {R_o1 : List AOper} {C : Ctx} {I : Nat → Prop} {s : Nat → V} {o : Nat → Option Ob} {K : St → Prop} : opsB C I (⟨some 17, .mv (.t 4), [], [], (some (2, 16, false)), none⟩ ::
     ⟨some 18, .call 58 [(.t 17)], [], [], (some (2, 16, false)), none⟩ ::
     ⟨some 19, .un .not (.t 18), [], [], (some (2, 16, false)), (some ([0, 4, 16, 19], (some [])))⟩ ::
     R_o1) (St.mk s o) K =
 (guardK (s 16) false
 (callK C I (St.mk (upd (upd (upd s 16 (V.d (D.bool false))) 17 (s 4)) 16 (V.d (D.bool false))) o) (some 18) 58 [(s 4)] (fun r1 or1 =>
demand (unV UnOp.not r1) (fun x2 =>
opsB C I R_o1 (St.mk (look [(0, (s 0)), (4, (s 4)), (16, (V.d (D.bool false))), (19, x2)]) (looko ([].map fun n => (n, or1 n)))) K)))
 (opsB C I R_o1 (St.mk (look [(0, (s 0)), (4, (s 4)), (16, (V.d (D.bool true))), (19, (V.tup []))]) (looko ([].map fun n => (n, o n)))) K)
 (opsB C I R_o1 (St.mk (look [(0, (s 0)), (4, (s 4)), (16, (V.tup [])), (19, (V.tup []))]) (looko ([].map fun n => (n, o n)))) K)) := rfl
theorem g_money_Parse_c0_sh {C : Ctx} {I : Nat → Prop} {s : Nat → V} {o : Nat → Option Ob} {Q : Ex → St → Prop} : wpB C I (.cond (.t 20) (.seq (.region [2, 3] (some []) none
     [⟨some 2, .mv (.c (.d (.int .i64 0))), [], [], none, none⟩,
      ⟨some 3, .mv (.c (.d (.bool false))), [], [], none, none⟩])
  (.ret))
 (.skip)) (St.mk s o) Q =
 (condK (s 20)
 (Q .ret (St.mk (look [(2, (V.d (.int .i64 0))), (3, (V.d (.bool false)))]) (looko ([].map fun n => (n, o n)))))
 (Q .normal (St.mk s o))) := rfl
theorem g_money_Parse_c1_sh {C : Ctx} {I : Nat → Prop} {s : Nat → V} {o : Nat → Option Ob} {Q : Ex → St → Prop} : wpB C I (.seq (.region [4, 28] (some []) none
    [⟨some 26, .mv (.t 6), [], [], none, none⟩,
     ⟨some 27, .mv (.t 0), [], [], none, none⟩,
     ⟨some 28, .bin .neq (.t 26) (.t 27), [], [], none, none⟩])
 (.cond (.t 28) (.seq (.region [2, 3] (some []) none
      [⟨some 2, .mv (.c (.d (.int .i64 0))), [], [], none, none⟩,
       ⟨some 3, .mv (.c (.d (.bool false))), [], [], none, none⟩])
   (.ret))
  (.skip))) (St.mk s o) Q =
 (demand (binV BinOp.neq (s 6) (s 0)) (fun x1 =>
condK x1
 (Q .ret (St.mk (look [(2, (V.d (.int .i64 0))), (3, (V.d (.bool false)))]) (looko ([].map fun n => (n, o n)))))
 (Q .normal (St.mk (look [(4, (s 4)), (28, x1)]) (looko ([].map fun n => (n, o n))))))) := rfl
theorem g_money_Parse_c2_sh {C : Ctx} {I : Nat → Prop} {s : Nat → V} {o : Nat → Option Ob} {Q : Ex → St → Prop} : wpB C I (.seq (.region [2, 3] (some []) none
    [⟨some 29, .mv (.t 4), [], [], none, none⟩,
     ⟨some 2, .mv (.t 29), [], [], none, none⟩,
     ⟨some 3, .mv (.c (.d (.bool true))), [], [], none, none⟩])
 (.ret)) (St.mk s o) Q =
 (Q .ret (St.mk (look [(2, (s 4)), (3, (V.d (.bool true)))]) (looko ([].map fun n => (n, o n))))) := rfl
theorem g_money_Parse_c3_sh {R_c1 : ACode} {R_c2 : ACode} {C : Ctx} {I : Nat → Prop} {s : Nat → V} {o : Nat → Option Ob} {Q : Ex → St → Prop} : wpB C I (.seq (.seq (.region [0, 4, 6] (some []) none
     [⟨some 22, .mv (.t 4), [], [], none, none⟩,
      ⟨some 23, .call 50 [(.t 22)], [], [], none, none⟩,
      ⟨some 21, .mv (.t 23), [], [], none, none⟩,
      ⟨some 24, .ext (.t 21) 0, [], [], none, none⟩,
      ⟨some 25, .ext (.t 21) 1, [], [], none, none⟩,
      ⟨some 6, .mv (.t 24), [], [], none, none⟩,
      ⟨some 7, .mv (.t 25), [], [], none, none⟩])
  (R_c1))
 (R_c2)) (St.mk s o) Q =
 (callK C I (St.mk (upd s 22 (s 4)) o) (some 23) 50 [(s 4)] (fun r1 or1 =>
demand (extV r1 0) (fun x2 =>
demand (extV r1 1) (fun x3 =>
wpB C I R_c1 (St.mk (look [(0, (s 0)), (4, (s 4)), (6, x2)]) (looko ([].map fun n => (n, or1 n)))) (seqK (fun st => wpB C I R_c2 st Q) Q))))) := rfl
theorem g_money_Parse_c4_sh {R_o0 : List AOper} {R_c0 : ACode} {R_c3 : ACode} {C : Ctx} {I : Nat → Prop} {s : Nat → V} {o : Nat → Option Ob} {Q : Ex → St → Prop} : wpB C I (.seq (.seq (.region [0, 4, 20] (some []) none
     (⟨some 14, .mv (.t 5), [], [], none, none⟩ ::
      ⟨some 15, .nilE true (.t 14), [], [], none, none⟩ ::
      ⟨some 16, .mv (.t 15), [], [], none, (some ([0, 4, 16], (some [])))⟩ ::
      R_o0))
  (R_c0))
 (R_c3)) (St.mk s o) Q =
 (demand (nilEV true (s 5)) (fun x1 =>
opsB C I R_o0 (St.mk (look [(0, (s 0)), (4, (s 4)), (16, x1)]) (looko ([].map fun n => (n, o n)))) (fun st => (seqK (fun st => wpB C I R_c0 st (seqK (fun st => wpB C I R_c3 st Q) Q)) (seqK (fun st => wpB C I R_c3 st Q) Q)) .normal (St.trim st [0, 4, 20] (some []))))) := rfl
theorem g_money_Parse_code_sh {R_c4 : ACode} {C : Ctx} {I : Nat → Prop} {s : Nat → V} {o : Nat → Option Ob} {Q : Ex → St → Prop} : wpB C I (.seq (.region [0] (some []) none
    [⟨some 2, .mv (.c (.d (.int .i64 0))), [], [], none, none⟩,
     ⟨some 3, .mv (.c (.d (.bool false))), [], [], none, none⟩])
 (.seq (.region [0, 4, 5] (some []) none
     [⟨some 9, .mv (.t 0), [], [], none, none⟩,
      ⟨some 10, .call 69 [(.t 9), (.c (.d (.str [46]))), (.c (.d (.str []))), (.c (.d (.int .i64 1)))], [], [], none, none⟩,
      ⟨some 11, .call 70 [(.t 10)], [], [], none, none⟩,
      ⟨some 8, .mv (.t 11), [], [], none, none⟩,
      ⟨some 12, .ext (.t 8) 0, [], [], none, none⟩,
      ⟨some 13, .ext (.t 8) 1, [], [], none, none⟩,
      ⟨some 4, .mv (.t 12), [], [], none, none⟩,
      ⟨some 5, .mv (.t 13), [], [], none, none⟩])
  (R_c4))) (St.mk s o) Q =
 (callK C I (St.mk (upd (look [(0, (s 0))]) 9 (s 0)) (looko ([].map fun n => (n, o n)))) (some 10) 69 [(s 0), (V.d (.str [46])), (V.d (.str [])), (V.d (.int .i64 1))] (fun r1 or1 =>
callK C I (St.mk (upd (upd (look [(0, (s 0))]) 9 (s 0)) 10 r1) or1) (some 11) 70 [r1] (fun r2 or2 =>
demand (extV r2 0) (fun x3 =>
demand (extV r2 1) (fun x4 =>
wpB C I R_c4 (St.mk (look [(0, (s 0)), (4, x3), (5, x4)]) (looko ([].map fun n => (n, or2 n)))) Q))))) := rfl
theorem g_ref01_Text_c0_sh {C : Ctx} {I : Nat → Prop} {s : Nat → V} {o : Nat → Option Ob} {Q : Ex → St → Prop} : wpB C I (.seq (.region [2] (some []) none
    [⟨some 9, .mv (.t 0), [], [], none, none⟩,
     ⟨some 10, .bin .quo (.t 9) (.c (.d (.int .i64 100))), [], [], none, none⟩,
     ⟨some 11, .call 71 [(.t 10)], [], [], none, none⟩,
     ⟨some 12, .bin .add (.t 11) (.c (.d (.str [46]))), [], [], none, none⟩,
     ⟨some 13, .mv (.t 0), [], [], none, none⟩,
     ⟨some 14, .bin .rem (.t 13) (.c (.d (.int .i64 100))), [], [], none, none⟩,
     ⟨some 15, .bin .quo (.t 14) (.c (.d (.int .i64 10))), [], [], none, none⟩,
     ⟨some 16, .call 71 [(.t 15)], [], [], none, none⟩,
     ⟨some 17, .bin .add (.t 12) (.t 16), [], [], none, none⟩,
     ⟨some 18, .mv (.t 0), [], [], none, none⟩,
     ⟨some 19, .bin .rem (.t 18) (.c (.d (.int .i64 10))), [], [], none, none⟩,
     ⟨some 20, .call 71 [(.t 19)], [], [], none, none⟩,
     ⟨some 21, .bin .add (.t 17) (.t 20), [], [], none, none⟩,
     ⟨some 2, .mv (.t 21), [], [], none, none⟩])
 (.ret)) (St.mk s o) Q =
 (demand (binV BinOp.quo (s 0) (V.d (.int .i64 100))) (fun x1 =>
callK C I (St.mk (upd (upd s 9 (s 0)) 10 x1) o) (some 11) 71 [x1] (fun r2 or2 =>
demand (binV BinOp.add r2 (V.d (.str [46]))) (fun x3 =>
demand (binV BinOp.rem (s 0) (V.d (.int .i64 100))) (fun x4 =>
demand (binV BinOp.quo x4 (V.d (.int .i64 10))) (fun x5 =>
callK C I (St.mk (upd (upd (upd (upd (upd (upd (upd s 9 (s 0)) 10 x1) 11 r2) 12 x3) 13 (s 0)) 14 x4) 15 x5) or2) (some 16) 71 [x5] (fun r6 or6 =>
demand (binV BinOp.add x3 r6) (fun x7 =>
demand (binV BinOp.rem (s 0) (V.d (.int .i64 10))) (fun x8 =>
callK C I (St.mk (upd (upd (upd (upd (upd (upd (upd (upd (upd (upd (upd s 9 (s 0)) 10 x1) 11 r2) 12 x3) 13 (s 0)) 14 x4) 15 x5) 16 r6) 17 x7) 18 (s 0)) 19 x8) or6) (some 20) 71 [x8] (fun r9 or9 =>
demand (binV BinOp.add x7 r9) (fun x10 =>
Q .ret (St.mk (look [(2, x10)]) (looko ([].map fun n => (n, or9 n))))))))))))))) := rfl
theorem g_ref01_Text_code_sh {R_c0 : ACode} {C : Ctx} {I : Nat → Prop} {s : Nat → V} {o : Nat → Option Ob} {Q : Ex → St → Prop} : wpB C I (.seq (.region [0] (some []) none
    [⟨some 2, .mv (.c (.d (.str []))), [], [], none, none⟩])
 (.seq (.seq (.region [0, 4] (some []) none
      [⟨some 3, .mv (.t 0), [], [], none, none⟩,
       ⟨some 4, .bin .lss (.t 3) (.c (.d (.int .i64 0))), [], [], none, none⟩])
   (.cond (.t 4) (.seq (.region [2] (some []) none
        [⟨some 5, .mv (.t 0), [], [], none, none⟩,
         ⟨some 6, .un .neg (.t 5), [], [], none, none⟩,
         ⟨some 7, .call 54 [(.t 6)], [], [], none, none⟩,
         ⟨some 8, .bin .add (.c (.d (.str [45]))) (.t 7), [], [], none, none⟩,
         ⟨some 2, .mv (.t 8), [], [], none, none⟩])
     (.ret))
    (.skip)))
  (R_c0))) (St.mk s o) Q =
 (demand (binV BinOp.lss (s 0) (V.d (.int .i64 0))) (fun x1 =>
condK x1
 (demand (unV UnOp.neg (s 0)) (fun x2 =>
callK C I (St.mk (upd (upd (look [(0, (s 0)), (4, x1)]) 5 (s 0)) 6 x2) (looko ([].map fun n => (n, o n)))) (some 7) 54 [x2] (fun r3 or3 =>
demand (binV BinOp.add (V.d (.str [45])) r3) (fun x4 =>
Q .ret (St.mk (look [(2, x4)]) (looko ([].map fun n => (n, or3 n))))))))
 (wpB C I R_c0 (St.mk (look [(0, (s 0)), (4, x1)]) (looko ([].map fun n => (n, o n)))) Q))) := rfl
theorem g_money_Right_code_sh {C : Ctx} {I : Nat → Prop} {s : Nat → V} {o : Nat → Option Ob} {Q : Ex → St → Prop} : wpB C I (.seq (.region [0] (some []) none
    [⟨some 2, .mv (.c (.d (.bool false))), [], [], none, none⟩])
 (.seq (.region [2] (some []) none
     [⟨some 3, .mv (.t 0), [], [], none, none⟩,
      ⟨some 4, .bin .geq (.t 3) (.c (.d (.int .i64 (-9223372036854775807)))), [], [], none, none⟩,
      ⟨some 2, .mv (.t 4), [], [], none, none⟩])
  (.ret))) (St.mk s o) Q =
 (demand (binV BinOp.geq (s 0) (V.d (.int .i64 (-9223372036854775807)))) (fun x1 =>
Q .ret (St.mk (look [(2, x1)]) (looko ([].map fun n => (n, o n)))))) := rfl
theorem g_wide_size_c0_sh {C : Ctx} {I : Nat → Prop} {s : Nat → V} {o : Nat → Option Ob} {Q : Ex → St → Prop} : wpB C I (.seq (.region [2] (some []) none
    [⟨some 8, .mv (.t 0), [], [], none, none⟩,
     ⟨some 9, .conv .u64 (.t 8), [], [], none, none⟩,
     ⟨some 2, .mv (.t 9), [], [], none, none⟩])
 (.ret)) (St.mk s o) Q =
 (demand (convV IntKind.u64 (s 0)) (fun x1 =>
Q .ret (St.mk (look [(2, x1)]) (looko ([].map fun n => (n, o n)))))) := rfl
theorem g_wide_size_code_sh {R_c0 : ACode} {C : Ctx} {I : Nat → Prop} {s : Nat → V} {o : Nat → Option Ob} {Q : Ex → St → Prop} : wpB C I (.seq (.region [0] (some []) none
    [⟨some 2, .mv (.c (.d (.int .u64 0))), [], [], none, none⟩])
 (.seq (.seq (.region [0, 4] (some []) none
      [⟨some 3, .mv (.t 0), [], [], none, none⟩,
       ⟨some 4, .bin .lss (.t 3) (.c (.d (.int .i64 0))), [], [], none, none⟩])
   (.cond (.t 4) (.seq (.region [2] (some []) none
        [⟨some 5, .mv (.t 0), [], [], none, none⟩,
         ⟨some 6, .conv .u64 (.t 5), [], [], none, none⟩,
         ⟨some 7, .un .neg (.t 6), [], [], none, none⟩,
         ⟨some 2, .mv (.t 7), [], [], none, none⟩])
     (.ret))
    (.skip)))
  (R_c0))) (St.mk s o) Q =
 (demand (binV BinOp.lss (s 0) (V.d (.int .i64 0))) (fun x1 =>
condK x1
 (demand (convV IntKind.u64 (s 0)) (fun x2 =>
demand (unV UnOp.neg x2) (fun x3 =>
Q .ret (St.mk (look [(2, x3)]) (looko ([].map fun n => (n, o n)))))))
 (wpB C I R_c0 (St.mk (look [(0, (s 0)), (4, x1)]) (looko ([].map fun n => (n, o n)))) Q))) := rfl
theorem g_math_bits_Div64_o1_sh {C : Ctx} {I : Nat → Prop} {s : Nat → V} {o : Nat → Option Ob} {K : St → Prop} : opsB C I [⟨some 78, .pick (.t 69) (.c (.d (.bool true))) (.t 77), [], [], none, none⟩] (St.mk s o) K =
 (demand (pickV (s 69) (V.d (.bool true)) (s 77)) (fun x1 =>
K (St.mk (upd s 78 x1) o))) := rfl
theorem g_math_bits_Div64_o0_sh {R_o1 : List AOper} {C : Ctx} {I : Nat → Prop} {s : Nat → V} {o : Nat → Option Ob} {K : St → Prop} : opsB C I (⟨some 70, .mv (.t 15), [], [], (some (2, 69, false)), none⟩ ::
     ⟨some 71, .mv (.t 10), [], [], (some (2, 69, false)), none⟩ ::
     ⟨some 72, .bin .mul (.t 70) (.t 71), [], [], (some (2, 69, false)), none⟩ ::
     ⟨some 73, .mv (.t 16), [], [], (some (2, 69, false)), none⟩ ::
     ⟨some 74, .bin .mul (.c (.d (.int .u64 4294967296))) (.t 73), [], [], (some (2, 69, false)), none⟩ ::
     ⟨some 75, .mv (.t 13), [], [], (some (2, 69, false)), none⟩ ::
     ⟨some 76, .bin .add (.t 74) (.t 75), [], [], (some (2, 69, false)), none⟩ ::
     ⟨some 77, .bin .gtr (.t 72) (.t 76), [], [], (some (2, 69, false)), (some ([2, 8, 9, 10, 11, 13, 14, 15, 16, 69, 77], (some [])))⟩ ::
     R_o1) (St.mk s o) K =
 (guardK (s 69) false
 (demand (binV BinOp.mul (s 15) (s 10)) (fun x1 =>
demand (binV BinOp.mul (V.d (.int .u64 4294967296)) (s 16)) (fun x2 =>
demand (binV BinOp.add x2 (s 13)) (fun x3 =>
demand (binV BinOp.gtr x1 x3) (fun x4 =>
opsB C I R_o1 (St.mk (look [(2, (s 2)), (8, (s 8)), (9, (s 9)), (10, (s 10)), (11, (s 11)), (13, (s 13)), (14, (s 14)), (15, (s 15)), (16, (s 16)), (69, (V.d (D.bool false))), (77, x4)]) (looko ([].map fun n => (n, o n)))) K)))))
 (opsB C I R_o1 (St.mk (look [(2, (s 2)), (8, (s 8)), (9, (s 9)), (10, (s 10)), (11, (s 11)), (13, (s 13)), (14, (s 14)), (15, (s 15)), (16, (s 16)), (69, (V.d (D.bool true))), (77, (V.tup []))]) (looko ([].map fun n => (n, o n)))) K)
 (opsB C I R_o1 (St.mk (look [(2, (s 2)), (8, (s 8)), (9, (s 9)), (10, (s 10)), (11, (s 11)), (13, (s 13)), (14, (s 14)), (15, (s 15)), (16, (s 16)), (69, (V.tup [])), (77, (V.tup []))]) (looko ([].map fun n => (n, o n)))) K)) := rfl
theorem g_math_bits_Div64_c0_sh {C : Ctx} {I : Nat → Prop} {s : Nat → V} {o : Nat → Option Ob} {Q : Ex → St → Prop} : wpB C I (.cond (.t 78) (.skip)
 (.exit 0)) (St.mk s o) Q =
 (condK (s 78)
 (Q .normal (St.mk s o))
 (Q (.exit 0) (St.mk s o))) := rfl
theorem g_math_bits_Div64_c1_sh {C : Ctx} {I : Nat → Prop} {s : Nat → V} {o : Nat → Option Ob} {Q : Ex → St → Prop} : wpB C I (.seq (.region [2, 8, 9, 10, 11, 13, 14, 15, 16, 85] (some []) none
    [⟨some 84, .mv (.t 16), [], [], none, none⟩,
     ⟨some 85, .bin .geq (.t 84) (.c (.d (.int .u64 4294967296))), [], [], none, none⟩])
 (.cond (.t 85) (.exit 0)
  (.skip))) (St.mk s o) Q =
 (demand (binV BinOp.geq (s 16) (V.d (.int .u64 4294967296))) (fun x1 =>
condK x1
 (Q (.exit 0) (St.mk (look [(2, (s 2)), (8, (s 8)), (9, (s 9)), (10, (s 10)), (11, (s 11)), (13, (s 13)), (14, (s 14)), (15, (s 15)), (16, (s 16)), (85, x1)]) (looko ([].map fun n => (n, o n)))))
 (Q .normal (St.mk (look [(2, (s 2)), (8, (s 8)), (9, (s 9)), (10, (s 10)), (11, (s 11)), (13, (s 13)), (14, (s 14)), (15, (s 15)), (16, (s 16)), (85, x1)]) (looko ([].map fun n => (n, o n))))))) := rfl
theorem g_math_bits_Div64_c2_sh {R_c1 : ACode} {C : Ctx} {I : Nat → Prop} {s : Nat → V} {o : Nat → Option Ob} {Q : Ex → St → Prop} : wpB C I (.block 1 [2, 8, 9, 10, 11, 13, 14, 15, 16] (some []) (.seq (.region [2, 8, 9, 10, 11, 13, 14, 15, 16] (some []) none
     [⟨some 79, .mv (.t 15), [], [], none, none⟩,
      ⟨some 80, .bin .sub (.t 79) (.c (.d (.int .u64 1))), [], [], none, none⟩,
      ⟨some 15, .mv (.t 80), [], [], none, none⟩])
  (.seq (.region [2, 8, 9, 10, 11, 13, 14, 15, 16] (some []) none
      [⟨some 81, .mv (.t 16), [], [], none, none⟩,
       ⟨some 82, .mv (.t 9), [], [], none, none⟩,
       ⟨some 83, .bin .add (.t 81) (.t 82), [], [], none, none⟩,
       ⟨some 16, .mv (.t 83), [], [], none, none⟩])
   (R_c1)))) (St.mk s o) Q =
 (demand (binV BinOp.sub (s 15) (V.d (.int .u64 1))) (fun x1 =>
demand (binV BinOp.add (s 16) (s 9)) (fun x2 =>
wpB C I R_c1 (St.mk (look [(2, (s 2)), (8, (s 8)), (9, (s 9)), (10, (s 10)), (11, (s 11)), (13, (s 13)), (14, (s 14)), (15, x1), (16, x2)]) (looko ([].map fun n => (n, o n)))) (blockK 1 [2, 8, 9, 10, 11, 13, 14, 15, 16] (some []) Q)))) := rfl
theorem g_math_bits_Div64_l0_sh {R_l0 : ACode} {R_o0 : List AOper} {R_c0 : ACode} {R_c2 : ACode} {C : Ctx} {I : Nat → Prop} {s : Nat → V} {o : Nat → Option Ob} {Q : Ex → St → Prop} (hL : R_l0 = .loop [2, 8, 9, 10, 11, 13, 14, 15, 16] (some []) (.seq (.seq (.region [2, 8, 9, 10, 11, 13, 14, 15, 16, 78] (some []) none
      (⟨some 67, .mv (.t 15), [], [], none, none⟩ ::
       ⟨some 68, .bin .geq (.t 67) (.c (.d (.int .u64 4294967296))), [], [], none, none⟩ ::
       ⟨some 69, .mv (.t 68), [], [], none, (some ([2, 8, 9, 10, 11, 13, 14, 15, 16, 69], (some [])))⟩ ::
       R_o0))
   (R_c0))
  (R_c2)))
 (h : demand (binV BinOp.geq (s 15) (V.d (.int .u64 4294967296))) (fun x1 =>
opsB C I R_o0 (St.mk (look [(2, (s 2)), (8, (s 8)), (9, (s 9)), (10, (s 10)), (11, (s 11)), (13, (s 13)), (14, (s 14)), (15, (s 15)), (16, (s 16)), (69, x1)]) (looko ([].map fun n => (n, o n)))) (fun st => (seqK (fun st => wpB C I R_c0 st (seqK (fun st => wpB C I R_c2 st (seqK (fun s => wpB C I R_l0 s Q) Q)) (seqK (fun s => wpB C I R_l0 s Q) Q))) (seqK (fun st => wpB C I R_c2 st (seqK (fun s => wpB C I R_l0 s Q) Q)) (seqK (fun s => wpB C I R_l0 s Q) Q))) .normal (St.trim st [2, 8, 9, 10, 11, 13, 14, 15, 16, 78] (some []))))) : wpB C I R_l0 (St.mk s o) Q := w_loopC hL h
theorem g_math_bits_Div64_o3_sh {C : Ctx} {I : Nat → Prop} {s : Nat → V} {o : Nat → Option Ob} {K : St → Prop} : opsB C I [⟨some 113, .pick (.t 104) (.c (.d (.bool true))) (.t 112), [], [], none, none⟩] (St.mk s o) K =
 (demand (pickV (s 104) (V.d (.bool true)) (s 112)) (fun x1 =>
K (St.mk (upd s 113 x1) o))) := rfl
theorem g_math_bits_Div64_o2_sh {R_o3 : List AOper} {C : Ctx} {I : Nat → Prop} {s : Nat → V} {o : Nat → Option Ob} {K : St → Prop} : opsB C I (⟨some 105, .mv (.t 18), [], [], (some (2, 104, false)), none⟩ ::
     ⟨some 106, .mv (.t 10), [], [], (some (2, 104, false)), none⟩ ::
     ⟨some 107, .bin .mul (.t 105) (.t 106), [], [], (some (2, 104, false)), none⟩ ::
     ⟨some 108, .mv (.t 16), [], [], (some (2, 104, false)), none⟩ ::
     ⟨some 109, .bin .mul (.c (.d (.int .u64 4294967296))) (.t 108), [], [], (some (2, 104, false)), none⟩ ::
     ⟨some 110, .mv (.t 14), [], [], (some (2, 104, false)), none⟩ ::
     ⟨some 111, .bin .add (.t 109) (.t 110), [], [], (some (2, 104, false)), none⟩ ::
     ⟨some 112, .bin .gtr (.t 107) (.t 111), [], [], (some (2, 104, false)), (some ([2, 8, 9, 10, 14, 15, 16, 17, 18, 104, 112], (some [])))⟩ ::
     R_o3) (St.mk s o) K =
 (guardK (s 104) false
 (demand (binV BinOp.mul (s 18) (s 10)) (fun x1 =>
demand (binV BinOp.mul (V.d (.int .u64 4294967296)) (s 16)) (fun x2 =>
demand (binV BinOp.add x2 (s 14)) (fun x3 =>
demand (binV BinOp.gtr x1 x3) (fun x4 =>
opsB C I R_o3 (St.mk (look [(2, (s 2)), (8, (s 8)), (9, (s 9)), (10, (s 10)), (14, (s 14)), (15, (s 15)), (16, (s 16)), (17, (s 17)), (18, (s 18)), (104, (V.d (D.bool false))), (112, x4)]) (looko ([].map fun n => (n, o n)))) K)))))
 (opsB C I R_o3 (St.mk (look [(2, (s 2)), (8, (s 8)), (9, (s 9)), (10, (s 10)), (14, (s 14)), (15, (s 15)), (16, (s 16)), (17, (s 17)), (18, (s 18)), (104, (V.d (D.bool true))), (112, (V.tup []))]) (looko ([].map fun n => (n, o n)))) K)
 (opsB C I R_o3 (St.mk (look [(2, (s 2)), (8, (s 8)), (9, (s 9)), (10, (s 10)), (14, (s 14)), (15, (s 15)), (16, (s 16)), (17, (s 17)), (18, (s 18)), (104, (V.tup [])), (112, (V.tup []))]) (looko ([].map fun n => (n, o n)))) K)) := rfl
theorem g_math_bits_Div64_c3_sh {C : Ctx} {I : Nat → Prop} {s : Nat → V} {o : Nat → Option Ob} {Q : Ex → St → Prop} : wpB C I (.cond (.t 113) (.skip)
 (.exit 2)) (St.mk s o) Q =
 (condK (s 113)
 (Q .normal (St.mk s o))
 (Q (.exit 2) (St.mk s o))) := rfl
theorem g_math_bits_Div64_c4_sh {C : Ctx} {I : Nat → Prop} {s : Nat → V} {o : Nat → Option Ob} {Q : Ex → St → Prop} : wpB C I (.seq (.region [2, 8, 9, 10, 14, 15, 16, 17, 18, 120] (some []) none
    [⟨some 119, .mv (.t 16), [], [], none, none⟩,
     ⟨some 120, .bin .geq (.t 119) (.c (.d (.int .u64 4294967296))), [], [], none, none⟩])
 (.cond (.t 120) (.exit 2)
  (.skip))) (St.mk s o) Q =
 (demand (binV BinOp.geq (s 16) (V.d (.int .u64 4294967296))) (fun x1 =>
condK x1
 (Q (.exit 2) (St.mk (look [(2, (s 2)), (8, (s 8)), (9, (s 9)), (10, (s 10)), (14, (s 14)), (15, (s 15)), (16, (s 16)), (17, (s 17)), (18, (s 18)), (120, x1)]) (looko ([].map fun n => (n, o n)))))
 (Q .normal (St.mk (look [(2, (s 2)), (8, (s 8)), (9, (s 9)), (10, (s 10)), (14, (s 14)), (15, (s 15)), (16, (s 16)), (17, (s 17)), (18, (s 18)), (120, x1)]) (looko ([].map fun n => (n, o n))))))) := rfl
theorem g_math_bits_Div64_c5_sh {R_c4 : ACode} {C : Ctx} {I : Nat → Prop} {s : Nat → V} {o : Nat → Option Ob} {Q : Ex → St → Prop} : wpB C I (.block 3 [2, 8, 9, 10, 14, 15, 16, 17, 18] (some []) (.seq (.region [2, 8, 9, 10, 14, 15, 16, 17, 18] (some []) none
     [⟨some 114, .mv (.t 18), [], [], none, none⟩,
      ⟨some 115, .bin .sub (.t 114) (.c (.d (.int .u64 1))), [], [], none, none⟩,
      ⟨some 18, .mv (.t 115), [], [], none, none⟩])
  (.seq (.region [2, 8, 9, 10, 14, 15, 16, 17, 18] (some []) none
      [⟨some 116, .mv (.t 16), [], [], none, none⟩,
       ⟨some 117, .mv (.t 9), [], [], none, none⟩,
       ⟨some 118, .bin .add (.t 116) (.t 117), [], [], none, none⟩,
       ⟨some 16, .mv (.t 118), [], [], none, none⟩])
   (R_c4)))) (St.mk s o) Q =
 (demand (binV BinOp.sub (s 18) (V.d (.int .u64 1))) (fun x1 =>
demand (binV BinOp.add (s 16) (s 9)) (fun x2 =>
wpB C I R_c4 (St.mk (look [(2, (s 2)), (8, (s 8)), (9, (s 9)), (10, (s 10)), (14, (s 14)), (15, (s 15)), (16, x2), (17, (s 17)), (18, x1)]) (looko ([].map fun n => (n, o n)))) (blockK 3 [2, 8, 9, 10, 14, 15, 16, 17, 18] (some []) Q)))) := rfl
theorem g_math_bits_Div64_l1_sh {R_l1 : ACode} {R_o2 : List AOper} {R_c3 : ACode} {R_c5 : ACode} {C : Ctx} {I : Nat → Prop} {s : Nat → V} {o : Nat → Option Ob} {Q : Ex → St → Prop} (hL : R_l1 = .loop [2, 8, 9, 10, 14, 15, 16, 17, 18] (some []) (.seq (.seq (.region [2, 8, 9, 10, 14, 15, 16, 17, 18, 113] (some []) none
      (⟨some 102, .mv (.t 18), [], [], none, none⟩ ::
       ⟨some 103, .bin .geq (.t 102) (.c (.d (.int .u64 4294967296))), [], [], none, none⟩ ::
       ⟨some 104, .mv (.t 103), [], [], none, (some ([2, 8, 9, 10, 14, 15, 16, 17, 18, 104], (some [])))⟩ ::
       R_o2))
   (R_c3))
  (R_c5)))
 (h : demand (binV BinOp.geq (s 18) (V.d (.int .u64 4294967296))) (fun x1 =>
opsB C I R_o2 (St.mk (look [(2, (s 2)), (8, (s 8)), (9, (s 9)), (10, (s 10)), (14, (s 14)), (15, (s 15)), (16, (s 16)), (17, (s 17)), (18, (s 18)), (104, x1)]) (looko ([].map fun n => (n, o n)))) (fun st => (seqK (fun st => wpB C I R_c3 st (seqK (fun st => wpB C I R_c5 st (seqK (fun s => wpB C I R_l1 s Q) Q)) (seqK (fun s => wpB C I R_l1 s Q) Q))) (seqK (fun st => wpB C I R_c5 st (seqK (fun s => wpB C I R_l1 s Q) Q)) (seqK (fun s => wpB C I R_l1 s Q) Q))) .normal (St.trim st [2, 8, 9, 10, 14, 15, 16, 17, 18, 113] (some []))))) : wpB C I R_l1 (St.mk s o) Q := w_loopC hL h
theorem g_math_bits_Div64_c6_sh {C : Ctx} {I : Nat → Prop} {s : Nat → V} {o : Nat → Option Ob} {Q : Ex → St → Prop} : wpB C I (.seq (.region [6, 7] (some []) none
    [⟨some 121, .mv (.t 15), [], [], none, none⟩,
     ⟨some 122, .bin .mul (.t 121) (.c (.d (.int .u64 4294967296))), [], [], none, none⟩,
     ⟨some 123, .mv (.t 18), [], [], none, none⟩,
     ⟨some 124, .bin .add (.t 122) (.t 123), [], [], none, none⟩,
     ⟨some 125, .mv (.t 17), [], [], none, none⟩,
     ⟨some 126, .bin .mul (.t 125) (.c (.d (.int .u64 4294967296))), [], [], none, none⟩,
     ⟨some 127, .mv (.t 14), [], [], none, none⟩,
     ⟨some 128, .bin .add (.t 126) (.t 127), [], [], none, none⟩,
     ⟨some 129, .mv (.t 18), [], [], none, none⟩,
     ⟨some 130, .mv (.t 2), [], [], none, none⟩,
     ⟨some 131, .bin .mul (.t 129) (.t 130), [], [], none, none⟩,
     ⟨some 132, .bin .sub (.t 128) (.t 131), [], [], none, none⟩,
     ⟨some 133, .mv (.t 8), [], [], none, none⟩,
     ⟨some 134, .bin .shr (.t 132) (.t 133), [], [], none, none⟩,
     ⟨some 6, .mv (.t 124), [], [], none, none⟩,
     ⟨some 7, .mv (.t 134), [], [], none, none⟩])
 (.ret)) (St.mk s o) Q =
 (demand (binV BinOp.mul (s 15) (V.d (.int .u64 4294967296))) (fun x1 =>
demand (binV BinOp.add x1 (s 18)) (fun x2 =>
demand (binV BinOp.mul (s 17) (V.d (.int .u64 4294967296))) (fun x3 =>
demand (binV BinOp.add x3 (s 14)) (fun x4 =>
demand (binV BinOp.mul (s 18) (s 2)) (fun x5 =>
demand (binV BinOp.sub x4 x5) (fun x6 =>
demand (binV BinOp.shr x6 (s 8)) (fun x7 =>
Q .ret (St.mk (look [(6, x2), (7, x7)]) (looko ([].map fun n => (n, o n)))))))))))) := rfl
theorem g_math_bits_Div64_c7_sh {R_l1 : ACode} {R_c6 : ACode} {C : Ctx} {I : Nat → Prop} {s : Nat → V} {o : Nat → Option Ob} {Q : Ex → St → Prop} : wpB C I (.seq (.block 2 [2, 8, 14, 15, 17, 18] (some []) (R_l1))
 (R_c6)) (St.mk s o) Q =
 (wpB C I R_l1 (St.mk s o) (blockK 2 [2, 8, 14, 15, 17, 18] (some []) (seqK (fun st => wpB C I R_c6 st Q) Q))) := rfl
theorem g_math_bits_Div64_c8_sh {R_c7 : ACode} {C : Ctx} {I : Nat → Prop} {s : Nat → V} {o : Nat → Option Ob} {Q : Ex → St → Prop} : wpB C I (.seq (.region [2, 8, 9, 10, 14, 15, 16, 17, 18] (some []) none
    [⟨some 97, .mv (.t 17), [], [], none, none⟩,
     ⟨some 98, .mv (.t 18), [], [], none, none⟩,
     ⟨some 99, .mv (.t 9), [], [], none, none⟩,
     ⟨some 100, .bin .mul (.t 98) (.t 99), [], [], none, none⟩,
     ⟨some 101, .bin .sub (.t 97) (.t 100), [], [], none, none⟩,
     ⟨some 16, .mv (.t 101), [], [], none, none⟩])
 (R_c7)) (St.mk s o) Q =
 (demand (binV BinOp.mul (s 18) (s 9)) (fun x1 =>
demand (binV BinOp.sub (s 17) x1) (fun x2 =>
wpB C I R_c7 (St.mk (look [(2, (s 2)), (8, (s 8)), (9, (s 9)), (10, (s 10)), (14, (s 14)), (15, (s 15)), (16, x2), (17, (s 17)), (18, (s 18))]) (looko ([].map fun n => (n, o n)))) Q))) := rfl
theorem g_math_bits_Div64_c9_sh {R_c8 : ACode} {C : Ctx} {I : Nat → Prop} {s : Nat → V} {o : Nat → Option Ob} {Q : Ex → St → Prop} : wpB C I (.seq (.region [2, 8, 9, 10, 14, 15, 17, 18] (some []) none
    [⟨some 94, .mv (.t 17), [], [], none, none⟩,
     ⟨some 95, .mv (.t 9), [], [], none, none⟩,
     ⟨some 96, .bin .quo (.t 94) (.t 95), [], [], none, none⟩,
     ⟨some 18, .mv (.t 96), [], [], none, none⟩])
 (R_c8)) (St.mk s o) Q =
 (demand (binV BinOp.quo (s 17) (s 9)) (fun x1 =>
wpB C I R_c8 (St.mk (look [(2, (s 2)), (8, (s 8)), (9, (s 9)), (10, (s 10)), (14, (s 14)), (15, (s 15)), (17, (s 17)), (18, x1)]) (looko ([].map fun n => (n, o n)))) Q)) := rfl
theorem g_math_bits_Div64_c10_sh {R_c9 : ACode} {C : Ctx} {I : Nat → Prop} {s : Nat → V} {o : Nat → Option Ob} {Q : Ex → St → Prop} : wpB C I (.seq (.region [2, 8, 9, 10, 14, 15, 17] (some []) none
    [⟨some 86, .mv (.t 11), [], [], none, none⟩,
     ⟨some 87, .bin .mul (.t 86) (.c (.d (.int .u64 4294967296))), [], [], none, none⟩,
     ⟨some 88, .mv (.t 13), [], [], none, none⟩,
     ⟨some 89, .bin .add (.t 87) (.t 88), [], [], none, none⟩,
     ⟨some 90, .mv (.t 15), [], [], none, none⟩,
     ⟨some 91, .mv (.t 2), [], [], none, none⟩,
     ⟨some 92, .bin .mul (.t 90) (.t 91), [], [], none, none⟩,
     ⟨some 93, .bin .sub (.t 89) (.t 92), [], [], none, none⟩,
     ⟨some 17, .mv (.t 93), [], [], none, none⟩])
 (R_c9)) (St.mk s o) Q =
 (demand (binV BinOp.mul (s 11) (V.d (.int .u64 4294967296))) (fun x1 =>
demand (binV BinOp.add x1 (s 13)) (fun x2 =>
demand (binV BinOp.mul (s 15) (s 2)) (fun x3 =>
demand (binV BinOp.sub x2 x3) (fun x4 =>
wpB C I R_c9 (St.mk (look [(2, (s 2)), (8, (s 8)), (9, (s 9)), (10, (s 10)), (14, (s 14)), (15, (s 15)), (17, x4)]) (looko ([].map fun n => (n, o n)))) Q))))) := rfl
theorem g_math_bits_Div64_c11_sh {R_l0 : ACode} {R_c10 : ACode} {C : Ctx} {I : Nat → Prop} {s : Nat → V} {o : Nat → Option Ob} {Q : Ex → St → Prop} : wpB C I (.seq (.block 0 [2, 8, 9, 10, 11, 13, 14, 15] (some []) (R_l0))
 (R_c10)) (St.mk s o) Q =
 (wpB C I R_l0 (St.mk s o) (blockK 0 [2, 8, 9, 10, 11, 13, 14, 15] (some []) (seqK (fun st => wpB C I R_c10 st Q) Q))) := rfl
theorem g_math_bits_Div64_c12_sh {R_c11 : ACode} {C : Ctx} {I : Nat → Prop} {s : Nat → V} {o : Nat → Option Ob} {Q : Ex → St → Prop} : wpB C I (.seq (.region [2, 8, 9, 10, 11, 13, 14, 15, 16] (some []) none
    [⟨some 62, .mv (.t 11), [], [], none, none⟩,
     ⟨some 63, .mv (.t 15), [], [], none, none⟩,
     ⟨some 64, .mv (.t 9), [], [], none, none⟩,
     ⟨some 65, .bin .mul (.t 63) (.t 64), [], [], none, none⟩,
     ⟨some 66, .bin .sub (.t 62) (.t 65), [], [], none, none⟩,
     ⟨some 16, .mv (.t 66), [], [], none, none⟩])
 (R_c11)) (St.mk s o) Q =
 (demand (binV BinOp.mul (s 15) (s 9)) (fun x1 =>
demand (binV BinOp.sub (s 11) x1) (fun x2 =>
wpB C I R_c11 (St.mk (look [(2, (s 2)), (8, (s 8)), (9, (s 9)), (10, (s 10)), (11, (s 11)), (13, (s 13)), (14, (s 14)), (15, (s 15)), (16, x2)]) (looko ([].map fun n => (n, o n)))) Q))) := rfl
theorem g_math_bits_Div64_c13_sh {R_c12 : ACode} {C : Ctx} {I : Nat → Prop} {s : Nat → V} {o : Nat → Option Ob} {Q : Ex → St → Prop} : wpB C I (.seq (.region [2, 8, 9, 10, 11, 12, 13] (some []) none
    [⟨some 55, .mv (.t 12), [], [], none, none⟩,
     ⟨some 56, .bin .shr (.t 55) (.c (.d (.int .u64 32))), [], [], none, none⟩,
     ⟨some 13, .mv (.t 56), [], [], none, none⟩])
 (.seq (.region [2, 8, 9, 10, 11, 13, 14] (some []) none
     [⟨some 57, .mv (.t 12), [], [], none, none⟩,
      ⟨some 58, .bin .and (.t 57) (.c (.d (.int .u64 4294967295))), [], [], none, none⟩,
      ⟨some 14, .mv (.t 58), [], [], none, none⟩])
  (.seq (.region [2, 8, 9, 10, 11, 13, 14, 15] (some []) none
      [⟨some 59, .mv (.t 11), [], [], none, none⟩,
       ⟨some 60, .mv (.t 9), [], [], none, none⟩,
       ⟨some 61, .bin .quo (.t 59) (.t 60), [], [], none, none⟩,
       ⟨some 15, .mv (.t 61), [], [], none, none⟩])
   (R_c12)))) (St.mk s o) Q =
 (demand (binV BinOp.shr (s 12) (V.d (.int .u64 32))) (fun x1 =>
demand (binV BinOp.and (s 12) (V.d (.int .u64 4294967295))) (fun x2 =>
demand (binV BinOp.quo (s 11) (s 9)) (fun x3 =>
wpB C I R_c12 (St.mk (look [(2, (s 2)), (8, (s 8)), (9, (s 9)), (10, (s 10)), (11, (s 11)), (13, x1), (14, x2), (15, x3)]) (looko ([].map fun n => (n, o n)))) Q)))) := rfl
theorem g_math_bits_Div64_c14_sh {R_c13 : ACode} {C : Ctx} {I : Nat → Prop} {s : Nat → V} {o : Nat → Option Ob} {Q : Ex → St → Prop} : wpB C I (.seq (.region [2, 8, 9, 10, 11, 12] (some []) none
    [⟨some 52, .mv (.t 1), [], [], none, none⟩,
     ⟨some 53, .mv (.t 8), [], [], none, none⟩,
     ⟨some 54, .bin .shl (.t 52) (.t 53), [], [], none, none⟩,
     ⟨some 12, .mv (.t 54), [], [], none, none⟩])
 (R_c13)) (St.mk s o) Q =
 (demand (binV BinOp.shl (s 1) (s 8)) (fun x1 =>
wpB C I R_c13 (St.mk (look [(2, (s 2)), (8, (s 8)), (9, (s 9)), (10, (s 10)), (11, (s 11)), (12, x1)]) (looko ([].map fun n => (n, o n)))) Q)) := rfl
theorem g_math_bits_Div64_c15_sh {R_c14 : ACode} {C : Ctx} {I : Nat → Prop} {s : Nat → V} {o : Nat → Option Ob} {Q : Ex → St → Prop} : wpB C I (.seq (.region [0, 1, 2, 8, 9] (some []) none
    [⟨some 40, .mv (.t 2), [], [], none, none⟩,
     ⟨some 41, .bin .shr (.t 40) (.c (.d (.int .u64 32))), [], [], none, none⟩,
     ⟨some 9, .mv (.t 41), [], [], none, none⟩])
 (.seq (.region [0, 1, 2, 8, 9, 10] (some []) none
     [⟨some 42, .mv (.t 2), [], [], none, none⟩,
      ⟨some 43, .bin .and (.t 42) (.c (.d (.int .u64 4294967295))), [], [], none, none⟩,
      ⟨some 10, .mv (.t 43), [], [], none, none⟩])
  (.seq (.region [1, 2, 8, 9, 10, 11] (some []) none
      [⟨some 44, .mv (.t 0), [], [], none, none⟩,
       ⟨some 45, .mv (.t 8), [], [], none, none⟩,
       ⟨some 46, .bin .shl (.t 44) (.t 45), [], [], none, none⟩,
       ⟨some 47, .mv (.t 1), [], [], none, none⟩,
       ⟨some 48, .mv (.t 8), [], [], none, none⟩,
       ⟨some 49, .bin .sub (.c (.d (.int .u64 64))) (.t 48), [], [], none, none⟩,
       ⟨some 50, .bin .shr (.t 47) (.t 49), [], [], none, none⟩,
       ⟨some 51, .bin .or (.t 46) (.t 50), [], [], none, none⟩,
       ⟨some 11, .mv (.t 51), [], [], none, none⟩])
   (R_c14)))) (St.mk s o) Q =
 (demand (binV BinOp.shr (s 2) (V.d (.int .u64 32))) (fun x1 =>
demand (binV BinOp.and (s 2) (V.d (.int .u64 4294967295))) (fun x2 =>
demand (binV BinOp.shl (s 0) (s 8)) (fun x3 =>
demand (binV BinOp.sub (V.d (.int .u64 64)) (s 8)) (fun x4 =>
demand (binV BinOp.shr (s 1) x4) (fun x5 =>
demand (binV BinOp.or x3 x5) (fun x6 =>
wpB C I R_c14 (St.mk (look [(1, (s 1)), (2, (s 2)), (8, (s 8)), (9, x1), (10, x2), (11, x6)]) (looko ([].map fun n => (n, o n)))) Q))))))) := rfl
theorem g_math_bits_Div64_c16_sh {R_c15 : ACode} {C : Ctx} {I : Nat → Prop} {s : Nat → V} {o : Nat → Option Ob} {Q : Ex → St → Prop} : wpB C I (.seq (.region [0, 1, 2, 8] (some []) none
    [⟨some 37, .mv (.t 2), [], [], none, none⟩,
     ⟨some 38, .mv (.t 8), [], [], none, none⟩,
     ⟨some 39, .bin .shl (.t 37) (.t 38), [], [], none, none⟩,
     ⟨some 2, .mv (.t 39), [], [], none, none⟩])
 (R_c15)) (St.mk s o) Q =
 (demand (binV BinOp.shl (s 2) (s 8)) (fun x1 =>
wpB C I R_c15 (St.mk (look [(0, (s 0)), (1, (s 1)), (2, x1), (8, (s 8))]) (looko ([].map fun n => (n, o n)))) Q)) := rfl
theorem g_math_bits_Div64_c17_sh {R_c16 : ACode} {C : Ctx} {I : Nat → Prop} {s : Nat → V} {o : Nat → Option Ob} {Q : Ex → St → Prop} : wpB C I (.seq (.region [0, 1, 2, 8] (some []) none
    [⟨some 34, .mv (.t 2), [], [], none, none⟩,
     ⟨some 35, .call 133 [(.t 34)], [], [], none, none⟩,
     ⟨some 36, .conv .u64 (.t 35), [], [], none, none⟩,
     ⟨some 8, .mv (.t 36), [], [], none, none⟩])
 (R_c16)) (St.mk s o) Q =
 (callK C I (St.mk (upd s 34 (s 2)) o) (some 35) 133 [(s 2)] (fun r1 or1 =>
demand (convV IntKind.u64 r1) (fun x2 =>
wpB C I R_c16 (St.mk (look [(0, (s 0)), (1, (s 1)), (2, (s 2)), (8, x2)]) (looko ([].map fun n => (n, or1 n)))) Q))) := rfl
theorem g_math_bits_Div64_c18_sh {R_c17 : ACode} {C : Ctx} {I : Nat → Prop} {s : Nat → V} {o : Nat → Option Ob} {Q : Ex → St → Prop} : wpB C I (.seq (.seq (.region [0, 1, 2, 27] (some []) none
     [⟨some 26, .mv (.t 0), [], [], none, none⟩,
      ⟨some 27, .bin .eql (.t 26) (.c (.d (.int .u64 0))), [], [], none, none⟩])
  (.cond (.t 27) (.seq (.region [6, 7] (some []) (some ([0, 1, 2, 3, 4, 5, 6, 7], .done))
       [⟨some 28, .mv (.t 1), [], [], none, none⟩,
        ⟨some 29, .mv (.t 2), [], [], none, none⟩,
        ⟨some 30, .bin .quo (.t 28) (.t 29), [], [0, 1], none, none⟩,
        ⟨some 31, .mv (.t 1), [], [], none, none⟩,
        ⟨some 32, .mv (.t 2), [], [], none, none⟩,
        ⟨some 33, .bin .rem (.t 31) (.t 32), [], [3, 4], none, none⟩,
        ⟨some 6, .mv (.t 30), [], [2, 0, 1, 2], none, none⟩,
        ⟨some 7, .mv (.t 33), [], [5, 6, 0, 1, 2, 3, 4, 5, 6], none, none⟩])
    (.ret))
   (.skip)))
 (R_c17)) (St.mk s o) Q =
 (demand (binV BinOp.eql (s 0) (V.d (.int .u64 0))) (fun x1 =>
condK x1
 (V.undef = V.undef ∧ (quietV (looko ([].map fun n => (n, o n))) ((s 1) :: [(s 1)]) ∧
V.undef = V.undef ∧ (quietV (looko ([].map fun n => (n, o n))) ((s 2) :: [(s 2)]) ∧
V.undef = V.undef ∧ (demand (binV BinOp.quo (s 1) (s 2)) (fun x4 => quietV (looko ([].map fun n => (n, o n))) (x4 :: [(s 1), (s 2)]) ∧
V.undef = V.undef ∧ (quietV (looko ([].map fun n => (n, o n))) ((s 1) :: [(s 1)]) ∧
V.undef = V.undef ∧ (quietV (looko ([].map fun n => (n, o n))) ((s 2) :: [(s 2)]) ∧
V.undef = V.undef ∧ (demand (binV BinOp.rem (s 1) (s 2)) (fun x7 => quietV (looko ([].map fun n => (n, o n))) (x7 :: [(s 1), (s 2)]) ∧
V.undef = V.undef ∧ (quietV (looko ([].map fun n => (n, o n))) (x4 :: [x4]) ∧
V.undef = V.undef ∧ (quietV (looko ([].map fun n => (n, o n))) (x7 :: [x7]) ∧
Q .ret (St.mk (look [(6, x4), (7, x7)]) (looko ([].map fun n => (n, o n)))))))))))))))
 (wpB C I R_c17 (St.mk (look [(0, (s 0)), (1, (s 1)), (2, (s 2)), (27, x1)]) (looko ([].map fun n => (n, o n)))) Q))) := rfl
theorem g_math_bits_Div64_c19_sh {R_c18 : ACode} {C : Ctx} {I : Nat → Prop} {s : Nat → V} {o : Nat → Option Ob} {Q : Ex → St → Prop} : wpB C I (.seq (.seq (.region [0, 1, 2, 24] (some []) none
     [⟨some 22, .mv (.t 2), [], [], none, none⟩,
      ⟨some 23, .mv (.t 0), [], [], none, none⟩,
      ⟨some 24, .bin .leq (.t 22) (.t 23), [], [], none, none⟩])
  (.cond (.t 24) (.region [0, 1, 2] (some []) none
      [⟨some 25, .never, [], [], none, none⟩,
       ⟨none, .never, [], [], none, none⟩])
   (.skip)))
 (R_c18)) (St.mk s o) Q =
 (demand (binV BinOp.leq (s 2) (s 0)) (fun x1 =>
condK x1
 (demand (none : Option V) (fun x => demand (none : Option V) (fun x => wpB C I R_c18 (St.mk (look [(0, (s 0)), (1, (s 1)), (2, (s 2))]) (looko ([].map fun n => (n, o n)))) Q)))
 (wpB C I R_c18 (St.mk (look [(0, (s 0)), (1, (s 1)), (2, (s 2)), (24, x1)]) (looko ([].map fun n => (n, o n)))) Q))) := rfl
theorem g_math_bits_Div64_code_sh {R_c19 : ACode} {C : Ctx} {I : Nat → Prop} {s : Nat → V} {o : Nat → Option Ob} {Q : Ex → St → Prop} : wpB C I (.seq (.region [0, 1, 2] (some []) none
    [⟨some 6, .mv (.c (.d (.int .u64 0))), [], [], none, none⟩,
     ⟨some 7, .mv (.c (.d (.int .u64 0))), [], [], none, none⟩])
 (.seq (.seq (.region [0, 1, 2, 20] (some []) none
      [⟨some 19, .mv (.t 2), [], [], none, none⟩,
       ⟨some 20, .bin .eql (.t 19) (.c (.d (.int .u64 0))), [], [], none, none⟩])
   (.cond (.t 20) (.region [0, 1, 2] (some []) none
       [⟨some 21, .never, [], [], none, none⟩,
        ⟨none, .never, [], [], none, none⟩])
    (.skip)))
  (R_c19))) (St.mk s o) Q =
 (demand (binV BinOp.eql (s 2) (V.d (.int .u64 0))) (fun x1 =>
condK x1
 (demand (none : Option V) (fun x => demand (none : Option V) (fun x => wpB C I R_c19 (St.mk (look [(0, (s 0)), (1, (s 1)), (2, (s 2))]) (looko ([].map fun n => (n, o n)))) Q)))
 (wpB C I R_c19 (St.mk (look [(0, (s 0)), (1, (s 1)), (2, (s 2)), (20, x1)]) (looko ([].map fun n => (n, o n)))) Q))) := rfl
theorem g_wide_up_o1_sh {C : Ctx} {I : Nat → Prop} {s : Nat → V} {o : Nat → Option Ob} {K : St → Prop} : opsB C I [⟨some 31, .pick (.t 28) (.c (.d (.bool true))) (.t 30), [], [], none, none⟩,
     ⟨some 24, .mv (.t 31), [], [], none, none⟩] (St.mk s o) K =
 (demand (pickV (s 28) (V.d (.bool true)) (s 30)) (fun x1 =>
K (St.mk (upd (upd s 31 x1) 24 x1) o))) := rfl
theorem g_wide_up_o0_sh {R_o1 : List AOper} {C : Ctx} {I : Nat → Prop} {s : Nat → V} {o : Nat → Option Ob} {K : St → Prop} : opsB C I (⟨some 29, .mv (.t 2), [], [], (some (3, 28, false)), none⟩ ::
     ⟨some 30, .bin .eql (.t 29) (.c (.d (.int .u64 0))), [], [], (some (3, 28, false)), (some ([0, 1, 28, 30], (some [])))⟩ ::
     R_o1) (St.mk s o) K =
 (guardK (s 28) false
 (demand (binV BinOp.eql (s 2) (V.d (.int .u64 0))) (fun x1 =>
opsB C I R_o1 (St.mk (look [(0, (s 0)), (1, (s 1)), (28, (V.d (D.bool false))), (30, x1)]) (looko ([].map fun n => (n, o n)))) K))
 (opsB C I R_o1 (St.mk (look [(0, (s 0)), (1, (s 1)), (28, (V.d (D.bool true))), (30, (V.tup []))]) (looko ([].map fun n => (n, o n)))) K)
 (opsB C I R_o1 (St.mk (look [(0, (s 0)), (1, (s 1)), (28, (V.tup [])), (30, (V.tup []))]) (looko ([].map fun n => (n, o n)))) K)) := rfl
theorem g_wide_up_c0_sh {C : Ctx} {I : Nat → Prop} {s : Nat → V} {o : Nat → Option Ob} {Q : Ex → St → Prop} : wpB C I (.cond (.t 24) (.seq (.region [8] (some []) none
     [⟨some 8, .mv (.c (.d (.bool false))), [], [], none, none⟩])
  (.ret))
 (.skip)) (St.mk s o) Q =
 (condK (s 24)
 (Q .ret (St.mk (look [(8, (V.d (.bool false)))]) (looko ([].map fun n => (n, o n)))))
 (Q .normal (St.mk s o))) := rfl
theorem g_wide_up_o3_sh {C : Ctx} {I : Nat → Prop} {s : Nat → V} {o : Nat → Option Ob} {K : St → Prop} : opsB C I [⟨some 38, .pick (.t 34) (.c (.d (.bool true))) (.t 37), [], [], none, none⟩,
     ⟨some 8, .mv (.t 38), [], [], none, none⟩] (St.mk s o) K =
 (demand (pickV (s 34) (V.d (.bool true)) (s 37)) (fun x1 =>
K (St.mk (upd (upd s 38 x1) 8 x1) o))) := rfl
theorem g_wide_up_o2_sh {R_o3 : List AOper} {C : Ctx} {I : Nat → Prop} {s : Nat → V} {o : Nat → Option Ob} {K : St → Prop} : opsB C I (⟨some 35, .mv (.t 1), [], [], (some (2, 34, false)), none⟩ ::
     ⟨some 36, .bin .rem (.t 35) (.c (.d (.int .u64 2))), [], [], (some (2, 34, false)), none⟩ ::
     ⟨some 37, .bin .eql (.t 36) (.c (.d (.int .u64 1))), [], [], (some (2, 34, false)), (some ([34, 37], (some [])))⟩ ::
     R_o3) (St.mk s o) K =
 (guardK (s 34) false
 (demand (binV BinOp.rem (s 1) (V.d (.int .u64 2))) (fun x1 =>
demand (binV BinOp.eql x1 (V.d (.int .u64 1))) (fun x2 =>
opsB C I R_o3 (St.mk (look [(34, (V.d (D.bool false))), (37, x2)]) (looko ([].map fun n => (n, o n)))) K)))
 (opsB C I R_o3 (St.mk (look [(34, (V.d (D.bool true))), (37, (V.tup []))]) (looko ([].map fun n => (n, o n)))) K)
 (opsB C I R_o3 (St.mk (look [(34, (V.tup [])), (37, (V.tup []))]) (looko ([].map fun n => (n, o n)))) K)) := rfl
theorem g_wide_up_c1_sh {C : Ctx} {I : Nat → Prop} {s : Nat → V} {o : Nat → Option Ob} {Q : Ex → St → Prop} : wpB C I (.ret) (St.mk s o) Q =
 (Q .ret (St.mk s o)) := rfl
theorem g_wide_up_c2_sh {R_o2 : List AOper} {R_c1 : ACode} {C : Ctx} {I : Nat → Prop} {s : Nat → V} {o : Nat → Option Ob} {Q : Ex → St → Prop} : wpB C I (.seq (.region [8] (some []) none
    (⟨some 32, .mv (.t 0), [], [], none, none⟩ ::
     ⟨some 33, .bin .eql (.t 32) (.c (.d (.int .i64 2))), [], [], none, none⟩ ::
     ⟨some 34, .mv (.t 33), [], [], none, (some ([1, 34], (some [])))⟩ ::
     R_o2))
 (R_c1)) (St.mk s o) Q =
 (demand (binV BinOp.eql (s 0) (V.d (.int .i64 2))) (fun x1 =>
opsB C I R_o2 (St.mk (look [(1, (s 1)), (34, x1)]) (looko ([].map fun n => (n, o n)))) (fun st => (seqK (fun st => wpB C I R_c1 st Q) Q) .normal (St.trim st [8] (some []))))) := rfl
theorem g_wide_up_c3_sh {R_o0 : List AOper} {R_c0 : ACode} {R_c2 : ACode} {C : Ctx} {I : Nat → Prop} {s : Nat → V} {o : Nat → Option Ob} {Q : Ex → St → Prop} : wpB C I (.seq (.block 1 [0, 1] (some []) (.seq (.region [0, 1, 2, 9, 20] (some []) none
      [⟨some 21, .mv (.t 2), [], [], none, none⟩,
       ⟨some 22, .mv (.t 9), [], [], none, none⟩,
       ⟨some 23, .bin .gtr (.t 21) (.t 22), [], [], none, none⟩,
       ⟨some 20, .mv (.t 23), [], [], none, none⟩])
   (.cond (.t 20) (.seq (.region [8] (some []) none
        [⟨some 8, .mv (.c (.d (.bool true))), [], [], none, none⟩])
     (.ret))
    (.seq (.region [0, 1, 24] (some []) none
        (⟨some 25, .mv (.t 2), [], [], none, none⟩ ::
         ⟨some 26, .mv (.t 9), [], [], none, none⟩ ::
         ⟨some 27, .bin .lss (.t 25) (.t 26), [], [], none, none⟩ ::
         ⟨some 28, .mv (.t 27), [], [], none, (some ([0, 1, 2, 28], (some [])))⟩ ::
         R_o0))
     (R_c0)))))
 (R_c2)) (St.mk s o) Q =
 (demand (binV BinOp.gtr (s 2) (s 9)) (fun x1 =>
condK x1
 (Q .ret (St.mk (look [(8, (V.d (.bool true)))]) (looko ([].map fun n => (n, o n)))))
 (demand (binV BinOp.lss (s 2) (s 9)) (fun x2 =>
opsB C I R_o0 (St.mk (look [(0, (s 0)), (1, (s 1)), (2, (s 2)), (28, x2)]) (looko ([].map fun n => (n, o n)))) (fun st => (seqK (fun st => wpB C I R_c0 st (blockK 1 [0, 1] (some []) (seqK (fun st => wpB C I R_c2 st Q) Q))) (blockK 1 [0, 1] (some []) (seqK (fun st => wpB C I R_c2 st Q) Q))) .normal (St.trim st [0, 1, 24] (some []))))))) := rfl
theorem g_wide_up_c4_sh {R_c3 : ACode} {C : Ctx} {I : Nat → Prop} {s : Nat → V} {o : Nat → Option Ob} {Q : Ex → St → Prop} : wpB C I (.seq (.region [0, 1, 2, 9] (some []) none
    [⟨some 17, .mv (.t 3), [], [], none, none⟩,
     ⟨some 18, .mv (.t 2), [], [], none, none⟩,
     ⟨some 19, .bin .sub (.t 17) (.t 18), [], [], none, none⟩,
     ⟨some 9, .mv (.t 19), [], [], none, none⟩])
 (R_c3)) (St.mk s o) Q =
 (demand (binV BinOp.sub (s 3) (s 2)) (fun x1 =>
wpB C I R_c3 (St.mk (look [(0, (s 0)), (1, (s 1)), (2, (s 2)), (9, x1)]) (looko ([].map fun n => (n, o n)))) Q)) := rfl
theorem g_wide_up_code_sh {R_c4 : ACode} {C : Ctx} {I : Nat → Prop} {s : Nat → V} {o : Nat → Option Ob} {Q : Ex → St → Prop} : wpB C I (.seq (.region [0, 1, 2, 3] (some []) none
    [⟨some 8, .mv (.c (.d (.bool false))), [], [], none, none⟩])
 (.seq (.seq (.region [0, 1, 2, 3, 10] (some []) none
      [⟨some 10, .mv (.t 0), [], [], none, none⟩])
   (.block 0 [0, 1, 2, 3] (some []) (.seq (.region [0, 1, 2, 3, 10, 11] (some []) none
        [⟨some 12, .bin .eql (.t 10) (.c (.d (.int .i64 0))), [], [], none, none⟩,
         ⟨some 11, .mv (.t 12), [], [], none, none⟩])
     (.cond (.t 11) (.seq (.region [8] (some []) none
          [⟨some 8, .mv (.c (.d (.bool false))), [], [], none, none⟩])
       (.ret))
      (.seq (.region [0, 1, 2, 3, 13] (some []) none
          [⟨some 14, .bin .eql (.t 10) (.c (.d (.int .i64 1))), [], [], none, none⟩,
           ⟨some 13, .mv (.t 14), [], [], none, none⟩])
       (.cond (.t 13) (.seq (.region [8] (some []) none
            [⟨some 15, .mv (.t 2), [], [], none, none⟩,
             ⟨some 16, .bin .gtr (.t 15) (.c (.d (.int .u64 0))), [], [], none, none⟩,
             ⟨some 8, .mv (.t 16), [], [], none, none⟩])
         (.ret))
        (.skip)))))))
  (R_c4))) (St.mk s o) Q =
 (demand (binV BinOp.eql (s 0) (V.d (.int .i64 0))) (fun x1 =>
condK x1
 (Q .ret (St.mk (look [(8, (V.d (.bool false)))]) (looko ([].map fun n => (n, o n)))))
 (demand (binV BinOp.eql (s 0) (V.d (.int .i64 1))) (fun x2 =>
condK x2
 (demand (binV BinOp.gtr (s 2) (V.d (.int .u64 0))) (fun x3 =>
Q .ret (St.mk (look [(8, x3)]) (looko ([].map fun n => (n, o n))))))
 (wpB C I R_c4 (St.mk (look [(0, (s 0)), (1, (s 1)), (2, (s 2)), (3, (s 3))]) (looko ([].map fun n => (n, o n)))) Q))))) := rfl
theorem g_internal_stringslite_CutSuffix_c0_sh {C : Ctx} {I : Nat → Prop} {s : Nat → V} {o : Nat → Option Ob} {Q : Ex → St → Prop} : wpB C I (.seq (.region [4, 5] (some []) none
    [⟨some 11, .mv (.t 0), [], [], none, none⟩,
     ⟨some 12, .mv (.t 0), [], [], none, none⟩,
     ⟨some 13, .lenS (.t 12), [], [], none, none⟩,
     ⟨some 14, .mv (.t 1), [], [], none, none⟩,
     ⟨some 15, .lenS (.t 14), [], [], none, none⟩,
     ⟨some 16, .bin .sub (.t 13) (.t 15), [], [], none, none⟩,
     ⟨some 17, .slcS (.t 11) none (some (.t 16)), [], [], none, none⟩,
     ⟨some 4, .mv (.t 17), [], [], none, none⟩,
     ⟨some 5, .mv (.c (.d (.bool true))), [], [], none, none⟩])
 (.ret)) (St.mk s o) Q =
 (demand (lenSV (s 0)) (fun x1 =>
demand (lenSV (s 1)) (fun x2 =>
demand (binV BinOp.sub x1 x2) (fun x3 =>
demand (slcSV (s 0) none (some x3)) (fun x4 =>
Q .ret (St.mk (look [(4, x4), (5, (V.d (.bool true)))]) (looko ([].map fun n => (n, o n))))))))) := rfl
theorem g_internal_stringslite_CutSuffix_code_sh {R_c0 : ACode} {C : Ctx} {I : Nat → Prop} {s : Nat → V} {o : Nat → Option Ob} {Q : Ex → St → Prop} : wpB C I (.seq (.region [0, 1] (some []) none
    [⟨some 4, .mv (.c (.d (.str []))), [], [], none, none⟩,
     ⟨some 5, .mv (.c (.d (.bool false))), [], [], none, none⟩])
 (.seq (.seq (.region [0, 1, 9] (some []) none
      [⟨some 6, .mv (.t 0), [], [], none, none⟩,
       ⟨some 7, .mv (.t 1), [], [], none, none⟩,
       ⟨some 8, .call 141 [(.t 6), (.t 7)], [], [], none, none⟩,
       ⟨some 9, .un .not (.t 8), [], [], none, none⟩])
   (.cond (.t 9) (.seq (.region [4, 5] (some []) none
        [⟨some 10, .mv (.t 0), [], [], none, none⟩,
         ⟨some 4, .mv (.t 10), [], [], none, none⟩,
         ⟨some 5, .mv (.c (.d (.bool false))), [], [], none, none⟩])
     (.ret))
    (.skip)))
  (R_c0))) (St.mk s o) Q =
 (callK C I (St.mk (upd (upd (look [(0, (s 0)), (1, (s 1))]) 6 (s 0)) 7 (s 1)) (looko ([].map fun n => (n, o n)))) (some 8) 141 [(s 0), (s 1)] (fun r1 or1 =>
demand (unV UnOp.not r1) (fun x2 =>
condK x2
 (Q .ret (St.mk (look [(4, (s 0)), (5, (V.d (.bool false)))]) (looko ([].map fun n => (n, or1 n)))))
 (wpB C I R_c0 (St.mk (look [(0, (s 0)), (1, (s 1)), (9, x2)]) (looko ([].map fun n => (n, or1 n)))) Q)))) := rfl
theorem g_ref01_Digits_l0_sh {R_l0 : ACode} {C : Ctx} {I : Nat → Prop} {s : Nat → V} {o : Nat → Option Ob} {Q : Ex → St → Prop} (hL : R_l0 = .loop [0, 3] (some []) (.seq (.seq (.region [0, 3, 11] (some []) none
      [⟨some 10, .mv (.t 0), [], [], none, none⟩,
       ⟨some 11, .bin .gtr (.t 10) (.c (.d (.int .i64 9))), [], [], none, none⟩])
   (.cond (.t 11) (.skip)
    (.exit 0)))
  (.block 1 [0, 3] (some []) (.seq (.region [0, 3] (some []) none
       [⟨some 12, .mv (.t 0), [], [], none, none⟩,
        ⟨some 13, .bin .quo (.t 12) (.c (.d (.int .i64 10))), [], [], none, none⟩,
        ⟨some 0, .mv (.t 13), [], [], none, none⟩])
    (.region [0, 3] (some []) none
       [⟨some 14, .mv (.t 0), [], [], none, none⟩,
        ⟨some 15, .bin .rem (.t 14) (.c (.d (.int .i64 10))), [], [], none, none⟩,
        ⟨some 16, .bin .add (.c (.d (.int .i64 48))) (.t 15), [], [], none, none⟩,
        ⟨some 17, .conv .u8 (.t 16), [], [], none, none⟩,
        ⟨some 18, .bsl none 1 [] 1 [(0, (.t 17))], [], [], none, none⟩,
        ⟨some 19, .bstr (.t 18), [], [], none, none⟩,
        ⟨some 20, .mv (.t 3), [], [], none, none⟩,
        ⟨some 21, .bin .add (.t 19) (.t 20), [], [], none, none⟩,
        ⟨some 3, .mv (.t 21), [], [], none, none⟩])))))
 (h : demand (binV BinOp.gtr (s 0) (V.d (.int .i64 9))) (fun x1 =>
condK x1
 (demand (binV BinOp.quo (s 0) (V.d (.int .i64 10))) (fun x2 =>
demand (binV BinOp.rem x2 (V.d (.int .i64 10))) (fun x3 =>
demand (binV BinOp.add (V.d (.int .i64 48)) x3) (fun x4 =>
demand (convV IntKind.u8 x4) (fun x5 =>
lstK (partsN 1 [x5]) (fun es6 =>
demand (bstrV (V.d (D.sl es6))) (fun x7 =>
demand (binV BinOp.add x7 (s 3)) (fun x8 =>
wpB C I R_l0 (St.mk (look [(0, x2), (3, x8)]) (looko ([].map fun n => (n, o n)))) Q))))))))
 (Q (.exit 0) (St.mk (look [(0, (s 0)), (3, (s 3)), (11, x1)]) (looko ([].map fun n => (n, o n))))))) : wpB C I R_l0 (St.mk s o) Q := w_loopC hL h
theorem g_ref01_Digits_c0_sh {C : Ctx} {I : Nat → Prop} {s : Nat → V} {o : Nat → Option Ob} {Q : Ex → St → Prop} : wpB C I (.seq (.region [2] (some []) none
    [⟨some 22, .mv (.t 3), [], [], none, none⟩,
     ⟨some 2, .mv (.t 22), [], [], none, none⟩])
 (.ret)) (St.mk s o) Q =
 (Q .ret (St.mk (look [(2, (s 3))]) (looko ([].map fun n => (n, o n))))) := rfl
theorem g_ref01_Digits_c1_sh {R_l0 : ACode} {R_c0 : ACode} {C : Ctx} {I : Nat → Prop} {s : Nat → V} {o : Nat → Option Ob} {Q : Ex → St → Prop} : wpB C I (.seq (.block 0 [3] (some []) (R_l0))
 (R_c0)) (St.mk s o) Q =
 (wpB C I R_l0 (St.mk s o) (blockK 0 [3] (some []) (seqK (fun st => wpB C I R_c0 st Q) Q))) := rfl
theorem g_ref01_Digits_code_sh {R_c1 : ACode} {C : Ctx} {I : Nat → Prop} {s : Nat → V} {o : Nat → Option Ob} {Q : Ex → St → Prop} : wpB C I (.seq (.region [0] (some []) none
    [⟨some 2, .mv (.c (.d (.str []))), [], [], none, none⟩])
 (.seq (.region [0, 3] (some []) none
     [⟨some 4, .mv (.t 0), [], [], none, none⟩,
      ⟨some 5, .bin .rem (.t 4) (.c (.d (.int .i64 10))), [], [], none, none⟩,
      ⟨some 6, .bin .add (.c (.d (.int .i64 48))) (.t 5), [], [], none, none⟩,
      ⟨some 7, .conv .u8 (.t 6), [], [], none, none⟩,
      ⟨some 8, .bsl none 1 [] 1 [(0, (.t 7))], [], [], none, none⟩,
      ⟨some 9, .bstr (.t 8), [], [], none, none⟩,
      ⟨some 3, .mv (.t 9), [], [], none, none⟩])
  (R_c1))) (St.mk s o) Q =
 (demand (binV BinOp.rem (s 0) (V.d (.int .i64 10))) (fun x1 =>
demand (binV BinOp.add (V.d (.int .i64 48)) x1) (fun x2 =>
demand (convV IntKind.u8 x2) (fun x3 =>
lstK (partsN 1 [x3]) (fun es4 =>
demand (bstrV (V.d (D.sl es4))) (fun x5 =>
wpB C I R_c1 (St.mk (look [(0, (s 0)), (3, x5)]) (looko ([].map fun n => (n, o n)))) Q)))))) := rfl
theorem g_internal_stringslite_HasSuffix_o1_sh {C : Ctx} {I : Nat → Prop} {s : Nat → V} {o : Nat → Option Ob} {K : St → Prop} : opsB C I [⟨some 20, .pick (.t 10) (.t 19) (.c (.d (.bool false))), [], [], none, none⟩,
     ⟨some 4, .mv (.t 20), [], [], none, none⟩] (St.mk s o) K =
 (demand (pickV (s 10) (s 19) (V.d (.bool false))) (fun x1 =>
K (St.mk (upd (upd s 20 x1) 4 x1) o))) := rfl
theorem g_internal_stringslite_HasSuffix_o0_sh {R_o1 : List AOper} {C : Ctx} {I : Nat → Prop} {s : Nat → V} {o : Nat → Option Ob} {K : St → Prop} : opsB C I (⟨some 11, .mv (.t 0), [], [], (some (5, 10, true)), none⟩ ::
     ⟨some 12, .mv (.t 0), [], [], (some (5, 10, true)), none⟩ ::
     ⟨some 13, .lenS (.t 12), [], [], (some (5, 10, true)), none⟩ ::
     ⟨some 14, .mv (.t 1), [], [], (some (5, 10, true)), none⟩ ::
     ⟨some 15, .lenS (.t 14), [], [], (some (5, 10, true)), none⟩ ::
     ⟨some 16, .bin .sub (.t 13) (.t 15), [], [], (some (5, 10, true)), none⟩ ::
     ⟨some 17, .slcS (.t 11) (some (.t 16)) none, [], [], (some (5, 10, true)), none⟩ ::
     ⟨some 18, .mv (.t 1), [], [], (some (5, 10, true)), none⟩ ::
     ⟨some 19, .bin .eql (.t 17) (.t 18), [], [], (some (5, 10, true)), (some ([10, 19], (some [])))⟩ ::
     R_o1) (St.mk s o) K =
 (guardK (s 10) true
 (demand (lenSV (s 0)) (fun x1 =>
demand (lenSV (s 1)) (fun x2 =>
demand (binV BinOp.sub x1 x2) (fun x3 =>
demand (slcSV (s 0) (some x3) none) (fun x4 =>
demand (binV BinOp.eql x4 (s 1)) (fun x5 =>
opsB C I R_o1 (St.mk (look [(10, (V.d (D.bool true))), (19, x5)]) (looko ([].map fun n => (n, o n)))) K))))))
 (opsB C I R_o1 (St.mk (look [(10, (V.d (D.bool false))), (19, (V.tup []))]) (looko ([].map fun n => (n, o n)))) K)
 (opsB C I R_o1 (St.mk (look [(10, (V.tup [])), (19, (V.tup []))]) (looko ([].map fun n => (n, o n)))) K)) := rfl
theorem g_internal_stringslite_HasSuffix_c0_sh {C : Ctx} {I : Nat → Prop} {s : Nat → V} {o : Nat → Option Ob} {Q : Ex → St → Prop} : wpB C I (.ret) (St.mk s o) Q =
 (Q .ret (St.mk s o)) := rfl
theorem g_internal_stringslite_HasSuffix_code_sh {R_o0 : List AOper} {R_c0 : ACode} {C : Ctx} {I : Nat → Prop} {s : Nat → V} {o : Nat → Option Ob} {Q : Ex → St → Prop} : wpB C I (.seq (.region [0, 1] (some []) none
    [⟨some 4, .mv (.c (.d (.bool false))), [], [], none, none⟩])
 (.seq (.region [4] (some []) none
     (⟨some 5, .mv (.t 0), [], [], none, none⟩ ::
      ⟨some 6, .lenS (.t 5), [], [], none, none⟩ ::
      ⟨some 7, .mv (.t 1), [], [], none, none⟩ ::
      ⟨some 8, .lenS (.t 7), [], [], none, none⟩ ::
      ⟨some 9, .bin .geq (.t 6) (.t 8), [], [], none, none⟩ ::
      ⟨some 10, .mv (.t 9), [], [], none, (some ([0, 1, 10], (some [])))⟩ ::
      R_o0))
  (R_c0))) (St.mk s o) Q =
 (demand (lenSV (s 0)) (fun x1 =>
demand (lenSV (s 1)) (fun x2 =>
demand (binV BinOp.geq x1 x2) (fun x3 =>
opsB C I R_o0 (St.mk (look [(0, (s 0)), (1, (s 1)), (10, x3)]) (looko ([].map fun n => (n, o n)))) (fun st => (seqK (fun st => wpB C I R_c0 st Q) Q) .normal (St.trim st [4] (some []))))))) := rfl

end Pay
