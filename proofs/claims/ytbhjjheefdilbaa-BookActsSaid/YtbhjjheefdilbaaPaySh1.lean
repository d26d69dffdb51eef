/- What the code of the functions comes to, without slots: an equation for each part; no condition. -/
import Derived.Test.YtbhjjheefdilbaaPayU
import Derived.Test.YtbhjjheefdilbaaPayBkCode
set_option maxRecDepth 20000
set_option maxHeartbeats 400000
set_option linter.unusedVariables false
namespace Pay
open Go
theorem g_slices_IndexFunc_Entry_l0_sh {R_l0 : ACode} {R_c0 : ACode} {C : Ctx} {I : Nat → Prop} {s : Nat → V} {o : Nat → Option Ob} {Q : Ex → St → Prop} (hL : R_l0 = .loop [0, 1, 7, 8] none (.seq (.region [0, 1, 7, 8, 9] none none
     [⟨some 9, .bin .lss (.t 8) (.t 7), [], [], none, none⟩])
  (.seq (.cond (.t 9) (.skip)
    (.exit 0))
   (.seq (.block 1 [0, 1, 7, 8] none (.seq (.region [0, 1, 5, 7, 8] none none
         [⟨some 10, .mv (.t 8), [], [], none, none⟩,
          ⟨some 5, .mv (.t 10), [], [], none, none⟩])
      (.seq (.region [0, 1, 5, 7, 8, 16] none none
          [⟨some 11, .mv (.t 1), [], [], none, none⟩,
           ⟨some 12, .mv (.t 0), [], [], none, none⟩,
           ⟨some 13, .mv (.t 5), [], [], none, none⟩,
           ⟨some 14, .iaddr 22 (.t 12) (.t 13), [], [], none, none⟩,
           ⟨some 15, .load (some 22) (.t 14), [], [], none, none⟩,
           ⟨some 16, .callv (.t 11) [(.t 15)], [], [], none, none⟩])
       (.cond (.t 16) (.seq (.region [4] none none
            [⟨some 17, .mv (.t 5), [], [], none, none⟩,
             ⟨some 4, .mv (.t 17), [], [], none, none⟩])
         (.ret))
        (.skip)))))
    (R_c0)))))
 (h : demand (binV BinOp.lss (s 8) (s 7)) (fun x1 =>
condK x1
 (demand (iaddrV o 22 (s 0) (s 8)) (fun x2 =>
demand (loadV o (some 22) x2) (fun x3 =>
fnK (s 1) (fun f5 cs6 => callK C I (St.mk (upd (upd (upd (upd (upd (look [(0, (s 0)), (1, (s 1)), (5, (s 8)), (7, (s 7)), (8, (s 8))]) 11 (s 1)) 12 (s 0)) 13 (s 8)) 14 x2) 15 x3) o) (some 16) f5 ([x3] ++ cs6) (fun r4 or4 =>
condK r4
 (Q .ret (St.mk (look [(4, (s 8))]) or4))
 (wpB C I R_c0 (St.mk (look [(0, (s 0)), (1, (s 1)), (7, (s 7)), (8, (s 8))]) or4) (seqK (fun s => wpB C I R_l0 s Q) Q)))))))
 (Q (.exit 0) (St.mk (look [(0, (s 0)), (1, (s 1)), (7, (s 7)), (8, (s 8)), (9, x1)]) o)))) : wpB C I R_l0 (St.mk s o) Q := w_loopC hL h

theorem g_slices_IndexFunc_Entry_c1_sh {C : Ctx} {I : Nat → Prop} {s : Nat → V} {o : Nat → Option Ob} {Q : Ex → St → Prop} : wpB C I (.seq (.region [4] none none
    [⟨some 4, .mv (.c (.d (.int .i64 (-1)))), [], [], none, none⟩])
 (.ret)) (St.mk s o) Q =
 (Q .ret (St.mk (look [(4, (V.d (.int .i64 (-1))))]) o)) := rfl

theorem g_slices_IndexFunc_Entry_code_sh {R_l0 : ACode} {R_c1 : ACode} {C : Ctx} {I : Nat → Prop} {s : Nat → V} {o : Nat → Option Ob} {Q : Ex → St → Prop} : wpB C I (.seq (.region [0, 1] none none
    [⟨some 4, .mv (.c (.d (.int .i64 0))), [], [], none, none⟩])
 (.seq (.seq (.region [0, 1, 7, 8] none none
      [⟨some 6, .mv (.t 0), [], [], none, none⟩,
       ⟨some 7, .len (.t 6), [], [], none, none⟩,
       ⟨some 8, .mv (.c (.d (.int .i64 0))), [], [], none, none⟩])
   (.block 0 [] none (R_l0)))
  (R_c1))) (St.mk s o) Q =
 (demand (lenV o (s 0)) (fun x1 =>
wpB C I R_l0 (St.mk (look [(0, (s 0)), (1, (s 1)), (7, x1), (8, (V.d (.int .i64 0)))]) o) (blockK 0 [] none (seqK (fun st => wpB C I R_c1 st Q) Q)))) := rfl

theorem g_ref16_Same_o15_sh {C : Ctx} {I : Nat → Prop} {s : Nat → V} {o : Nat → Option Ob} {K : St → Prop} : opsB C I [⟨some 68, .pick (.t 62) (.c (.d (.bool true))) (.t 67), [], [], none, none⟩] (St.mk s o) K =
 (demand (pickV (s 62) (V.d (.bool true)) (s 67)) (fun x1 =>
K (St.mk (upd s 68 x1) o))) := rfl

theorem g_ref16_Same_o14_sh {R_o15 : List AOper} {C : Ctx} {I : Nat → Prop} {s : Nat → V} {o : Nat → Option Ob} {K : St → Prop} : opsB C I (⟨some 63, .faddr 12 (.t 2), [], [], (some (56, 62, false)), none⟩ ::
     ⟨some 64, .load none (.t 63), [], [], (some (56, 62, false)), none⟩ ::
     ⟨some 65, .faddr 12 (.t 3), [], [], (some (56, 62, false)), none⟩ ::
     ⟨some 66, .load none (.t 65), [], [], (some (56, 62, false)), none⟩ ::
     ⟨some 67, .bin .neq (.t 64) (.t 66), [], [], (some (56, 62, false)), (some ([2, 3, 62, 67], (some [2, 3])))⟩ ::
     R_o15) (St.mk s o) K =
 (guardK (s 62) false
 (demand (faddrV 12 (s 2)) (fun x1 =>
demand (loadV o none x1) (fun x2 =>
demand (faddrV 12 (s 3)) (fun x3 =>
demand (loadV o none x3) (fun x4 =>
demand (binV BinOp.neq x2 x4) (fun x5 =>
opsB C I R_o15 (St.mk (look [(2, (s 2)), (3, (s 3)), (62, (V.d (D.bool false))), (67, x5)]) (looko ([2, 3].map fun n => (n, o n)))) K))))))
 (opsB C I R_o15 (St.mk (look [(2, (s 2)), (3, (s 3)), (62, (V.d (D.bool true))), (67, (V.tup []))]) (looko ([2, 3].map fun n => (n, o n)))) K)
 (opsB C I R_o15 (St.mk (look [(2, (s 2)), (3, (s 3)), (62, (V.tup [])), (67, (V.tup []))]) (looko ([2, 3].map fun n => (n, o n)))) K)) := rfl

theorem g_ref16_Same_o13_sh {R_o14 : List AOper} {C : Ctx} {I : Nat → Prop} {s : Nat → V} {o : Nat → Option Ob} {K : St → Prop} : opsB C I (⟨some 61, .pick (.t 55) (.c (.d (.bool true))) (.t 60), [], [], none, none⟩ ::
     ⟨some 62, .mv (.t 61), [], [], none, (some ([2, 3, 62], (some [2, 3])))⟩ ::
     R_o14) (St.mk s o) K =
 (demand (pickV (s 55) (V.d (.bool true)) (s 60)) (fun x1 =>
opsB C I R_o14 (St.mk (look [(2, (s 2)), (3, (s 3)), (62, x1)]) (looko ([2, 3].map fun n => (n, o n)))) K)) := rfl

theorem g_ref16_Same_o12_sh {R_o13 : List AOper} {C : Ctx} {I : Nat → Prop} {s : Nat → V} {o : Nat → Option Ob} {K : St → Prop} : opsB C I (⟨some 56, .faddr 11 (.t 2), [], [], (some (49, 55, false)), none⟩ ::
     ⟨some 57, .load none (.t 56), [], [], (some (49, 55, false)), none⟩ ::
     ⟨some 58, .faddr 11 (.t 3), [], [], (some (49, 55, false)), none⟩ ::
     ⟨some 59, .load none (.t 58), [], [], (some (49, 55, false)), none⟩ ::
     ⟨some 60, .bin .neq (.t 57) (.t 59), [], [], (some (49, 55, false)), (some ([2, 3, 55, 60], (some [2, 3])))⟩ ::
     R_o13) (St.mk s o) K =
 (guardK (s 55) false
 (demand (faddrV 11 (s 2)) (fun x1 =>
demand (loadV o none x1) (fun x2 =>
demand (faddrV 11 (s 3)) (fun x3 =>
demand (loadV o none x3) (fun x4 =>
demand (binV BinOp.neq x2 x4) (fun x5 =>
opsB C I R_o13 (St.mk (look [(2, (s 2)), (3, (s 3)), (55, (V.d (D.bool false))), (60, x5)]) (looko ([2, 3].map fun n => (n, o n)))) K))))))
 (opsB C I R_o13 (St.mk (look [(2, (s 2)), (3, (s 3)), (55, (V.d (D.bool true))), (60, (V.tup []))]) (looko ([2, 3].map fun n => (n, o n)))) K)
 (opsB C I R_o13 (St.mk (look [(2, (s 2)), (3, (s 3)), (55, (V.tup [])), (60, (V.tup []))]) (looko ([2, 3].map fun n => (n, o n)))) K)) := rfl

theorem g_ref16_Same_o11_sh {R_o12 : List AOper} {C : Ctx} {I : Nat → Prop} {s : Nat → V} {o : Nat → Option Ob} {K : St → Prop} : opsB C I (⟨some 54, .pick (.t 48) (.c (.d (.bool true))) (.t 53), [], [], none, none⟩ ::
     ⟨some 55, .mv (.t 54), [], [], none, (some ([2, 3, 55], (some [2, 3])))⟩ ::
     R_o12) (St.mk s o) K =
 (demand (pickV (s 48) (V.d (.bool true)) (s 53)) (fun x1 =>
opsB C I R_o12 (St.mk (look [(2, (s 2)), (3, (s 3)), (55, x1)]) (looko ([2, 3].map fun n => (n, o n)))) K)) := rfl

theorem g_ref16_Same_o10_sh {R_o11 : List AOper} {C : Ctx} {I : Nat → Prop} {s : Nat → V} {o : Nat → Option Ob} {K : St → Prop} : opsB C I (⟨some 49, .faddr 10 (.t 2), [], [], (some (42, 48, false)), none⟩ ::
     ⟨some 50, .load none (.t 49), [], [], (some (42, 48, false)), none⟩ ::
     ⟨some 51, .faddr 10 (.t 3), [], [], (some (42, 48, false)), none⟩ ::
     ⟨some 52, .load none (.t 51), [], [], (some (42, 48, false)), none⟩ ::
     ⟨some 53, .bin .neq (.t 50) (.t 52), [], [], (some (42, 48, false)), (some ([2, 3, 48, 53], (some [2, 3])))⟩ ::
     R_o11) (St.mk s o) K =
 (guardK (s 48) false
 (demand (faddrV 10 (s 2)) (fun x1 =>
demand (loadV o none x1) (fun x2 =>
demand (faddrV 10 (s 3)) (fun x3 =>
demand (loadV o none x3) (fun x4 =>
demand (binV BinOp.neq x2 x4) (fun x5 =>
opsB C I R_o11 (St.mk (look [(2, (s 2)), (3, (s 3)), (48, (V.d (D.bool false))), (53, x5)]) (looko ([2, 3].map fun n => (n, o n)))) K))))))
 (opsB C I R_o11 (St.mk (look [(2, (s 2)), (3, (s 3)), (48, (V.d (D.bool true))), (53, (V.tup []))]) (looko ([2, 3].map fun n => (n, o n)))) K)
 (opsB C I R_o11 (St.mk (look [(2, (s 2)), (3, (s 3)), (48, (V.tup [])), (53, (V.tup []))]) (looko ([2, 3].map fun n => (n, o n)))) K)) := rfl

theorem g_ref16_Same_o9_sh {R_o10 : List AOper} {C : Ctx} {I : Nat → Prop} {s : Nat → V} {o : Nat → Option Ob} {K : St → Prop} : opsB C I (⟨some 47, .pick (.t 41) (.c (.d (.bool true))) (.t 46), [], [], none, none⟩ ::
     ⟨some 48, .mv (.t 47), [], [], none, (some ([2, 3, 48], (some [2, 3])))⟩ ::
     R_o10) (St.mk s o) K =
 (demand (pickV (s 41) (V.d (.bool true)) (s 46)) (fun x1 =>
opsB C I R_o10 (St.mk (look [(2, (s 2)), (3, (s 3)), (48, x1)]) (looko ([2, 3].map fun n => (n, o n)))) K)) := rfl

theorem g_ref16_Same_o8_sh {R_o9 : List AOper} {C : Ctx} {I : Nat → Prop} {s : Nat → V} {o : Nat → Option Ob} {K : St → Prop} : opsB C I (⟨some 42, .faddr 9 (.t 2), [], [], (some (35, 41, false)), none⟩ ::
     ⟨some 43, .load none (.t 42), [], [], (some (35, 41, false)), none⟩ ::
     ⟨some 44, .faddr 9 (.t 3), [], [], (some (35, 41, false)), none⟩ ::
     ⟨some 45, .load none (.t 44), [], [], (some (35, 41, false)), none⟩ ::
     ⟨some 46, .bin .neq (.t 43) (.t 45), [], [], (some (35, 41, false)), (some ([2, 3, 41, 46], (some [2, 3])))⟩ ::
     R_o9) (St.mk s o) K =
 (guardK (s 41) false
 (demand (faddrV 9 (s 2)) (fun x1 =>
demand (loadV o none x1) (fun x2 =>
demand (faddrV 9 (s 3)) (fun x3 =>
demand (loadV o none x3) (fun x4 =>
demand (binV BinOp.neq x2 x4) (fun x5 =>
opsB C I R_o9 (St.mk (look [(2, (s 2)), (3, (s 3)), (41, (V.d (D.bool false))), (46, x5)]) (looko ([2, 3].map fun n => (n, o n)))) K))))))
 (opsB C I R_o9 (St.mk (look [(2, (s 2)), (3, (s 3)), (41, (V.d (D.bool true))), (46, (V.tup []))]) (looko ([2, 3].map fun n => (n, o n)))) K)
 (opsB C I R_o9 (St.mk (look [(2, (s 2)), (3, (s 3)), (41, (V.tup [])), (46, (V.tup []))]) (looko ([2, 3].map fun n => (n, o n)))) K)) := rfl

theorem g_ref16_Same_o7_sh {R_o8 : List AOper} {C : Ctx} {I : Nat → Prop} {s : Nat → V} {o : Nat → Option Ob} {K : St → Prop} : opsB C I (⟨some 40, .pick (.t 34) (.c (.d (.bool true))) (.t 39), [], [], none, none⟩ ::
     ⟨some 41, .mv (.t 40), [], [], none, (some ([2, 3, 41], (some [2, 3])))⟩ ::
     R_o8) (St.mk s o) K =
 (demand (pickV (s 34) (V.d (.bool true)) (s 39)) (fun x1 =>
opsB C I R_o8 (St.mk (look [(2, (s 2)), (3, (s 3)), (41, x1)]) (looko ([2, 3].map fun n => (n, o n)))) K)) := rfl

theorem g_ref16_Same_o6_sh {R_o7 : List AOper} {C : Ctx} {I : Nat → Prop} {s : Nat → V} {o : Nat → Option Ob} {K : St → Prop} : opsB C I (⟨some 35, .faddr 8 (.t 2), [], [], (some (28, 34, false)), none⟩ ::
     ⟨some 36, .load none (.t 35), [], [], (some (28, 34, false)), none⟩ ::
     ⟨some 37, .faddr 8 (.t 3), [], [], (some (28, 34, false)), none⟩ ::
     ⟨some 38, .load none (.t 37), [], [], (some (28, 34, false)), none⟩ ::
     ⟨some 39, .bin .neq (.t 36) (.t 38), [], [], (some (28, 34, false)), (some ([2, 3, 34, 39], (some [2, 3])))⟩ ::
     R_o7) (St.mk s o) K =
 (guardK (s 34) false
 (demand (faddrV 8 (s 2)) (fun x1 =>
demand (loadV o none x1) (fun x2 =>
demand (faddrV 8 (s 3)) (fun x3 =>
demand (loadV o none x3) (fun x4 =>
demand (binV BinOp.neq x2 x4) (fun x5 =>
opsB C I R_o7 (St.mk (look [(2, (s 2)), (3, (s 3)), (34, (V.d (D.bool false))), (39, x5)]) (looko ([2, 3].map fun n => (n, o n)))) K))))))
 (opsB C I R_o7 (St.mk (look [(2, (s 2)), (3, (s 3)), (34, (V.d (D.bool true))), (39, (V.tup []))]) (looko ([2, 3].map fun n => (n, o n)))) K)
 (opsB C I R_o7 (St.mk (look [(2, (s 2)), (3, (s 3)), (34, (V.tup [])), (39, (V.tup []))]) (looko ([2, 3].map fun n => (n, o n)))) K)) := rfl

theorem g_ref16_Same_o5_sh {R_o6 : List AOper} {C : Ctx} {I : Nat → Prop} {s : Nat → V} {o : Nat → Option Ob} {K : St → Prop} : opsB C I (⟨some 33, .pick (.t 27) (.c (.d (.bool true))) (.t 32), [], [], none, none⟩ ::
     ⟨some 34, .mv (.t 33), [], [], none, (some ([2, 3, 34], (some [2, 3])))⟩ ::
     R_o6) (St.mk s o) K =
 (demand (pickV (s 27) (V.d (.bool true)) (s 32)) (fun x1 =>
opsB C I R_o6 (St.mk (look [(2, (s 2)), (3, (s 3)), (34, x1)]) (looko ([2, 3].map fun n => (n, o n)))) K)) := rfl

theorem g_ref16_Same_o4_sh {R_o5 : List AOper} {C : Ctx} {I : Nat → Prop} {s : Nat → V} {o : Nat → Option Ob} {K : St → Prop} : opsB C I (⟨some 28, .faddr 7 (.t 2), [], [], (some (21, 27, false)), none⟩ ::
     ⟨some 29, .load none (.t 28), [], [], (some (21, 27, false)), none⟩ ::
     ⟨some 30, .faddr 7 (.t 3), [], [], (some (21, 27, false)), none⟩ ::
     ⟨some 31, .load none (.t 30), [], [], (some (21, 27, false)), none⟩ ::
     ⟨some 32, .bin .neq (.t 29) (.t 31), [], [], (some (21, 27, false)), (some ([2, 3, 27, 32], (some [2, 3])))⟩ ::
     R_o5) (St.mk s o) K =
 (guardK (s 27) false
 (demand (faddrV 7 (s 2)) (fun x1 =>
demand (loadV o none x1) (fun x2 =>
demand (faddrV 7 (s 3)) (fun x3 =>
demand (loadV o none x3) (fun x4 =>
demand (binV BinOp.neq x2 x4) (fun x5 =>
opsB C I R_o5 (St.mk (look [(2, (s 2)), (3, (s 3)), (27, (V.d (D.bool false))), (32, x5)]) (looko ([2, 3].map fun n => (n, o n)))) K))))))
 (opsB C I R_o5 (St.mk (look [(2, (s 2)), (3, (s 3)), (27, (V.d (D.bool true))), (32, (V.tup []))]) (looko ([2, 3].map fun n => (n, o n)))) K)
 (opsB C I R_o5 (St.mk (look [(2, (s 2)), (3, (s 3)), (27, (V.tup [])), (32, (V.tup []))]) (looko ([2, 3].map fun n => (n, o n)))) K)) := rfl

theorem g_ref16_Same_o3_sh {R_o4 : List AOper} {C : Ctx} {I : Nat → Prop} {s : Nat → V} {o : Nat → Option Ob} {K : St → Prop} : opsB C I (⟨some 26, .pick (.t 20) (.c (.d (.bool true))) (.t 25), [], [], none, none⟩ ::
     ⟨some 27, .mv (.t 26), [], [], none, (some ([2, 3, 27], (some [2, 3])))⟩ ::
     R_o4) (St.mk s o) K =
 (demand (pickV (s 20) (V.d (.bool true)) (s 25)) (fun x1 =>
opsB C I R_o4 (St.mk (look [(2, (s 2)), (3, (s 3)), (27, x1)]) (looko ([2, 3].map fun n => (n, o n)))) K)) := rfl

theorem g_ref16_Same_o2_sh {R_o3 : List AOper} {C : Ctx} {I : Nat → Prop} {s : Nat → V} {o : Nat → Option Ob} {K : St → Prop} : opsB C I (⟨some 21, .faddr 4 (.t 2), [], [], (some (14, 20, false)), none⟩ ::
     ⟨some 22, .load (some 3) (.t 21), [], [], (some (14, 20, false)), none⟩ ::
     ⟨some 23, .faddr 4 (.t 3), [], [], (some (14, 20, false)), none⟩ ::
     ⟨some 24, .load (some 3) (.t 23), [], [], (some (14, 20, false)), none⟩ ::
     ⟨some 25, .eqs true [0, 0, 0] (.t 22) (.t 24), [], [], (some (14, 20, false)), (some ([2, 3, 20, 25], (some [2, 3])))⟩ ::
     R_o3) (St.mk s o) K =
 (guardK (s 20) false
 (demand (faddrV 4 (s 2)) (fun x1 =>
demand (loadV o (some 3) x1) (fun x2 =>
demand (faddrV 4 (s 3)) (fun x3 =>
demand (loadV o (some 3) x3) (fun x4 =>
demand (eqsV true [0, 0, 0] x2 x4) (fun x5 =>
opsB C I R_o3 (St.mk (look [(2, (s 2)), (3, (s 3)), (20, (V.d (D.bool false))), (25, x5)]) (looko ([2, 3].map fun n => (n, o n)))) K))))))
 (opsB C I R_o3 (St.mk (look [(2, (s 2)), (3, (s 3)), (20, (V.d (D.bool true))), (25, (V.tup []))]) (looko ([2, 3].map fun n => (n, o n)))) K)
 (opsB C I R_o3 (St.mk (look [(2, (s 2)), (3, (s 3)), (20, (V.tup [])), (25, (V.tup []))]) (looko ([2, 3].map fun n => (n, o n)))) K)) := rfl

theorem g_ref16_Same_o1_sh {R_o2 : List AOper} {C : Ctx} {I : Nat → Prop} {s : Nat → V} {o : Nat → Option Ob} {K : St → Prop} : opsB C I (⟨some 19, .pick (.t 13) (.c (.d (.bool true))) (.t 18), [], [], none, none⟩ ::
     ⟨some 20, .mv (.t 19), [], [], none, (some ([2, 3, 20], (some [2, 3])))⟩ ::
     R_o2) (St.mk s o) K =
 (demand (pickV (s 13) (V.d (.bool true)) (s 18)) (fun x1 =>
opsB C I R_o2 (St.mk (look [(2, (s 2)), (3, (s 3)), (20, x1)]) (looko ([2, 3].map fun n => (n, o n)))) K)) := rfl

theorem g_ref16_Same_o0_sh {R_o1 : List AOper} {C : Ctx} {I : Nat → Prop} {s : Nat → V} {o : Nat → Option Ob} {K : St → Prop} : opsB C I (⟨some 14, .faddr 1 (.t 2), [], [], (some (7, 13, false)), none⟩ ::
     ⟨some 15, .load (some 3) (.t 14), [], [], (some (7, 13, false)), none⟩ ::
     ⟨some 16, .faddr 1 (.t 3), [], [], (some (7, 13, false)), none⟩ ::
     ⟨some 17, .load (some 3) (.t 16), [], [], (some (7, 13, false)), none⟩ ::
     ⟨some 18, .eqs true [0, 0, 0] (.t 15) (.t 17), [], [], (some (7, 13, false)), (some ([2, 3, 13, 18], (some [2, 3])))⟩ ::
     R_o1) (St.mk s o) K =
 (guardK (s 13) false
 (demand (faddrV 1 (s 2)) (fun x1 =>
demand (loadV o (some 3) x1) (fun x2 =>
demand (faddrV 1 (s 3)) (fun x3 =>
demand (loadV o (some 3) x3) (fun x4 =>
demand (eqsV true [0, 0, 0] x2 x4) (fun x5 =>
opsB C I R_o1 (St.mk (look [(2, (s 2)), (3, (s 3)), (13, (V.d (D.bool false))), (18, x5)]) (looko ([2, 3].map fun n => (n, o n)))) K))))))
 (opsB C I R_o1 (St.mk (look [(2, (s 2)), (3, (s 3)), (13, (V.d (D.bool true))), (18, (V.tup []))]) (looko ([2, 3].map fun n => (n, o n)))) K)
 (opsB C I R_o1 (St.mk (look [(2, (s 2)), (3, (s 3)), (13, (V.tup [])), (18, (V.tup []))]) (looko ([2, 3].map fun n => (n, o n)))) K)) := rfl

theorem g_ref16_Same_c0_sh {C : Ctx} {I : Nat → Prop} {s : Nat → V} {o : Nat → Option Ob} {Q : Ex → St → Prop} : wpB C I (.cond (.t 68) (.seq (.region [4] (some []) none
     [⟨some 4, .mv (.c (.d (.bool false))), [], [], none, none⟩])
  (.ret))
 (.skip)) (St.mk s o) Q =
 (condK (s 68)
 (Q .ret (St.mk (look [(4, (V.d (.bool false)))]) (looko ([].map fun n => (n, o n)))))
 (Q .normal (St.mk s o))) := rfl

theorem g_ref16_Same_c1_sh {C : Ctx} {I : Nat → Prop} {s : Nat → V} {o : Nat → Option Ob} {Q : Ex → St → Prop} : wpB C I (.region [2, 3, 5] (some [2, 3]) none
   [⟨some 74, .mv (.t 5), [], [], none, none⟩,
    ⟨some 75, .bin .add (.t 74) (.c (.d (.int .i64 1))), [], [], none, none⟩,
    ⟨some 5, .mv (.t 75), [], [], none, none⟩]) (St.mk s o) Q =
 (demand (binV BinOp.add (s 5) (V.d (.int .i64 1))) (fun x1 =>
Q .normal (St.mk (look [(2, (s 2)), (3, (s 3)), (5, x1)]) (looko ([2, 3].map fun n => (n, o n)))))) := rfl

theorem g_ref16_Same_c2_sh {R_c1 : ACode} {C : Ctx} {I : Nat → Prop} {s : Nat → V} {o : Nat → Option Ob} {Q : Ex → St → Prop} : wpB C I (.seq (.block 1 [2, 3, 5] (some [2, 3]) (.seq (.region [2, 3, 5, 86] (some [2, 3]) (some ([0, 1, 2, 3, 4, 5, 6, 7, 8, 9, 10], .done))
      [⟨some 76, .faddr 0 (.t 2), [], [], none, none⟩,
       ⟨some 77, .load none (.t 76), [], [0], none, none⟩,
       ⟨some 78, .mv (.t 5), [], [], none, none⟩,
       ⟨some 79, .iaddr 3 (.t 77) (.t 78), [], [1, 2], none, none⟩,
       ⟨some 80, .load (some 3) (.t 79), [], [3], none, none⟩,
       ⟨some 81, .faddr 0 (.t 3), [], [], none, none⟩,
       ⟨some 82, .load none (.t 81), [], [5], none, none⟩,
       ⟨some 83, .mv (.t 5), [], [], none, none⟩,
       ⟨some 84, .iaddr 3 (.t 82) (.t 83), [], [6, 7], none, none⟩,
       ⟨some 85, .load (some 3) (.t 84), [], [8], none, none⟩,
       ⟨some 86, .eqs true [2, 2, 0] (.t 80) (.t 85), [], [4, 9], none, none⟩])
   (.cond (.t 86) (.seq (.region [4] (some []) none
        [⟨some 4, .mv (.c (.d (.bool false))), [], [], none, none⟩])
     (.ret))
    (.skip))))
 (R_c1)) (St.mk s o) Q =
 ((s 76) = V.undef ∧ (demand (faddrV 0 (s 2)) (fun x1 => quietV o (x1 :: [(s 2)]) ∧
(s 77) = V.undef ∧ (demand (loadV o none x1) (fun x2 => quietV o (x2 :: [x1]) ∧
(s 78) = V.undef ∧ (quietV o ((s 5) :: [(s 5)]) ∧
(s 79) = V.undef ∧ (demand (iaddrV o 3 x2 (s 5)) (fun x4 => quietV o (x4 :: [x2, (s 5)]) ∧
(s 80) = V.undef ∧ (demand (loadV o (some 3) x4) (fun x5 => quietV o (x5 :: [x4]) ∧
(s 81) = V.undef ∧ (demand (faddrV 0 (s 3)) (fun x6 => quietV o (x6 :: [(s 3)]) ∧
(s 82) = V.undef ∧ (demand (loadV o none x6) (fun x7 => quietV o (x7 :: [x6]) ∧
(s 83) = V.undef ∧ (quietV o ((s 5) :: [(s 5)]) ∧
(s 84) = V.undef ∧ (demand (iaddrV o 3 x7 (s 5)) (fun x9 => quietV o (x9 :: [x7, (s 5)]) ∧
(s 85) = V.undef ∧ (demand (loadV o (some 3) x9) (fun x10 => quietV o (x10 :: [x9]) ∧
(s 86) = V.undef ∧ (demand (eqsV true [2, 2, 0] x5 x10) (fun x11 => quietV o (x11 :: [x5, x10]) ∧
condK x11
 (Q .ret (St.mk (look [(4, (V.d (.bool false)))]) (looko ([].map fun n => (n, o n)))))
 (wpB C I R_c1 (St.mk (look [(2, (s 2)), (3, (s 3)), (5, (s 5))]) (looko ([2, 3].map fun n => (n, o n)))) Q)))))))))))))))))))))) := rfl

theorem g_ref16_Same_l0_sh {R_l0 : ACode} {R_c2 : ACode} {C : Ctx} {I : Nat → Prop} {s : Nat → V} {o : Nat → Option Ob} {Q : Ex → St → Prop} (hL : R_l0 = .loop [2, 3, 5] (some [2, 3]) (.seq (.seq (.region [2, 3, 5, 73] (some [2, 3]) none
      [⟨some 69, .mv (.t 5), [], [], none, none⟩,
       ⟨some 70, .faddr 0 (.t 2), [], [], none, none⟩,
       ⟨some 71, .load none (.t 70), [], [], none, none⟩,
       ⟨some 72, .len (.t 71), [], [], none, none⟩,
       ⟨some 73, .bin .lss (.t 69) (.t 72), [], [], none, none⟩])
   (.cond (.t 73) (.skip)
    (.exit 0)))
  (R_c2)))
 (h : demand (faddrV 0 (s 2)) (fun x1 =>
demand (loadV (looko ([2, 3].map fun n => (n, o n))) none x1) (fun x2 =>
demand (lenV (looko ([2, 3].map fun n => (n, o n))) x2) (fun x3 =>
demand (binV BinOp.lss (s 5) x3) (fun x4 =>
condK x4
 (wpB C I R_c2 (St.mk (look [(2, (s 2)), (3, (s 3)), (5, (s 5)), (73, x4)]) (looko ([2, 3].map fun n => (n, o n)))) (seqK (fun s => wpB C I R_l0 s Q) Q))
 (Q (.exit 0) (St.mk (look [(2, (s 2)), (3, (s 3)), (5, (s 5)), (73, x4)]) (looko ([2, 3].map fun n => (n, o n)))))))))) : wpB C I R_l0 (St.mk s o) Q := w_loopC hL h

theorem g_ref16_Same_o19_sh {C : Ctx} {I : Nat → Prop} {s : Nat → V} {o : Nat → Option Ob} {K : St → Prop} : opsB C I [⟨some 105, .pick (.t 99) (.t 104) (.c (.d (.bool false))), [], [], none, none⟩,
     ⟨some 4, .mv (.t 105), [], [], none, none⟩] (St.mk s o) K =
 (demand (pickV (s 99) (s 104) (V.d (.bool false))) (fun x1 =>
K (St.mk (upd (upd s 105 x1) 4 x1) o))) := rfl

theorem g_ref16_Same_o18_sh {R_o19 : List AOper} {C : Ctx} {I : Nat → Prop} {s : Nat → V} {o : Nat → Option Ob} {K : St → Prop} : opsB C I (⟨some 100, .faddr 15 (.t 2), [], [], (some (12, 99, true)), none⟩ ::
     ⟨some 101, .load none (.t 100), [], [], (some (12, 99, true)), none⟩ ::
     ⟨some 102, .faddr 15 (.t 3), [], [], (some (12, 99, true)), none⟩ ::
     ⟨some 103, .load none (.t 102), [], [], (some (12, 99, true)), none⟩ ::
     ⟨some 104, .call 21 [(.t 101), (.t 103)], [], [], (some (12, 99, true)), (some ([99, 104], (some [])))⟩ ::
     R_o19) (St.mk s o) K =
 (guardK (s 99) true
 (demand (faddrV 15 (s 2)) (fun x1 =>
demand (loadV o none x1) (fun x2 =>
demand (faddrV 15 (s 3)) (fun x3 =>
demand (loadV o none x3) (fun x4 =>
callK C I (St.mk (upd (upd (upd (upd (upd (upd (upd (upd (upd s 99 (V.d (D.bool true))) 100 x1) 99 (V.d (D.bool true))) 101 x2) 99 (V.d (D.bool true))) 102 x3) 99 (V.d (D.bool true))) 103 x4) 99 (V.d (D.bool true))) o) (some 104) 21 [x2, x4] (fun r5 or5 =>
opsB C I R_o19 (St.mk (look [(99, (V.d (D.bool true))), (104, r5)]) (looko ([].map fun n => (n, or5 n)))) K))))))
 (opsB C I R_o19 (St.mk (look [(99, (V.d (D.bool false))), (104, (V.tup []))]) (looko ([].map fun n => (n, o n)))) K)
 (opsB C I R_o19 (St.mk (look [(99, (V.tup [])), (104, (V.tup []))]) (looko ([].map fun n => (n, o n)))) K)) := rfl

theorem g_ref16_Same_o17_sh {R_o18 : List AOper} {C : Ctx} {I : Nat → Prop} {s : Nat → V} {o : Nat → Option Ob} {K : St → Prop} : opsB C I (⟨some 98, .pick (.t 92) (.t 97) (.c (.d (.bool false))), [], [], none, none⟩ ::
     ⟨some 99, .mv (.t 98), [], [], none, (some ([2, 3, 99], (some [2, 3])))⟩ ::
     R_o18) (St.mk s o) K =
 (demand (pickV (s 92) (s 97) (V.d (.bool false))) (fun x1 =>
opsB C I R_o18 (St.mk (look [(2, (s 2)), (3, (s 3)), (99, x1)]) (looko ([2, 3].map fun n => (n, o n)))) K)) := rfl

theorem g_ref16_Same_o16_sh {R_o17 : List AOper} {C : Ctx} {I : Nat → Prop} {s : Nat → V} {o : Nat → Option Ob} {K : St → Prop} : opsB C I (⟨some 93, .faddr 14 (.t 2), [], [], (some (5, 92, true)), none⟩ ::
     ⟨some 94, .load none (.t 93), [], [], (some (5, 92, true)), none⟩ ::
     ⟨some 95, .faddr 14 (.t 3), [], [], (some (5, 92, true)), none⟩ ::
     ⟨some 96, .load none (.t 95), [], [], (some (5, 92, true)), none⟩ ::
     ⟨some 97, .call 21 [(.t 94), (.t 96)], [], [], (some (5, 92, true)), (some ([2, 3, 92, 97], (some [2, 3])))⟩ ::
     R_o17) (St.mk s o) K =
 (guardK (s 92) true
 (demand (faddrV 14 (s 2)) (fun x1 =>
demand (loadV o none x1) (fun x2 =>
demand (faddrV 14 (s 3)) (fun x3 =>
demand (loadV o none x3) (fun x4 =>
callK C I (St.mk (upd (upd (upd (upd (upd (upd (upd (upd (upd s 92 (V.d (D.bool true))) 93 x1) 92 (V.d (D.bool true))) 94 x2) 92 (V.d (D.bool true))) 95 x3) 92 (V.d (D.bool true))) 96 x4) 92 (V.d (D.bool true))) o) (some 97) 21 [x2, x4] (fun r5 or5 =>
opsB C I R_o17 (St.mk (look [(2, (s 2)), (3, (s 3)), (92, (V.d (D.bool true))), (97, r5)]) (looko ([2, 3].map fun n => (n, or5 n)))) K))))))
 (opsB C I R_o17 (St.mk (look [(2, (s 2)), (3, (s 3)), (92, (V.d (D.bool false))), (97, (V.tup []))]) (looko ([2, 3].map fun n => (n, o n)))) K)
 (opsB C I R_o17 (St.mk (look [(2, (s 2)), (3, (s 3)), (92, (V.tup [])), (97, (V.tup []))]) (looko ([2, 3].map fun n => (n, o n)))) K)) := rfl

theorem g_ref16_Same_c3_sh {C : Ctx} {I : Nat → Prop} {s : Nat → V} {o : Nat → Option Ob} {Q : Ex → St → Prop} : wpB C I (.ret) (St.mk s o) Q =
 (Q .ret (St.mk s o)) := rfl

theorem g_ref16_Same_c4_sh {R_o16 : List AOper} {R_c3 : ACode} {C : Ctx} {I : Nat → Prop} {s : Nat → V} {o : Nat → Option Ob} {Q : Ex → St → Prop} : wpB C I (.seq (.region [4] (some []) none
    (⟨some 87, .faddr 13 (.t 2), [], [], none, none⟩ ::
     ⟨some 88, .load none (.t 87), [], [], none, none⟩ ::
     ⟨some 89, .faddr 13 (.t 3), [], [], none, none⟩ ::
     ⟨some 90, .load none (.t 89), [], [], none, none⟩ ::
     ⟨some 91, .call 21 [(.t 88), (.t 90)], [], [], none, none⟩ ::
     ⟨some 92, .mv (.t 91), [], [], none, (some ([2, 3, 92], (some [2, 3])))⟩ ::
     R_o16))
 (R_c3)) (St.mk s o) Q =
 (demand (faddrV 13 (s 2)) (fun x1 =>
demand (loadV o none x1) (fun x2 =>
demand (faddrV 13 (s 3)) (fun x3 =>
demand (loadV o none x3) (fun x4 =>
callK C I (St.mk (upd (upd (upd (upd s 87 x1) 88 x2) 89 x3) 90 x4) o) (some 91) 21 [x2, x4] (fun r5 or5 =>
opsB C I R_o16 (St.mk (look [(2, (s 2)), (3, (s 3)), (92, r5)]) (looko ([2, 3].map fun n => (n, or5 n)))) (fun st => (seqK (fun st => wpB C I R_c3 st Q) Q) .normal (St.trim st [4] (some []))))))))) := rfl

theorem g_ref16_Same_c5_sh {R_l0 : ACode} {R_c4 : ACode} {C : Ctx} {I : Nat → Prop} {s : Nat → V} {o : Nat → Option Ob} {Q : Ex → St → Prop} : wpB C I (.seq (.seq (.region [2, 3, 5] (some [2, 3]) none
     [⟨some 5, .mv (.c (.d (.int .i64 0))), [], [], none, none⟩])
  (.block 0 [2, 3] (some [2, 3]) (R_l0)))
 (R_c4)) (St.mk s o) Q =
 (wpB C I R_l0 (St.mk (look [(2, (s 2)), (3, (s 3)), (5, (V.d (.int .i64 0)))]) (looko ([2, 3].map fun n => (n, o n)))) (blockK 0 [2, 3] (some [2, 3]) (seqK (fun st => wpB C I R_c4 st Q) Q))) := rfl

theorem g_ref16_Same_code_sh {R_o0 : List AOper} {R_c0 : ACode} {R_c5 : ACode} {C : Ctx} {I : Nat → Prop} {s : Nat → V} {o : Nat → Option Ob} {Q : Ex → St → Prop} : wpB C I (.seq (.region [2, 3] (some [2, 3]) none
    [⟨some 2, .box 2 16 (.t 0), [], [], none, none⟩,
     ⟨some 3, .box 3 16 (.t 1), [], [], none, none⟩,
     ⟨some 4, .mv (.c (.d (.bool false))), [], [], none, none⟩])
 (.seq (.seq (.region [2, 3, 68] (some [2, 3]) none
      (⟨some 6, .faddr 0 (.t 2), [], [], none, none⟩ ::
       ⟨some 7, .load none (.t 6), [], [], none, none⟩ ::
       ⟨some 8, .len (.t 7), [], [], none, none⟩ ::
       ⟨some 9, .faddr 0 (.t 3), [], [], none, none⟩ ::
       ⟨some 10, .load none (.t 9), [], [], none, none⟩ ::
       ⟨some 11, .len (.t 10), [], [], none, none⟩ ::
       ⟨some 12, .bin .neq (.t 8) (.t 11), [], [], none, none⟩ ::
       ⟨some 13, .mv (.t 12), [], [], none, (some ([2, 3, 13], (some [2, 3])))⟩ ::
       R_o0))
   (R_c0))
  (R_c5))) (St.mk s o) Q =
 (lstK (cellsV (s 0)) (fun c1 => c1.length = 16 ∧ ¬ I 2 ∧ Fresh (St.mk s o) 2 (some 2) ∧ V.refsL 2 c1 = false ∧
lstK (cellsV (s 1)) (fun c2 => c2.length = 16 ∧ ¬ I 3 ∧ Fresh (St.mk (upd s 2 (V.ptr 2 0)) (upd o 2 (some (Ob.box c1)))) 3 (some 3) ∧ V.refsL 3 c2 = false ∧
demand (faddrV 0 (V.ptr 2 0)) (fun x3 =>
demand (loadV (looko ([2, 3].map fun n => (n, (upd (upd o 2 (some (Ob.box c1))) 3 (some (Ob.box c2))) n))) none x3) (fun x4 =>
demand (lenV (looko ([2, 3].map fun n => (n, (upd (upd o 2 (some (Ob.box c1))) 3 (some (Ob.box c2))) n))) x4) (fun x5 =>
demand (faddrV 0 (V.ptr 3 0)) (fun x6 =>
demand (loadV (looko ([2, 3].map fun n => (n, (upd (upd o 2 (some (Ob.box c1))) 3 (some (Ob.box c2))) n))) none x6) (fun x7 =>
demand (lenV (looko ([2, 3].map fun n => (n, (upd (upd o 2 (some (Ob.box c1))) 3 (some (Ob.box c2))) n))) x7) (fun x8 =>
demand (binV BinOp.neq x5 x8) (fun x9 =>
opsB C I R_o0 (St.mk (look [(2, (V.ptr 2 0)), (3, (V.ptr 3 0)), (13, x9)]) (looko ([2, 3].map fun n => (n, (upd (upd o 2 (some (Ob.box c1))) 3 (some (Ob.box c2))) n)))) (fun st => (seqK (fun st => wpB C I R_c0 st (seqK (fun st => wpB C I R_c5 st Q) Q)) (seqK (fun st => wpB C I R_c5 st Q) Q)) .normal (St.trim st [2, 3, 68] (some [2, 3]))))))))))))) := rfl

theorem g_ref16_same_c0_sh {C : Ctx} {I : Nat → Prop} {s : Nat → V} {o : Nat → Option Ob} {Q : Ex → St → Prop} : wpB C I (.region [0, 1, 5] (some []) none
   [⟨some 15, .mv (.t 5), [], [], none, none⟩,
    ⟨some 16, .bin .add (.t 15) (.c (.d (.int .i64 1))), [], [], none, none⟩,
    ⟨some 5, .mv (.t 16), [], [], none, none⟩]) (St.mk s o) Q =
 (demand (binV BinOp.add (s 5) (V.d (.int .i64 1))) (fun x1 =>
Q .normal (St.mk (look [(0, (s 0)), (1, (s 1)), (5, x1)]) (looko ([].map fun n => (n, o n)))))) := rfl

theorem g_ref16_same_c1_sh {R_c0 : ACode} {C : Ctx} {I : Nat → Prop} {s : Nat → V} {o : Nat → Option Ob} {Q : Ex → St → Prop} : wpB C I (.seq (.block 1 [0, 1, 5] (some []) (.seq (.region [0, 1, 5, 25] (some []) (some ([0, 1, 2, 3, 4, 5, 6, 7, 8], .done))
      [⟨some 17, .mv (.t 0), [], [], none, none⟩,
       ⟨some 18, .mv (.t 5), [], [], none, none⟩,
       ⟨some 19, .iaddr 1 (.t 17) (.t 18), [], [0, 1], none, none⟩,
       ⟨some 20, .load none (.t 19), [], [2], none, none⟩,
       ⟨some 21, .mv (.t 1), [], [], none, none⟩,
       ⟨some 22, .mv (.t 5), [], [], none, none⟩,
       ⟨some 23, .iaddr 1 (.t 21) (.t 22), [], [4, 5], none, none⟩,
       ⟨some 24, .load none (.t 23), [], [6], none, none⟩,
       ⟨some 25, .bin .neq (.t 20) (.t 24), [], [3, 7], none, none⟩])
   (.cond (.t 25) (.seq (.region [4] (some []) none
        [⟨some 4, .mv (.c (.d (.bool false))), [], [], none, none⟩])
     (.ret))
    (.skip))))
 (R_c0)) (St.mk s o) Q =
 ((s 17) = V.undef ∧ (quietV o ((s 0) :: [(s 0)]) ∧
(s 18) = V.undef ∧ (quietV o ((s 5) :: [(s 5)]) ∧
(s 19) = V.undef ∧ (demand (iaddrV o 1 (s 0) (s 5)) (fun x3 => quietV o (x3 :: [(s 0), (s 5)]) ∧
(s 20) = V.undef ∧ (demand (loadV o none x3) (fun x4 => quietV o (x4 :: [x3]) ∧
(s 21) = V.undef ∧ (quietV o ((s 1) :: [(s 1)]) ∧
(s 22) = V.undef ∧ (quietV o ((s 5) :: [(s 5)]) ∧
(s 23) = V.undef ∧ (demand (iaddrV o 1 (s 1) (s 5)) (fun x7 => quietV o (x7 :: [(s 1), (s 5)]) ∧
(s 24) = V.undef ∧ (demand (loadV o none x7) (fun x8 => quietV o (x8 :: [x7]) ∧
(s 25) = V.undef ∧ (demand (binV BinOp.neq x4 x8) (fun x9 => quietV o (x9 :: [x4, x8]) ∧
condK x9
 (Q .ret (St.mk (look [(4, (V.d (.bool false)))]) (looko ([].map fun n => (n, o n)))))
 (wpB C I R_c0 (St.mk (look [(0, (s 0)), (1, (s 1)), (5, (s 5))]) (looko ([].map fun n => (n, o n)))) Q)))))))))))))))) := rfl

theorem g_ref16_same_l0_sh {R_l0 : ACode} {R_c1 : ACode} {C : Ctx} {I : Nat → Prop} {s : Nat → V} {o : Nat → Option Ob} {Q : Ex → St → Prop} (hL : R_l0 = .loop [0, 1, 5] (some []) (.seq (.seq (.region [0, 1, 5, 14] (some []) none
      [⟨some 11, .mv (.t 5), [], [], none, none⟩,
       ⟨some 12, .mv (.t 0), [], [], none, none⟩,
       ⟨some 13, .len (.t 12), [], [], none, none⟩,
       ⟨some 14, .bin .lss (.t 11) (.t 13), [], [], none, none⟩])
   (.cond (.t 14) (.skip)
    (.exit 0)))
  (R_c1)))
 (h : demand (lenV (looko ([].map fun n => (n, o n))) (s 0)) (fun x1 =>
demand (binV BinOp.lss (s 5) x1) (fun x2 =>
condK x2
 (wpB C I R_c1 (St.mk (look [(0, (s 0)), (1, (s 1)), (5, (s 5)), (14, x2)]) (looko ([].map fun n => (n, o n)))) (seqK (fun s => wpB C I R_l0 s Q) Q))
 (Q (.exit 0) (St.mk (look [(0, (s 0)), (1, (s 1)), (5, (s 5)), (14, x2)]) (looko ([].map fun n => (n, o n)))))))) : wpB C I R_l0 (St.mk s o) Q := w_loopC hL h

theorem g_ref16_same_c2_sh {C : Ctx} {I : Nat → Prop} {s : Nat → V} {o : Nat → Option Ob} {Q : Ex → St → Prop} : wpB C I (.seq (.region [4] (some []) none
    [⟨some 4, .mv (.c (.d (.bool true))), [], [], none, none⟩])
 (.ret)) (St.mk s o) Q =
 (Q .ret (St.mk (look [(4, (V.d (.bool true)))]) (looko ([].map fun n => (n, o n))))) := rfl

theorem g_ref16_same_c3_sh {R_l0 : ACode} {R_c2 : ACode} {C : Ctx} {I : Nat → Prop} {s : Nat → V} {o : Nat → Option Ob} {Q : Ex → St → Prop} : wpB C I (.seq (.seq (.region [0, 1, 5] (some []) none
     [⟨some 5, .mv (.c (.d (.int .i64 0))), [], [], none, none⟩])
  (.block 0 [] (some []) (R_l0)))
 (R_c2)) (St.mk s o) Q =
 (wpB C I R_l0 (St.mk (look [(0, (s 0)), (1, (s 1)), (5, (V.d (.int .i64 0)))]) (looko ([].map fun n => (n, o n)))) (blockK 0 [] (some []) (seqK (fun st => wpB C I R_c2 st Q) Q))) := rfl

theorem g_ref16_same_code_sh {R_c3 : ACode} {C : Ctx} {I : Nat → Prop} {s : Nat → V} {o : Nat → Option Ob} {Q : Ex → St → Prop} : wpB C I (.seq (.region [0, 1] (some []) none
    [⟨some 4, .mv (.c (.d (.bool false))), [], [], none, none⟩])
 (.seq (.seq (.region [0, 1, 10] (some []) none
      [⟨some 6, .mv (.t 0), [], [], none, none⟩,
       ⟨some 7, .len (.t 6), [], [], none, none⟩,
       ⟨some 8, .mv (.t 1), [], [], none, none⟩,
       ⟨some 9, .len (.t 8), [], [], none, none⟩,
       ⟨some 10, .bin .neq (.t 7) (.t 9), [], [], none, none⟩])
   (.cond (.t 10) (.seq (.region [4] (some []) none
        [⟨some 4, .mv (.c (.d (.bool false))), [], [], none, none⟩])
     (.ret))
    (.skip)))
  (R_c3))) (St.mk s o) Q =
 (demand (lenV (looko ([].map fun n => (n, o n))) (s 0)) (fun x1 =>
demand (lenV (looko ([].map fun n => (n, o n))) (s 1)) (fun x2 =>
demand (binV BinOp.neq x1 x2) (fun x3 =>
condK x3
 (Q .ret (St.mk (look [(4, (V.d (.bool false)))]) (looko ([].map fun n => (n, o n)))))
 (wpB C I R_c3 (St.mk (look [(0, (s 0)), (1, (s 1)), (10, x3)]) (looko ([].map fun n => (n, o n)))) Q))))) := rfl
end Pay
