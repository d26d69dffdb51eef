/- What the code of the functions comes to, without slots: an equation for each part; no condition. -/
import Derived.Test.YtcgeldjhobmijaaDoorPayBb0
import Derived.Test.YtcgeldjhobmijaaDoorPayCode6_0
set_option maxRecDepth 20000
set_option maxHeartbeats 400000
set_option linter.unusedVariables false
namespace Pay
open Go
variable {R_c0 R_c1 R_c2 R_c3 R_c4 R_c5 R_c6 R_c7 R_c8 R_c9 R_c10 R_c11 R_l0 : ACode} {R_o0 R_o1 R_o2 R_o3 R_o4 R_o5 R_o6 R_o7 R_o8 R_o9 R_o10 R_o11 R_o12 R_o13 R_o14 R_o15 R_o16 R_o17 R_o18 R_o19 R_o20 R_o21 R_o22 R_o23 R_o24 R_o25 : List AOper} {C : Ctx} {I : Nat → Prop} {s : Nat → V} {o : Nat → Option Ob} {K : St → Prop} {Q : Ex → St → Prop}
theorem g_law08_TreeNames_o1_sh : opsB C I [⟨some 21, .pick (.t 17) (.c (.d (.bool true))) (.t 20), [], [], none, none⟩] (St.mk s o) K =
 (demand (pickV (s 17) (V.d (.bool true)) (s 20)) (fun x1 =>
K (St.mk (upd s 21 x1) o))) := rfl
@[instance] theorem g_law08_TreeNames_o1_u : UnfAt (opsB C I g_law08_TreeNames.o1 (St.mk s o) K) g_law08_TreeNames_o1_sh := Unf.of _
theorem g_law08_TreeNames_o0_sh : opsB C I (⟨some 18, .mv (.t 1), [], [], (some (3, 17, false)), none⟩ ::
     ⟨some 19, .lenS (.t 18), [], [], (some (3, 17, false)), none⟩ ::
     ⟨some 20, .bin .gtr (.t 19) (.c (.d (.int .i64 20))), [], [], (some (3, 17, false)), (some ([0, 1, 17, 20], (some [])))⟩ ::
     R_o1) (St.mk s o) K =
 (guardK (s 17) false
 (demand (lenSV (s 1)) (fun x1 =>
demand (binV BinOp.gtr x1 (V.d (.int .i64 20))) (fun x2 =>
opsB C I R_o1 (St.mk (look [(0, (s 0)), (1, (s 1)), (17, (V.d (D.bool false))), (20, x2)]) (looko ([].map fun n => (n, o n)))) K)))
 (opsB C I R_o1 (St.mk (look [(0, (s 0)), (1, (s 1)), (17, (V.d (D.bool true))), (20, (V.tup []))]) (looko ([].map fun n => (n, o n)))) K)
 (opsB C I R_o1 (St.mk (look [(0, (s 0)), (1, (s 1)), (17, (V.tup [])), (20, (V.tup []))]) (looko ([].map fun n => (n, o n)))) K)) := rfl
@[instance] theorem g_law08_TreeNames_o0_u : UnfAt (opsB C I g_law08_TreeNames.o0 (St.mk s o) K) g_law08_TreeNames_o0_sh := Unf.of _
theorem g_law08_TreeNames_c0_sh : wpB C I (.cond (.t 21) (.seq (.region [4] (some []) none
     [⟨some 22, .call 143 [], [], [], none, none⟩,
      ⟨some 4, .mv (.t 22), [], [], none, none⟩])
  (.ret))
 (.skip)) (St.mk s o) Q =
 (condK (s 21)
 (callK C I (St.mk s o) (some 22) 143 [] (fun r1 or1 =>
Q .ret (St.mk (look [(4, r1)]) (looko ([].map fun n => (n, or1 n))))))
 (Q .normal (St.mk s o))) := rfl
@[instance] theorem g_law08_TreeNames_c0_u : UnfAt (wpB C I g_law08_TreeNames.c0 (St.mk s o) Q) g_law08_TreeNames_c0_sh := Unf.of _
theorem g_law08_TreeNames_o7_sh : opsB C I [⟨some 58, .pick (.t 52) (.c (.d (.bool true))) (.t 57), [], [], none, none⟩] (St.mk s o) K =
 (demand (pickV (s 52) (V.d (.bool true)) (s 57)) (fun x1 =>
K (St.mk (upd s 58 x1) o))) := rfl
@[instance] theorem g_law08_TreeNames_o7_u : UnfAt (opsB C I g_law08_TreeNames.o7 (St.mk s o) K) g_law08_TreeNames_o7_sh := Unf.of _
theorem g_law08_TreeNames_o6_sh : opsB C I (⟨some 53, .mv (.t 7), [], [], (some (15, 52, false)), none⟩ ::
     ⟨some 54, .iaddr 3 (.t 53) (.c (.d (.int .i64 0))), [], [], (some (15, 52, false)), none⟩ ::
     ⟨some 55, .faddr 0 (.t 54), [], [], (some (15, 52, false)), none⟩ ::
     ⟨some 56, .load none (.t 55), [], [], (some (15, 52, false)), none⟩ ::
     ⟨some 57, .bin .neq (.t 56) (.c (.d (.int .i64 1))), [], [], (some (15, 52, false)), (some ([0, 1, 25, 26, 27, 52, 57], (some [])))⟩ ::
     R_o7) (St.mk s o) K =
 (guardK (s 52) false
 (demand (iaddrV o 3 (s 7) (V.d (.int .i64 0))) (fun x1 =>
demand (faddrV 0 x1) (fun x2 =>
demand (loadV o none x2) (fun x3 =>
demand (binV BinOp.neq x3 (V.d (.int .i64 1))) (fun x4 =>
opsB C I R_o7 (St.mk (look [(0, (s 0)), (1, (s 1)), (25, (s 25)), (26, (s 26)), (27, (s 27)), (52, (V.d (D.bool false))), (57, x4)]) (looko ([].map fun n => (n, o n)))) K)))))
 (opsB C I R_o7 (St.mk (look [(0, (s 0)), (1, (s 1)), (25, (s 25)), (26, (s 26)), (27, (s 27)), (52, (V.d (D.bool true))), (57, (V.tup []))]) (looko ([].map fun n => (n, o n)))) K)
 (opsB C I R_o7 (St.mk (look [(0, (s 0)), (1, (s 1)), (25, (s 25)), (26, (s 26)), (27, (s 27)), (52, (V.tup [])), (57, (V.tup []))]) (looko ([].map fun n => (n, o n)))) K)) := rfl
@[instance] theorem g_law08_TreeNames_o6_u : UnfAt (opsB C I g_law08_TreeNames.o6 (St.mk s o) K) g_law08_TreeNames_o6_sh := Unf.of _
theorem g_law08_TreeNames_o5_sh : opsB C I (⟨some 51, .pick (.t 44) (.c (.d (.bool true))) (.t 50), [], [], none, none⟩ ::
     ⟨some 52, .mv (.t 51), [], [], none, (some ([0, 1, 7, 25, 26, 27, 52], (some [])))⟩ ::
     R_o6) (St.mk s o) K =
 (demand (pickV (s 44) (V.d (.bool true)) (s 50)) (fun x1 =>
opsB C I R_o6 (St.mk (look [(0, (s 0)), (1, (s 1)), (7, (s 7)), (25, (s 25)), (26, (s 26)), (27, (s 27)), (52, x1)]) (looko ([].map fun n => (n, o n)))) K)) := rfl
@[instance] theorem g_law08_TreeNames_o5_u : UnfAt (opsB C I g_law08_TreeNames.o5 (St.mk s o) K) g_law08_TreeNames_o5_sh := Unf.of _
theorem g_law08_TreeNames_o4_sh : opsB C I (⟨some 45, .mv (.t 7), [], [], (some (7, 44, false)), none⟩ ::
     ⟨some 46, .iaddr 3 (.t 45) (.c (.d (.int .i64 0))), [], [], (some (7, 44, false)), none⟩ ::
     ⟨some 47, .faddr 1 (.t 46), [], [], (some (7, 44, false)), none⟩ ::
     ⟨some 48, .load none (.t 47), [], [], (some (7, 44, false)), none⟩ ::
     ⟨some 49, .mv (.t 6), [], [], (some (7, 44, false)), none⟩ ::
     ⟨some 50, .bin .neq (.t 48) (.t 49), [], [], (some (7, 44, false)), (some ([0, 1, 7, 25, 26, 27, 44, 50], (some [])))⟩ ::
     R_o5) (St.mk s o) K =
 (guardK (s 44) false
 (demand (iaddrV o 3 (s 7) (V.d (.int .i64 0))) (fun x1 =>
demand (faddrV 1 x1) (fun x2 =>
demand (loadV o none x2) (fun x3 =>
demand (binV BinOp.neq x3 (s 6)) (fun x4 =>
opsB C I R_o5 (St.mk (look [(0, (s 0)), (1, (s 1)), (7, (s 7)), (25, (s 25)), (26, (s 26)), (27, (s 27)), (44, (V.d (D.bool false))), (50, x4)]) (looko ([].map fun n => (n, o n)))) K)))))
 (opsB C I R_o5 (St.mk (look [(0, (s 0)), (1, (s 1)), (7, (s 7)), (25, (s 25)), (26, (s 26)), (27, (s 27)), (44, (V.d (D.bool true))), (50, (V.tup []))]) (looko ([].map fun n => (n, o n)))) K)
 (opsB C I R_o5 (St.mk (look [(0, (s 0)), (1, (s 1)), (7, (s 7)), (25, (s 25)), (26, (s 26)), (27, (s 27)), (44, (V.tup [])), (50, (V.tup []))]) (looko ([].map fun n => (n, o n)))) K)) := rfl
@[instance] theorem g_law08_TreeNames_o4_u : UnfAt (opsB C I g_law08_TreeNames.o4 (St.mk s o) K) g_law08_TreeNames_o4_sh := Unf.of _
theorem g_law08_TreeNames_o3_sh : opsB C I (⟨some 43, .pick (.t 39) (.c (.d (.bool true))) (.t 42), [], [], none, none⟩ ::
     ⟨some 44, .mv (.t 43), [], [], none, (some ([0, 1, 6, 7, 25, 26, 27, 44], (some [])))⟩ ::
     R_o4) (St.mk s o) K =
 (demand (pickV (s 39) (V.d (.bool true)) (s 42)) (fun x1 =>
opsB C I R_o4 (St.mk (look [(0, (s 0)), (1, (s 1)), (6, (s 6)), (7, (s 7)), (25, (s 25)), (26, (s 26)), (27, (s 27)), (44, x1)]) (looko ([].map fun n => (n, o n)))) K)) := rfl
@[instance] theorem g_law08_TreeNames_o3_u : UnfAt (opsB C I g_law08_TreeNames.o3 (St.mk s o) K) g_law08_TreeNames_o3_sh := Unf.of _
theorem g_law08_TreeNames_o2_sh : opsB C I (⟨some 40, .mv (.t 7), [], [], (some (2, 39, false)), none⟩ ::
     ⟨some 41, .len (.t 40), [], [], (some (2, 39, false)), none⟩ ::
     ⟨some 42, .bin .neq (.t 41) (.c (.d (.int .i64 1))), [], [], (some (2, 39, false)), (some ([0, 1, 6, 7, 25, 26, 27, 39, 42], (some [])))⟩ ::
     R_o3) (St.mk s o) K =
 (guardK (s 39) false
 (demand (lenV o (s 7)) (fun x1 =>
demand (binV BinOp.neq x1 (V.d (.int .i64 1))) (fun x2 =>
opsB C I R_o3 (St.mk (look [(0, (s 0)), (1, (s 1)), (6, (s 6)), (7, (s 7)), (25, (s 25)), (26, (s 26)), (27, (s 27)), (39, (V.d (D.bool false))), (42, x2)]) (looko ([].map fun n => (n, o n)))) K)))
 (opsB C I R_o3 (St.mk (look [(0, (s 0)), (1, (s 1)), (6, (s 6)), (7, (s 7)), (25, (s 25)), (26, (s 26)), (27, (s 27)), (39, (V.d (D.bool true))), (42, (V.tup []))]) (looko ([].map fun n => (n, o n)))) K)
 (opsB C I R_o3 (St.mk (look [(0, (s 0)), (1, (s 1)), (6, (s 6)), (7, (s 7)), (25, (s 25)), (26, (s 26)), (27, (s 27)), (39, (V.tup [])), (42, (V.tup []))]) (looko ([].map fun n => (n, o n)))) K)) := rfl
@[instance] theorem g_law08_TreeNames_o2_u : UnfAt (opsB C I g_law08_TreeNames.o2 (St.mk s o) K) g_law08_TreeNames_o2_sh := Unf.of _
theorem g_law08_TreeNames_c1_sh : wpB C I (.cond (.t 58) (.seq (.region [4] (some []) none
     [⟨some 59, .call 143 [], [], [], none, none⟩,
      ⟨some 4, .mv (.t 59), [], [], none, none⟩])
  (.ret))
 (.skip)) (St.mk s o) Q =
 (condK (s 58)
 (callK C I (St.mk s o) (some 59) 143 [] (fun r1 or1 =>
Q .ret (St.mk (look [(4, r1)]) (looko ([].map fun n => (n, or1 n))))))
 (Q .normal (St.mk s o))) := rfl
@[instance] theorem g_law08_TreeNames_c1_u : UnfAt (wpB C I g_law08_TreeNames.c1 (St.mk s o) Q) g_law08_TreeNames_c1_sh := Unf.of _
theorem g_law08_TreeNames_c2_sh : wpB C I (.seq (.region [0, 1, 25, 26, 27, 58] (some []) none
    (⟨some 37, .mv (.t 9), [], [], none, none⟩ ::
     ⟨some 38, .bin .neq (.t 37) (.c (.d (.int .i64 0))), [], [], none, none⟩ ::
     ⟨some 39, .mv (.t 38), [], [], none, (some ([0, 1, 6, 7, 25, 26, 27, 39], (some [])))⟩ ::
     R_o2))
 (R_c1)) (St.mk s o) Q =
 (demand (binV BinOp.neq (s 9) (V.d (.int .i64 0))) (fun x1 =>
opsB C I R_o2 (St.mk (look [(0, (s 0)), (1, (s 1)), (6, (s 6)), (7, (s 7)), (25, (s 25)), (26, (s 26)), (27, (s 27)), (39, x1)]) (looko ([].map fun n => (n, o n)))) (fun st => (seqK (fun st => wpB C I R_c1 st Q) Q) .normal (St.trim st [0, 1, 25, 26, 27, 58] (some []))))) := rfl
@[instance] theorem g_law08_TreeNames_c2_u : UnfAt (wpB C I g_law08_TreeNames.c2 (St.mk s o) Q) g_law08_TreeNames_c2_sh := Unf.of _
theorem g_law08_TreeNames_c3_sh : wpB C I (.region [0, 1, 25, 26, 27] (some []) none
   [⟨some 60, .bin .add (.t 27) (.c (.d (.int .i64 1))), [], [], none, none⟩,
    ⟨some 27, .mv (.t 60), [], [], none, none⟩]) (St.mk s o) Q =
 (demand (binV BinOp.add (s 27) (V.d (.int .i64 1))) (fun x1 =>
Q .normal (St.mk (look [(0, (s 0)), (1, (s 1)), (25, (s 25)), (26, (s 26)), (27, x1)]) (looko ([].map fun n => (n, o n)))))) := rfl
@[instance] theorem g_law08_TreeNames_c3_u : UnfAt (wpB C I g_law08_TreeNames.c3 (St.mk s o) Q) g_law08_TreeNames_c3_sh := Unf.of _
theorem g_law08_TreeNames_l0_sh (hL : R_l0 = .loop [0, 1, 25, 26, 27] (some []) (.seq (.region [0, 1, 25, 26, 27, 28] (some []) none
     [⟨some 28, .bin .lss (.t 27) (.t 26), [], [], none, none⟩])
  (.seq (.cond (.t 28) (.skip)
    (.exit 0))
   (.seq (.block 1 [0, 1, 25, 26, 27] (some []) (.seq (.region [0, 1, 6, 25, 26, 27] (some []) none
         [⟨some 29, .iaddr 1 (.t 25) (.t 27), [], [], none, none⟩,
          ⟨some 30, .load none (.t 29), [], [], none, none⟩,
          ⟨some 6, .mv (.t 30), [], [], none, none⟩])
      (.seq (.region [0, 1, 6, 7, 9, 25, 26, 27] (some []) none
          [⟨some 32, .mv (.t 6), [], [], none, none⟩,
           ⟨some 33, .call 74 [(.t 32)], [], [], none, none⟩,
           ⟨some 31, .mv (.t 33), [], [], none, none⟩,
           ⟨some 34, .ext (.t 31) 0, [], [], none, none⟩,
           ⟨some 35, .ext (.t 31) 1, [], [], none, none⟩,
           ⟨some 36, .ext (.t 31) 2, [], [], none, none⟩,
           ⟨some 7, .mv (.t 34), [], [], none, none⟩,
           ⟨some 8, .mv (.t 35), [], [], none, none⟩,
           ⟨some 9, .mv (.t 36), [], [], none, none⟩])
       (R_c2))))
    (R_c3)))))
 (h : demand (binV BinOp.lss (s 27) (s 26)) (fun x1 =>
condK x1
 (demand (iaddrV (looko ([].map fun n => (n, o n))) 1 (s 25) (s 27)) (fun x2 =>
demand (loadV (looko ([].map fun n => (n, o n))) none x2) (fun x3 =>
callK C I (St.mk (upd (look [(0, (s 0)), (1, (s 1)), (6, x3), (25, (s 25)), (26, (s 26)), (27, (s 27))]) 32 x3) (looko ([].map fun n => (n, o n)))) (some 33) 74 [x3] (fun r4 or4 =>
demand (extV r4 0) (fun x5 =>
demand (extV r4 1) (fun x6 =>
demand (extV r4 2) (fun x7 =>
wpB C I R_c2 (St.mk (look [(0, (s 0)), (1, (s 1)), (6, x3), (7, x5), (9, x7), (25, (s 25)), (26, (s 26)), (27, (s 27))]) (looko ([].map fun n => (n, or4 n)))) (blockK 1 [0, 1, 25, 26, 27] (some []) (seqK (fun st => wpB C I R_c3 st (seqK (fun s => wpB C I R_l0 s Q) Q)) (seqK (fun s => wpB C I R_l0 s Q) Q))))))))))
 (Q (.exit 0) (St.mk (look [(0, (s 0)), (1, (s 1)), (25, (s 25)), (26, (s 26)), (27, (s 27)), (28, x1)]) (looko ([].map fun n => (n, o n))))))) : wpB C I R_l0 (St.mk s o) Q := w_loopC hL h
theorem g_law08_TreeNames_c4_sh : wpB C I (.block 0 [0, 1] (some []) (R_l0)) (St.mk s o) Q =
 (wpB C I R_l0 (St.mk s o) (blockK 0 [0, 1] (some []) Q)) := rfl
@[instance] theorem g_law08_TreeNames_c4_u : UnfAt (wpB C I g_law08_TreeNames.c4 (St.mk s o) Q) g_law08_TreeNames_c4_sh := Unf.of _
theorem g_law08_TreeNames_o15_sh : opsB C I [⟨some 89, .pick (.t 74) (.t 88) (.c (.d (.bool false))), [], [], none, none⟩,
     ⟨some 13, .mv (.t 89), [], [], none, none⟩] (St.mk s o) K =
 (demand (pickV (s 74) (s 88) (V.d (.bool false))) (fun x1 =>
K (St.mk (upd (upd s 89 x1) 13 x1) o))) := rfl
@[instance] theorem g_law08_TreeNames_o15_u : UnfAt (opsB C I g_law08_TreeNames.o15 (St.mk s o) K) g_law08_TreeNames_o15_sh := Unf.of _
theorem g_law08_TreeNames_o14_sh : opsB C I (⟨some 88, .pick (.t 85) (.c (.d (.bool true))) (.t 87), [], [], (some (3, 74, true)), (some ([0, 1, 10, 12, 74, 88], (some [10])))⟩ ::
     R_o15) (St.mk s o) K =
 (guardK (s 74) true
 (demand (pickV (s 85) (V.d (.bool true)) (s 87)) (fun x1 =>
opsB C I R_o15 (St.mk (look [(0, (s 0)), (1, (s 1)), (10, (s 10)), (12, (s 12)), (74, (V.d (D.bool true))), (88, x1)]) (looko ([10].map fun n => (n, o n)))) K))
 (opsB C I R_o15 (St.mk (look [(0, (s 0)), (1, (s 1)), (10, (s 10)), (12, (s 12)), (74, (V.d (D.bool false))), (88, (V.tup []))]) (looko ([10].map fun n => (n, o n)))) K)
 (opsB C I R_o15 (St.mk (look [(0, (s 0)), (1, (s 1)), (10, (s 10)), (12, (s 12)), (74, (V.tup [])), (88, (V.tup []))]) (looko ([10].map fun n => (n, o n)))) K)) := rfl
@[instance] theorem g_law08_TreeNames_o14_u : UnfAt (opsB C I g_law08_TreeNames.o14 (St.mk s o) K) g_law08_TreeNames_o14_sh := Unf.of _
theorem g_law08_TreeNames_o13_sh : opsB C I (⟨some 86, .mv (.t 0), [], [], (some (14, 85, false)), none⟩ ::
     ⟨some 87, .bin .eql (.t 86) (.c (.d (.str [108, 101, 116]))), [], [], (some (14, 85, false)), (some ([0, 1, 10, 12, 74, 85, 87], (some [10])))⟩ ::
     R_o14) (St.mk s o) K =
 (guardK (s 85) false
 (demand (binV BinOp.eql (s 0) (V.d (.str [108, 101, 116]))) (fun x1 =>
opsB C I R_o14 (St.mk (look [(0, (s 0)), (1, (s 1)), (10, (s 10)), (12, (s 12)), (74, (s 74)), (85, (V.d (D.bool false))), (87, x1)]) (looko ([10].map fun n => (n, o n)))) K))
 (opsB C I R_o14 (St.mk (look [(0, (s 0)), (1, (s 1)), (10, (s 10)), (12, (s 12)), (74, (s 74)), (85, (V.d (D.bool true))), (87, (V.tup []))]) (looko ([10].map fun n => (n, o n)))) K)
 (opsB C I R_o14 (St.mk (look [(0, (s 0)), (1, (s 1)), (10, (s 10)), (12, (s 12)), (74, (s 74)), (85, (V.tup [])), (87, (V.tup []))]) (looko ([10].map fun n => (n, o n)))) K)) := rfl
@[instance] theorem g_law08_TreeNames_o13_u : UnfAt (opsB C I g_law08_TreeNames.o13 (St.mk s o) K) g_law08_TreeNames_o13_sh := Unf.of _
theorem g_law08_TreeNames_o12_sh : opsB C I (⟨some 84, .pick (.t 81) (.c (.d (.bool true))) (.t 83), [], [], (some (3, 74, true)), none⟩ ::
     ⟨some 85, .mv (.t 84), [], [], (some (3, 74, true)), (some ([0, 1, 10, 12, 74, 85], (some [10])))⟩ ::
     R_o13) (St.mk s o) K =
 (guardK (s 74) true
 (demand (pickV (s 81) (V.d (.bool true)) (s 83)) (fun x1 =>
opsB C I R_o13 (St.mk (look [(0, (s 0)), (1, (s 1)), (10, (s 10)), (12, (s 12)), (74, (V.d (D.bool true))), (85, x1)]) (looko ([10].map fun n => (n, o n)))) K))
 (opsB C I R_o13 (St.mk (look [(0, (s 0)), (1, (s 1)), (10, (s 10)), (12, (s 12)), (74, (V.d (D.bool false))), (85, (V.tup []))]) (looko ([10].map fun n => (n, o n)))) K)
 (opsB C I R_o13 (St.mk (look [(0, (s 0)), (1, (s 1)), (10, (s 10)), (12, (s 12)), (74, (V.tup [])), (85, (V.tup []))]) (looko ([10].map fun n => (n, o n)))) K)) := rfl
@[instance] theorem g_law08_TreeNames_o12_u : UnfAt (opsB C I g_law08_TreeNames.o12 (St.mk s o) K) g_law08_TreeNames_o12_sh := Unf.of _
theorem g_law08_TreeNames_o11_sh : opsB C I (⟨some 82, .mv (.t 0), [], [], (some (10, 81, false)), none⟩ ::
     ⟨some 83, .bin .eql (.t 82) (.c (.d (.str [112, 111, 115, 116]))), [], [], (some (10, 81, false)), (some ([0, 1, 10, 12, 74, 81, 83], (some [10])))⟩ ::
     R_o12) (St.mk s o) K =
 (guardK (s 81) false
 (demand (binV BinOp.eql (s 0) (V.d (.str [112, 111, 115, 116]))) (fun x1 =>
opsB C I R_o12 (St.mk (look [(0, (s 0)), (1, (s 1)), (10, (s 10)), (12, (s 12)), (74, (s 74)), (81, (V.d (D.bool false))), (83, x1)]) (looko ([10].map fun n => (n, o n)))) K))
 (opsB C I R_o12 (St.mk (look [(0, (s 0)), (1, (s 1)), (10, (s 10)), (12, (s 12)), (74, (s 74)), (81, (V.d (D.bool true))), (83, (V.tup []))]) (looko ([10].map fun n => (n, o n)))) K)
 (opsB C I R_o12 (St.mk (look [(0, (s 0)), (1, (s 1)), (10, (s 10)), (12, (s 12)), (74, (s 74)), (81, (V.tup [])), (83, (V.tup []))]) (looko ([10].map fun n => (n, o n)))) K)) := rfl
@[instance] theorem g_law08_TreeNames_o11_u : UnfAt (opsB C I g_law08_TreeNames.o11 (St.mk s o) K) g_law08_TreeNames_o11_sh := Unf.of _
theorem g_law08_TreeNames_o10_sh : opsB C I (⟨some 80, .pick (.t 77) (.c (.d (.bool true))) (.t 79), [], [], (some (3, 74, true)), none⟩ ::
     ⟨some 81, .mv (.t 80), [], [], (some (3, 74, true)), (some ([0, 1, 10, 12, 74, 81], (some [10])))⟩ ::
     R_o11) (St.mk s o) K =
 (guardK (s 74) true
 (demand (pickV (s 77) (V.d (.bool true)) (s 79)) (fun x1 =>
opsB C I R_o11 (St.mk (look [(0, (s 0)), (1, (s 1)), (10, (s 10)), (12, (s 12)), (74, (V.d (D.bool true))), (81, x1)]) (looko ([10].map fun n => (n, o n)))) K))
 (opsB C I R_o11 (St.mk (look [(0, (s 0)), (1, (s 1)), (10, (s 10)), (12, (s 12)), (74, (V.d (D.bool false))), (81, (V.tup []))]) (looko ([10].map fun n => (n, o n)))) K)
 (opsB C I R_o11 (St.mk (look [(0, (s 0)), (1, (s 1)), (10, (s 10)), (12, (s 12)), (74, (V.tup [])), (81, (V.tup []))]) (looko ([10].map fun n => (n, o n)))) K)) := rfl
@[instance] theorem g_law08_TreeNames_o10_u : UnfAt (opsB C I g_law08_TreeNames.o10 (St.mk s o) K) g_law08_TreeNames_o10_sh := Unf.of _
theorem g_law08_TreeNames_o9_sh : opsB C I (⟨some 78, .mv (.t 0), [], [], (some (6, 77, false)), none⟩ ::
     ⟨some 79, .bin .eql (.t 78) (.c (.d (.str [112, 114, 101, 116, 97, 120]))), [], [], (some (6, 77, false)), (some ([0, 1, 10, 12, 74, 77, 79], (some [10])))⟩ ::
     R_o10) (St.mk s o) K =
 (guardK (s 77) false
 (demand (binV BinOp.eql (s 0) (V.d (.str [112, 114, 101, 116, 97, 120]))) (fun x1 =>
opsB C I R_o10 (St.mk (look [(0, (s 0)), (1, (s 1)), (10, (s 10)), (12, (s 12)), (74, (s 74)), (77, (V.d (D.bool false))), (79, x1)]) (looko ([10].map fun n => (n, o n)))) K))
 (opsB C I R_o10 (St.mk (look [(0, (s 0)), (1, (s 1)), (10, (s 10)), (12, (s 12)), (74, (s 74)), (77, (V.d (D.bool true))), (79, (V.tup []))]) (looko ([10].map fun n => (n, o n)))) K)
 (opsB C I R_o10 (St.mk (look [(0, (s 0)), (1, (s 1)), (10, (s 10)), (12, (s 12)), (74, (s 74)), (77, (V.tup [])), (79, (V.tup []))]) (looko ([10].map fun n => (n, o n)))) K)) := rfl
@[instance] theorem g_law08_TreeNames_o9_u : UnfAt (opsB C I g_law08_TreeNames.o9 (St.mk s o) K) g_law08_TreeNames_o9_sh := Unf.of _
theorem g_law08_TreeNames_o8_sh : opsB C I (⟨some 75, .mv (.t 0), [], [], (some (3, 74, true)), none⟩ ::
     ⟨some 76, .bin .eql (.t 75) (.c (.d (.str [101, 97, 114, 110]))), [], [], (some (3, 74, true)), none⟩ ::
     ⟨some 77, .mv (.t 76), [], [], (some (3, 74, true)), (some ([0, 1, 10, 12, 74, 77], (some [10])))⟩ ::
     R_o9) (St.mk s o) K =
 (guardK (s 74) true
 (demand (binV BinOp.eql (s 0) (V.d (.str [101, 97, 114, 110]))) (fun x1 =>
opsB C I R_o9 (St.mk (look [(0, (s 0)), (1, (s 1)), (10, (s 10)), (12, (s 12)), (74, (V.d (D.bool true))), (77, x1)]) (looko ([10].map fun n => (n, o n)))) K))
 (opsB C I R_o9 (St.mk (look [(0, (s 0)), (1, (s 1)), (10, (s 10)), (12, (s 12)), (74, (V.d (D.bool false))), (77, (V.tup []))]) (looko ([10].map fun n => (n, o n)))) K)
 (opsB C I R_o9 (St.mk (look [(0, (s 0)), (1, (s 1)), (10, (s 10)), (12, (s 12)), (74, (V.tup [])), (77, (V.tup []))]) (looko ([10].map fun n => (n, o n)))) K)) := rfl
@[instance] theorem g_law08_TreeNames_o8_u : UnfAt (opsB C I g_law08_TreeNames.o8 (St.mk s o) K) g_law08_TreeNames_o8_sh := Unf.of _
theorem g_law08_TreeNames_o19_sh : opsB C I [⟨some 102, .pick (.t 100) (.t 101) (.c (.d (.bool false))), [], [], none, none⟩,
     ⟨some 4, .mv (.t 102), [], [], none, none⟩] (St.mk s o) K =
 (demand (pickV (s 100) (s 101) (V.d (.bool false))) (fun x1 =>
K (St.mk (upd (upd s 102 x1) 4 x1) o))) := rfl
@[instance] theorem g_law08_TreeNames_o19_u : UnfAt (opsB C I g_law08_TreeNames.o19 (St.mk s o) K) g_law08_TreeNames_o19_sh := Unf.of _
theorem g_law08_TreeNames_o18_sh : opsB C I (⟨some 101, .call 143 [], [], [], (some (8, 100, true)), (some ([100, 101], (some [])))⟩ ::
     R_o19) (St.mk s o) K =
 (guardK (s 100) true
 (callK C I (St.mk (upd s 100 (V.d (D.bool true))) o) (some 101) 143 [] (fun r1 or1 =>
opsB C I R_o19 (St.mk (look [(100, (V.d (D.bool true))), (101, r1)]) (looko ([].map fun n => (n, or1 n)))) K))
 (opsB C I R_o19 (St.mk (look [(100, (V.d (D.bool false))), (101, (V.tup []))]) (looko ([].map fun n => (n, o n)))) K)
 (opsB C I R_o19 (St.mk (look [(100, (V.tup [])), (101, (V.tup []))]) (looko ([].map fun n => (n, o n)))) K)) := rfl
@[instance] theorem g_law08_TreeNames_o18_u : UnfAt (opsB C I g_law08_TreeNames.o18 (St.mk s o) K) g_law08_TreeNames_o18_sh := Unf.of _
theorem g_law08_TreeNames_o17_sh : opsB C I (⟨some 99, .pick (.t 96) (.t 98) (.c (.d (.bool false))), [], [], none, none⟩ ::
     ⟨some 100, .mv (.t 99), [], [], none, (some ([100], (some [])))⟩ ::
     R_o18) (St.mk s o) K =
 (demand (pickV (s 96) (s 98) (V.d (.bool false))) (fun x1 =>
opsB C I R_o18 (St.mk (look [(100, x1)]) (looko ([].map fun n => (n, o n)))) K)) := rfl
@[instance] theorem g_law08_TreeNames_o17_u : UnfAt (opsB C I g_law08_TreeNames.o17 (St.mk s o) K) g_law08_TreeNames_o17_sh := Unf.of _
theorem g_law08_TreeNames_o16_sh : opsB C I (⟨some 97, .mv (.t 12), [], [], (some (4, 96, true)), none⟩ ::
     ⟨some 98, .bin .eql (.t 97) (.c (.d (.int .i64 2))), [], [], (some (4, 96, true)), (some ([96, 98], (some [])))⟩ ::
     R_o17) (St.mk s o) K =
 (guardK (s 96) true
 (demand (binV BinOp.eql (s 12) (V.d (.int .i64 2))) (fun x1 =>
opsB C I R_o17 (St.mk (look [(96, (V.d (D.bool true))), (98, x1)]) (looko ([].map fun n => (n, o n)))) K))
 (opsB C I R_o17 (St.mk (look [(96, (V.d (D.bool false))), (98, (V.tup []))]) (looko ([].map fun n => (n, o n)))) K)
 (opsB C I R_o17 (St.mk (look [(96, (V.tup [])), (98, (V.tup []))]) (looko ([].map fun n => (n, o n)))) K)) := rfl
@[instance] theorem g_law08_TreeNames_o16_u : UnfAt (opsB C I g_law08_TreeNames.o16 (St.mk s o) K) g_law08_TreeNames_o16_sh := Unf.of _
theorem g_law08_TreeNames_c5_sh : wpB C I (.ret) (St.mk s o) Q =
 (Q .ret (St.mk s o)) := rfl
@[instance] theorem g_law08_TreeNames_c5_u : UnfAt (wpB C I g_law08_TreeNames.c5 (St.mk s o) Q) g_law08_TreeNames_c5_sh := Unf.of _
theorem g_law08_TreeNames_o25_sh : opsB C I [⟨some 123, .pick (.t 121) (.t 122) (.c (.d (.bool false))), [], [], none, none⟩,
     ⟨some 4, .mv (.t 123), [], [], none, none⟩] (St.mk s o) K =
 (demand (pickV (s 121) (s 122) (V.d (.bool false))) (fun x1 =>
K (St.mk (upd (upd s 123 x1) 4 x1) o))) := rfl
@[instance] theorem g_law08_TreeNames_o25_u : UnfAt (opsB C I g_law08_TreeNames.o25 (St.mk s o) K) g_law08_TreeNames_o25_sh := Unf.of _
theorem g_law08_TreeNames_o24_sh : opsB C I (⟨some 122, .call 143 [], [], [], (some (18, 121, true)), (some ([121, 122], (some [])))⟩ ::
     R_o25) (St.mk s o) K =
 (guardK (s 121) true
 (callK C I (St.mk (upd s 121 (V.d (D.bool true))) o) (some 122) 143 [] (fun r1 or1 =>
opsB C I R_o25 (St.mk (look [(121, (V.d (D.bool true))), (122, r1)]) (looko ([].map fun n => (n, or1 n)))) K))
 (opsB C I R_o25 (St.mk (look [(121, (V.d (D.bool false))), (122, (V.tup []))]) (looko ([].map fun n => (n, o n)))) K)
 (opsB C I R_o25 (St.mk (look [(121, (V.tup [])), (122, (V.tup []))]) (looko ([].map fun n => (n, o n)))) K)) := rfl
@[instance] theorem g_law08_TreeNames_o24_u : UnfAt (opsB C I g_law08_TreeNames.o24 (St.mk s o) K) g_law08_TreeNames_o24_sh := Unf.of _
theorem g_law08_TreeNames_o23_sh : opsB C I (⟨some 120, .pick (.t 117) (.t 119) (.c (.d (.bool false))), [], [], none, none⟩ ::
     ⟨some 121, .mv (.t 120), [], [], none, (some ([121], (some [])))⟩ ::
     R_o24) (St.mk s o) K =
 (demand (pickV (s 117) (s 119) (V.d (.bool false))) (fun x1 =>
opsB C I R_o24 (St.mk (look [(121, x1)]) (looko ([].map fun n => (n, o n)))) K)) := rfl
@[instance] theorem g_law08_TreeNames_o23_u : UnfAt (opsB C I g_law08_TreeNames.o23 (St.mk s o) K) g_law08_TreeNames_o23_sh := Unf.of _
theorem g_law08_TreeNames_o22_sh : opsB C I (⟨some 118, .mv (.t 12), [], [], (some (14, 117, true)), none⟩ ::
     ⟨some 119, .bin .eql (.t 118) (.c (.d (.int .i64 0))), [], [], (some (14, 117, true)), (some ([117, 119], (some [])))⟩ ::
     R_o23) (St.mk s o) K =
 (guardK (s 117) true
 (demand (binV BinOp.eql (s 12) (V.d (.int .i64 0))) (fun x1 =>
opsB C I R_o23 (St.mk (look [(117, (V.d (D.bool true))), (119, x1)]) (looko ([].map fun n => (n, o n)))) K))
 (opsB C I R_o23 (St.mk (look [(117, (V.d (D.bool false))), (119, (V.tup []))]) (looko ([].map fun n => (n, o n)))) K)
 (opsB C I R_o23 (St.mk (look [(117, (V.tup [])), (119, (V.tup []))]) (looko ([].map fun n => (n, o n)))) K)) := rfl
@[instance] theorem g_law08_TreeNames_o22_u : UnfAt (opsB C I g_law08_TreeNames.o22 (St.mk s o) K) g_law08_TreeNames_o22_sh := Unf.of _
theorem g_law08_TreeNames_o21_sh : opsB C I (⟨some 116, .pick (.t 107) (.t 115) (.c (.d (.bool false))), [], [], none, none⟩ ::
     ⟨some 117, .mv (.t 116), [], [], none, (some ([12, 117], (some [])))⟩ ::
     R_o22) (St.mk s o) K =
 (demand (pickV (s 107) (s 115) (V.d (.bool false))) (fun x1 =>
opsB C I R_o22 (St.mk (look [(12, (s 12)), (117, x1)]) (looko ([].map fun n => (n, o n)))) K)) := rfl
@[instance] theorem g_law08_TreeNames_o21_u : UnfAt (opsB C I g_law08_TreeNames.o21 (St.mk s o) K) g_law08_TreeNames_o21_sh := Unf.of _
theorem g_law08_TreeNames_o20_sh : opsB C I (⟨some 108, .faddr 0 (.t 10), [], [], (some (4, 107, true)), none⟩ ::
     ⟨some 109, .load none (.t 108), [], [], (some (4, 107, true)), none⟩ ::
     ⟨some 110, .iaddr 3 (.t 109) (.c (.d (.int .i64 0))), [], [], (some (4, 107, true)), none⟩ ::
     ⟨some 111, .load (some 3) (.t 110), [], [], (some (4, 107, true)), none⟩ ::
     ⟨some 112, .mv (.t 0), [], [], (some (4, 107, true)), none⟩ ::
     ⟨some 113, .mv (.t 1), [], [], (some (4, 107, true)), none⟩ ::
     ⟨some 114, .build [.d (.str []), .d (.str []), .d (.int .i64 0)] [(0, 1, (.t 112)), (1, 1, (.t 113))], [], [], (some (4, 107, true)), none⟩ ::
     ⟨some 115, .eqs false [2, 2, 0] (.t 111) (.t 114), [], [], (some (4, 107, true)), (some ([12, 107, 115], (some [])))⟩ ::
     R_o21) (St.mk s o) K =
 (guardK (s 107) true
 (demand (faddrV 0 (s 10)) (fun x1 =>
demand (loadV o none x1) (fun x2 =>
demand (iaddrV o 3 x2 (V.d (.int .i64 0))) (fun x3 =>
demand (loadV o (some 3) x3) (fun x4 =>
demand ((buildN [V.d (.str []), V.d (.str []), V.d (.int .i64 0)] [(0, 1, (s 0)), (1, 1, (s 1))]).map V.agg) (fun x5 =>
demand (eqsV false [2, 2, 0] x4 x5) (fun x6 =>
opsB C I R_o21 (St.mk (look [(12, (s 12)), (107, (V.d (D.bool true))), (115, x6)]) (looko ([].map fun n => (n, o n)))) K)))))))
 (opsB C I R_o21 (St.mk (look [(12, (s 12)), (107, (V.d (D.bool false))), (115, (V.tup []))]) (looko ([].map fun n => (n, o n)))) K)
 (opsB C I R_o21 (St.mk (look [(12, (s 12)), (107, (V.tup [])), (115, (V.tup []))]) (looko ([].map fun n => (n, o n)))) K)) := rfl
@[instance] theorem g_law08_TreeNames_o20_u : UnfAt (opsB C I g_law08_TreeNames.o20 (St.mk s o) K) g_law08_TreeNames_o20_sh := Unf.of _
theorem g_law08_TreeNames_c6_sh : wpB C I (.ret) (St.mk s o) Q =
 (Q .ret (St.mk s o)) := rfl
@[instance] theorem g_law08_TreeNames_c6_u : UnfAt (wpB C I g_law08_TreeNames.c6 (St.mk s o) Q) g_law08_TreeNames_c6_sh := Unf.of _
theorem g_law08_TreeNames_c7_sh : wpB C I (.seq (.region [4] (some []) none
    (⟨some 103, .faddr 0 (.t 10), [], [], none, none⟩ ::
     ⟨some 104, .load none (.t 103), [], [], none, none⟩ ::
     ⟨some 105, .len (.t 104), [], [], none, none⟩ ::
     ⟨some 106, .bin .eql (.t 105) (.c (.d (.int .i64 1))), [], [], none, none⟩ ::
     ⟨some 107, .mv (.t 106), [], [], none, (some ([0, 1, 10, 12, 107], (some [10])))⟩ ::
     R_o20))
 (R_c6)) (St.mk s o) Q =
 (demand (faddrV 0 (s 10)) (fun x1 =>
demand (loadV o none x1) (fun x2 =>
demand (lenV o x2) (fun x3 =>
demand (binV BinOp.eql x3 (V.d (.int .i64 1))) (fun x4 =>
opsB C I R_o20 (St.mk (look [(0, (s 0)), (1, (s 1)), (10, (s 10)), (12, (s 12)), (107, x4)]) (looko ([10].map fun n => (n, o n)))) (fun st => (seqK (fun st => wpB C I R_c6 st Q) Q) .normal (St.trim st [4] (some [])))))))) := rfl
@[instance] theorem g_law08_TreeNames_c7_u : UnfAt (wpB C I g_law08_TreeNames.c7 (St.mk s o) Q) g_law08_TreeNames_c7_sh := Unf.of _
theorem g_law08_TreeNames_c8_sh : wpB C I (.seq (.seq (.region [0, 1, 10, 12, 91] (some [10]) none
     [⟨some 90, .mv (.t 13), [], [], none, none⟩,
      ⟨some 91, .un .not (.t 90), [], [], none, none⟩])
  (.cond (.t 91) (.seq (.region [4] (some []) none
       (⟨some 92, .faddr 0 (.t 10), [], [], none, none⟩ ::
        ⟨some 93, .load none (.t 92), [], [], none, none⟩ ::
        ⟨some 94, .len (.t 93), [], [], none, none⟩ ::
        ⟨some 95, .bin .eql (.t 94) (.c (.d (.int .i64 0))), [], [], none, none⟩ ::
        ⟨some 96, .mv (.t 95), [], [], none, (some ([12, 96], (some [])))⟩ ::
        R_o16))
    (R_c5))
   (.skip)))
 (R_c7)) (St.mk s o) Q =
 (demand (unV UnOp.not (s 13)) (fun x1 =>
condK x1
 (demand (faddrV 0 (s 10)) (fun x2 =>
demand (loadV (looko ([10].map fun n => (n, o n))) none x2) (fun x3 =>
demand (lenV (looko ([10].map fun n => (n, o n))) x3) (fun x4 =>
demand (binV BinOp.eql x4 (V.d (.int .i64 0))) (fun x5 =>
opsB C I R_o16 (St.mk (look [(12, (s 12)), (96, x5)]) (looko ([].map fun n => (n, o n)))) (fun st => (seqK (fun st => wpB C I R_c5 st (seqK (fun st => wpB C I R_c7 st Q) Q)) (seqK (fun st => wpB C I R_c7 st Q) Q)) .normal (St.trim st [4] (some []))))))))
 (wpB C I R_c7 (St.mk (look [(0, (s 0)), (1, (s 1)), (10, (s 10)), (12, (s 12)), (91, x1)]) (looko ([10].map fun n => (n, o n)))) Q))) := rfl
@[instance] theorem g_law08_TreeNames_c8_u : UnfAt (wpB C I g_law08_TreeNames.c8 (St.mk s o) Q) g_law08_TreeNames_c8_sh := Unf.of _
theorem g_law08_TreeNames_c9_sh : wpB C I (.seq (.region [0, 1, 10, 12, 13] (some [10]) none
    (⟨some 71, .mv (.t 1), [], [], none, none⟩ ::
     ⟨some 72, .call 152 [(.t 71)], [], [], none, none⟩ ::
     ⟨some 73, .un .not (.t 72), [], [], none, none⟩ ::
     ⟨some 74, .mv (.t 73), [], [], none, (some ([0, 1, 10, 12, 74], (some [10])))⟩ ::
     R_o8))
 (R_c8)) (St.mk s o) Q =
 (callK C I (St.mk (upd s 71 (s 1)) o) (some 72) 152 [(s 1)] (fun r1 or1 =>
demand (unV UnOp.not r1) (fun x2 =>
opsB C I R_o8 (St.mk (look [(0, (s 0)), (1, (s 1)), (10, (s 10)), (12, (s 12)), (74, x2)]) (looko ([10].map fun n => (n, or1 n)))) (fun st => (seqK (fun st => wpB C I R_c8 st Q) Q) .normal (St.trim st [0, 1, 10, 12, 13] (some [10])))))) := rfl
@[instance] theorem g_law08_TreeNames_c9_u : UnfAt (wpB C I g_law08_TreeNames.c9 (St.mk s o) Q) g_law08_TreeNames_c9_sh := Unf.of _
theorem g_law08_TreeNames_c10_sh : wpB C I (.seq (.region [0, 1, 10, 12] (some [10]) none
    [⟨some 62, .mv (.t 0), [], [], none, none⟩,
     ⟨some 63, .bin .add (.t 62) (.c (.d (.str [32]))), [], [], none, none⟩,
     ⟨some 64, .mv (.t 1), [], [], none, none⟩,
     ⟨some 65, .bin .add (.t 63) (.t 64), [], [], none, none⟩,
     ⟨some 66, .bin .add (.t 65) (.c (.d (.str [32, 61, 32, 49, 59]))), [], [], none, none⟩,
     ⟨some 67, .call 144 [(.t 66)], [], [], none, none⟩,
     ⟨some 61, .mv (.t 67), [], [], none, none⟩,
     ⟨some 68, .ext (.t 61) 0, [], [], none, none⟩,
     ⟨some 69, .ext (.t 61) 1, [], [], none, none⟩,
     ⟨some 70, .ext (.t 61) 2, [], [], none, none⟩,
     ⟨some 10, .alloc 10 [.cap0, .cap0], [], [], none, none⟩,
     ⟨none, .store 2 (.t 10) (.t 68), [], [], none, none⟩,
     ⟨some 11, .mv (.t 69), [], [], none, none⟩,
     ⟨some 12, .mv (.t 70), [], [], none, none⟩])
 (R_c9)) (St.mk s o) Q =
 (demand (binV BinOp.add (s 0) (V.d (.str [32]))) (fun x1 =>
demand (binV BinOp.add x1 (s 1)) (fun x2 =>
demand (binV BinOp.add x2 (V.d (.str [32, 61, 32, 49, 59]))) (fun x3 =>
callK C I (St.mk (upd (upd (upd (upd (upd s 62 (s 0)) 63 x1) 64 (s 1)) 65 x2) 66 x3) o) (some 67) 144 [x3] (fun r4 or4 =>
demand (extV r4 0) (fun x5 =>
demand (extV r4 1) (fun x6 =>
demand (extV r4 2) (fun x7 =>
(¬ I 10 ∧ Fresh (St.mk (upd (upd (upd (upd (upd (upd (upd (upd (upd (upd s 62 (s 0)) 63 x1) 64 (s 1)) 65 x2) 66 x3) 67 r4) 61 r4) 68 x5) 69 x6) 70 x7) or4) 10 (some 10) ∧ V.refsL 10 [V.cap0, V.cap0] = false ∧
storeK (V.ptr 10 0) (cellsV x5) 2 (upd or4 10 (some (Ob.box [V.cap0, V.cap0]))) (fun m8 ob9 =>
wpB C I R_c9 (St.mk (look [(0, (s 0)), (1, (s 1)), (10, (V.ptr 10 0)), (12, x7)]) (looko ([10].map fun n => (n, (upd (upd or4 10 (some (Ob.box [V.cap0, V.cap0]))) m8 (some ob9)) n)))) Q)))))))))) := rfl
@[instance] theorem g_law08_TreeNames_c10_u : UnfAt (wpB C I g_law08_TreeNames.c10 (St.mk s o) Q) g_law08_TreeNames_c10_sh := Unf.of _
theorem g_law08_TreeNames_c11_sh : wpB C I (.seq (.seq (.region [0, 1, 25, 26, 27] (some []) none
     [⟨some 23, .mv (.t 0), [], [], none, none⟩,
      ⟨some 24, .mv (.t 1), [], [], none, none⟩,
      ⟨some 25, .bsl none 1 [] 2 [(0, (.t 23)), (1, (.t 24))], [], [], none, none⟩,
      ⟨some 26, .len (.t 25), [], [], none, none⟩,
      ⟨some 27, .mv (.c (.d (.int .i64 0))), [], [], none, none⟩])
  (R_c4))
 (R_c10)) (St.mk s o) Q =
 (lstK (partsN 1 [(s 0), (s 1)]) (fun es1 =>
demand (lenV o (V.d (D.sl es1))) (fun x2 =>
wpB C I R_c4 (St.mk (look [(0, (s 0)), (1, (s 1)), (25, (V.d (D.sl es1))), (26, x2), (27, (V.d (.int .i64 0)))]) (looko ([].map fun n => (n, o n)))) (seqK (fun st => wpB C I R_c10 st Q) Q)))) := rfl
@[instance] theorem g_law08_TreeNames_c11_u : UnfAt (wpB C I g_law08_TreeNames.c11 (St.mk s o) Q) g_law08_TreeNames_c11_sh := Unf.of _
theorem g_law08_TreeNames_code_sh : wpB C I (.seq (.region [0, 1] (some []) none
    [⟨some 4, .mv (.c (.d (.bool false))), [], [], none, none⟩])
 (.seq (.seq (.region [0, 1, 21] (some []) none
      (⟨some 14, .mv (.t 0), [], [], none, none⟩ ::
       ⟨some 15, .lenS (.t 14), [], [], none, none⟩ ::
       ⟨some 16, .bin .gtr (.t 15) (.c (.d (.int .i64 20))), [], [], none, none⟩ ::
       ⟨some 17, .mv (.t 16), [], [], none, (some ([0, 1, 17], (some [])))⟩ ::
       R_o0))
   (R_c0))
  (R_c11))) (St.mk s o) Q =
 (demand (lenSV (s 0)) (fun x1 =>
demand (binV BinOp.gtr x1 (V.d (.int .i64 20))) (fun x2 =>
opsB C I R_o0 (St.mk (look [(0, (s 0)), (1, (s 1)), (17, x2)]) (looko ([].map fun n => (n, o n)))) (fun st => (seqK (fun st => wpB C I R_c0 st (seqK (fun st => wpB C I R_c11 st Q) Q)) (seqK (fun st => wpB C I R_c11 st Q) Q)) .normal (St.trim st [0, 1, 21] (some [])))))) := rfl
@[instance] theorem g_law08_TreeNames_code_u : UnfAt (wpB C I g_law08_TreeNames.code (St.mk s o) Q) g_law08_TreeNames_code_sh := Unf.of _

end Pay
