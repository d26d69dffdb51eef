/- What the code of the functions comes to, without slots: an equation for each part; no condition. -/
import Derived.Test.YtcgeldjhobmijaaDoorPayBb0
import Derived.Test.YtcgeldjhobmijaaDoorPayCode4_0
set_option maxRecDepth 20000
set_option maxHeartbeats 400000
set_option linter.unusedVariables false
namespace Pay
open Go
variable {R_c0 R_c1 R_c2 R_c3 R_c4 R_c5 R_c6 R_l0 : ACode} {R_o0 R_o1 R_o2 R_o3 R_o4 R_o5 R_o6 R_o7 R_o8 R_o9 R_o10 R_o11 R_o12 R_o13 : List AOper} {C : Ctx} {I : Nat → Prop} {s : Nat → V} {o : Nat → Option Ob} {K : St → Prop} {Q : Ex → St → Prop}
theorem g_law08_TreeDeep_c0_sh : wpB C I (.region [1, 5, 6, 7, 14, 15] (some []) none
   [⟨some 24, .bin .add (.t 15) (.c (.d (.int .i64 1))), [], [], none, none⟩,
    ⟨some 15, .mv (.t 24), [], [], none, none⟩]) (St.mk s o) Q =
 (demand (binV BinOp.add (s 15) (V.d (.int .i64 1))) (fun x1 =>
Q .normal (St.mk (look [(1, (s 1)), (5, (s 5)), (6, (s 6)), (7, (s 7)), (14, (s 14)), (15, x1)]) (looko ([].map fun n => (n, o n)))))) := rfl
@[instance] theorem g_law08_TreeDeep_c0_u : UnfAt (wpB C I g_law08_TreeDeep.c0 (St.mk s o) Q) g_law08_TreeDeep_c0_sh := Unf.of _
theorem g_law08_TreeDeep_l0_sh (hL : R_l0 = .loop [1, 5, 6, 7, 14, 15] (some []) (.seq (.region [1, 5, 6, 7, 14, 15, 16] (some []) none
     [⟨some 16, .bin .lss (.t 15) (.t 14), [], [], none, none⟩])
  (.seq (.cond (.t 16) (.skip)
    (.exit 0))
   (.seq (.block 1 [1, 5, 6, 7, 14, 15] (some []) (.seq (.region [1, 5, 6, 7, 14, 15, 17] (some []) none
         [⟨some 17, .mv (.t 1), [], [], none, none⟩])
      (.cond (.t 17) (.region [1, 5, 6, 7, 14, 15] (some []) none
          [⟨some 18, .mv (.t 6), [], [], none, none⟩,
           ⟨some 19, .bin .add (.t 18) (.c (.d (.str [45]))), [], [], none, none⟩,
           ⟨some 6, .mv (.t 19), [], [], none, none⟩])
       (.seq (.region [1, 5, 6, 7, 14, 15] (some []) none
           [⟨some 20, .mv (.t 6), [], [], none, none⟩,
            ⟨some 21, .bin .add (.t 20) (.c (.d (.str [40]))), [], [], none, none⟩,
            ⟨some 6, .mv (.t 21), [], [], none, none⟩])
        (.region [1, 5, 6, 7, 14, 15] (some []) none
           [⟨some 22, .mv (.t 7), [], [], none, none⟩,
            ⟨some 23, .bin .add (.t 22) (.c (.d (.str [41]))), [], [], none, none⟩,
            ⟨some 7, .mv (.t 23), [], [], none, none⟩])))))
    (R_c0)))))
 (h : demand (binV BinOp.lss (s 15) (s 14)) (fun x1 =>
condK x1
 (condK (s 1)
 (demand (binV BinOp.add (s 6) (V.d (.str [45]))) (fun x2 =>
wpB C I R_c0 (St.mk (look [(1, (s 1)), (5, (s 5)), (6, x2), (7, (s 7)), (14, (s 14)), (15, (s 15))]) (looko ([].map fun n => (n, o n)))) (seqK (fun s => wpB C I R_l0 s Q) Q)))
 (demand (binV BinOp.add (s 6) (V.d (.str [40]))) (fun x3 =>
demand (binV BinOp.add (s 7) (V.d (.str [41]))) (fun x4 =>
wpB C I R_c0 (St.mk (look [(1, (s 1)), (5, (s 5)), (6, x3), (7, x4), (14, (s 14)), (15, (s 15))]) (looko ([].map fun n => (n, o n)))) (seqK (fun s => wpB C I R_l0 s Q) Q)))))
 (Q (.exit 0) (St.mk (look [(1, (s 1)), (5, (s 5)), (6, (s 6)), (7, (s 7)), (14, (s 14)), (15, (s 15)), (16, x1)]) (looko ([].map fun n => (n, o n))))))) : wpB C I R_l0 (St.mk s o) Q := w_loopC hL h
theorem g_law08_TreeDeep_o7_sh : opsB C I [⟨some 59, .pick (.t 57) (.t 58) (.c (.d (.bool false))), [], [], none, none⟩,
     ⟨some 4, .mv (.t 59), [], [], none, none⟩] (St.mk s o) K =
 (demand (pickV (s 57) (s 58) (V.d (.bool false))) (fun x1 =>
K (St.mk (upd (upd s 59 x1) 4 x1) o))) := rfl
@[instance] theorem g_law08_TreeDeep_o7_u : UnfAt (opsB C I g_law08_TreeDeep.o7 (St.mk s o) K) g_law08_TreeDeep_o7_sh := Unf.of _
theorem g_law08_TreeDeep_o6_sh : opsB C I (⟨some 58, .call 143 [], [], [], (some (21, 57, true)), (some ([57, 58], (some [])))⟩ ::
     R_o7) (St.mk s o) K =
 (guardK (s 57) true
 (callK C I (St.mk (upd s 57 (V.d (D.bool true))) o) (some 58) 143 [] (fun r1 or1 =>
opsB C I R_o7 (St.mk (look [(57, (V.d (D.bool true))), (58, r1)]) (looko ([].map fun n => (n, or1 n)))) K))
 (opsB C I R_o7 (St.mk (look [(57, (V.d (D.bool false))), (58, (V.tup []))]) (looko ([].map fun n => (n, o n)))) K)
 (opsB C I R_o7 (St.mk (look [(57, (V.tup [])), (58, (V.tup []))]) (looko ([].map fun n => (n, o n)))) K)) := rfl
@[instance] theorem g_law08_TreeDeep_o6_u : UnfAt (opsB C I g_law08_TreeDeep.o6 (St.mk s o) K) g_law08_TreeDeep_o6_sh := Unf.of _
theorem g_law08_TreeDeep_o5_sh : opsB C I (⟨some 56, .pick (.t 44) (.t 55) (.c (.d (.bool false))), [], [], none, none⟩ ::
     ⟨some 57, .mv (.t 56), [], [], none, (some ([57], (some [])))⟩ ::
     R_o6) (St.mk s o) K =
 (demand (pickV (s 44) (s 55) (V.d (.bool false))) (fun x1 =>
opsB C I R_o6 (St.mk (look [(57, x1)]) (looko ([].map fun n => (n, o n)))) K)) := rfl
@[instance] theorem g_law08_TreeDeep_o5_u : UnfAt (opsB C I g_law08_TreeDeep.o5 (St.mk s o) K) g_law08_TreeDeep_o5_sh := Unf.of _
theorem g_law08_TreeDeep_o4_sh : opsB C I (⟨some 54, .pick (.t 51) (.c (.d (.bool true))) (.t 53), [], [], (some (8, 44, true)), none⟩ ::
     ⟨some 55, .beq false (.t 48) (.t 54), [], [], (some (8, 44, true)), (some ([44, 55], (some [])))⟩ ::
     R_o5) (St.mk s o) K =
 (guardK (s 44) true
 (demand (pickV (s 51) (V.d (.bool true)) (s 53)) (fun x1 =>
demand (beqV false (s 48) x1) (fun x2 =>
opsB C I R_o5 (St.mk (look [(44, (V.d (D.bool true))), (55, x2)]) (looko ([].map fun n => (n, o n)))) K)))
 (opsB C I R_o5 (St.mk (look [(44, (V.d (D.bool false))), (55, (V.tup []))]) (looko ([].map fun n => (n, o n)))) K)
 (opsB C I R_o5 (St.mk (look [(44, (V.tup [])), (55, (V.tup []))]) (looko ([].map fun n => (n, o n)))) K)) := rfl
@[instance] theorem g_law08_TreeDeep_o4_u : UnfAt (opsB C I g_law08_TreeDeep.o4 (St.mk s o) K) g_law08_TreeDeep_o4_sh := Unf.of _
theorem g_law08_TreeDeep_o3_sh : opsB C I (⟨some 52, .mv (.t 5), [], [], (some (15, 51, false)), none⟩ ::
     ⟨some 53, .bin .eql (.t 52) (.c (.d (.int .i64 0))), [], [], (some (15, 51, false)), (some ([44, 48, 51, 53], (some [])))⟩ ::
     R_o4) (St.mk s o) K =
 (guardK (s 51) false
 (demand (binV BinOp.eql (s 5) (V.d (.int .i64 0))) (fun x1 =>
opsB C I R_o4 (St.mk (look [(44, (s 44)), (48, (s 48)), (51, (V.d (D.bool false))), (53, x1)]) (looko ([].map fun n => (n, o n)))) K))
 (opsB C I R_o4 (St.mk (look [(44, (s 44)), (48, (s 48)), (51, (V.d (D.bool true))), (53, (V.tup []))]) (looko ([].map fun n => (n, o n)))) K)
 (opsB C I R_o4 (St.mk (look [(44, (s 44)), (48, (s 48)), (51, (V.tup [])), (53, (V.tup []))]) (looko ([].map fun n => (n, o n)))) K)) := rfl
@[instance] theorem g_law08_TreeDeep_o3_u : UnfAt (opsB C I g_law08_TreeDeep.o3 (St.mk s o) K) g_law08_TreeDeep_o3_sh := Unf.of _
theorem g_law08_TreeDeep_o2_sh : opsB C I (⟨some 45, .faddr 1 (.t 8), [], [], (some (8, 44, true)), none⟩ ::
     ⟨some 46, .load none (.t 45), [], [], (some (8, 44, true)), none⟩ ::
     ⟨some 47, .len (.t 46), [], [], (some (8, 44, true)), none⟩ ::
     ⟨some 48, .bin .eql (.t 47) (.c (.d (.int .i64 1))), [], [], (some (8, 44, true)), none⟩ ::
     ⟨some 49, .mv (.t 1), [], [], (some (8, 44, true)), none⟩ ::
     ⟨some 50, .un .not (.t 49), [], [], (some (8, 44, true)), none⟩ ::
     ⟨some 51, .mv (.t 50), [], [], (some (8, 44, true)), (some ([5, 44, 48, 51], (some [])))⟩ ::
     R_o3) (St.mk s o) K =
 (guardK (s 44) true
 (demand (faddrV 1 (s 8)) (fun x1 =>
demand (loadV o none x1) (fun x2 =>
demand (lenV o x2) (fun x3 =>
demand (binV BinOp.eql x3 (V.d (.int .i64 1))) (fun x4 =>
demand (unV UnOp.not (s 1)) (fun x5 =>
opsB C I R_o3 (St.mk (look [(5, (s 5)), (44, (V.d (D.bool true))), (48, x4), (51, x5)]) (looko ([].map fun n => (n, o n)))) K))))))
 (opsB C I R_o3 (St.mk (look [(5, (s 5)), (44, (V.d (D.bool false))), (48, (V.tup [])), (51, (V.tup []))]) (looko ([].map fun n => (n, o n)))) K)
 (opsB C I R_o3 (St.mk (look [(5, (s 5)), (44, (V.tup [])), (48, (V.tup [])), (51, (V.tup []))]) (looko ([].map fun n => (n, o n)))) K)) := rfl
@[instance] theorem g_law08_TreeDeep_o2_u : UnfAt (opsB C I g_law08_TreeDeep.o2 (St.mk s o) K) g_law08_TreeDeep_o2_sh := Unf.of _
theorem g_law08_TreeDeep_o1_sh : opsB C I (⟨some 43, .pick (.t 38) (.t 42) (.c (.d (.bool false))), [], [], none, none⟩ ::
     ⟨some 44, .mv (.t 43), [], [], none, (some ([1, 5, 8, 44], (some [8])))⟩ ::
     R_o2) (St.mk s o) K =
 (demand (pickV (s 38) (s 42) (V.d (.bool false))) (fun x1 =>
opsB C I R_o2 (St.mk (look [(1, (s 1)), (5, (s 5)), (8, (s 8)), (44, x1)]) (looko ([8].map fun n => (n, o n)))) K)) := rfl
@[instance] theorem g_law08_TreeDeep_o1_u : UnfAt (opsB C I g_law08_TreeDeep.o1 (St.mk s o) K) g_law08_TreeDeep_o1_sh := Unf.of _
theorem g_law08_TreeDeep_o0_sh : opsB C I (⟨some 39, .faddr 0 (.t 8), [], [], (some (2, 38, true)), none⟩ ::
     ⟨some 40, .load none (.t 39), [], [], (some (2, 38, true)), none⟩ ::
     ⟨some 41, .len (.t 40), [], [], (some (2, 38, true)), none⟩ ::
     ⟨some 42, .bin .eql (.t 41) (.c (.d (.int .i64 1))), [], [], (some (2, 38, true)), (some ([1, 5, 8, 38, 42], (some [8])))⟩ ::
     R_o1) (St.mk s o) K =
 (guardK (s 38) true
 (demand (faddrV 0 (s 8)) (fun x1 =>
demand (loadV o none x1) (fun x2 =>
demand (lenV o x2) (fun x3 =>
demand (binV BinOp.eql x3 (V.d (.int .i64 1))) (fun x4 =>
opsB C I R_o1 (St.mk (look [(1, (s 1)), (5, (s 5)), (8, (s 8)), (38, (V.d (D.bool true))), (42, x4)]) (looko ([8].map fun n => (n, o n)))) K)))))
 (opsB C I R_o1 (St.mk (look [(1, (s 1)), (5, (s 5)), (8, (s 8)), (38, (V.d (D.bool false))), (42, (V.tup []))]) (looko ([8].map fun n => (n, o n)))) K)
 (opsB C I R_o1 (St.mk (look [(1, (s 1)), (5, (s 5)), (8, (s 8)), (38, (V.tup [])), (42, (V.tup []))]) (looko ([8].map fun n => (n, o n)))) K)) := rfl
@[instance] theorem g_law08_TreeDeep_o0_u : UnfAt (opsB C I g_law08_TreeDeep.o0 (St.mk s o) K) g_law08_TreeDeep_o0_sh := Unf.of _
theorem g_law08_TreeDeep_c1_sh : wpB C I (.ret) (St.mk s o) Q =
 (Q .ret (St.mk s o)) := rfl
@[instance] theorem g_law08_TreeDeep_c1_u : UnfAt (wpB C I g_law08_TreeDeep.c1 (St.mk s o) Q) g_law08_TreeDeep_c1_sh := Unf.of _
theorem g_law08_TreeDeep_o13_sh : opsB C I [⟨some 74, .pick (.t 72) (.t 73) (.c (.d (.bool false))), [], [], none, none⟩,
     ⟨some 4, .mv (.t 74), [], [], none, none⟩] (St.mk s o) K =
 (demand (pickV (s 72) (s 73) (V.d (.bool false))) (fun x1 =>
K (St.mk (upd (upd s 74 x1) 4 x1) o))) := rfl
@[instance] theorem g_law08_TreeDeep_o13_u : UnfAt (opsB C I g_law08_TreeDeep.o13 (St.mk s o) K) g_law08_TreeDeep_o13_sh := Unf.of _
theorem g_law08_TreeDeep_o12_sh : opsB C I (⟨some 73, .call 143 [], [], [], (some (12, 72, true)), (some ([72, 73], (some [])))⟩ ::
     R_o13) (St.mk s o) K =
 (guardK (s 72) true
 (callK C I (St.mk (upd s 72 (V.d (D.bool true))) o) (some 73) 143 [] (fun r1 or1 =>
opsB C I R_o13 (St.mk (look [(72, (V.d (D.bool true))), (73, r1)]) (looko ([].map fun n => (n, or1 n)))) K))
 (opsB C I R_o13 (St.mk (look [(72, (V.d (D.bool false))), (73, (V.tup []))]) (looko ([].map fun n => (n, o n)))) K)
 (opsB C I R_o13 (St.mk (look [(72, (V.tup [])), (73, (V.tup []))]) (looko ([].map fun n => (n, o n)))) K)) := rfl
@[instance] theorem g_law08_TreeDeep_o12_u : UnfAt (opsB C I g_law08_TreeDeep.o12 (St.mk s o) K) g_law08_TreeDeep_o12_sh := Unf.of _
theorem g_law08_TreeDeep_o11_sh : opsB C I (⟨some 71, .pick (.t 66) (.t 70) (.c (.d (.bool false))), [], [], none, none⟩ ::
     ⟨some 72, .mv (.t 71), [], [], none, (some ([72], (some [])))⟩ ::
     R_o12) (St.mk s o) K =
 (demand (pickV (s 66) (s 70) (V.d (.bool false))) (fun x1 =>
opsB C I R_o12 (St.mk (look [(72, x1)]) (looko ([].map fun n => (n, o n)))) K)) := rfl
@[instance] theorem g_law08_TreeDeep_o11_u : UnfAt (opsB C I g_law08_TreeDeep.o11 (St.mk s o) K) g_law08_TreeDeep_o11_sh := Unf.of _
theorem g_law08_TreeDeep_o10_sh : opsB C I (⟨some 67, .faddr 0 (.t 8), [], [], (some (6, 66, true)), none⟩ ::
     ⟨some 68, .load none (.t 67), [], [], (some (6, 66, true)), none⟩ ::
     ⟨some 69, .len (.t 68), [], [], (some (6, 66, true)), none⟩ ::
     ⟨some 70, .bin .eql (.t 69) (.c (.d (.int .i64 0))), [], [], (some (6, 66, true)), (some ([66, 70], (some [])))⟩ ::
     R_o11) (St.mk s o) K =
 (guardK (s 66) true
 (demand (faddrV 0 (s 8)) (fun x1 =>
demand (loadV o none x1) (fun x2 =>
demand (lenV o x2) (fun x3 =>
demand (binV BinOp.eql x3 (V.d (.int .i64 0))) (fun x4 =>
opsB C I R_o11 (St.mk (look [(66, (V.d (D.bool true))), (70, x4)]) (looko ([].map fun n => (n, o n)))) K)))))
 (opsB C I R_o11 (St.mk (look [(66, (V.d (D.bool false))), (70, (V.tup []))]) (looko ([].map fun n => (n, o n)))) K)
 (opsB C I R_o11 (St.mk (look [(66, (V.tup [])), (70, (V.tup []))]) (looko ([].map fun n => (n, o n)))) K)) := rfl
@[instance] theorem g_law08_TreeDeep_o10_u : UnfAt (opsB C I g_law08_TreeDeep.o10 (St.mk s o) K) g_law08_TreeDeep_o10_sh := Unf.of _
theorem g_law08_TreeDeep_o9_sh : opsB C I (⟨some 65, .pick (.t 62) (.t 64) (.c (.d (.bool false))), [], [], none, none⟩ ::
     ⟨some 66, .mv (.t 65), [], [], none, (some ([8, 66], (some [8])))⟩ ::
     R_o10) (St.mk s o) K =
 (demand (pickV (s 62) (s 64) (V.d (.bool false))) (fun x1 =>
opsB C I R_o10 (St.mk (look [(8, (s 8)), (66, x1)]) (looko ([8].map fun n => (n, o n)))) K)) := rfl
@[instance] theorem g_law08_TreeDeep_o9_u : UnfAt (opsB C I g_law08_TreeDeep.o9 (St.mk s o) K) g_law08_TreeDeep_o9_sh := Unf.of _
theorem g_law08_TreeDeep_o8_sh : opsB C I (⟨some 63, .mv (.t 9), [], [], (some (2, 62, true)), none⟩ ::
     ⟨some 64, .bin .eql (.t 63) (.c (.d (.int .i64 28))), [], [], (some (2, 62, true)), (some ([8, 62, 64], (some [8])))⟩ ::
     R_o9) (St.mk s o) K =
 (guardK (s 62) true
 (demand (binV BinOp.eql (s 9) (V.d (.int .i64 28))) (fun x1 =>
opsB C I R_o9 (St.mk (look [(8, (s 8)), (62, (V.d (D.bool true))), (64, x1)]) (looko ([8].map fun n => (n, o n)))) K))
 (opsB C I R_o9 (St.mk (look [(8, (s 8)), (62, (V.d (D.bool false))), (64, (V.tup []))]) (looko ([8].map fun n => (n, o n)))) K)
 (opsB C I R_o9 (St.mk (look [(8, (s 8)), (62, (V.tup [])), (64, (V.tup []))]) (looko ([8].map fun n => (n, o n)))) K)) := rfl
@[instance] theorem g_law08_TreeDeep_o8_u : UnfAt (opsB C I g_law08_TreeDeep.o8 (St.mk s o) K) g_law08_TreeDeep_o8_sh := Unf.of _
theorem g_law08_TreeDeep_c2_sh : wpB C I (.ret) (St.mk s o) Q =
 (Q .ret (St.mk s o)) := rfl
@[instance] theorem g_law08_TreeDeep_c2_u : UnfAt (wpB C I g_law08_TreeDeep.c2 (St.mk s o) Q) g_law08_TreeDeep_c2_sh := Unf.of _
theorem g_law08_TreeDeep_c3_sh : wpB C I (.seq (.region [4] (some []) none
    (⟨some 60, .mv (.t 10), [], [], none, none⟩ ::
     ⟨some 61, .bin .eql (.t 60) (.c (.d (.int .i64 9))), [], [], none, none⟩ ::
     ⟨some 62, .mv (.t 61), [], [], none, (some ([8, 9, 62], (some [8])))⟩ ::
     R_o8))
 (R_c2)) (St.mk s o) Q =
 (demand (binV BinOp.eql (s 10) (V.d (.int .i64 9))) (fun x1 =>
opsB C I R_o8 (St.mk (look [(8, (s 8)), (9, (s 9)), (62, x1)]) (looko ([8].map fun n => (n, o n)))) (fun st => (seqK (fun st => wpB C I R_c2 st Q) Q) .normal (St.trim st [4] (some []))))) := rfl
@[instance] theorem g_law08_TreeDeep_c3_u : UnfAt (wpB C I g_law08_TreeDeep.c3 (St.mk s o) Q) g_law08_TreeDeep_c3_sh := Unf.of _
theorem g_law08_TreeDeep_c4_sh : wpB C I (.seq (.seq (.region [1, 5, 8, 9, 10, 35] (some [8]) none
     [⟨some 34, .mv (.t 5), [], [], none, none⟩,
      ⟨some 35, .bin .lss (.t 34) (.c (.d (.int .i64 20))), [], [], none, none⟩])
  (.cond (.t 35) (.seq (.region [4] (some []) none
       (⟨some 36, .mv (.t 10), [], [], none, none⟩ ::
        ⟨some 37, .bin .eql (.t 36) (.c (.d (.int .i64 0))), [], [], none, none⟩ ::
        ⟨some 38, .mv (.t 37), [], [], none, (some ([1, 5, 8, 38], (some [8])))⟩ ::
        R_o0))
    (R_c1))
   (.skip)))
 (R_c3)) (St.mk s o) Q =
 (demand (binV BinOp.lss (s 5) (V.d (.int .i64 20))) (fun x1 =>
condK x1
 (demand (binV BinOp.eql (s 10) (V.d (.int .i64 0))) (fun x2 =>
opsB C I R_o0 (St.mk (look [(1, (s 1)), (5, (s 5)), (8, (s 8)), (38, x2)]) (looko ([8].map fun n => (n, o n)))) (fun st => (seqK (fun st => wpB C I R_c1 st (seqK (fun st => wpB C I R_c3 st Q) Q)) (seqK (fun st => wpB C I R_c3 st Q) Q)) .normal (St.trim st [4] (some [])))))
 (wpB C I R_c3 (St.mk (look [(1, (s 1)), (5, (s 5)), (8, (s 8)), (9, (s 9)), (10, (s 10)), (35, x1)]) (looko ([8].map fun n => (n, o n)))) Q))) := rfl
@[instance] theorem g_law08_TreeDeep_c4_u : UnfAt (wpB C I g_law08_TreeDeep.c4 (St.mk s o) Q) g_law08_TreeDeep_c4_sh := Unf.of _
theorem g_law08_TreeDeep_c5_sh : wpB C I (.seq (.region [1, 5, 8, 9, 10] (some [8]) none
    [⟨some 26, .mv (.t 6), [], [], none, none⟩,
     ⟨some 27, .mv (.t 7), [], [], none, none⟩,
     ⟨some 28, .bin .add (.t 26) (.t 27), [], [], none, none⟩,
     ⟨some 29, .bin .add (.t 28) (.c (.d (.str [59]))), [], [], none, none⟩,
     ⟨some 30, .call 144 [(.t 29)], [], [], none, none⟩,
     ⟨some 25, .mv (.t 30), [], [], none, none⟩,
     ⟨some 31, .ext (.t 25) 0, [], [], none, none⟩,
     ⟨some 32, .ext (.t 25) 1, [], [], none, none⟩,
     ⟨some 33, .ext (.t 25) 2, [], [], none, none⟩,
     ⟨some 8, .alloc 8 [.cap0, .cap0], [], [], none, none⟩,
     ⟨none, .store 2 (.t 8) (.t 31), [], [], none, none⟩,
     ⟨some 9, .mv (.t 32), [], [], none, none⟩,
     ⟨some 10, .mv (.t 33), [], [], none, none⟩])
 (R_c4)) (St.mk s o) Q =
 (demand (binV BinOp.add (s 6) (s 7)) (fun x1 =>
demand (binV BinOp.add x1 (V.d (.str [59]))) (fun x2 =>
callK C I (St.mk (upd (upd (upd (upd s 26 (s 6)) 27 (s 7)) 28 x1) 29 x2) o) (some 30) 144 [x2] (fun r3 or3 =>
demand (extV r3 0) (fun x4 =>
demand (extV r3 1) (fun x5 =>
demand (extV r3 2) (fun x6 =>
(¬ I 8 ∧ Fresh (St.mk (upd (upd (upd (upd (upd (upd (upd (upd (upd s 26 (s 6)) 27 (s 7)) 28 x1) 29 x2) 30 r3) 25 r3) 31 x4) 32 x5) 33 x6) or3) 8 (some 8) ∧ V.refsL 8 [V.cap0, V.cap0] = false ∧
storeK (V.ptr 8 0) (cellsV x4) 2 (upd or3 8 (some (Ob.box [V.cap0, V.cap0]))) (fun m7 ob8 =>
wpB C I R_c4 (St.mk (look [(1, (s 1)), (5, (s 5)), (8, (V.ptr 8 0)), (9, x5), (10, x6)]) (looko ([8].map fun n => (n, (upd (upd or3 8 (some (Ob.box [V.cap0, V.cap0]))) m7 (some ob8)) n)))) Q))))))))) := rfl
@[instance] theorem g_law08_TreeDeep_c5_u : UnfAt (wpB C I g_law08_TreeDeep.c5 (St.mk s o) Q) g_law08_TreeDeep_c5_sh := Unf.of _
theorem g_law08_TreeDeep_c6_sh : wpB C I (.seq (.region [1, 5, 6, 7] (some []) none
    [⟨some 6, .mv (.c (.d (.str [108, 101, 116, 32, 97, 32, 61, 32]))), [], [], none, none⟩,
     ⟨some 7, .mv (.c (.d (.str [49]))), [], [], none, none⟩])
 (.seq (.seq (.region [1, 5, 6, 7, 14, 15] (some []) none
      [⟨some 14, .mv (.t 5), [], [], none, none⟩,
       ⟨some 15, .mv (.c (.d (.int .i64 0))), [], [], none, none⟩])
   (.block 0 [1, 5, 6, 7] (some []) (R_l0)))
  (R_c5))) (St.mk s o) Q =
 (wpB C I R_l0 (St.mk (look [(1, (s 1)), (5, (s 5)), (6, (V.d (.str [108, 101, 116, 32, 97, 32, 61, 32]))), (7, (V.d (.str [49]))), (14, (s 5)), (15, (V.d (.int .i64 0)))]) (looko ([].map fun n => (n, o n)))) (blockK 0 [1, 5, 6, 7] (some []) (seqK (fun st => wpB C I R_c5 st Q) Q))) := rfl
@[instance] theorem g_law08_TreeDeep_c6_u : UnfAt (wpB C I g_law08_TreeDeep.c6 (St.mk s o) Q) g_law08_TreeDeep_c6_sh := Unf.of _
theorem g_law08_TreeDeep_code_sh : wpB C I (.seq (.region [0, 1] (some []) none
    [⟨some 4, .mv (.c (.d (.bool false))), [], [], none, none⟩])
 (.seq (.region [1, 5] (some []) none
     [⟨some 11, .mv (.t 0), [], [], none, none⟩,
      ⟨some 12, .bin .rem (.t 11) (.c (.d (.int .u8 40))), [], [], none, none⟩,
      ⟨some 13, .conv .i64 (.t 12), [], [], none, none⟩,
      ⟨some 5, .mv (.t 13), [], [], none, none⟩])
  (R_c6))) (St.mk s o) Q =
 (demand (binV BinOp.rem (s 0) (V.d (.int .u8 40))) (fun x1 =>
demand (convV IntKind.i64 x1) (fun x2 =>
wpB C I R_c6 (St.mk (look [(1, (s 1)), (5, x2)]) (looko ([].map fun n => (n, o n)))) Q))) := rfl
@[instance] theorem g_law08_TreeDeep_code_u : UnfAt (wpB C I g_law08_TreeDeep.code (St.mk s o) Q) g_law08_TreeDeep_code_sh := Unf.of _

end Pay
