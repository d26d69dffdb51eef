/- What the code of the functions comes to, without slots: an equation for each part; no condition. -/
import Derived.Test.YtcgeldjhobmijaaDoorPayBb0
import Derived.Test.YtcgeldjhobmijaaDoorPayCode3_0
set_option maxRecDepth 20000
set_option maxHeartbeats 400000
set_option linter.unusedVariables false
namespace Pay
open Go
variable {R_c0 R_c1 R_c2 R_c3 R_c4 R_c5 R_c6 R_c7 R_c8 R_c9 R_c10 R_c11 R_c12 R_c13 R_c14 R_c15 R_c16 R_c17 R_c18 R_c19 R_c20 R_c21 R_c22 R_c23 R_l0 R_l1 : ACode} {R_i21 R_i22 R_i23 R_i24 R_i25 R_i26 R_i27 R_i28 R_i29 R_i30 R_i51 R_i52 R_i53 R_i54 R_i55 R_i56 R_i57 R_i58 R_i59 R_i60 R_i61 : List Nat} {R_o0 R_o1 R_o2 R_o3 R_o4 R_o5 R_o6 R_o7 R_o8 R_o9 R_o10 R_o11 R_o12 R_o13 R_o14 R_o15 R_o16 R_o17 R_o18 R_o19 : List AOper} {R_t31 R_t32 R_t33 R_t34 R_t35 R_t36 R_t37 R_t38 R_t39 R_t40 R_t41 R_t42 R_t43 R_t44 R_t45 R_t46 R_t47 R_t48 R_t49 : Tr} {C : Ctx} {I : Nat → Prop} {s : Nat → V} {o : Nat → Option Ob} {K : St → Prop} {Q : Ex → St → Prop}
theorem g_law08_TreeJoins_o1_sh : opsB C I [⟨some 28, .pick (.t 24) (.c (.d (.bool true))) (.t 27), [], [], none, none⟩] (St.mk s o) K =
 (demand (pickV (s 24) (V.d (.bool true)) (s 27)) (fun x1 =>
K (St.mk (upd s 28 x1) o))) := rfl
@[instance] theorem g_law08_TreeJoins_o1_u : UnfAt (opsB C I g_law08_TreeJoins.o1 (St.mk s o) K) g_law08_TreeJoins_o1_sh := Unf.of _
theorem g_law08_TreeJoins_o0_sh : opsB C I (⟨some 25, .mv (.t 1), [], [], (some (3, 24, false)), none⟩ ::
     ⟨some 26, .lenS (.t 25), [], [], (some (3, 24, false)), none⟩ ::
     ⟨some 27, .bin .gtr (.t 26) (.c (.d (.int .i64 300))), [], [], (some (3, 24, false)), (some ([0, 1, 24, 27], (some [])))⟩ ::
     R_o1) (St.mk s o) K =
 (guardK (s 24) false
 (demand (lenSV (s 1)) (fun x1 =>
demand (binV BinOp.gtr x1 (V.d (.int .i64 300))) (fun x2 =>
opsB C I R_o1 (St.mk (look [(0, (s 0)), (1, (s 1)), (24, (V.d (D.bool false))), (27, x2)]) (looko ([].map fun n => (n, o n)))) K)))
 (opsB C I R_o1 (St.mk (look [(0, (s 0)), (1, (s 1)), (24, (V.d (D.bool true))), (27, (V.tup []))]) (looko ([].map fun n => (n, o n)))) K)
 (opsB C I R_o1 (St.mk (look [(0, (s 0)), (1, (s 1)), (24, (V.tup [])), (27, (V.tup []))]) (looko ([].map fun n => (n, o n)))) K)) := rfl
@[instance] theorem g_law08_TreeJoins_o0_u : UnfAt (opsB C I g_law08_TreeJoins.o0 (St.mk s o) K) g_law08_TreeJoins_o0_sh := Unf.of _
theorem g_law08_TreeJoins_c0_sh : wpB C I (.cond (.t 28) (.seq (.region [4] (some []) none
     [⟨some 29, .call 143 [], [], [], none, none⟩,
      ⟨some 4, .mv (.t 29), [], [], none, none⟩])
  (.ret))
 (.skip)) (St.mk s o) Q =
 (condK (s 28)
 (callK C I (St.mk s o) (some 29) 143 [] (fun r1 or1 =>
Q .ret (St.mk (look [(4, r1)]) (looko ([].map fun n => (n, or1 n))))))
 (Q .normal (St.mk s o))) := rfl
@[instance] theorem g_law08_TreeJoins_c0_u : UnfAt (wpB C I g_law08_TreeJoins.c0 (St.mk s o) Q) g_law08_TreeJoins_c0_sh := Unf.of _
theorem g_law08_TreeJoins_o3_sh : opsB C I [⟨some 59, .pick (.t 57) (.t 58) (.c (.d (.bool false))), [], [], none, none⟩,
     ⟨some 4, .mv (.t 59), [], [], none, none⟩] (St.mk s o) K =
 (demand (pickV (s 57) (s 58) (V.d (.bool false))) (fun x1 =>
K (St.mk (upd (upd s 59 x1) 4 x1) o))) := rfl
@[instance] theorem g_law08_TreeJoins_o3_u : UnfAt (opsB C I g_law08_TreeJoins.o3 (St.mk s o) K) g_law08_TreeJoins_o3_sh := Unf.of _
theorem g_law08_TreeJoins_o2_sh : opsB C I (⟨some 58, .call 143 [], [], [], (some (4, 57, true)), (some ([57, 58], (some [])))⟩ ::
     R_o3) (St.mk s o) K =
 (guardK (s 57) true
 (callK C I (St.mk (upd s 57 (V.d (D.bool true))) o) (some 58) 143 [] (fun r1 or1 =>
opsB C I R_o3 (St.mk (look [(57, (V.d (D.bool true))), (58, r1)]) (looko ([].map fun n => (n, or1 n)))) K))
 (opsB C I R_o3 (St.mk (look [(57, (V.d (D.bool false))), (58, (V.tup []))]) (looko ([].map fun n => (n, o n)))) K)
 (opsB C I R_o3 (St.mk (look [(57, (V.tup [])), (58, (V.tup []))]) (looko ([].map fun n => (n, o n)))) K)) := rfl
@[instance] theorem g_law08_TreeJoins_o2_u : UnfAt (opsB C I g_law08_TreeJoins.o2 (St.mk s o) K) g_law08_TreeJoins_o2_sh := Unf.of _
theorem g_law08_TreeJoins_c1_sh : wpB C I (.ret) (St.mk s o) Q =
 (Q .ret (St.mk s o)) := rfl
@[instance] theorem g_law08_TreeJoins_c1_u : UnfAt (wpB C I g_law08_TreeJoins.c1 (St.mk s o) Q) g_law08_TreeJoins_c1_sh := Unf.of _
theorem g_law08_TreeJoins_o5_sh : opsB C I [⟨some 72, .pick (.t 70) (.t 71) (.c (.d (.bool false))), [], [], none, none⟩,
     ⟨some 4, .mv (.t 72), [], [], none, none⟩] (St.mk s o) K =
 (demand (pickV (s 70) (s 71) (V.d (.bool false))) (fun x1 =>
K (St.mk (upd (upd s 72 x1) 4 x1) o))) := rfl
@[instance] theorem g_law08_TreeJoins_o5_u : UnfAt (opsB C I g_law08_TreeJoins.o5 (St.mk s o) K) g_law08_TreeJoins_o5_sh := Unf.of _
theorem g_law08_TreeJoins_o4_sh : opsB C I (⟨some 71, .call 143 [], [], [], (some (2, 70, true)), (some ([70, 71], (some [])))⟩ ::
     R_o5) (St.mk s o) K =
 (guardK (s 70) true
 (callK C I (St.mk (upd s 70 (V.d (D.bool true))) o) (some 71) 143 [] (fun r1 or1 =>
opsB C I R_o5 (St.mk (look [(70, (V.d (D.bool true))), (71, r1)]) (looko ([].map fun n => (n, or1 n)))) K))
 (opsB C I R_o5 (St.mk (look [(70, (V.d (D.bool false))), (71, (V.tup []))]) (looko ([].map fun n => (n, o n)))) K)
 (opsB C I R_o5 (St.mk (look [(70, (V.tup [])), (71, (V.tup []))]) (looko ([].map fun n => (n, o n)))) K)) := rfl
@[instance] theorem g_law08_TreeJoins_o4_u : UnfAt (opsB C I g_law08_TreeJoins.o4 (St.mk s o) K) g_law08_TreeJoins_o4_sh := Unf.of _
theorem g_law08_TreeJoins_c2_sh : wpB C I (.ret) (St.mk s o) Q =
 (Q .ret (St.mk s o)) := rfl
@[instance] theorem g_law08_TreeJoins_c2_u : UnfAt (wpB C I g_law08_TreeJoins.c2 (St.mk s o) Q) g_law08_TreeJoins_c2_sh := Unf.of _
theorem g_law08_TreeJoins_o19_sh : opsB C I [⟨some 111, .pick (.t 109) (.t 110) (.c (.d (.bool false))), [], [], none, none⟩,
     ⟨some 4, .mv (.t 111), [], [], none, none⟩] (St.mk s o) K =
 (demand (pickV (s 109) (s 110) (V.d (.bool false))) (fun x1 =>
K (St.mk (upd (upd s 111 x1) 4 x1) o))) := rfl
@[instance] theorem g_law08_TreeJoins_o19_u : UnfAt (opsB C I g_law08_TreeJoins.o19 (St.mk s o) K) g_law08_TreeJoins_o19_sh := Unf.of _
theorem g_law08_TreeJoins_o18_sh : opsB C I (⟨some 110, .call 143 [], [], [], (some (34, 109, true)), (some ([109, 110], (some [])))⟩ ::
     R_o19) (St.mk s o) K =
 (guardK (s 109) true
 (callK C I (St.mk (upd s 109 (V.d (D.bool true))) o) (some 110) 143 [] (fun r1 or1 =>
opsB C I R_o19 (St.mk (look [(109, (V.d (D.bool true))), (110, r1)]) (looko ([].map fun n => (n, or1 n)))) K))
 (opsB C I R_o19 (St.mk (look [(109, (V.d (D.bool false))), (110, (V.tup []))]) (looko ([].map fun n => (n, o n)))) K)
 (opsB C I R_o19 (St.mk (look [(109, (V.tup [])), (110, (V.tup []))]) (looko ([].map fun n => (n, o n)))) K)) := rfl
@[instance] theorem g_law08_TreeJoins_o18_u : UnfAt (opsB C I g_law08_TreeJoins.o18 (St.mk s o) K) g_law08_TreeJoins_o18_sh := Unf.of _
theorem g_law08_TreeJoins_o17_sh : opsB C I (⟨some 108, .pick (.t 103) (.t 107) (.c (.d (.bool false))), [], [], none, none⟩ ::
     ⟨some 109, .mv (.t 108), [], [], none, (some ([109], (some [])))⟩ ::
     R_o18) (St.mk s o) K =
 (demand (pickV (s 103) (s 107) (V.d (.bool false))) (fun x1 =>
opsB C I R_o18 (St.mk (look [(109, x1)]) (looko ([].map fun n => (n, o n)))) K)) := rfl
@[instance] theorem g_law08_TreeJoins_o17_u : UnfAt (opsB C I g_law08_TreeJoins.o17 (St.mk s o) K) g_law08_TreeJoins_o17_sh := Unf.of _
theorem g_law08_TreeJoins_o16_sh : opsB C I (⟨some 104, .faddr 0 (.t 11), [], [], (some (28, 103, true)), none⟩ ::
     ⟨some 105, .load none (.t 104), [], [], (some (28, 103, true)), none⟩ ::
     ⟨some 106, .len (.t 105), [], [], (some (28, 103, true)), none⟩ ::
     ⟨some 107, .bin .eql (.t 106) (.c (.d (.int .i64 0))), [], [], (some (28, 103, true)), (some ([103, 107], (some [])))⟩ ::
     R_o17) (St.mk s o) K =
 (guardK (s 103) true
 (demand (faddrV 0 (s 11)) (fun x1 =>
demand (loadV o none x1) (fun x2 =>
demand (lenV o x2) (fun x3 =>
demand (binV BinOp.eql x3 (V.d (.int .i64 0))) (fun x4 =>
opsB C I R_o17 (St.mk (look [(103, (V.d (D.bool true))), (107, x4)]) (looko ([].map fun n => (n, o n)))) K)))))
 (opsB C I R_o17 (St.mk (look [(103, (V.d (D.bool false))), (107, (V.tup []))]) (looko ([].map fun n => (n, o n)))) K)
 (opsB C I R_o17 (St.mk (look [(103, (V.tup [])), (107, (V.tup []))]) (looko ([].map fun n => (n, o n)))) K)) := rfl
@[instance] theorem g_law08_TreeJoins_o16_u : UnfAt (opsB C I g_law08_TreeJoins.o16 (St.mk s o) K) g_law08_TreeJoins_o16_sh := Unf.of _
theorem g_law08_TreeJoins_o15_sh : opsB C I (⟨some 102, .pick (.t 95) (.c (.d (.bool true))) (.t 101), [], [], none, none⟩ ::
     ⟨some 103, .mv (.t 102), [], [], none, (some ([11, 103], (some [11])))⟩ ::
     R_o16) (St.mk s o) K =
 (demand (pickV (s 95) (V.d (.bool true)) (s 101)) (fun x1 =>
opsB C I R_o16 (St.mk (look [(11, (s 11)), (103, x1)]) (looko ([11].map fun n => (n, o n)))) K)) := rfl
@[instance] theorem g_law08_TreeJoins_o15_u : UnfAt (opsB C I g_law08_TreeJoins.o15 (St.mk s o) K) g_law08_TreeJoins_o15_sh := Unf.of _
theorem g_law08_TreeJoins_o14_sh : opsB C I (⟨some 101, .pick (.t 98) (.t 100) (.c (.d (.bool false))), [], [], (some (20, 95, false)), (some ([11, 95, 101], (some [11])))⟩ ::
     R_o15) (St.mk s o) K =
 (guardK (s 95) false
 (demand (pickV (s 98) (s 100) (V.d (.bool false))) (fun x1 =>
opsB C I R_o15 (St.mk (look [(11, (s 11)), (95, (V.d (D.bool false))), (101, x1)]) (looko ([11].map fun n => (n, o n)))) K))
 (opsB C I R_o15 (St.mk (look [(11, (s 11)), (95, (V.d (D.bool true))), (101, (V.tup []))]) (looko ([11].map fun n => (n, o n)))) K)
 (opsB C I R_o15 (St.mk (look [(11, (s 11)), (95, (V.tup [])), (101, (V.tup []))]) (looko ([11].map fun n => (n, o n)))) K)) := rfl
@[instance] theorem g_law08_TreeJoins_o14_u : UnfAt (opsB C I g_law08_TreeJoins.o14 (St.mk s o) K) g_law08_TreeJoins_o14_sh := Unf.of _
theorem g_law08_TreeJoins_o13_sh : opsB C I (⟨some 99, .mv (.t 13), [], [], (some (23, 98, true)), none⟩ ::
     ⟨some 100, .bin .eql (.t 99) (.c (.d (.int .i64 9))), [], [], (some (23, 98, true)), (some ([11, 95, 98, 100], (some [11])))⟩ ::
     R_o14) (St.mk s o) K =
 (guardK (s 98) true
 (demand (binV BinOp.eql (s 13) (V.d (.int .i64 9))) (fun x1 =>
opsB C I R_o14 (St.mk (look [(11, (s 11)), (95, (s 95)), (98, (V.d (D.bool true))), (100, x1)]) (looko ([11].map fun n => (n, o n)))) K))
 (opsB C I R_o14 (St.mk (look [(11, (s 11)), (95, (s 95)), (98, (V.d (D.bool false))), (100, (V.tup []))]) (looko ([11].map fun n => (n, o n)))) K)
 (opsB C I R_o14 (St.mk (look [(11, (s 11)), (95, (s 95)), (98, (V.tup [])), (100, (V.tup []))]) (looko ([11].map fun n => (n, o n)))) K)) := rfl
@[instance] theorem g_law08_TreeJoins_o13_u : UnfAt (opsB C I g_law08_TreeJoins.o13 (St.mk s o) K) g_law08_TreeJoins_o13_sh := Unf.of _
theorem g_law08_TreeJoins_o12_sh : opsB C I (⟨some 96, .mv (.t 10), [], [], (some (20, 95, false)), none⟩ ::
     ⟨some 97, .bin .eql (.t 96) (.c (.d (.int .i64 9))), [], [], (some (20, 95, false)), none⟩ ::
     ⟨some 98, .mv (.t 97), [], [], (some (20, 95, false)), (some ([11, 13, 95, 98], (some [11])))⟩ ::
     R_o13) (St.mk s o) K =
 (guardK (s 95) false
 (demand (binV BinOp.eql (s 10) (V.d (.int .i64 9))) (fun x1 =>
opsB C I R_o13 (St.mk (look [(11, (s 11)), (13, (s 13)), (95, (V.d (D.bool false))), (98, x1)]) (looko ([11].map fun n => (n, o n)))) K))
 (opsB C I R_o13 (St.mk (look [(11, (s 11)), (13, (s 13)), (95, (V.d (D.bool true))), (98, (V.tup []))]) (looko ([11].map fun n => (n, o n)))) K)
 (opsB C I R_o13 (St.mk (look [(11, (s 11)), (13, (s 13)), (95, (V.tup [])), (98, (V.tup []))]) (looko ([11].map fun n => (n, o n)))) K)) := rfl
@[instance] theorem g_law08_TreeJoins_o12_u : UnfAt (opsB C I g_law08_TreeJoins.o12 (St.mk s o) K) g_law08_TreeJoins_o12_sh := Unf.of _
theorem g_law08_TreeJoins_o11_sh : opsB C I (⟨some 94, .pick (.t 87) (.c (.d (.bool true))) (.t 93), [], [], none, none⟩ ::
     ⟨some 95, .mv (.t 94), [], [], none, (some ([10, 11, 13, 95], (some [11])))⟩ ::
     R_o12) (St.mk s o) K =
 (demand (pickV (s 87) (V.d (.bool true)) (s 93)) (fun x1 =>
opsB C I R_o12 (St.mk (look [(10, (s 10)), (11, (s 11)), (13, (s 13)), (95, x1)]) (looko ([11].map fun n => (n, o n)))) K)) := rfl
@[instance] theorem g_law08_TreeJoins_o11_u : UnfAt (opsB C I g_law08_TreeJoins.o11 (St.mk s o) K) g_law08_TreeJoins_o11_sh := Unf.of _
theorem g_law08_TreeJoins_o10_sh : opsB C I (⟨some 93, .pick (.t 90) (.t 92) (.c (.d (.bool false))), [], [], (some (12, 87, false)), (some ([10, 11, 13, 87, 93], (some [11])))⟩ ::
     R_o11) (St.mk s o) K =
 (guardK (s 87) false
 (demand (pickV (s 90) (s 92) (V.d (.bool false))) (fun x1 =>
opsB C I R_o11 (St.mk (look [(10, (s 10)), (11, (s 11)), (13, (s 13)), (87, (V.d (D.bool false))), (93, x1)]) (looko ([11].map fun n => (n, o n)))) K))
 (opsB C I R_o11 (St.mk (look [(10, (s 10)), (11, (s 11)), (13, (s 13)), (87, (V.d (D.bool true))), (93, (V.tup []))]) (looko ([11].map fun n => (n, o n)))) K)
 (opsB C I R_o11 (St.mk (look [(10, (s 10)), (11, (s 11)), (13, (s 13)), (87, (V.tup [])), (93, (V.tup []))]) (looko ([11].map fun n => (n, o n)))) K)) := rfl
@[instance] theorem g_law08_TreeJoins_o10_u : UnfAt (opsB C I g_law08_TreeJoins.o10 (St.mk s o) K) g_law08_TreeJoins_o10_sh := Unf.of _
theorem g_law08_TreeJoins_o9_sh : opsB C I (⟨some 91, .mv (.t 13), [], [], (some (15, 90, true)), none⟩ ::
     ⟨some 92, .bin .eql (.t 91) (.c (.d (.int .i64 9))), [], [], (some (15, 90, true)), (some ([10, 11, 13, 87, 90, 92], (some [11])))⟩ ::
     R_o10) (St.mk s o) K =
 (guardK (s 90) true
 (demand (binV BinOp.eql (s 13) (V.d (.int .i64 9))) (fun x1 =>
opsB C I R_o10 (St.mk (look [(10, (s 10)), (11, (s 11)), (13, (s 13)), (87, (s 87)), (90, (V.d (D.bool true))), (92, x1)]) (looko ([11].map fun n => (n, o n)))) K))
 (opsB C I R_o10 (St.mk (look [(10, (s 10)), (11, (s 11)), (13, (s 13)), (87, (s 87)), (90, (V.d (D.bool false))), (92, (V.tup []))]) (looko ([11].map fun n => (n, o n)))) K)
 (opsB C I R_o10 (St.mk (look [(10, (s 10)), (11, (s 11)), (13, (s 13)), (87, (s 87)), (90, (V.tup [])), (92, (V.tup []))]) (looko ([11].map fun n => (n, o n)))) K)) := rfl
@[instance] theorem g_law08_TreeJoins_o9_u : UnfAt (opsB C I g_law08_TreeJoins.o9 (St.mk s o) K) g_law08_TreeJoins_o9_sh := Unf.of _
theorem g_law08_TreeJoins_o8_sh : opsB C I (⟨some 88, .mv (.t 10), [], [], (some (12, 87, false)), none⟩ ::
     ⟨some 89, .bin .eql (.t 88) (.c (.d (.int .i64 2))), [], [], (some (12, 87, false)), none⟩ ::
     ⟨some 90, .mv (.t 89), [], [], (some (12, 87, false)), (some ([10, 11, 13, 87, 90], (some [11])))⟩ ::
     R_o9) (St.mk s o) K =
 (guardK (s 87) false
 (demand (binV BinOp.eql (s 10) (V.d (.int .i64 2))) (fun x1 =>
opsB C I R_o9 (St.mk (look [(10, (s 10)), (11, (s 11)), (13, (s 13)), (87, (V.d (D.bool false))), (90, x1)]) (looko ([11].map fun n => (n, o n)))) K))
 (opsB C I R_o9 (St.mk (look [(10, (s 10)), (11, (s 11)), (13, (s 13)), (87, (V.d (D.bool true))), (90, (V.tup []))]) (looko ([11].map fun n => (n, o n)))) K)
 (opsB C I R_o9 (St.mk (look [(10, (s 10)), (11, (s 11)), (13, (s 13)), (87, (V.tup [])), (90, (V.tup []))]) (looko ([11].map fun n => (n, o n)))) K)) := rfl
@[instance] theorem g_law08_TreeJoins_o8_u : UnfAt (opsB C I g_law08_TreeJoins.o8 (St.mk s o) K) g_law08_TreeJoins_o8_sh := Unf.of _
theorem g_law08_TreeJoins_o7_sh : opsB C I (⟨some 86, .pick (.t 78) (.t 85) (.c (.d (.bool false))), [], [], none, none⟩ ::
     ⟨some 87, .mv (.t 86), [], [], none, (some ([10, 11, 13, 87], (some [11])))⟩ ::
     R_o8) (St.mk s o) K =
 (demand (pickV (s 78) (s 85) (V.d (.bool false))) (fun x1 =>
opsB C I R_o8 (St.mk (look [(10, (s 10)), (11, (s 11)), (13, (s 13)), (87, x1)]) (looko ([11].map fun n => (n, o n)))) K)) := rfl
@[instance] theorem g_law08_TreeJoins_o7_u : UnfAt (opsB C I g_law08_TreeJoins.o7 (St.mk s o) K) g_law08_TreeJoins_o7_sh := Unf.of _
theorem g_law08_TreeJoins_o6_sh : opsB C I (⟨some 79, .mv (.t 12), [], [], (some (3, 78, true)), none⟩ ::
     ⟨some 80, .mv (.t 9), [], [], (some (3, 78, true)), none⟩ ::
     ⟨some 81, .mv (.t 0), [], [], (some (3, 78, true)), none⟩ ::
     ⟨some 82, .lenS (.t 81), [], [], (some (3, 78, true)), none⟩ ::
     ⟨some 83, .bin .add (.t 80) (.t 82), [], [], (some (3, 78, true)), none⟩ ::
     ⟨some 84, .bin .add (.t 83) (.c (.d (.int .i64 1))), [], [], (some (3, 78, true)), none⟩ ::
     ⟨some 85, .bin .eql (.t 79) (.t 84), [], [], (some (3, 78, true)), (some ([10, 11, 13, 78, 85], (some [11])))⟩ ::
     R_o7) (St.mk s o) K =
 (guardK (s 78) true
 (demand (lenSV (s 0)) (fun x1 =>
demand (binV BinOp.add (s 9) x1) (fun x2 =>
demand (binV BinOp.add x2 (V.d (.int .i64 1))) (fun x3 =>
demand (binV BinOp.eql (s 12) x3) (fun x4 =>
opsB C I R_o7 (St.mk (look [(10, (s 10)), (11, (s 11)), (13, (s 13)), (78, (V.d (D.bool true))), (85, x4)]) (looko ([11].map fun n => (n, o n)))) K)))))
 (opsB C I R_o7 (St.mk (look [(10, (s 10)), (11, (s 11)), (13, (s 13)), (78, (V.d (D.bool false))), (85, (V.tup []))]) (looko ([11].map fun n => (n, o n)))) K)
 (opsB C I R_o7 (St.mk (look [(10, (s 10)), (11, (s 11)), (13, (s 13)), (78, (V.tup [])), (85, (V.tup []))]) (looko ([11].map fun n => (n, o n)))) K)) := rfl
@[instance] theorem g_law08_TreeJoins_o6_u : UnfAt (opsB C I g_law08_TreeJoins.o6 (St.mk s o) K) g_law08_TreeJoins_o6_sh := Unf.of _
theorem g_law08_TreeJoins_c3_sh : wpB C I (.ret) (St.mk s o) Q =
 (Q .ret (St.mk s o)) := rfl
@[instance] theorem g_law08_TreeJoins_c3_u : UnfAt (wpB C I g_law08_TreeJoins.c3 (St.mk s o) Q) g_law08_TreeJoins_c3_sh := Unf.of _
theorem g_law08_TreeJoins_t31_sh : treeB C I g_law08_TreeJoins.a20 (.one 17 .done) (St.mk s o) K =
 ((([] : List Nat) = [] ∧ (storeK (s 158) (cellsV (s 155)) 1 o (fun m1 ob2 =>
K (St.mk s (upd o m1 (some ob2))))))) := rfl
@[instance] theorem g_law08_TreeJoins_t31_u : UnfAt (treeB C I g_law08_TreeJoins.a20 g_law08_TreeJoins.t31 (St.mk s o) K) g_law08_TreeJoins_t31_sh := Unf.of _
theorem g_law08_TreeJoins_t32_sh : treeB C I g_law08_TreeJoins.a20 (.one 16 R_t31) (St.mk s o) K =
 ((([] : List Nat) = [] ∧ (demand (faddrV 5 (s 18)) (fun x1 =>
treeB C I g_law08_TreeJoins.a20 R_t31 (St.mk (upd s 158 x1) o) K)))) := rfl
@[instance] theorem g_law08_TreeJoins_t32_u : UnfAt (treeB C I g_law08_TreeJoins.a20 g_law08_TreeJoins.t32 (St.mk s o) K) g_law08_TreeJoins_t32_sh := Unf.of _
theorem g_law08_TreeJoins_t33_sh : treeB C I g_law08_TreeJoins.a20 (.one 15 R_t32) (St.mk s o) K =
 ((([] : List Nat) = [] ∧ (storeK (s 157) (cellsV (s 151)) 1 o (fun m1 ob2 =>
treeB C I g_law08_TreeJoins.a20 R_t32 (St.mk s (upd o m1 (some ob2))) K)))) := rfl
@[instance] theorem g_law08_TreeJoins_t33_u : UnfAt (treeB C I g_law08_TreeJoins.a20 g_law08_TreeJoins.t33 (St.mk s o) K) g_law08_TreeJoins_t33_sh := Unf.of _
theorem g_law08_TreeJoins_t34_sh : treeB C I g_law08_TreeJoins.a20 (.one 14 R_t33) (St.mk s o) K =
 ((([] : List Nat) = [] ∧ (demand (faddrV 4 (s 18)) (fun x1 =>
treeB C I g_law08_TreeJoins.a20 R_t33 (St.mk (upd s 157 x1) o) K)))) := rfl
@[instance] theorem g_law08_TreeJoins_t34_u : UnfAt (treeB C I g_law08_TreeJoins.a20 g_law08_TreeJoins.t34 (St.mk s o) K) g_law08_TreeJoins_t34_sh := Unf.of _
theorem g_law08_TreeJoins_t35_sh : treeB C I g_law08_TreeJoins.a20 (.one 13 R_t34) (St.mk s o) K =
 ((([] : List Nat) = [] ∧ (storeK (s 156) (cellsV (s 147)) 1 o (fun m1 ob2 =>
treeB C I g_law08_TreeJoins.a20 R_t34 (St.mk s (upd o m1 (some ob2))) K)))) := rfl
@[instance] theorem g_law08_TreeJoins_t35_u : UnfAt (treeB C I g_law08_TreeJoins.a20 g_law08_TreeJoins.t35 (St.mk s o) K) g_law08_TreeJoins_t35_sh := Unf.of _
theorem g_law08_TreeJoins_t36_sh : treeB C I g_law08_TreeJoins.a20 (.one 11 R_t32) (St.mk s o) K =
 ((([] : List Nat) = [] ∧ (demand (binV BinOp.add (s 153) (s 154)) (fun x1 =>
treeB C I g_law08_TreeJoins.a20 R_t32 (St.mk (upd s 155 x1) o) K)))) := rfl
@[instance] theorem g_law08_TreeJoins_t36_u : UnfAt (treeB C I g_law08_TreeJoins.a20 g_law08_TreeJoins.t36 (St.mk s o) K) g_law08_TreeJoins_t36_sh := Unf.of _
theorem g_law08_TreeJoins_t37_sh : treeB C I g_law08_TreeJoins.a20 (.one 15 R_t36) (St.mk s o) K =
 ((([] : List Nat) = [] ∧ (storeK (s 157) (cellsV (s 151)) 1 o (fun m1 ob2 =>
treeB C I g_law08_TreeJoins.a20 R_t36 (St.mk s (upd o m1 (some ob2))) K)))) := rfl
@[instance] theorem g_law08_TreeJoins_t37_u : UnfAt (treeB C I g_law08_TreeJoins.a20 g_law08_TreeJoins.t37 (St.mk s o) K) g_law08_TreeJoins_t37_sh := Unf.of _
theorem g_law08_TreeJoins_t38_sh : treeB C I g_law08_TreeJoins.a20 (.two 11 R_t33 R_t37) (St.mk s o) K =
 ((([] : List Nat) = [] ∧ (demand (binV BinOp.add (s 153) (s 154)) (fun x1 =>
treeB C I g_law08_TreeJoins.a20 R_t33 (St.mk (upd s 155 x1) o) K))) ∧ treeB C I g_law08_TreeJoins.a20 R_t37 (St.mk s o) K) := rfl
@[instance] theorem g_law08_TreeJoins_t38_u : UnfAt (treeB C I g_law08_TreeJoins.a20 g_law08_TreeJoins.t38 (St.mk s o) K) g_law08_TreeJoins_t38_sh := Unf.of _
theorem g_law08_TreeJoins_t39_sh : treeB C I g_law08_TreeJoins.a20 (.one 14 R_t38) (St.mk s o) K =
 ((([] : List Nat) = [] ∧ (demand (faddrV 4 (s 18)) (fun x1 =>
treeB C I g_law08_TreeJoins.a20 R_t38 (St.mk (upd s 157 x1) o) K)))) := rfl
@[instance] theorem g_law08_TreeJoins_t39_u : UnfAt (treeB C I g_law08_TreeJoins.a20 g_law08_TreeJoins.t39 (St.mk s o) K) g_law08_TreeJoins_t39_sh := Unf.of _
theorem g_law08_TreeJoins_t40_sh : treeB C I g_law08_TreeJoins.a20 (.two 11 R_t34 R_t39) (St.mk s o) K =
 ((([] : List Nat) = [] ∧ (demand (binV BinOp.add (s 153) (s 154)) (fun x1 =>
treeB C I g_law08_TreeJoins.a20 R_t34 (St.mk (upd s 155 x1) o) K))) ∧ treeB C I g_law08_TreeJoins.a20 R_t39 (St.mk s o) K) := rfl
@[instance] theorem g_law08_TreeJoins_t40_u : UnfAt (treeB C I g_law08_TreeJoins.a20 g_law08_TreeJoins.t40 (St.mk s o) K) g_law08_TreeJoins_t40_sh := Unf.of _
theorem g_law08_TreeJoins_t41_sh : treeB C I g_law08_TreeJoins.a20 (.one 13 R_t40) (St.mk s o) K =
 ((([] : List Nat) = [] ∧ (storeK (s 156) (cellsV (s 147)) 1 o (fun m1 ob2 =>
treeB C I g_law08_TreeJoins.a20 R_t40 (St.mk s (upd o m1 (some ob2))) K)))) := rfl
@[instance] theorem g_law08_TreeJoins_t41_u : UnfAt (treeB C I g_law08_TreeJoins.a20 g_law08_TreeJoins.t41 (St.mk s o) K) g_law08_TreeJoins_t41_sh := Unf.of _
theorem g_law08_TreeJoins_t42_sh : treeB C I g_law08_TreeJoins.a20 (.two 11 R_t35 R_t41) (St.mk s o) K =
 ((([] : List Nat) = [] ∧ (demand (binV BinOp.add (s 153) (s 154)) (fun x1 =>
treeB C I g_law08_TreeJoins.a20 R_t35 (St.mk (upd s 155 x1) o) K))) ∧ treeB C I g_law08_TreeJoins.a20 R_t41 (St.mk s o) K) := rfl
@[instance] theorem g_law08_TreeJoins_t42_u : UnfAt (treeB C I g_law08_TreeJoins.a20 g_law08_TreeJoins.t42 (St.mk s o) K) g_law08_TreeJoins_t42_sh := Unf.of _
theorem g_law08_TreeJoins_t43_sh : treeB C I g_law08_TreeJoins.a20 (.one 9 R_t36) (St.mk s o) K =
 ((([] : List Nat) = [] ∧ (demand (loadV o none (s 152)) (fun x1 =>
treeB C I g_law08_TreeJoins.a20 R_t36 (St.mk (upd s 153 x1) o) K)))) := rfl
@[instance] theorem g_law08_TreeJoins_t43_u : UnfAt (treeB C I g_law08_TreeJoins.a20 g_law08_TreeJoins.t43 (St.mk s o) K) g_law08_TreeJoins_t43_sh := Unf.of _
theorem g_law08_TreeJoins_t44_sh : treeB C I g_law08_TreeJoins.a20 (.one 15 R_t43) (St.mk s o) K =
 ((([] : List Nat) = [] ∧ (storeK (s 157) (cellsV (s 151)) 1 o (fun m1 ob2 =>
treeB C I g_law08_TreeJoins.a20 R_t43 (St.mk s (upd o m1 (some ob2))) K)))) := rfl
@[instance] theorem g_law08_TreeJoins_t44_u : UnfAt (treeB C I g_law08_TreeJoins.a20 g_law08_TreeJoins.t44 (St.mk s o) K) g_law08_TreeJoins_t44_sh := Unf.of _
theorem g_law08_TreeJoins_t45_sh : treeB C I g_law08_TreeJoins.a20 (.two 9 R_t38 R_t44) (St.mk s o) K =
 ((([] : List Nat) = [] ∧ (demand (loadV o none (s 152)) (fun x1 =>
treeB C I g_law08_TreeJoins.a20 R_t38 (St.mk (upd s 153 x1) o) K))) ∧ treeB C I g_law08_TreeJoins.a20 R_t44 (St.mk s o) K) := rfl
@[instance] theorem g_law08_TreeJoins_t45_u : UnfAt (treeB C I g_law08_TreeJoins.a20 g_law08_TreeJoins.t45 (St.mk s o) K) g_law08_TreeJoins_t45_sh := Unf.of _
theorem g_law08_TreeJoins_t46_sh : treeB C I g_law08_TreeJoins.a20 (.one 14 R_t45) (St.mk s o) K =
 ((([] : List Nat) = [] ∧ (demand (faddrV 4 (s 18)) (fun x1 =>
treeB C I g_law08_TreeJoins.a20 R_t45 (St.mk (upd s 157 x1) o) K)))) := rfl
@[instance] theorem g_law08_TreeJoins_t46_u : UnfAt (treeB C I g_law08_TreeJoins.a20 g_law08_TreeJoins.t46 (St.mk s o) K) g_law08_TreeJoins_t46_sh := Unf.of _
theorem g_law08_TreeJoins_t47_sh : treeB C I g_law08_TreeJoins.a20 (.two 9 R_t40 R_t46) (St.mk s o) K =
 ((([] : List Nat) = [] ∧ (demand (loadV o none (s 152)) (fun x1 =>
treeB C I g_law08_TreeJoins.a20 R_t40 (St.mk (upd s 153 x1) o) K))) ∧ treeB C I g_law08_TreeJoins.a20 R_t46 (St.mk s o) K) := rfl
@[instance] theorem g_law08_TreeJoins_t47_u : UnfAt (treeB C I g_law08_TreeJoins.a20 g_law08_TreeJoins.t47 (St.mk s o) K) g_law08_TreeJoins_t47_sh := Unf.of _
theorem g_law08_TreeJoins_t48_sh : treeB C I g_law08_TreeJoins.a20 (.one 13 R_t47) (St.mk s o) K =
 ((([] : List Nat) = [] ∧ (storeK (s 156) (cellsV (s 147)) 1 o (fun m1 ob2 =>
treeB C I g_law08_TreeJoins.a20 R_t47 (St.mk s (upd o m1 (some ob2))) K)))) := rfl
@[instance] theorem g_law08_TreeJoins_t48_u : UnfAt (treeB C I g_law08_TreeJoins.a20 g_law08_TreeJoins.t48 (St.mk s o) K) g_law08_TreeJoins_t48_sh := Unf.of _
theorem g_law08_TreeJoins_t49_sh : treeB C I g_law08_TreeJoins.a20 (.two 9 R_t42 R_t48) (St.mk s o) K =
 ((([] : List Nat) = [] ∧ (demand (loadV o none (s 152)) (fun x1 =>
treeB C I g_law08_TreeJoins.a20 R_t42 (St.mk (upd s 153 x1) o) K))) ∧ treeB C I g_law08_TreeJoins.a20 R_t48 (St.mk s o) K) := rfl
@[instance] theorem g_law08_TreeJoins_t49_u : UnfAt (treeB C I g_law08_TreeJoins.a20 g_law08_TreeJoins.t49 (St.mk s o) K) g_law08_TreeJoins_t49_sh := Unf.of _
theorem g_law08_TreeJoins_i30_sh : drawB C I g_law08_TreeJoins.a20 (7 :: []) R_t49 (St.mk s o) K =
 ((s 151) = V.undef ∧ (demand (binV BinOp.add (s 149) (s 150)) (fun x1 => quietV o (x1 :: [(s 149), (s 150)]) ∧
treeB C I g_law08_TreeJoins.a20 R_t49 (St.mk (upd s 151 x1) o) K))) := rfl
@[instance] theorem g_law08_TreeJoins_i30_u : UnfAt (drawB C I g_law08_TreeJoins.a20 g_law08_TreeJoins.i30 g_law08_TreeJoins.t49 (St.mk s o) K) g_law08_TreeJoins_i30_sh := Unf.of _
theorem g_law08_TreeJoins_i29_sh : drawB C I g_law08_TreeJoins.a20 (1005 :: R_i30) R_t49 (St.mk s o) K =
 ((s 149) = V.undef ∧ (demand (loadV o none (s 148)) (fun x1 => quietV o (x1 :: [(s 148)]) ∧
watchV o [(s 156), (s 157), (s 158)] [(s 148)] ∧
drawB C I g_law08_TreeJoins.a20 R_i30 R_t49 (St.mk (upd s 149 x1) o) K))) := rfl
@[instance] theorem g_law08_TreeJoins_i29_u : UnfAt (drawB C I g_law08_TreeJoins.a20 g_law08_TreeJoins.i29 g_law08_TreeJoins.t49 (St.mk s o) K) g_law08_TreeJoins_i29_sh := Unf.of _
theorem g_law08_TreeJoins_i28_sh : drawB C I g_law08_TreeJoins.a20 (12 :: R_i29) R_t49 (St.mk s o) K =
 ((s 156) = V.undef ∧ (demand (faddrV 3 (s 18)) (fun x1 => quietV o (x1 :: [(s 18)]) ∧
drawB C I g_law08_TreeJoins.a20 R_i29 R_t49 (St.mk (upd s 156 x1) o) K))) := rfl
@[instance] theorem g_law08_TreeJoins_i28_u : UnfAt (drawB C I g_law08_TreeJoins.a20 g_law08_TreeJoins.i28 g_law08_TreeJoins.t49 (St.mk s o) K) g_law08_TreeJoins_i28_sh := Unf.of _
theorem g_law08_TreeJoins_i27_sh : drawB C I g_law08_TreeJoins.a20 (10 :: R_i28) R_t49 (St.mk s o) K =
 ((s 154) = V.undef ∧ (quietV o ((s 15) :: [(s 15)]) ∧
drawB C I g_law08_TreeJoins.a20 R_i28 R_t49 (St.mk (upd s 154 (s 15)) o) K)) := rfl
@[instance] theorem g_law08_TreeJoins_i27_u : UnfAt (drawB C I g_law08_TreeJoins.a20 g_law08_TreeJoins.i27 g_law08_TreeJoins.t49 (St.mk s o) K) g_law08_TreeJoins_i27_sh := Unf.of _
theorem g_law08_TreeJoins_i26_sh : drawB C I g_law08_TreeJoins.a20 (8 :: R_i27) R_t49 (St.mk s o) K =
 ((s 152) = V.undef ∧ (demand (faddrV 5 (s 17)) (fun x1 => quietV o (x1 :: [(s 17)]) ∧
drawB C I g_law08_TreeJoins.a20 R_i27 R_t49 (St.mk (upd s 152 x1) o) K))) := rfl
@[instance] theorem g_law08_TreeJoins_i26_u : UnfAt (drawB C I g_law08_TreeJoins.a20 g_law08_TreeJoins.i26 g_law08_TreeJoins.t49 (St.mk s o) K) g_law08_TreeJoins_i26_sh := Unf.of _
theorem g_law08_TreeJoins_i25_sh : drawB C I g_law08_TreeJoins.a20 (6 :: R_i26) R_t49 (St.mk s o) K =
 ((s 150) = V.undef ∧ (quietV o ((s 15) :: [(s 15)]) ∧
drawB C I g_law08_TreeJoins.a20 R_i26 R_t49 (St.mk (upd s 150 (s 15)) o) K)) := rfl
@[instance] theorem g_law08_TreeJoins_i25_u : UnfAt (drawB C I g_law08_TreeJoins.a20 g_law08_TreeJoins.i25 g_law08_TreeJoins.t49 (St.mk s o) K) g_law08_TreeJoins_i25_sh := Unf.of _
theorem g_law08_TreeJoins_i24_sh : drawB C I g_law08_TreeJoins.a20 (4 :: R_i25) R_t49 (St.mk s o) K =
 ((s 148) = V.undef ∧ (demand (faddrV 4 (s 17)) (fun x1 => quietV o (x1 :: [(s 17)]) ∧
drawB C I g_law08_TreeJoins.a20 R_i25 R_t49 (St.mk (upd s 148 x1) o) K))) := rfl
@[instance] theorem g_law08_TreeJoins_i24_u : UnfAt (drawB C I g_law08_TreeJoins.a20 g_law08_TreeJoins.i24 g_law08_TreeJoins.t49 (St.mk s o) K) g_law08_TreeJoins_i24_sh := Unf.of _
theorem g_law08_TreeJoins_i23_sh : drawB C I g_law08_TreeJoins.a20 (3 :: R_i24) R_t49 (St.mk s o) K =
 ((s 147) = V.undef ∧ (demand (binV BinOp.add (s 145) (s 146)) (fun x1 => quietV o (x1 :: [(s 145), (s 146)]) ∧
drawB C I g_law08_TreeJoins.a20 R_i24 R_t49 (St.mk (upd s 147 x1) o) K))) := rfl
@[instance] theorem g_law08_TreeJoins_i23_u : UnfAt (drawB C I g_law08_TreeJoins.a20 g_law08_TreeJoins.i23 g_law08_TreeJoins.t49 (St.mk s o) K) g_law08_TreeJoins_i23_sh := Unf.of _
theorem g_law08_TreeJoins_i22_sh : drawB C I g_law08_TreeJoins.a20 (2 :: R_i23) R_t49 (St.mk s o) K =
 ((s 146) = V.undef ∧ (quietV o ((s 15) :: [(s 15)]) ∧
drawB C I g_law08_TreeJoins.a20 R_i23 R_t49 (St.mk (upd s 146 (s 15)) o) K)) := rfl
@[instance] theorem g_law08_TreeJoins_i22_u : UnfAt (drawB C I g_law08_TreeJoins.a20 g_law08_TreeJoins.i22 g_law08_TreeJoins.t49 (St.mk s o) K) g_law08_TreeJoins_i22_sh := Unf.of _
theorem g_law08_TreeJoins_i21_sh : drawB C I g_law08_TreeJoins.a20 (1 :: R_i22) R_t49 (St.mk s o) K =
 ((s 145) = V.undef ∧ (demand (loadV o none (s 144)) (fun x1 => quietV o (x1 :: [(s 144)]) ∧
drawB C I g_law08_TreeJoins.a20 R_i22 R_t49 (St.mk (upd s 145 x1) o) K))) := rfl
@[instance] theorem g_law08_TreeJoins_i21_u : UnfAt (drawB C I g_law08_TreeJoins.a20 g_law08_TreeJoins.i21 g_law08_TreeJoins.t49 (St.mk s o) K) g_law08_TreeJoins_i21_sh := Unf.of _
theorem g_law08_TreeJoins_c4_sh : wpB C I (.cond (.t 137) (.skip)
 (.seq (.region [8, 11, 13, 14, 15, 17, 18, 118, 119, 120, 126, 142] (some [8, 11, 14, 17, 18, 170, 192]) none
     [⟨some 143, .bin .eql (.t 126) (.c (.d (.str [105, 102]))), [], [], none, none⟩,
      ⟨some 142, .mv (.t 143), [], [], none, none⟩])
  (.cond (.t 142) (.region [8, 11, 13, 14, 15, 18, 118, 119, 120] (some [8, 11, 14, 18, 170, 192]) (some (0 :: R_i21, R_t49)) g_law08_TreeJoins.a20)
   (.seq (.region [8, 11, 13, 14, 15, 17, 18, 118, 119, 120, 159] (some [8, 11, 14, 17, 18, 170, 192]) none
       [⟨some 160, .bin .eql (.t 126) (.c (.d (.str [110, 101, 103]))), [], [], none, none⟩,
        ⟨some 159, .mv (.t 160), [], [], none, none⟩])
    (.cond (.t 159) (.region [8, 11, 13, 14, 15, 18, 118, 119, 120] (some [8, 11, 14, 18, 170, 192]) none
        [⟨some 161, .faddr 3 (.t 17), [], [], none, none⟩,
         ⟨some 162, .load none (.t 161), [], [], none, none⟩,
         ⟨some 163, .mv (.t 15), [], [], none, none⟩,
         ⟨some 164, .bin .add (.t 162) (.t 163), [], [], none, none⟩,
         ⟨some 165, .faddr 3 (.t 18), [], [], none, none⟩,
         ⟨none, .store 1 (.t 165) (.t 164), [], [], none, none⟩])
     (.region [8, 11, 13, 14, 15, 18, 118, 119, 120] (some [8, 11, 14, 18, 170, 192]) (some ([0, 1, 2, 3, 4, 6, 8, 1005, 7], .one 9 (.one 10 (.one 11 (.done)))))
        [⟨some 127, .faddr 3 (.t 17), [], [], none, none⟩,
         ⟨some 128, .load none (.t 127), [], [0], none, none⟩,
         ⟨some 129, .mv (.t 15), [], [], none, none⟩,
         ⟨some 130, .bin .add (.t 128) (.t 129), [], [1, 2], none, none⟩,
         ⟨some 131, .faddr 4 (.t 17), [], [], none, none⟩,
         ⟨some 132, .load none (.t 131), [], [4], none, none⟩,
         ⟨some 133, .mv (.t 15), [], [], none, none⟩,
         ⟨some 134, .bin .add (.t 132) (.t 133), [], [5, 6], none, none⟩,
         ⟨some 135, .faddr 3 (.t 18), [], [0, 1, 2, 3], none, none⟩,
         ⟨none, .store 1 (.t 135) (.t 130), [], [8, 3, 0, 1, 2, 3], none, none⟩,
         ⟨some 136, .faddr 4 (.t 18), [], [0, 1, 2, 3, 4, 5, 6, 7, 8, 9], none, none⟩,
         ⟨none, .store 1 (.t 136) (.t 134), [], [10, 7, 9, 0, 1, 2, 3, 4, 5, 6, 7, 8, 9], none, none⟩])))))) (St.mk s o) Q =
 (condK (s 137)
 (Q .normal (St.mk s o))
 (demand (binV BinOp.eql (s 126) (V.d (.str [105, 102]))) (fun x1 =>
condK x1
 (V.undef = V.undef ∧ (demand (faddrV 3 (s 17)) (fun x2 => quietV (looko ([8, 11, 14, 17, 18, 170, 192].map fun n => (n, o n))) (x2 :: [(s 17)]) ∧
drawB C I g_law08_TreeJoins.a20 R_i21 R_t49 (St.mk (upd (look [(8, (s 8)), (11, (s 11)), (13, (s 13)), (14, (s 14)), (15, (s 15)), (17, (s 17)), (18, (s 18)), (118, (s 118)), (119, (s 119)), (120, (s 120)), (126, (s 126)), (142, x1)]) 144 x2) (looko ([8, 11, 14, 17, 18, 170, 192].map fun n => (n, o n)))) (fun st => Q .normal (St.trim st [8, 11, 13, 14, 15, 18, 118, 119, 120] (some [8, 11, 14, 18, 170, 192]))))))
 (demand (binV BinOp.eql (s 126) (V.d (.str [110, 101, 103]))) (fun x3 =>
condK x3
 (demand (faddrV 3 (s 17)) (fun x4 =>
demand (loadV (looko ([8, 11, 14, 17, 18, 170, 192].map fun n => (n, o n))) none x4) (fun x5 =>
demand (binV BinOp.add x5 (s 15)) (fun x6 =>
demand (faddrV 3 (s 18)) (fun x7 =>
storeK x7 (cellsV x6) 1 (looko ([8, 11, 14, 17, 18, 170, 192].map fun n => (n, o n))) (fun m8 ob9 =>
Q .normal (St.mk (look [(8, (s 8)), (11, (s 11)), (13, (s 13)), (14, (s 14)), (15, (s 15)), (18, (s 18)), (118, (s 118)), (119, (s 119)), (120, (s 120))]) (looko ([8, 11, 14, 18, 170, 192].map fun n => (n, (upd (looko ([8, 11, 14, 17, 18, 170, 192].map fun n => (n, o n))) m8 (some ob9)) n))))))))))
 (V.undef = V.undef ∧ (demand (faddrV 3 (s 17)) (fun x10 => quietV (looko ([8, 11, 14, 17, 18, 170, 192].map fun n => (n, o n))) (x10 :: [(s 17)]) ∧
V.undef = V.undef ∧ (demand (loadV (looko ([8, 11, 14, 17, 18, 170, 192].map fun n => (n, o n))) none x10) (fun x11 => quietV (looko ([8, 11, 14, 17, 18, 170, 192].map fun n => (n, o n))) (x11 :: [x10]) ∧
V.undef = V.undef ∧ (quietV (looko ([8, 11, 14, 17, 18, 170, 192].map fun n => (n, o n))) ((s 15) :: [(s 15)]) ∧
V.undef = V.undef ∧ (demand (binV BinOp.add x11 (s 15)) (fun x13 => quietV (looko ([8, 11, 14, 17, 18, 170, 192].map fun n => (n, o n))) (x13 :: [x11, (s 15)]) ∧
V.undef = V.undef ∧ (demand (faddrV 4 (s 17)) (fun x14 => quietV (looko ([8, 11, 14, 17, 18, 170, 192].map fun n => (n, o n))) (x14 :: [(s 17)]) ∧
V.undef = V.undef ∧ (quietV (looko ([8, 11, 14, 17, 18, 170, 192].map fun n => (n, o n))) ((s 15) :: [(s 15)]) ∧
V.undef = V.undef ∧ (demand (faddrV 3 (s 18)) (fun x16 => quietV (looko ([8, 11, 14, 17, 18, 170, 192].map fun n => (n, o n))) (x16 :: [(s 18)]) ∧
V.undef = V.undef ∧ (demand (loadV (looko ([8, 11, 14, 17, 18, 170, 192].map fun n => (n, o n))) none x14) (fun x17 => quietV (looko ([8, 11, 14, 17, 18, 170, 192].map fun n => (n, o n))) (x17 :: [x14]) ∧
watchV (looko ([8, 11, 14, 17, 18, 170, 192].map fun n => (n, o n))) [x16, V.undef] [x14] ∧
V.undef = V.undef ∧ (demand (binV BinOp.add x17 (s 15)) (fun x18 => quietV (looko ([8, 11, 14, 17, 18, 170, 192].map fun n => (n, o n))) (x18 :: [x17, (s 15)]) ∧
(([] : List Nat) = [] ∧ (storeK x16 (cellsV x13) 1 (looko ([8, 11, 14, 17, 18, 170, 192].map fun n => (n, o n))) (fun m19 ob20 =>
(([] : List Nat) = [] ∧ (demand (faddrV 4 (s 18)) (fun x21 =>
(([] : List Nat) = [] ∧ (storeK x21 (cellsV x18) 1 (upd (looko ([8, 11, 14, 17, 18, 170, 192].map fun n => (n, o n))) m19 (some ob20)) (fun m22 ob23 =>
Q .normal (St.mk (look [(8, (s 8)), (11, (s 11)), (13, (s 13)), (14, (s 14)), (15, (s 15)), (18, (s 18)), (118, (s 118)), (119, (s 119)), (120, (s 120))]) (looko ([8, 11, 14, 18, 170, 192].map fun n => (n, (upd (upd (looko ([8, 11, 14, 17, 18, 170, 192].map fun n => (n, o n))) m19 (some ob20)) m22 (some ob23)) n))))))))))))))))))))))))))))))))))) := rfl
@[instance] theorem g_law08_TreeJoins_c4_u : UnfAt (wpB C I g_law08_TreeJoins.c4 (St.mk s o) Q) g_law08_TreeJoins_c4_sh := Unf.of _
theorem g_law08_TreeJoins_c5_sh : wpB C I (.region [8, 11, 13, 14, 15, 118, 119, 120] (some [8, 11, 14, 170, 192]) none
   [⟨some 166, .faddr 1 (.t 14), [], [], none, none⟩,
    ⟨some 167, .load none (.t 166), [], [], none, none⟩,
    ⟨some 168, .load (some 6) (.t 18), [], [], none, none⟩,
    ⟨some 169, .bsl none 6 [] 1 [(0, (.t 168))], [], [], none, none⟩,
    ⟨some 170, .app (some 170) 6 64 (.t 167) (.t 169), [], [], none, none⟩,
    ⟨some 171, .faddr 1 (.t 14), [], [], none, none⟩,
    ⟨none, .store 1 (.t 171) (.t 170), [], [], none, none⟩]) (St.mk s o) Q =
 (demand (faddrV 1 (s 14)) (fun x1 =>
demand (loadV o none x1) (fun x2 =>
demand (loadV o (some 6) (s 18)) (fun x3 =>
lstK (partsN 6 [x3]) (fun es4 =>
lstK (readD o (V.d (D.sl es4))) (fun ys5 => (∀ e ∈ ys5, e.length = 6) ∧ appK x2
 (ys5.length * 64 ≤ 140737488355328 ∧ ys5.length ≤ 140737488355328 ∧ ¬ I 170 ∧ Fresh (St.mk (upd (upd (upd (upd s 166 x1) 167 x2) 168 x3) 169 (V.d (D.sl es4))) o) 170 (some 170) ∧
demand (faddrV 1 (s 14)) (fun x10 =>
storeK x10 (cellsV (V.own 170)) 1 (upd o 170 (some (Ob.row 6 ys5))) (fun m11 ob12 =>
Q .normal (St.mk (look [(8, (s 8)), (11, (s 11)), (13, (s 13)), (14, (s 14)), (15, (s 15)), (118, (s 118)), (119, (s 119)), (120, (s 120))]) (looko ([8, 11, 14, 170, 192].map fun n => (n, (upd (upd o 170 (some (Ob.row 6 ys5))) m11 (some ob12)) n)))))))
 (fun m6 => ¬ I m6 ∧ rowK (o m6) (fun z7 es8 => z7 = 6 ∧ (es8.length + ys5.length) * 64 ≤ 140737488355328 ∧ es8.length + ys5.length ≤ 140737488355328 ∧
demand (faddrV 1 ((fun t => scrubV m6 (s t)) 14)) (fun x13 =>
storeK x13 (cellsV (V.own m6)) 1 (upd (fun n => (o n).map (Ob.scrub m6)) m6 (some (Ob.row 6 (es8 ++ ys5)))) (fun m14 ob15 =>
Q .normal (St.mk (look [(8, ((fun t => scrubV m6 (s t)) 8)), (11, ((fun t => scrubV m6 (s t)) 11)), (13, ((fun t => scrubV m6 (s t)) 13)), (14, ((fun t => scrubV m6 (s t)) 14)), (15, ((fun t => scrubV m6 (s t)) 15)), (118, ((fun t => scrubV m6 (s t)) 118)), (119, ((fun t => scrubV m6 (s t)) 119)), (120, ((fun t => scrubV m6 (s t)) 120))]) (looko ([8, 11, 14, 170, 192].map fun n => (n, (upd (upd (fun n => (o n).map (Ob.scrub m6)) m6 (some (Ob.row 6 (es8 ++ ys5)))) m14 (some ob15)) n)))))))))))))) := rfl
@[instance] theorem g_law08_TreeJoins_c5_u : UnfAt (wpB C I g_law08_TreeJoins.c5 (St.mk s o) Q) g_law08_TreeJoins_c5_sh := Unf.of _
theorem g_law08_TreeJoins_c6_sh : wpB C I (.seq (.region [8, 11, 13, 14, 15, 17, 18, 118, 119, 120] (some [8, 11, 14, 17, 18, 170, 192]) none
    [⟨some 124, .load (some 6) (.t 17), [], [], none, none⟩,
     ⟨some 18, .alloc 18 [.d (.str []), .d (.str []), .d (.int .i64 0), .d (.int .i64 0), .d (.int .i64 0), .d (.int .i64 0)], [], [], none, none⟩,
     ⟨none, .store 6 (.t 18) (.t 124), [], [], none, none⟩])
 (.seq (.seq (.region [8, 11, 13, 14, 15, 17, 18, 118, 119, 120, 126] (some [8, 11, 14, 17, 18, 170, 192]) none
      [⟨some 125, .faddr 0 (.t 17), [], [], none, none⟩,
       ⟨some 126, .load none (.t 125), [], [], none, none⟩])
   (.block 2 [8, 11, 13, 14, 15, 18, 118, 119, 120] (some [8, 11, 14, 18, 170, 192]) (.seq (.seq (.region [8, 11, 13, 14, 15, 17, 18, 118, 119, 120, 126, 137] (some [8, 11, 14, 17, 18, 170, 192]) none
         [⟨some 138, .bin .eql (.t 126) (.c (.d (.str [119, 104, 111, 108, 101]))), [], [], none, none⟩,
          ⟨some 137, .mv (.t 138), [], [], none, none⟩])
      (.cond (.t 137) (.skip)
       (.seq (.region [8, 11, 13, 14, 15, 17, 18, 118, 119, 120, 126, 137] (some [8, 11, 14, 17, 18, 170, 192]) none
           [⟨some 139, .bin .eql (.t 126) (.c (.d (.str [97, 109, 111, 117, 110, 116]))), [], [], none, none⟩,
            ⟨some 137, .mv (.t 139), [], [], none, none⟩])
        (.cond (.t 137) (.skip)
         (.seq (.region [8, 11, 13, 14, 15, 17, 18, 118, 119, 120, 126, 137] (some [8, 11, 14, 17, 18, 170, 192]) none
             [⟨some 140, .bin .eql (.t 126) (.c (.d (.str [114, 97, 116, 101]))), [], [], none, none⟩,
              ⟨some 137, .mv (.t 140), [], [], none, none⟩])
          (.cond (.t 137) (.skip)
           (.region [8, 11, 13, 14, 15, 17, 18, 118, 119, 120, 126, 137] (some [8, 11, 14, 17, 18, 170, 192]) none
              [⟨some 141, .bin .eql (.t 126) (.c (.d (.str [110, 97, 109, 101]))), [], [], none, none⟩,
               ⟨some 137, .mv (.t 141), [], [], none, none⟩])))))))
     (R_c4))))
  (R_c5))) (St.mk s o) Q =
 (demand (loadV o (some 6) (s 17)) (fun x1 =>
(¬ I 18 ∧ Fresh (St.mk (upd s 124 x1) o) 18 (some 18) ∧ V.refsL 18 [V.d (.str []), V.d (.str []), V.d (.int .i64 0), V.d (.int .i64 0), V.d (.int .i64 0), V.d (.int .i64 0)] = false ∧
storeK (V.ptr 18 0) (cellsV x1) 6 (upd o 18 (some (Ob.box [V.d (.str []), V.d (.str []), V.d (.int .i64 0), V.d (.int .i64 0), V.d (.int .i64 0), V.d (.int .i64 0)]))) (fun m2 ob3 =>
demand (faddrV 0 (s 17)) (fun x4 =>
demand (loadV (looko ([8, 11, 14, 17, 18, 170, 192].map fun n => (n, (upd (upd o 18 (some (Ob.box [V.d (.str []), V.d (.str []), V.d (.int .i64 0), V.d (.int .i64 0), V.d (.int .i64 0), V.d (.int .i64 0)]))) m2 (some ob3)) n))) none x4) (fun x5 =>
demand (binV BinOp.eql x5 (V.d (.str [119, 104, 111, 108, 101]))) (fun x6 =>
condK x6
 (wpB C I R_c4 (St.mk (look [(8, (s 8)), (11, (s 11)), (13, (s 13)), (14, (s 14)), (15, (s 15)), (17, (s 17)), (18, (V.ptr 18 0)), (118, (s 118)), (119, (s 119)), (120, (s 120)), (126, x5), (137, x6)]) (looko ([8, 11, 14, 17, 18, 170, 192].map fun n => (n, (upd (upd o 18 (some (Ob.box [V.d (.str []), V.d (.str []), V.d (.int .i64 0), V.d (.int .i64 0), V.d (.int .i64 0), V.d (.int .i64 0)]))) m2 (some ob3)) n)))) (blockK 2 [8, 11, 13, 14, 15, 18, 118, 119, 120] (some [8, 11, 14, 18, 170, 192]) (seqK (fun st => wpB C I R_c5 st Q) Q)))
 (demand (binV BinOp.eql x5 (V.d (.str [97, 109, 111, 117, 110, 116]))) (fun x7 =>
condK x7
 (wpB C I R_c4 (St.mk (look [(8, (s 8)), (11, (s 11)), (13, (s 13)), (14, (s 14)), (15, (s 15)), (17, (s 17)), (18, (V.ptr 18 0)), (118, (s 118)), (119, (s 119)), (120, (s 120)), (126, x5), (137, x7)]) (looko ([8, 11, 14, 17, 18, 170, 192].map fun n => (n, (upd (upd o 18 (some (Ob.box [V.d (.str []), V.d (.str []), V.d (.int .i64 0), V.d (.int .i64 0), V.d (.int .i64 0), V.d (.int .i64 0)]))) m2 (some ob3)) n)))) (blockK 2 [8, 11, 13, 14, 15, 18, 118, 119, 120] (some [8, 11, 14, 18, 170, 192]) (seqK (fun st => wpB C I R_c5 st Q) Q)))
 (demand (binV BinOp.eql x5 (V.d (.str [114, 97, 116, 101]))) (fun x8 =>
condK x8
 (wpB C I R_c4 (St.mk (look [(8, (s 8)), (11, (s 11)), (13, (s 13)), (14, (s 14)), (15, (s 15)), (17, (s 17)), (18, (V.ptr 18 0)), (118, (s 118)), (119, (s 119)), (120, (s 120)), (126, x5), (137, x8)]) (looko ([8, 11, 14, 17, 18, 170, 192].map fun n => (n, (upd (upd o 18 (some (Ob.box [V.d (.str []), V.d (.str []), V.d (.int .i64 0), V.d (.int .i64 0), V.d (.int .i64 0), V.d (.int .i64 0)]))) m2 (some ob3)) n)))) (blockK 2 [8, 11, 13, 14, 15, 18, 118, 119, 120] (some [8, 11, 14, 18, 170, 192]) (seqK (fun st => wpB C I R_c5 st Q) Q)))
 (demand (binV BinOp.eql x5 (V.d (.str [110, 97, 109, 101]))) (fun x9 =>
wpB C I R_c4 (St.mk (look [(8, (s 8)), (11, (s 11)), (13, (s 13)), (14, (s 14)), (15, (s 15)), (17, (s 17)), (18, (V.ptr 18 0)), (118, (s 118)), (119, (s 119)), (120, (s 120)), (126, x5), (137, x9)]) (looko ([8, 11, 14, 17, 18, 170, 192].map fun n => (n, (upd (upd o 18 (some (Ob.box [V.d (.str []), V.d (.str []), V.d (.int .i64 0), V.d (.int .i64 0), V.d (.int .i64 0), V.d (.int .i64 0)]))) m2 (some ob3)) n)))) (blockK 2 [8, 11, 13, 14, 15, 18, 118, 119, 120] (some [8, 11, 14, 18, 170, 192]) (seqK (fun st => wpB C I R_c5 st Q) Q))))))))))))))) := rfl
@[instance] theorem g_law08_TreeJoins_c6_u : UnfAt (wpB C I g_law08_TreeJoins.c6 (St.mk s o) Q) g_law08_TreeJoins_c6_sh := Unf.of _
theorem g_law08_TreeJoins_c7_sh : wpB C I (.region [8, 11, 13, 14, 15, 118, 119, 120] (some [8, 11, 14, 170, 192]) none
   [⟨some 172, .bin .add (.t 120) (.c (.d (.int .i64 1))), [], [], none, none⟩,
    ⟨some 120, .mv (.t 172), [], [], none, none⟩]) (St.mk s o) Q =
 (demand (binV BinOp.add (s 120) (V.d (.int .i64 1))) (fun x1 =>
Q .normal (St.mk (look [(8, (s 8)), (11, (s 11)), (13, (s 13)), (14, (s 14)), (15, (s 15)), (118, (s 118)), (119, (s 119)), (120, x1)]) (looko ([8, 11, 14, 170, 192].map fun n => (n, o n)))))) := rfl
@[instance] theorem g_law08_TreeJoins_c7_u : UnfAt (wpB C I g_law08_TreeJoins.c7 (St.mk s o) Q) g_law08_TreeJoins_c7_sh := Unf.of _
theorem g_law08_TreeJoins_l0_sh (hL : R_l0 = .loop [8, 11, 13, 14, 15, 118, 119, 120] (some [8, 11, 14, 170, 192]) (.seq (.region [8, 11, 13, 14, 15, 118, 119, 120, 121] (some [8, 11, 14, 170, 192]) none
     [⟨some 121, .bin .lss (.t 120) (.t 119), [], [], none, none⟩])
  (.seq (.cond (.t 121) (.skip)
    (.exit 0))
   (.seq (.block 1 [8, 11, 13, 14, 15, 118, 119, 120] (some [8, 11, 14, 170, 192]) (.seq (.region [8, 11, 13, 14, 15, 17, 118, 119, 120] (some [8, 11, 14, 17, 170, 192]) none
         [⟨some 122, .iaddr 6 (.t 118) (.t 120), [], [], none, none⟩,
          ⟨some 123, .load (some 6) (.t 122), [], [], none, none⟩,
          ⟨some 17, .alloc 17 [.d (.str []), .d (.str []), .d (.int .i64 0), .d (.int .i64 0), .d (.int .i64 0), .d (.int .i64 0)], [], [], none, none⟩,
          ⟨none, .store 6 (.t 17) (.t 123), [], [], none, none⟩])
      (R_c6)))
    (R_c7)))))
 (h : demand (binV BinOp.lss (s 120) (s 119)) (fun x1 =>
condK x1
 (demand (iaddrV (looko ([8, 11, 14, 170, 192].map fun n => (n, o n))) 6 (s 118) (s 120)) (fun x2 =>
demand (loadV (looko ([8, 11, 14, 170, 192].map fun n => (n, o n))) (some 6) x2) (fun x3 =>
(¬ I 17 ∧ Fresh (St.mk (upd (upd (look [(8, (s 8)), (11, (s 11)), (13, (s 13)), (14, (s 14)), (15, (s 15)), (118, (s 118)), (119, (s 119)), (120, (s 120)), (121, x1)]) 122 x2) 123 x3) (looko ([8, 11, 14, 170, 192].map fun n => (n, o n)))) 17 (some 17) ∧ V.refsL 17 [V.d (.str []), V.d (.str []), V.d (.int .i64 0), V.d (.int .i64 0), V.d (.int .i64 0), V.d (.int .i64 0)] = false ∧
storeK (V.ptr 17 0) (cellsV x3) 6 (upd (looko ([8, 11, 14, 170, 192].map fun n => (n, o n))) 17 (some (Ob.box [V.d (.str []), V.d (.str []), V.d (.int .i64 0), V.d (.int .i64 0), V.d (.int .i64 0), V.d (.int .i64 0)]))) (fun m4 ob5 =>
wpB C I R_c6 (St.mk (look [(8, (s 8)), (11, (s 11)), (13, (s 13)), (14, (s 14)), (15, (s 15)), (17, (V.ptr 17 0)), (118, (s 118)), (119, (s 119)), (120, (s 120))]) (looko ([8, 11, 14, 17, 170, 192].map fun n => (n, (upd (upd (looko ([8, 11, 14, 170, 192].map fun n => (n, o n))) 17 (some (Ob.box [V.d (.str []), V.d (.str []), V.d (.int .i64 0), V.d (.int .i64 0), V.d (.int .i64 0), V.d (.int .i64 0)]))) m4 (some ob5)) n)))) (blockK 1 [8, 11, 13, 14, 15, 118, 119, 120] (some [8, 11, 14, 170, 192]) (seqK (fun st => wpB C I R_c7 st (seqK (fun s => wpB C I R_l0 s Q) Q)) (seqK (fun s => wpB C I R_l0 s Q) Q))))))))
 (Q (.exit 0) (St.mk (look [(8, (s 8)), (11, (s 11)), (13, (s 13)), (14, (s 14)), (15, (s 15)), (118, (s 118)), (119, (s 119)), (120, (s 120)), (121, x1)]) (looko ([8, 11, 14, 170, 192].map fun n => (n, o n))))))) : wpB C I R_l0 (St.mk s o) Q := w_loopC hL h
theorem g_law08_TreeJoins_c8_sh : wpB C I (.block 0 [8, 11, 13, 14, 15] (some [8, 11, 14, 170, 192]) (R_l0)) (St.mk s o) Q =
 (wpB C I R_l0 (St.mk s o) (blockK 0 [8, 11, 13, 14, 15] (some [8, 11, 14, 170, 192]) Q)) := rfl
@[instance] theorem g_law08_TreeJoins_c8_u : UnfAt (wpB C I g_law08_TreeJoins.c8 (St.mk s o) Q) g_law08_TreeJoins_c8_sh := Unf.of _
theorem g_law08_TreeJoins_c9_sh : wpB C I (.region [11, 13, 14, 15, 174, 175, 176] (some [11, 14, 170, 192]) none
   [⟨some 180, .faddr 0 (.t 14), [], [], none, none⟩,
    ⟨some 181, .load none (.t 180), [], [], none, none⟩,
    ⟨some 182, .faddr 0 (.t 20), [], [], none, none⟩,
    ⟨some 183, .load none (.t 182), [], [], none, none⟩,
    ⟨some 184, .faddr 1 (.t 20), [], [], none, none⟩,
    ⟨some 185, .load none (.t 184), [], [], none, none⟩,
    ⟨some 186, .faddr 2 (.t 20), [], [], none, none⟩,
    ⟨some 187, .load none (.t 186), [], [], none, none⟩,
    ⟨some 188, .mv (.t 15), [], [], none, none⟩,
    ⟨some 189, .bin .add (.t 187) (.t 188), [], [], none, none⟩,
    ⟨some 190, .build [.d (.str []), .d (.str []), .d (.int .i64 0)] [(0, 1, (.t 183)), (1, 1, (.t 185)), (2, 1, (.t 189))], [], [], none, none⟩,
    ⟨some 191, .bsl none 3 [] 1 [(0, (.t 190))], [], [], none, none⟩,
    ⟨some 192, .app (some 192) 3 40 (.t 181) (.t 191), [], [], none, none⟩,
    ⟨some 193, .faddr 0 (.t 14), [], [], none, none⟩,
    ⟨none, .store 1 (.t 193) (.t 192), [], [], none, none⟩]) (St.mk s o) Q =
 (demand (faddrV 0 (s 14)) (fun x1 =>
demand (loadV o none x1) (fun x2 =>
demand (faddrV 0 (s 20)) (fun x3 =>
demand (loadV o none x3) (fun x4 =>
demand (faddrV 1 (s 20)) (fun x5 =>
demand (loadV o none x5) (fun x6 =>
demand (faddrV 2 (s 20)) (fun x7 =>
demand (loadV o none x7) (fun x8 =>
demand (binV BinOp.add x8 (s 15)) (fun x9 =>
demand ((buildN [V.d (.str []), V.d (.str []), V.d (.int .i64 0)] [(0, 1, x4), (1, 1, x6), (2, 1, x9)]).map V.agg) (fun x10 =>
lstK (partsN 3 [x10]) (fun es11 =>
lstK (readD o (V.d (D.sl es11))) (fun ys12 => (∀ e ∈ ys12, e.length = 3) ∧ appK x2
 (ys12.length * 40 ≤ 140737488355328 ∧ ys12.length ≤ 140737488355328 ∧ ¬ I 192 ∧ Fresh (St.mk (upd (upd (upd (upd (upd (upd (upd (upd (upd (upd (upd (upd s 180 x1) 181 x2) 182 x3) 183 x4) 184 x5) 185 x6) 186 x7) 187 x8) 188 (s 15)) 189 x9) 190 x10) 191 (V.d (D.sl es11))) o) 192 (some 192) ∧
demand (faddrV 0 (s 14)) (fun x17 =>
storeK x17 (cellsV (V.own 192)) 1 (upd o 192 (some (Ob.row 3 ys12))) (fun m18 ob19 =>
Q .normal (St.mk (look [(11, (s 11)), (13, (s 13)), (14, (s 14)), (15, (s 15)), (174, (s 174)), (175, (s 175)), (176, (s 176))]) (looko ([11, 14, 170, 192].map fun n => (n, (upd (upd o 192 (some (Ob.row 3 ys12))) m18 (some ob19)) n)))))))
 (fun m13 => ¬ I m13 ∧ rowK (o m13) (fun z14 es15 => z14 = 3 ∧ (es15.length + ys12.length) * 40 ≤ 140737488355328 ∧ es15.length + ys12.length ≤ 140737488355328 ∧
demand (faddrV 0 ((fun t => scrubV m13 (s t)) 14)) (fun x20 =>
storeK x20 (cellsV (V.own m13)) 1 (upd (fun n => (o n).map (Ob.scrub m13)) m13 (some (Ob.row 3 (es15 ++ ys12)))) (fun m21 ob22 =>
Q .normal (St.mk (look [(11, ((fun t => scrubV m13 (s t)) 11)), (13, ((fun t => scrubV m13 (s t)) 13)), (14, ((fun t => scrubV m13 (s t)) 14)), (15, ((fun t => scrubV m13 (s t)) 15)), (174, ((fun t => scrubV m13 (s t)) 174)), (175, ((fun t => scrubV m13 (s t)) 175)), (176, ((fun t => scrubV m13 (s t)) 176))]) (looko ([11, 14, 170, 192].map fun n => (n, (upd (upd (fun n => (o n).map (Ob.scrub m13)) m13 (some (Ob.row 3 (es15 ++ ys12)))) m21 (some ob22)) n))))))))))))))))))))) := rfl
@[instance] theorem g_law08_TreeJoins_c9_u : UnfAt (wpB C I g_law08_TreeJoins.c9 (St.mk s o) Q) g_law08_TreeJoins_c9_sh := Unf.of _
theorem g_law08_TreeJoins_c10_sh : wpB C I (.region [11, 13, 14, 15, 174, 175, 176] (some [11, 14, 170, 192]) none
   [⟨some 194, .bin .add (.t 176) (.c (.d (.int .i64 1))), [], [], none, none⟩,
    ⟨some 176, .mv (.t 194), [], [], none, none⟩]) (St.mk s o) Q =
 (demand (binV BinOp.add (s 176) (V.d (.int .i64 1))) (fun x1 =>
Q .normal (St.mk (look [(11, (s 11)), (13, (s 13)), (14, (s 14)), (15, (s 15)), (174, (s 174)), (175, (s 175)), (176, x1)]) (looko ([11, 14, 170, 192].map fun n => (n, o n)))))) := rfl
@[instance] theorem g_law08_TreeJoins_c10_u : UnfAt (wpB C I g_law08_TreeJoins.c10 (St.mk s o) Q) g_law08_TreeJoins_c10_sh := Unf.of _
theorem g_law08_TreeJoins_l1_sh (hL : R_l1 = .loop [11, 13, 14, 15, 174, 175, 176] (some [11, 14, 170, 192]) (.seq (.region [11, 13, 14, 15, 174, 175, 176, 177] (some [11, 14, 170, 192]) none
     [⟨some 177, .bin .lss (.t 176) (.t 175), [], [], none, none⟩])
  (.seq (.cond (.t 177) (.skip)
    (.exit 3))
   (.seq (.block 4 [11, 13, 14, 15, 174, 175, 176] (some [11, 14, 170, 192]) (.seq (.region [11, 13, 14, 15, 20, 174, 175, 176] (some [11, 14, 20, 170, 192]) none
         [⟨some 178, .iaddr 3 (.t 174) (.t 176), [], [], none, none⟩,
          ⟨some 179, .load (some 3) (.t 178), [], [], none, none⟩,
          ⟨some 20, .alloc 20 [.d (.str []), .d (.str []), .d (.int .i64 0)], [], [], none, none⟩,
          ⟨none, .store 3 (.t 20) (.t 179), [], [], none, none⟩])
      (R_c9)))
    (R_c10)))))
 (h : demand (binV BinOp.lss (s 176) (s 175)) (fun x1 =>
condK x1
 (demand (iaddrV (looko ([11, 14, 170, 192].map fun n => (n, o n))) 3 (s 174) (s 176)) (fun x2 =>
demand (loadV (looko ([11, 14, 170, 192].map fun n => (n, o n))) (some 3) x2) (fun x3 =>
(¬ I 20 ∧ Fresh (St.mk (upd (upd (look [(11, (s 11)), (13, (s 13)), (14, (s 14)), (15, (s 15)), (174, (s 174)), (175, (s 175)), (176, (s 176)), (177, x1)]) 178 x2) 179 x3) (looko ([11, 14, 170, 192].map fun n => (n, o n)))) 20 (some 20) ∧ V.refsL 20 [V.d (.str []), V.d (.str []), V.d (.int .i64 0)] = false ∧
storeK (V.ptr 20 0) (cellsV x3) 3 (upd (looko ([11, 14, 170, 192].map fun n => (n, o n))) 20 (some (Ob.box [V.d (.str []), V.d (.str []), V.d (.int .i64 0)]))) (fun m4 ob5 =>
wpB C I R_c9 (St.mk (look [(11, (s 11)), (13, (s 13)), (14, (s 14)), (15, (s 15)), (20, (V.ptr 20 0)), (174, (s 174)), (175, (s 175)), (176, (s 176))]) (looko ([11, 14, 20, 170, 192].map fun n => (n, (upd (upd (looko ([11, 14, 170, 192].map fun n => (n, o n))) 20 (some (Ob.box [V.d (.str []), V.d (.str []), V.d (.int .i64 0)]))) m4 (some ob5)) n)))) (blockK 4 [11, 13, 14, 15, 174, 175, 176] (some [11, 14, 170, 192]) (seqK (fun st => wpB C I R_c10 st (seqK (fun s => wpB C I R_l1 s Q) Q)) (seqK (fun s => wpB C I R_l1 s Q) Q))))))))
 (Q (.exit 3) (St.mk (look [(11, (s 11)), (13, (s 13)), (14, (s 14)), (15, (s 15)), (174, (s 174)), (175, (s 175)), (176, (s 176)), (177, x1)]) (looko ([11, 14, 170, 192].map fun n => (n, o n))))))) : wpB C I R_l1 (St.mk s o) Q := w_loopC hL h
theorem g_law08_TreeJoins_c11_sh : wpB C I (.block 3 [11, 13, 14] (some [11, 14, 170, 192]) (R_l1)) (St.mk s o) Q =
 (wpB C I R_l1 (St.mk s o) (blockK 3 [11, 13, 14] (some [11, 14, 170, 192]) Q)) := rfl
@[instance] theorem g_law08_TreeJoins_c11_u : UnfAt (wpB C I g_law08_TreeJoins.c11 (St.mk s o) Q) g_law08_TreeJoins_c11_sh := Unf.of _
theorem g_law08_TreeJoins_i61_sh : drawB C I g_law08_TreeJoins.a50 (11 :: []) .done (St.mk s o) K =
 ((s 4) = V.undef ∧ (quietV o ((s 205) :: [(s 205)]) ∧
treeB C I g_law08_TreeJoins.a50 .done (St.mk (upd s 4 (s 205)) o) K)) := rfl
@[instance] theorem g_law08_TreeJoins_i61_u : UnfAt (drawB C I g_law08_TreeJoins.a50 g_law08_TreeJoins.i61 .done (St.mk s o) K) g_law08_TreeJoins_i61_sh := Unf.of _
theorem g_law08_TreeJoins_i60_sh : drawB C I g_law08_TreeJoins.a50 (10 :: R_i61) .done (St.mk s o) K =
 ((s 205) = V.undef ∧ (demand (pickV (s 203) (s 204) (V.d (.bool false))) (fun x1 => quietV o (x1 :: [(s 203), (s 204), (V.d (.bool false))]) ∧
drawB C I g_law08_TreeJoins.a50 R_i61 .done (St.mk (upd s 205 x1) o) K))) := rfl
@[instance] theorem g_law08_TreeJoins_i60_u : UnfAt (drawB C I g_law08_TreeJoins.a50 g_law08_TreeJoins.i60 .done (St.mk s o) K) g_law08_TreeJoins_i60_sh := Unf.of _
theorem g_law08_TreeJoins_i59_sh : drawB C I g_law08_TreeJoins.a50 (9 :: R_i60) .done (St.mk s o) K =
 ((s 204) = V.undef ∧ guardK (s 203) true
 (∃ x1, SoundAt C 143 ⟨[], fun _ => none⟩ ⟨x1, fun _ => none⟩ ∧ (∀ n, V.refs n x1 = false) ∧ quietV o (x1 :: []) ∧
drawB C I g_law08_TreeJoins.a50 R_i60 .done (St.mk (upd s 204 x1) o) K)
 (quietV o ((V.tup []) :: []) ∧
drawB C I g_law08_TreeJoins.a50 R_i60 .done (St.mk (upd s 204 (V.tup [])) o) K)
 (quietV o ((V.tup []) :: []) ∧
drawB C I g_law08_TreeJoins.a50 R_i60 .done (St.mk (upd s 204 (V.tup [])) o) K)) := rfl
@[instance] theorem g_law08_TreeJoins_i59_u : UnfAt (drawB C I g_law08_TreeJoins.a50 g_law08_TreeJoins.i59 .done (St.mk s o) K) g_law08_TreeJoins_i59_sh := Unf.of _
theorem g_law08_TreeJoins_i58_sh : drawB C I g_law08_TreeJoins.a50 (8 :: R_i59) .done (St.mk s o) K =
 ((s 203) = V.undef ∧ (quietV o ((s 202) :: [(s 202)]) ∧
drawB C I g_law08_TreeJoins.a50 R_i59 .done (St.mk (upd s 203 (s 202)) o) K)) := rfl
@[instance] theorem g_law08_TreeJoins_i58_u : UnfAt (drawB C I g_law08_TreeJoins.a50 g_law08_TreeJoins.i58 .done (St.mk s o) K) g_law08_TreeJoins_i58_sh := Unf.of _
theorem g_law08_TreeJoins_i57_sh : drawB C I g_law08_TreeJoins.a50 (7 :: R_i58) .done (St.mk s o) K =
 ((s 202) = V.undef ∧ (demand (pickV (s 197) (s 201) (V.d (.bool false))) (fun x1 => quietV o (x1 :: [(s 197), (s 201), (V.d (.bool false))]) ∧
drawB C I g_law08_TreeJoins.a50 R_i58 .done (St.mk (upd s 202 x1) o) K))) := rfl
@[instance] theorem g_law08_TreeJoins_i57_u : UnfAt (drawB C I g_law08_TreeJoins.a50 g_law08_TreeJoins.i57 .done (St.mk s o) K) g_law08_TreeJoins_i57_sh := Unf.of _
theorem g_law08_TreeJoins_i56_sh : drawB C I g_law08_TreeJoins.a50 (6 :: R_i57) .done (St.mk s o) K =
 ((s 201) = V.undef ∧ guardK (s 197) true
 (∃ x1, SoundAt C 147 ⟨[(s 199), (s 200)], fun _ => none⟩ ⟨x1, fun _ => none⟩ ∧ (∀ n, V.refs n x1 = false) ∧ quietV o (x1 :: [(s 199), (s 200)]) ∧
drawB C I g_law08_TreeJoins.a50 R_i57 .done (St.mk (upd s 201 x1) o) K)
 (quietV o ((V.tup []) :: [(s 199), (s 200)]) ∧
drawB C I g_law08_TreeJoins.a50 R_i57 .done (St.mk (upd s 201 (V.tup [])) o) K)
 (quietV o ((V.tup []) :: [(s 199), (s 200)]) ∧
drawB C I g_law08_TreeJoins.a50 R_i57 .done (St.mk (upd s 201 (V.tup [])) o) K)) := rfl
@[instance] theorem g_law08_TreeJoins_i56_u : UnfAt (drawB C I g_law08_TreeJoins.a50 g_law08_TreeJoins.i56 .done (St.mk s o) K) g_law08_TreeJoins_i56_sh := Unf.of _
theorem g_law08_TreeJoins_i55_sh : drawB C I g_law08_TreeJoins.a50 (5 :: R_i56) .done (St.mk s o) K =
 ((s 200) = V.undef ∧ guardK (s 197) true
 (demand (loadV o (some 2) (s 14)) (fun x1 => quietV o (x1 :: [(s 14)]) ∧
drawB C I g_law08_TreeJoins.a50 R_i56 .done (St.mk (upd s 200 x1) o) K))
 (quietV o ((V.tup []) :: [(s 14)]) ∧
drawB C I g_law08_TreeJoins.a50 R_i56 .done (St.mk (upd s 200 (V.tup [])) o) K)
 (quietV o ((V.tup []) :: [(s 14)]) ∧
drawB C I g_law08_TreeJoins.a50 R_i56 .done (St.mk (upd s 200 (V.tup [])) o) K)) := rfl
@[instance] theorem g_law08_TreeJoins_i55_u : UnfAt (drawB C I g_law08_TreeJoins.a50 g_law08_TreeJoins.i55 .done (St.mk s o) K) g_law08_TreeJoins_i55_sh := Unf.of _
theorem g_law08_TreeJoins_i54_sh : drawB C I g_law08_TreeJoins.a50 (4 :: R_i55) .done (St.mk s o) K =
 ((s 199) = V.undef ∧ guardK (s 197) true
 (∃ x1, SoundAt C 146 ⟨[(s 198)], fun _ => none⟩ ⟨x1, fun _ => none⟩ ∧ (∀ n, V.refs n x1 = false) ∧ quietV o (x1 :: [(s 198)]) ∧
drawB C I g_law08_TreeJoins.a50 R_i55 .done (St.mk (upd s 199 x1) o) K)
 (quietV o ((V.tup []) :: [(s 198)]) ∧
drawB C I g_law08_TreeJoins.a50 R_i55 .done (St.mk (upd s 199 (V.tup [])) o) K)
 (quietV o ((V.tup []) :: [(s 198)]) ∧
drawB C I g_law08_TreeJoins.a50 R_i55 .done (St.mk (upd s 199 (V.tup [])) o) K)) := rfl
@[instance] theorem g_law08_TreeJoins_i54_u : UnfAt (drawB C I g_law08_TreeJoins.a50 g_law08_TreeJoins.i54 .done (St.mk s o) K) g_law08_TreeJoins_i54_sh := Unf.of _
theorem g_law08_TreeJoins_i53_sh : drawB C I g_law08_TreeJoins.a50 (3 :: R_i54) .done (St.mk s o) K =
 ((s 198) = V.undef ∧ guardK (s 197) true
 (demand (loadV o (some 2) (s 11)) (fun x1 => quietV o (x1 :: [(s 11)]) ∧
drawB C I g_law08_TreeJoins.a50 R_i54 .done (St.mk (upd s 198 x1) o) K))
 (quietV o ((V.tup []) :: [(s 11)]) ∧
drawB C I g_law08_TreeJoins.a50 R_i54 .done (St.mk (upd s 198 (V.tup [])) o) K)
 (quietV o ((V.tup []) :: [(s 11)]) ∧
drawB C I g_law08_TreeJoins.a50 R_i54 .done (St.mk (upd s 198 (V.tup [])) o) K)) := rfl
@[instance] theorem g_law08_TreeJoins_i53_u : UnfAt (drawB C I g_law08_TreeJoins.a50 g_law08_TreeJoins.i53 .done (St.mk s o) K) g_law08_TreeJoins_i53_sh := Unf.of _
theorem g_law08_TreeJoins_i52_sh : drawB C I g_law08_TreeJoins.a50 (2 :: R_i53) .done (St.mk s o) K =
 ((s 197) = V.undef ∧ (quietV o ((s 196) :: [(s 196)]) ∧
drawB C I g_law08_TreeJoins.a50 R_i53 .done (St.mk (upd s 197 (s 196)) o) K)) := rfl
@[instance] theorem g_law08_TreeJoins_i52_u : UnfAt (drawB C I g_law08_TreeJoins.a50 g_law08_TreeJoins.i52 .done (St.mk s o) K) g_law08_TreeJoins_i52_sh := Unf.of _
theorem g_law08_TreeJoins_i51_sh : drawB C I g_law08_TreeJoins.a50 (1 :: R_i52) .done (St.mk s o) K =
 ((s 196) = V.undef ∧ (demand (binV BinOp.eql (s 195) (V.d (.int .i64 0))) (fun x1 => quietV o (x1 :: [(s 195), (V.d (.int .i64 0))]) ∧
drawB C I g_law08_TreeJoins.a50 R_i52 .done (St.mk (upd s 196 x1) o) K))) := rfl
@[instance] theorem g_law08_TreeJoins_i51_u : UnfAt (drawB C I g_law08_TreeJoins.a50 g_law08_TreeJoins.i51 .done (St.mk s o) K) g_law08_TreeJoins_i51_sh := Unf.of _
theorem g_law08_TreeJoins_c12_sh : wpB C I (.ret) (St.mk s o) Q =
 (Q .ret (St.mk s o)) := rfl
@[instance] theorem g_law08_TreeJoins_c12_u : UnfAt (wpB C I g_law08_TreeJoins.c12 (St.mk s o) Q) g_law08_TreeJoins_c12_sh := Unf.of _
theorem g_law08_TreeJoins_c13_sh : wpB C I (.seq (.region [4] (some []) (some (1000014 :: 0 :: R_i51, .done)) g_law08_TreeJoins.a50)
 (R_c12)) (St.mk s o) Q =
 (frzK (St.mk s o) [14] (fun st1 =>
(st1.s 195) = V.undef ∧ (quietV st1.o ((st1.s 13) :: [(st1.s 13)]) ∧
drawB C I g_law08_TreeJoins.a50 R_i51 .done (St.mk (upd st1.s 195 (st1.s 13)) st1.o) (fun st => (seqK (fun st => wpB C I R_c12 st Q) Q) .normal (St.trim st [4] (some [])))))) := rfl
@[instance] theorem g_law08_TreeJoins_c13_u : UnfAt (wpB C I g_law08_TreeJoins.c13 (St.mk s o) Q) g_law08_TreeJoins_c13_sh := Unf.of _
theorem g_law08_TreeJoins_c14_sh : wpB C I (.seq (.seq (.region [11, 13, 14, 15, 174, 175, 176] (some [11, 14, 170, 192]) none
     [⟨some 173, .faddr 0 (.t 8), [], [], none, none⟩,
      ⟨some 174, .load none (.t 173), [], [], none, none⟩,
      ⟨some 175, .len (.t 174), [], [], none, none⟩,
      ⟨some 176, .mv (.c (.d (.int .i64 0))), [], [], none, none⟩])
  (R_c11))
 (R_c13)) (St.mk s o) Q =
 (demand (faddrV 0 (s 8)) (fun x1 =>
demand (loadV o none x1) (fun x2 =>
demand (lenV o x2) (fun x3 =>
wpB C I R_c11 (St.mk (look [(11, (s 11)), (13, (s 13)), (14, (s 14)), (15, (s 15)), (174, x2), (175, x3), (176, (V.d (.int .i64 0)))]) (looko ([11, 14, 170, 192].map fun n => (n, o n)))) (seqK (fun st => wpB C I R_c13 st Q) Q))))) := rfl
@[instance] theorem g_law08_TreeJoins_c14_u : UnfAt (wpB C I g_law08_TreeJoins.c14 (St.mk s o) Q) g_law08_TreeJoins_c14_sh := Unf.of _
theorem g_law08_TreeJoins_c15_sh : wpB C I (.seq (.seq (.region [8, 11, 13, 14, 15, 118, 119, 120] (some [8, 11, 14, 170, 192]) none
     [⟨some 117, .faddr 1 (.t 8), [], [], none, none⟩,
      ⟨some 118, .load none (.t 117), [], [], none, none⟩,
      ⟨some 119, .len (.t 118), [], [], none, none⟩,
      ⟨some 120, .mv (.c (.d (.int .i64 0))), [], [], none, none⟩])
  (R_c8))
 (R_c14)) (St.mk s o) Q =
 (demand (faddrV 1 (s 8)) (fun x1 =>
demand (loadV o none x1) (fun x2 =>
demand (lenV o x2) (fun x3 =>
wpB C I R_c8 (St.mk (look [(8, (s 8)), (11, (s 11)), (13, (s 13)), (14, (s 14)), (15, (s 15)), (118, x2), (119, x3), (120, (V.d (.int .i64 0)))]) (looko ([8, 11, 14, 170, 192].map fun n => (n, o n)))) (seqK (fun st => wpB C I R_c14 st Q) Q))))) := rfl
@[instance] theorem g_law08_TreeJoins_c15_u : UnfAt (wpB C I g_law08_TreeJoins.c15 (St.mk s o) Q) g_law08_TreeJoins_c15_sh := Unf.of _
theorem g_law08_TreeJoins_c16_sh : wpB C I (.seq (.region [8, 11, 13, 14, 15] (some [8, 11, 14, 170, 192]) none
    [⟨some 114, .faddr 1 (.t 5), [], [], none, none⟩,
     ⟨some 115, .load none (.t 114), [], [], none, none⟩,
     ⟨some 116, .len (.t 115), [], [], none, none⟩,
     ⟨some 15, .mv (.t 116), [], [], none, none⟩])
 (R_c15)) (St.mk s o) Q =
 (demand (faddrV 1 (s 5)) (fun x1 =>
demand (loadV o none x1) (fun x2 =>
demand (lenV o x2) (fun x3 =>
wpB C I R_c15 (St.mk (look [(8, (s 8)), (11, (s 11)), (13, (s 13)), (14, (s 14)), (15, x3)]) (looko ([8, 11, 14, 170, 192].map fun n => (n, o n)))) Q)))) := rfl
@[instance] theorem g_law08_TreeJoins_c16_u : UnfAt (wpB C I g_law08_TreeJoins.c16 (St.mk s o) Q) g_law08_TreeJoins_c16_sh := Unf.of _
theorem g_law08_TreeJoins_c17_sh : wpB C I (.seq (.region [5, 8, 11, 13, 14] (some [5, 8, 11, 14, 170, 192]) none
    [⟨some 112, .load (some 2) (.t 5), [], [], none, none⟩,
     ⟨some 113, .call 146 [(.t 112)], [], [], none, none⟩,
     ⟨some 14, .alloc 14 [.cap0, .cap0], [], [], none, none⟩,
     ⟨none, .store 2 (.t 14) (.t 113), [], [], none, none⟩])
 (R_c16)) (St.mk s o) Q =
 (demand (loadV o (some 2) (s 5)) (fun x1 =>
callK C I (St.mk (upd s 112 x1) o) (some 113) 146 [x1] (fun r2 or2 =>
(¬ I 14 ∧ Fresh (St.mk (upd (upd s 112 x1) 113 r2) or2) 14 (some 14) ∧ V.refsL 14 [V.cap0, V.cap0] = false ∧
storeK (V.ptr 14 0) (cellsV r2) 2 (upd or2 14 (some (Ob.box [V.cap0, V.cap0]))) (fun m3 ob4 =>
wpB C I R_c16 (St.mk (look [(5, (s 5)), (8, (s 8)), (11, (s 11)), (13, (s 13)), (14, (V.ptr 14 0))]) (looko ([5, 8, 11, 14, 170, 192].map fun n => (n, (upd (upd or2 14 (some (Ob.box [V.cap0, V.cap0]))) m3 (some ob4)) n)))) Q))))) := rfl
@[instance] theorem g_law08_TreeJoins_c17_u : UnfAt (wpB C I g_law08_TreeJoins.c17 (St.mk s o) Q) g_law08_TreeJoins_c17_sh := Unf.of _
theorem g_law08_TreeJoins_c18_sh : wpB C I (.seq (.seq (.region [0, 5, 8, 9, 10, 11, 12, 13, 74] (some [5, 8, 11]) none
     [⟨some 73, .mv (.t 10), [], [], none, none⟩,
      ⟨some 74, .bin .neq (.t 73) (.c (.d (.int .i64 0))), [], [], none, none⟩])
  (.cond (.t 74) (.seq (.region [4] (some []) none
       (⟨some 75, .mv (.t 13), [], [], none, none⟩ ::
        ⟨some 76, .mv (.t 10), [], [], none, none⟩ ::
        ⟨some 77, .bin .eql (.t 75) (.t 76), [], [], none, none⟩ ::
        ⟨some 78, .mv (.t 77), [], [], none, (some ([0, 9, 10, 11, 12, 13, 78], (some [11])))⟩ ::
        R_o6))
    (R_c3))
   (.skip)))
 (R_c17)) (St.mk s o) Q =
 (demand (binV BinOp.neq (s 10) (V.d (.int .i64 0))) (fun x1 =>
condK x1
 (demand (binV BinOp.eql (s 13) (s 10)) (fun x2 =>
opsB C I R_o6 (St.mk (look [(0, (s 0)), (9, (s 9)), (10, (s 10)), (11, (s 11)), (12, (s 12)), (13, (s 13)), (78, x2)]) (looko ([11].map fun n => (n, o n)))) (fun st => (seqK (fun st => wpB C I R_c3 st (seqK (fun st => wpB C I R_c17 st Q) Q)) (seqK (fun st => wpB C I R_c17 st Q) Q)) .normal (St.trim st [4] (some [])))))
 (wpB C I R_c17 (St.mk (look [(0, (s 0)), (5, (s 5)), (8, (s 8)), (9, (s 9)), (10, (s 10)), (11, (s 11)), (12, (s 12)), (13, (s 13)), (74, x1)]) (looko ([5, 8, 11].map fun n => (n, o n)))) Q))) := rfl
@[instance] theorem g_law08_TreeJoins_c18_u : UnfAt (wpB C I g_law08_TreeJoins.c18 (St.mk s o) Q) g_law08_TreeJoins_c18_sh := Unf.of _
theorem g_law08_TreeJoins_c19_sh : wpB C I (.seq (.seq (.region [0, 5, 8, 9, 10, 11, 12, 13, 67] (some [5, 8, 11]) none
     [⟨some 60, .faddr 0 (.t 5), [], [], none, none⟩,
      ⟨some 61, .load none (.t 60), [], [], none, none⟩,
      ⟨some 62, .len (.t 61), [], [], none, none⟩,
      ⟨some 63, .faddr 0 (.t 8), [], [], none, none⟩,
      ⟨some 64, .load none (.t 63), [], [], none, none⟩,
      ⟨some 65, .len (.t 64), [], [], none, none⟩,
      ⟨some 66, .bin .add (.t 62) (.t 65), [], [], none, none⟩,
      ⟨some 67, .bin .gtr (.t 66) (.c (.d (.int .i64 60))), [], [], none, none⟩])
  (.cond (.t 67) (.seq (.region [4] (some []) none
       (⟨some 68, .mv (.t 13), [], [], none, none⟩ ::
        ⟨some 69, .bin .eql (.t 68) (.c (.d (.int .i64 9))), [], [], none, none⟩ ::
        ⟨some 70, .mv (.t 69), [], [], none, (some ([70], (some [])))⟩ ::
        R_o4))
    (R_c2))
   (.skip)))
 (R_c18)) (St.mk s o) Q =
 (demand (faddrV 0 (s 5)) (fun x1 =>
demand (loadV o none x1) (fun x2 =>
demand (lenV o x2) (fun x3 =>
demand (faddrV 0 (s 8)) (fun x4 =>
demand (loadV o none x4) (fun x5 =>
demand (lenV o x5) (fun x6 =>
demand (binV BinOp.add x3 x6) (fun x7 =>
demand (binV BinOp.gtr x7 (V.d (.int .i64 60))) (fun x8 =>
condK x8
 (demand (binV BinOp.eql (s 13) (V.d (.int .i64 9))) (fun x9 =>
opsB C I R_o4 (St.mk (look [(70, x9)]) (looko ([].map fun n => (n, o n)))) (fun st => (seqK (fun st => wpB C I R_c2 st (seqK (fun st => wpB C I R_c18 st Q) Q)) (seqK (fun st => wpB C I R_c18 st Q) Q)) .normal (St.trim st [4] (some [])))))
 (wpB C I R_c18 (St.mk (look [(0, (s 0)), (5, (s 5)), (8, (s 8)), (9, (s 9)), (10, (s 10)), (11, (s 11)), (12, (s 12)), (13, (s 13)), (67, x8)]) (looko ([5, 8, 11].map fun n => (n, o n)))) Q)))))))))) := rfl
@[instance] theorem g_law08_TreeJoins_c19_u : UnfAt (wpB C I g_law08_TreeJoins.c19 (St.mk s o) Q) g_law08_TreeJoins_c19_sh := Unf.of _
theorem g_law08_TreeJoins_c20_sh : wpB C I (.seq (.seq (.region [0, 5, 8, 9, 10, 11, 12, 13, 52] (some [5, 8, 11]) none
     [⟨some 51, .mv (.t 7), [], [], none, none⟩,
      ⟨some 52, .bin .neq (.t 51) (.c (.d (.int .i64 0))), [], [], none, none⟩])
  (.cond (.t 52) (.seq (.region [4] (some []) none
       (⟨some 53, .faddr 0 (.t 5), [], [], none, none⟩ ::
        ⟨some 54, .load none (.t 53), [], [], none, none⟩ ::
        ⟨some 55, .len (.t 54), [], [], none, none⟩ ::
        ⟨some 56, .bin .eql (.t 55) (.c (.d (.int .i64 0))), [], [], none, none⟩ ::
        ⟨some 57, .mv (.t 56), [], [], none, (some ([57], (some [])))⟩ ::
        R_o2))
    (R_c1))
   (.skip)))
 (R_c19)) (St.mk s o) Q =
 (demand (binV BinOp.neq (s 7) (V.d (.int .i64 0))) (fun x1 =>
condK x1
 (demand (faddrV 0 (s 5)) (fun x2 =>
demand (loadV (looko ([5, 8, 11].map fun n => (n, o n))) none x2) (fun x3 =>
demand (lenV (looko ([5, 8, 11].map fun n => (n, o n))) x3) (fun x4 =>
demand (binV BinOp.eql x4 (V.d (.int .i64 0))) (fun x5 =>
opsB C I R_o2 (St.mk (look [(57, x5)]) (looko ([].map fun n => (n, o n)))) (fun st => (seqK (fun st => wpB C I R_c1 st (seqK (fun st => wpB C I R_c19 st Q) Q)) (seqK (fun st => wpB C I R_c19 st Q) Q)) .normal (St.trim st [4] (some []))))))))
 (wpB C I R_c19 (St.mk (look [(0, (s 0)), (5, (s 5)), (8, (s 8)), (9, (s 9)), (10, (s 10)), (11, (s 11)), (12, (s 12)), (13, (s 13)), (52, x1)]) (looko ([5, 8, 11].map fun n => (n, o n)))) Q))) := rfl
@[instance] theorem g_law08_TreeJoins_c20_u : UnfAt (wpB C I g_law08_TreeJoins.c20 (St.mk s o) Q) g_law08_TreeJoins_c20_sh := Unf.of _
theorem g_law08_TreeJoins_c21_sh : wpB C I (.seq (.region [0, 5, 7, 8, 9, 10, 11, 12, 13] (some [5, 8, 11]) none
    [⟨some 43, .mv (.t 0), [], [], none, none⟩,
     ⟨some 44, .bin .add (.t 43) (.c (.d (.str [10]))), [], [], none, none⟩,
     ⟨some 45, .mv (.t 1), [], [], none, none⟩,
     ⟨some 46, .bin .add (.t 44) (.t 45), [], [], none, none⟩,
     ⟨some 47, .call 144 [(.t 46)], [], [], none, none⟩,
     ⟨some 42, .mv (.t 47), [], [], none, none⟩,
     ⟨some 48, .ext (.t 42) 0, [], [], none, none⟩,
     ⟨some 49, .ext (.t 42) 1, [], [], none, none⟩,
     ⟨some 50, .ext (.t 42) 2, [], [], none, none⟩,
     ⟨some 11, .alloc 11 [.cap0, .cap0], [], [], none, none⟩,
     ⟨none, .store 2 (.t 11) (.t 48), [], [], none, none⟩,
     ⟨some 12, .mv (.t 49), [], [], none, none⟩,
     ⟨some 13, .mv (.t 50), [], [], none, none⟩])
 (R_c20)) (St.mk s o) Q =
 (demand (binV BinOp.add (s 0) (V.d (.str [10]))) (fun x1 =>
demand (binV BinOp.add x1 (s 1)) (fun x2 =>
callK C I (St.mk (upd (upd (upd (upd s 43 (s 0)) 44 x1) 45 (s 1)) 46 x2) o) (some 47) 144 [x2] (fun r3 or3 =>
demand (extV r3 0) (fun x4 =>
demand (extV r3 1) (fun x5 =>
demand (extV r3 2) (fun x6 =>
(¬ I 11 ∧ Fresh (St.mk (upd (upd (upd (upd (upd (upd (upd (upd (upd s 43 (s 0)) 44 x1) 45 (s 1)) 46 x2) 47 r3) 42 r3) 48 x4) 49 x5) 50 x6) or3) 11 (some 11) ∧ V.refsL 11 [V.cap0, V.cap0] = false ∧
storeK (V.ptr 11 0) (cellsV x4) 2 (upd or3 11 (some (Ob.box [V.cap0, V.cap0]))) (fun m7 ob8 =>
wpB C I R_c20 (St.mk (look [(0, (s 0)), (5, (s 5)), (7, (s 7)), (8, (s 8)), (9, (s 9)), (10, (s 10)), (11, (V.ptr 11 0)), (12, x5), (13, x6)]) (looko ([5, 8, 11].map fun n => (n, (upd (upd or3 11 (some (Ob.box [V.cap0, V.cap0]))) m7 (some ob8)) n)))) Q))))))))) := rfl
@[instance] theorem g_law08_TreeJoins_c21_u : UnfAt (wpB C I g_law08_TreeJoins.c21 (St.mk s o) Q) g_law08_TreeJoins_c21_sh := Unf.of _
theorem g_law08_TreeJoins_c22_sh : wpB C I (.seq (.region [0, 1, 5, 7, 8, 9, 10] (some [5, 8]) none
    [⟨some 37, .mv (.t 1), [], [], none, none⟩,
     ⟨some 38, .call 144 [(.t 37)], [], [], none, none⟩,
     ⟨some 36, .mv (.t 38), [], [], none, none⟩,
     ⟨some 39, .ext (.t 36) 0, [], [], none, none⟩,
     ⟨some 40, .ext (.t 36) 1, [], [], none, none⟩,
     ⟨some 41, .ext (.t 36) 2, [], [], none, none⟩,
     ⟨some 8, .alloc 8 [.cap0, .cap0], [], [], none, none⟩,
     ⟨none, .store 2 (.t 8) (.t 39), [], [], none, none⟩,
     ⟨some 9, .mv (.t 40), [], [], none, none⟩,
     ⟨some 10, .mv (.t 41), [], [], none, none⟩])
 (R_c21)) (St.mk s o) Q =
 (callK C I (St.mk (upd s 37 (s 1)) o) (some 38) 144 [(s 1)] (fun r1 or1 =>
demand (extV r1 0) (fun x2 =>
demand (extV r1 1) (fun x3 =>
demand (extV r1 2) (fun x4 =>
(¬ I 8 ∧ Fresh (St.mk (upd (upd (upd (upd (upd (upd s 37 (s 1)) 38 r1) 36 r1) 39 x2) 40 x3) 41 x4) or1) 8 (some 8) ∧ V.refsL 8 [V.cap0, V.cap0] = false ∧
storeK (V.ptr 8 0) (cellsV x2) 2 (upd or1 8 (some (Ob.box [V.cap0, V.cap0]))) (fun m5 ob6 =>
wpB C I R_c21 (St.mk (look [(0, (s 0)), (1, (s 1)), (5, (s 5)), (7, (s 7)), (8, (V.ptr 8 0)), (9, x3), (10, x4)]) (looko ([5, 8].map fun n => (n, (upd (upd or1 8 (some (Ob.box [V.cap0, V.cap0]))) m5 (some ob6)) n)))) Q))))))) := rfl
@[instance] theorem g_law08_TreeJoins_c22_u : UnfAt (wpB C I g_law08_TreeJoins.c22 (St.mk s o) Q) g_law08_TreeJoins_c22_sh := Unf.of _
theorem g_law08_TreeJoins_c23_sh : wpB C I (.seq (.region [0, 1, 5, 7] (some [5]) none
    [⟨some 31, .mv (.t 0), [], [], none, none⟩,
     ⟨some 32, .call 144 [(.t 31)], [], [], none, none⟩,
     ⟨some 30, .mv (.t 32), [], [], none, none⟩,
     ⟨some 33, .ext (.t 30) 0, [], [], none, none⟩,
     ⟨some 34, .ext (.t 30) 1, [], [], none, none⟩,
     ⟨some 35, .ext (.t 30) 2, [], [], none, none⟩,
     ⟨some 5, .alloc 5 [.cap0, .cap0], [], [], none, none⟩,
     ⟨none, .store 2 (.t 5) (.t 33), [], [], none, none⟩,
     ⟨some 6, .mv (.t 34), [], [], none, none⟩,
     ⟨some 7, .mv (.t 35), [], [], none, none⟩])
 (R_c22)) (St.mk s o) Q =
 (callK C I (St.mk (upd s 31 (s 0)) o) (some 32) 144 [(s 0)] (fun r1 or1 =>
demand (extV r1 0) (fun x2 =>
demand (extV r1 1) (fun x3 =>
demand (extV r1 2) (fun x4 =>
(¬ I 5 ∧ Fresh (St.mk (upd (upd (upd (upd (upd (upd s 31 (s 0)) 32 r1) 30 r1) 33 x2) 34 x3) 35 x4) or1) 5 (some 5) ∧ V.refsL 5 [V.cap0, V.cap0] = false ∧
storeK (V.ptr 5 0) (cellsV x2) 2 (upd or1 5 (some (Ob.box [V.cap0, V.cap0]))) (fun m5 ob6 =>
wpB C I R_c22 (St.mk (look [(0, (s 0)), (1, (s 1)), (5, (V.ptr 5 0)), (7, x4)]) (looko ([5].map fun n => (n, (upd (upd or1 5 (some (Ob.box [V.cap0, V.cap0]))) m5 (some ob6)) n)))) Q))))))) := rfl
@[instance] theorem g_law08_TreeJoins_c23_u : UnfAt (wpB C I g_law08_TreeJoins.c23 (St.mk s o) Q) g_law08_TreeJoins_c23_sh := Unf.of _
theorem g_law08_TreeJoins_code_sh : wpB C I (.seq (.region [0, 1] (some []) none
    [⟨some 4, .mv (.c (.d (.bool false))), [], [], none, none⟩])
 (.seq (.seq (.region [0, 1, 28] (some []) none
      (⟨some 21, .mv (.t 0), [], [], none, none⟩ ::
       ⟨some 22, .lenS (.t 21), [], [], none, none⟩ ::
       ⟨some 23, .bin .gtr (.t 22) (.c (.d (.int .i64 300))), [], [], none, none⟩ ::
       ⟨some 24, .mv (.t 23), [], [], none, (some ([0, 1, 24], (some [])))⟩ ::
       R_o0))
   (R_c0))
  (R_c23))) (St.mk s o) Q =
 (demand (lenSV (s 0)) (fun x1 =>
demand (binV BinOp.gtr x1 (V.d (.int .i64 300))) (fun x2 =>
opsB C I R_o0 (St.mk (look [(0, (s 0)), (1, (s 1)), (24, x2)]) (looko ([].map fun n => (n, o n)))) (fun st => (seqK (fun st => wpB C I R_c0 st (seqK (fun st => wpB C I R_c23 st Q) Q)) (seqK (fun st => wpB C I R_c23 st Q) Q)) .normal (St.trim st [0, 1, 28] (some [])))))) := rfl
@[instance] theorem g_law08_TreeJoins_code_u : UnfAt (wpB C I g_law08_TreeJoins.code (St.mk s o) Q) g_law08_TreeJoins_code_sh := Unf.of _

end Pay
