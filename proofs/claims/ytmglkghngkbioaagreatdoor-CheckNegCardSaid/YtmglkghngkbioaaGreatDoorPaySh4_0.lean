/- What the code of the functions comes to, without slots: an equation for each part; no condition. -/
import Derived.Test.YtmglkghngkbioaaGreatDoorPayBb0
import Derived.Test.YtmglkghngkbioaaGreatDoorPayCode4_0
set_option maxRecDepth 20000
set_option maxHeartbeats 400000
set_option linter.unusedVariables false
namespace Pay
open Go
variable {R_c0 R_c1 R_c2 R_c3 R_c4 R_c5 R_c6 R_c7 R_c8 R_c9 R_c10 : ACode} {R_o0 R_o1 R_o2 R_o3 R_o4 R_o5 R_o6 R_o7 R_o8 R_o9 R_o10 R_o11 R_o12 R_o13 R_o14 R_o15 R_o16 R_o17 R_o18 R_o19 R_o20 R_o21 R_o22 R_o23 R_o24 R_o25 R_o26 R_o27 : List AOper} {C : Ctx} {I : Nat → Prop} {s : Nat → V} {o : Nat → Option Ob} {K : St → Prop} {Q : Ex → St → Prop}
theorem g_law10_CheckNeg_o7_sh : opsB C I (g_law10_CheckNeg.o7) (St.mk s o) K =
 (demand (pickV (s 40) (V.d (.bool true)) (s 45)) (fun x1 =>
K (St.mk (upd s 46 x1) o))) := rfl
@[instance] theorem g_law10_CheckNeg_o7_u : UnfAt (opsB C I g_law10_CheckNeg.o7 (St.mk s o) K) g_law10_CheckNeg_o7_sh := Unf.of _
theorem g_law10_CheckNeg_o6_sh : opsB C I (g_law10_CheckNeg.o6F R_o7) (St.mk s o) K =
 (guardK (s 40) false
 (demand (faddrV 1 (s 3)) (fun x1 =>
demand (loadV o none x1) (fun x2 =>
demand (lenV o x2) (fun x3 =>
demand (binV BinOp.geq (s 1) x3) (fun x4 =>
opsB C I R_o7 (St.mk (look [(1, s 1), (2, s 2), (3, s 3), (40, (V.d (D.bool false))), (45, x4)]) (looko ([3].map fun n => (n, o n)))) K)))))
 (opsB C I R_o7 (St.mk (look [(1, s 1), (2, s 2), (3, s 3), (40, (V.d (D.bool true))), (45, (V.tup []))]) (looko ([3].map fun n => (n, o n)))) K)
 (opsB C I R_o7 (St.mk (look [(1, s 1), (2, s 2), (3, s 3), (40, (V.tup [])), (45, (V.tup []))]) (looko ([3].map fun n => (n, o n)))) K)) := rfl
@[instance] theorem g_law10_CheckNeg_o6_u : UnfAt (opsB C I g_law10_CheckNeg.o6 (St.mk s o) K) g_law10_CheckNeg_o6_sh := Unf.of _
theorem g_law10_CheckNeg_o5_sh : opsB C I (g_law10_CheckNeg.o5F R_o6) (St.mk s o) K =
 (demand (pickV (s 36) (V.d (.bool true)) (s 38)) (fun x1 =>
opsB C I R_o6 (St.mk (look [(1, s 1), (2, s 2), (3, s 3), (40, x1)]) (looko ([3].map fun n => (n, o n)))) K)) := rfl
@[instance] theorem g_law10_CheckNeg_o5_u : UnfAt (opsB C I g_law10_CheckNeg.o5 (St.mk s o) K) g_law10_CheckNeg_o5_sh := Unf.of _
theorem g_law10_CheckNeg_o4_sh : opsB C I (g_law10_CheckNeg.o4F R_o5) (St.mk s o) K =
 (guardK (s 36) false
 (demand (binV BinOp.lss (s 1) (V.d (.int .i64 0))) (fun x1 =>
opsB C I R_o5 (St.mk (look [(1, s 1), (2, s 2), (3, s 3), (36, (V.d (D.bool false))), (38, x1)]) (looko ([3].map fun n => (n, o n)))) K))
 (opsB C I R_o5 (St.mk (look [(1, s 1), (2, s 2), (3, s 3), (36, (V.d (D.bool true))), (38, (V.tup []))]) (looko ([3].map fun n => (n, o n)))) K)
 (opsB C I R_o5 (St.mk (look [(1, s 1), (2, s 2), (3, s 3), (36, (V.tup [])), (38, (V.tup []))]) (looko ([3].map fun n => (n, o n)))) K)) := rfl
@[instance] theorem g_law10_CheckNeg_o4_u : UnfAt (opsB C I g_law10_CheckNeg.o4 (St.mk s o) K) g_law10_CheckNeg_o4_sh := Unf.of _
theorem g_law10_CheckNeg_o3_sh : opsB C I (g_law10_CheckNeg.o3F R_o4) (St.mk s o) K =
 (demand (pickV (s 31) (V.d (.bool true)) (s 34)) (fun x1 =>
opsB C I R_o4 (St.mk (look [(1, s 1), (2, s 2), (3, s 3), (36, x1)]) (looko ([3].map fun n => (n, o n)))) K)) := rfl
@[instance] theorem g_law10_CheckNeg_o3_u : UnfAt (opsB C I g_law10_CheckNeg.o3 (St.mk s o) K) g_law10_CheckNeg_o3_sh := Unf.of _
theorem g_law10_CheckNeg_o2_sh : opsB C I (g_law10_CheckNeg.o2F R_o3) (St.mk s o) K =
 (guardK (s 31) false
 (demand (lenV o (s 2)) (fun x1 =>
demand (binV BinOp.gtr x1 (V.d (.int .i64 60))) (fun x2 =>
opsB C I R_o3 (St.mk (look [(1, s 1), (2, s 2), (3, s 3), (31, (V.d (D.bool false))), (34, x2)]) (looko ([3].map fun n => (n, o n)))) K)))
 (opsB C I R_o3 (St.mk (look [(1, s 1), (2, s 2), (3, s 3), (31, (V.d (D.bool true))), (34, (V.tup []))]) (looko ([3].map fun n => (n, o n)))) K)
 (opsB C I R_o3 (St.mk (look [(1, s 1), (2, s 2), (3, s 3), (31, (V.tup [])), (34, (V.tup []))]) (looko ([3].map fun n => (n, o n)))) K)) := rfl
@[instance] theorem g_law10_CheckNeg_o2_u : UnfAt (opsB C I g_law10_CheckNeg.o2 (St.mk s o) K) g_law10_CheckNeg_o2_sh := Unf.of _
theorem g_law10_CheckNeg_o1_sh : opsB C I (g_law10_CheckNeg.o1F R_o2) (St.mk s o) K =
 (demand (pickV (s 25) (V.d (.bool true)) (s 29)) (fun x1 =>
opsB C I R_o2 (St.mk (look [(1, s 1), (2, s 2), (3, s 3), (31, x1)]) (looko ([3].map fun n => (n, o n)))) K)) := rfl
@[instance] theorem g_law10_CheckNeg_o1_u : UnfAt (opsB C I g_law10_CheckNeg.o1 (St.mk s o) K) g_law10_CheckNeg_o1_sh := Unf.of _
theorem g_law10_CheckNeg_o0_sh : opsB C I (g_law10_CheckNeg.o0F R_o1) (St.mk s o) K =
 (guardK (s 25) false
 (demand (loadV o (some 2) (s 3)) (fun x1 =>
callK C I (St.mk (upd (upd (upd s 25 (V.d (D.bool false))) 26 x1) 25 (V.d (D.bool false))) o) (some 27) 160 [x1] (fun r2 or2 =>
callK C I (St.mk (upd (upd (upd (upd (upd s 25 (V.d (D.bool false))) 26 x1) 25 (V.d (D.bool false))) 27 r2) 25 (V.d (D.bool false))) or2) (some 28) 161 [r2] (fun r3 or3 =>
demand (unV UnOp.not r3) (fun x4 =>
opsB C I R_o1 (St.mk (look [(1, s 1), (2, s 2), (3, s 3), (25, (V.d (D.bool false))), (29, x4)]) (looko ([3].map fun n => (n, or3 n)))) K)))))
 (opsB C I R_o1 (St.mk (look [(1, s 1), (2, s 2), (3, s 3), (25, (V.d (D.bool true))), (29, (V.tup []))]) (looko ([3].map fun n => (n, o n)))) K)
 (opsB C I R_o1 (St.mk (look [(1, s 1), (2, s 2), (3, s 3), (25, (V.tup [])), (29, (V.tup []))]) (looko ([3].map fun n => (n, o n)))) K)) := rfl
@[instance] theorem g_law10_CheckNeg_o0_u : UnfAt (opsB C I g_law10_CheckNeg.o0 (St.mk s o) K) g_law10_CheckNeg_o0_sh := Unf.of _
theorem g_law10_CheckNeg_c0_sh : wpB C I (g_law10_CheckNeg.c0) (St.mk s o) Q =
 (condK (s 46)
 (callK C I (St.mk s o) (some 47) 162 [] (fun r1 or1 =>
Q .ret (St.mk (look [(6, r1)]) (looko ([].map fun n => (n, or1 n))))))
 (Q .normal (St.mk s o))) := rfl
@[instance] theorem g_law10_CheckNeg_c0_u : UnfAt (wpB C I g_law10_CheckNeg.c0 (St.mk s o) Q) g_law10_CheckNeg_c0_sh := Unf.of _
theorem g_law10_CheckNeg_o9_sh : opsB C I (g_law10_CheckNeg.o9) (St.mk s o) K =
 (demand (pickV (s 60) (s 61) (V.d (.bool false))) (fun x1 =>
K (St.mk (upd (upd s 62 x1) 6 x1) o))) := rfl
@[instance] theorem g_law10_CheckNeg_o9_u : UnfAt (opsB C I g_law10_CheckNeg.o9 (St.mk s o) K) g_law10_CheckNeg_o9_sh := Unf.of _
theorem g_law10_CheckNeg_o8_sh : opsB C I (g_law10_CheckNeg.o8F R_o9) (St.mk s o) K =
 (guardK (s 60) true
 (callK C I (St.mk (upd s 60 (V.d (D.bool true))) o) (some 61) 162 [] (fun r1 or1 =>
opsB C I R_o9 (St.mk (look [(60, (V.d (D.bool true))), (61, r1)]) (looko ([].map fun n => (n, or1 n)))) K))
 (opsB C I R_o9 (St.mk (look [(60, (V.d (D.bool false))), (61, (V.tup []))]) (looko ([].map fun n => (n, o n)))) K)
 (opsB C I R_o9 (St.mk (look [(60, (V.tup [])), (61, (V.tup []))]) (looko ([].map fun n => (n, o n)))) K)) := rfl
@[instance] theorem g_law10_CheckNeg_o8_u : UnfAt (opsB C I g_law10_CheckNeg.o8 (St.mk s o) K) g_law10_CheckNeg_o8_sh := Unf.of _
theorem g_law10_CheckNeg_c1_sh : wpB C I (g_law10_CheckNeg.c1) (St.mk s o) Q =
 (Q .ret (St.mk s o)) := rfl
@[instance] theorem g_law10_CheckNeg_c1_u : UnfAt (wpB C I g_law10_CheckNeg.c1 (St.mk s o) Q) g_law10_CheckNeg_c1_sh := Unf.of _
theorem g_law10_CheckNeg_o27_sh : opsB C I (g_law10_CheckNeg.o27) (St.mk s o) K =
 (demand (pickV (s 149) (s 150) (V.d (.bool false))) (fun x1 =>
K (St.mk (upd (upd s 151 x1) 6 x1) o))) := rfl
@[instance] theorem g_law10_CheckNeg_o27_u : UnfAt (opsB C I g_law10_CheckNeg.o27 (St.mk s o) K) g_law10_CheckNeg_o27_sh := Unf.of _
theorem g_law10_CheckNeg_o26_sh : opsB C I (g_law10_CheckNeg.o26F R_o27) (St.mk s o) K =
 (guardK (s 149) true
 (callK C I (St.mk (upd s 149 (V.d (D.bool true))) o) (some 150) 162 [] (fun r1 or1 =>
opsB C I R_o27 (St.mk (look [(149, (V.d (D.bool true))), (150, r1)]) (looko ([].map fun n => (n, or1 n)))) K))
 (opsB C I R_o27 (St.mk (look [(149, (V.d (D.bool false))), (150, (V.tup []))]) (looko ([].map fun n => (n, o n)))) K)
 (opsB C I R_o27 (St.mk (look [(149, (V.tup [])), (150, (V.tup []))]) (looko ([].map fun n => (n, o n)))) K)) := rfl
@[instance] theorem g_law10_CheckNeg_o26_u : UnfAt (opsB C I g_law10_CheckNeg.o26 (St.mk s o) K) g_law10_CheckNeg_o26_sh := Unf.of _
theorem g_law10_CheckNeg_o25_sh : opsB C I (g_law10_CheckNeg.o25F R_o26) (St.mk s o) K =
 (demand (pickV (s 145) (s 147) (V.d (.bool false))) (fun x1 =>
opsB C I R_o26 (St.mk (look [(149, x1)]) (looko ([].map fun n => (n, o n)))) K)) := rfl
@[instance] theorem g_law10_CheckNeg_o25_u : UnfAt (opsB C I g_law10_CheckNeg.o25 (St.mk s o) K) g_law10_CheckNeg_o25_sh := Unf.of _
theorem g_law10_CheckNeg_o24_sh : opsB C I (g_law10_CheckNeg.o24F R_o25) (St.mk s o) K =
 (guardK (s 145) true
 (demand (binV BinOp.eql (s 20) (V.d (.int .i64 0))) (fun x1 =>
opsB C I R_o25 (St.mk (look [(145, (V.d (D.bool true))), (147, x1)]) (looko ([].map fun n => (n, o n)))) K))
 (opsB C I R_o25 (St.mk (look [(145, (V.d (D.bool false))), (147, (V.tup []))]) (looko ([].map fun n => (n, o n)))) K)
 (opsB C I R_o25 (St.mk (look [(145, (V.tup [])), (147, (V.tup []))]) (looko ([].map fun n => (n, o n)))) K)) := rfl
@[instance] theorem g_law10_CheckNeg_o24_u : UnfAt (opsB C I g_law10_CheckNeg.o24 (St.mk s o) K) g_law10_CheckNeg_o24_sh := Unf.of _
theorem g_law10_CheckNeg_o23_sh : opsB C I (g_law10_CheckNeg.o23F R_o24) (St.mk s o) K =
 (demand (pickV (s 141) (s 143) (V.d (.bool false))) (fun x1 =>
opsB C I R_o24 (St.mk (look [(20, s 20), (145, x1)]) (looko ([].map fun n => (n, o n)))) K)) := rfl
@[instance] theorem g_law10_CheckNeg_o23_u : UnfAt (opsB C I g_law10_CheckNeg.o23 (St.mk s o) K) g_law10_CheckNeg_o23_sh := Unf.of _
theorem g_law10_CheckNeg_o22_sh : opsB C I (g_law10_CheckNeg.o22F R_o23) (St.mk s o) K =
 (guardK (s 141) true
 (demand (binV BinOp.eql (s 18) (V.d (.int .i64 4))) (fun x1 =>
opsB C I R_o23 (St.mk (look [(20, s 20), (141, (V.d (D.bool true))), (143, x1)]) (looko ([].map fun n => (n, o n)))) K))
 (opsB C I R_o23 (St.mk (look [(20, s 20), (141, (V.d (D.bool false))), (143, (V.tup []))]) (looko ([].map fun n => (n, o n)))) K)
 (opsB C I R_o23 (St.mk (look [(20, s 20), (141, (V.tup [])), (143, (V.tup []))]) (looko ([].map fun n => (n, o n)))) K)) := rfl
@[instance] theorem g_law10_CheckNeg_o22_u : UnfAt (opsB C I g_law10_CheckNeg.o22 (St.mk s o) K) g_law10_CheckNeg_o22_sh := Unf.of _
theorem g_law10_CheckNeg_o21_sh : opsB C I (g_law10_CheckNeg.o21F R_o22) (St.mk s o) K =
 (demand (pickV (s 132) (s 139) (V.d (.bool false))) (fun x1 =>
opsB C I R_o22 (St.mk (look [(18, s 18), (20, s 20), (141, x1)]) (looko ([].map fun n => (n, o n)))) K)) := rfl
@[instance] theorem g_law10_CheckNeg_o21_u : UnfAt (opsB C I g_law10_CheckNeg.o21 (St.mk s o) K) g_law10_CheckNeg_o21_sh := Unf.of _
theorem g_law10_CheckNeg_o20_sh : opsB C I (g_law10_CheckNeg.o20F R_o21) (St.mk s o) K =
 (guardK (s 132) true
 (demand (pickV (s 135) (V.d (.bool true)) (s 138)) (fun x1 =>
opsB C I R_o21 (St.mk (look [(18, s 18), (20, s 20), (132, (V.d (D.bool true))), (139, x1)]) (looko ([].map fun n => (n, o n)))) K))
 (opsB C I R_o21 (St.mk (look [(18, s 18), (20, s 20), (132, (V.d (D.bool false))), (139, (V.tup []))]) (looko ([].map fun n => (n, o n)))) K)
 (opsB C I R_o21 (St.mk (look [(18, s 18), (20, s 20), (132, (V.tup [])), (139, (V.tup []))]) (looko ([].map fun n => (n, o n)))) K)) := rfl
@[instance] theorem g_law10_CheckNeg_o20_u : UnfAt (opsB C I g_law10_CheckNeg.o20 (St.mk s o) K) g_law10_CheckNeg_o20_sh := Unf.of _
theorem g_law10_CheckNeg_o19_sh : opsB C I (g_law10_CheckNeg.o19F R_o20) (St.mk s o) K =
 (guardK (s 135) false
 (demand (binV BinOp.eql (s 15) (s 7)) (fun x1 =>
opsB C I R_o20 (St.mk (look [(18, s 18), (20, s 20), (132, s 132), (135, (V.d (D.bool false))), (138, x1)]) (looko ([].map fun n => (n, o n)))) K))
 (opsB C I R_o20 (St.mk (look [(18, s 18), (20, s 20), (132, s 132), (135, (V.d (D.bool true))), (138, (V.tup []))]) (looko ([].map fun n => (n, o n)))) K)
 (opsB C I R_o20 (St.mk (look [(18, s 18), (20, s 20), (132, s 132), (135, (V.tup [])), (138, (V.tup []))]) (looko ([].map fun n => (n, o n)))) K)) := rfl
@[instance] theorem g_law10_CheckNeg_o19_u : UnfAt (opsB C I g_law10_CheckNeg.o19 (St.mk s o) K) g_law10_CheckNeg_o19_sh := Unf.of _
theorem g_law10_CheckNeg_o18_sh : opsB C I (g_law10_CheckNeg.o18F R_o19) (St.mk s o) K =
 (guardK (s 132) true
 (demand (binV BinOp.neq (s 17) (V.d (.int .i64 0))) (fun x1 =>
opsB C I R_o19 (St.mk (look [(7, s 7), (15, s 15), (18, s 18), (20, s 20), (132, (V.d (D.bool true))), (135, x1)]) (looko ([].map fun n => (n, o n)))) K))
 (opsB C I R_o19 (St.mk (look [(7, s 7), (15, s 15), (18, s 18), (20, s 20), (132, (V.d (D.bool false))), (135, (V.tup []))]) (looko ([].map fun n => (n, o n)))) K)
 (opsB C I R_o19 (St.mk (look [(7, s 7), (15, s 15), (18, s 18), (20, s 20), (132, (V.tup [])), (135, (V.tup []))]) (looko ([].map fun n => (n, o n)))) K)) := rfl
@[instance] theorem g_law10_CheckNeg_o18_u : UnfAt (opsB C I g_law10_CheckNeg.o18 (St.mk s o) K) g_law10_CheckNeg_o18_sh := Unf.of _
theorem g_law10_CheckNeg_o17_sh : opsB C I (g_law10_CheckNeg.o17F R_o18) (St.mk s o) K =
 (demand (pickV (s 125) (s 130) (V.d (.bool false))) (fun x1 =>
opsB C I R_o18 (St.mk (look [(7, s 7), (15, s 15), (17, s 17), (18, s 18), (20, s 20), (132, x1)]) (looko ([].map fun n => (n, o n)))) K)) := rfl
@[instance] theorem g_law10_CheckNeg_o17_u : UnfAt (opsB C I g_law10_CheckNeg.o17 (St.mk s o) K) g_law10_CheckNeg_o17_sh := Unf.of _
theorem g_law10_CheckNeg_o16_sh : opsB C I (g_law10_CheckNeg.o16F R_o17) (St.mk s o) K =
 (guardK (s 125) true
 (demand (binV BinOp.eql (s 17) (V.d (.int .i64 0))) (fun x1 =>
demand (binV BinOp.neq (s 7) (V.d (.int .i64 4))) (fun x2 =>
demand (beqV false x1 x2) (fun x3 =>
opsB C I R_o17 (St.mk (look [(7, s 7), (15, s 15), (17, s 17), (18, s 18), (20, s 20), (125, (V.d (D.bool true))), (130, x3)]) (looko ([].map fun n => (n, o n)))) K))))
 (opsB C I R_o17 (St.mk (look [(7, s 7), (15, s 15), (17, s 17), (18, s 18), (20, s 20), (125, (V.d (D.bool false))), (130, (V.tup []))]) (looko ([].map fun n => (n, o n)))) K)
 (opsB C I R_o17 (St.mk (look [(7, s 7), (15, s 15), (17, s 17), (18, s 18), (20, s 20), (125, (V.tup [])), (130, (V.tup []))]) (looko ([].map fun n => (n, o n)))) K)) := rfl
@[instance] theorem g_law10_CheckNeg_o16_u : UnfAt (opsB C I g_law10_CheckNeg.o16 (St.mk s o) K) g_law10_CheckNeg_o16_sh := Unf.of _
theorem g_law10_CheckNeg_o15_sh : opsB C I (g_law10_CheckNeg.o15F R_o16) (St.mk s o) K =
 (demand (pickV (s 116) (s 123) (V.d (.bool false))) (fun x1 =>
opsB C I R_o16 (St.mk (look [(7, s 7), (15, s 15), (17, s 17), (18, s 18), (20, s 20), (125, x1)]) (looko ([].map fun n => (n, o n)))) K)) := rfl
@[instance] theorem g_law10_CheckNeg_o15_u : UnfAt (opsB C I g_law10_CheckNeg.o15 (St.mk s o) K) g_law10_CheckNeg_o15_sh := Unf.of _
theorem g_law10_CheckNeg_o14_sh : opsB C I (g_law10_CheckNeg.o14F R_o15) (St.mk s o) K =
 (guardK (s 116) true
 (demand (pickV (s 119) (V.d (.bool true)) (s 122)) (fun x1 =>
opsB C I R_o15 (St.mk (look [(7, s 7), (15, s 15), (17, s 17), (18, s 18), (20, s 20), (116, (V.d (D.bool true))), (123, x1)]) (looko ([].map fun n => (n, o n)))) K))
 (opsB C I R_o15 (St.mk (look [(7, s 7), (15, s 15), (17, s 17), (18, s 18), (20, s 20), (116, (V.d (D.bool false))), (123, (V.tup []))]) (looko ([].map fun n => (n, o n)))) K)
 (opsB C I R_o15 (St.mk (look [(7, s 7), (15, s 15), (17, s 17), (18, s 18), (20, s 20), (116, (V.tup [])), (123, (V.tup []))]) (looko ([].map fun n => (n, o n)))) K)) := rfl
@[instance] theorem g_law10_CheckNeg_o14_u : UnfAt (opsB C I g_law10_CheckNeg.o14 (St.mk s o) K) g_law10_CheckNeg_o14_sh := Unf.of _
theorem g_law10_CheckNeg_o13_sh : opsB C I (g_law10_CheckNeg.o13F R_o14) (St.mk s o) K =
 (guardK (s 119) false
 (demand (binV BinOp.eql (s 12) (s 7)) (fun x1 =>
opsB C I R_o14 (St.mk (look [(7, s 7), (15, s 15), (17, s 17), (18, s 18), (20, s 20), (116, s 116), (119, (V.d (D.bool false))), (122, x1)]) (looko ([].map fun n => (n, o n)))) K))
 (opsB C I R_o14 (St.mk (look [(7, s 7), (15, s 15), (17, s 17), (18, s 18), (20, s 20), (116, s 116), (119, (V.d (D.bool true))), (122, (V.tup []))]) (looko ([].map fun n => (n, o n)))) K)
 (opsB C I R_o14 (St.mk (look [(7, s 7), (15, s 15), (17, s 17), (18, s 18), (20, s 20), (116, s 116), (119, (V.tup [])), (122, (V.tup []))]) (looko ([].map fun n => (n, o n)))) K)) := rfl
@[instance] theorem g_law10_CheckNeg_o13_u : UnfAt (opsB C I g_law10_CheckNeg.o13 (St.mk s o) K) g_law10_CheckNeg_o13_sh := Unf.of _
theorem g_law10_CheckNeg_o12_sh : opsB C I (g_law10_CheckNeg.o12F R_o13) (St.mk s o) K =
 (guardK (s 116) true
 (demand (binV BinOp.neq (s 14) (V.d (.int .i64 0))) (fun x1 =>
opsB C I R_o13 (St.mk (look [(7, s 7), (12, s 12), (15, s 15), (17, s 17), (18, s 18), (20, s 20), (116, (V.d (D.bool true))), (119, x1)]) (looko ([].map fun n => (n, o n)))) K))
 (opsB C I R_o13 (St.mk (look [(7, s 7), (12, s 12), (15, s 15), (17, s 17), (18, s 18), (20, s 20), (116, (V.d (D.bool false))), (119, (V.tup []))]) (looko ([].map fun n => (n, o n)))) K)
 (opsB C I R_o13 (St.mk (look [(7, s 7), (12, s 12), (15, s 15), (17, s 17), (18, s 18), (20, s 20), (116, (V.tup [])), (119, (V.tup []))]) (looko ([].map fun n => (n, o n)))) K)) := rfl
@[instance] theorem g_law10_CheckNeg_o12_u : UnfAt (opsB C I g_law10_CheckNeg.o12 (St.mk s o) K) g_law10_CheckNeg_o12_sh := Unf.of _
theorem g_law10_CheckNeg_o11_sh : opsB C I (g_law10_CheckNeg.o11F R_o12) (St.mk s o) K =
 (demand (pickV (s 111) (V.d (.bool true)) (s 113)) (fun x1 =>
demand (beqV false (s 108) x1) (fun x2 =>
opsB C I R_o12 (St.mk (look [(7, s 7), (12, s 12), (14, s 14), (15, s 15), (17, s 17), (18, s 18), (20, s 20), (116, x2)]) (looko ([].map fun n => (n, o n)))) K))) := rfl
@[instance] theorem g_law10_CheckNeg_o11_u : UnfAt (opsB C I g_law10_CheckNeg.o11 (St.mk s o) K) g_law10_CheckNeg_o11_sh := Unf.of _
theorem g_law10_CheckNeg_o10_sh : opsB C I (g_law10_CheckNeg.o10F R_o11) (St.mk s o) K =
 (guardK (s 111) false
 (demand (binV BinOp.eql (s 7) (V.d (.int .i64 3))) (fun x1 =>
opsB C I R_o11 (St.mk (look [(7, s 7), (12, s 12), (14, s 14), (15, s 15), (17, s 17), (18, s 18), (20, s 20), (108, s 108), (111, (V.d (D.bool false))), (113, x1)]) (looko ([].map fun n => (n, o n)))) K))
 (opsB C I R_o11 (St.mk (look [(7, s 7), (12, s 12), (14, s 14), (15, s 15), (17, s 17), (18, s 18), (20, s 20), (108, s 108), (111, (V.d (D.bool true))), (113, (V.tup []))]) (looko ([].map fun n => (n, o n)))) K)
 (opsB C I R_o11 (St.mk (look [(7, s 7), (12, s 12), (14, s 14), (15, s 15), (17, s 17), (18, s 18), (20, s 20), (108, s 108), (111, (V.tup [])), (113, (V.tup []))]) (looko ([].map fun n => (n, o n)))) K)) := rfl
@[instance] theorem g_law10_CheckNeg_o10_u : UnfAt (opsB C I g_law10_CheckNeg.o10 (St.mk s o) K) g_law10_CheckNeg_o10_sh := Unf.of _
theorem g_law10_CheckNeg_c2_sh : wpB C I (g_law10_CheckNeg.c2) (St.mk s o) Q =
 (Q .ret (St.mk s o)) := rfl
@[instance] theorem g_law10_CheckNeg_c2_u : UnfAt (wpB C I g_law10_CheckNeg.c2 (St.mk s o) Q) g_law10_CheckNeg_c2_sh := Unf.of _
theorem g_law10_CheckNeg_c3_sh : wpB C I (g_law10_CheckNeg.c3F R_o10 R_c2) (St.mk s o) Q =
 (demand (binV BinOp.eql (s 14) (V.d (.int .i64 0))) (fun x1 =>
demand (binV BinOp.eql (s 7) (V.d (.int .i64 1))) (fun x2 =>
opsB C I R_o10 (St.mk (look [(7, s 7), (12, s 12), (14, s 14), (15, s 15), (17, s 17), (18, s 18), (20, s 20), (108, x1), (111, x2)]) (looko ([].map fun n => (n, o n)))) (fun st => (seqK (fun st => wpB C I R_c2 st Q) Q) .normal (St.trim st [6] (some [])))))) := rfl
@[instance] theorem g_law10_CheckNeg_c3_u : UnfAt (wpB C I g_law10_CheckNeg.c3 (St.mk s o) Q) g_law10_CheckNeg_c3_sh := Unf.of _
theorem g_law10_CheckNeg_c4_sh : wpB C I (g_law10_CheckNeg.c4F R_c3) (St.mk s o) Q =
 (demand (loadV o (some 2) (s 11)) (fun x1 =>
demand (binV BinOp.add (s 10) (V.d (.int .i64 2))) (fun x2 =>
callK C I (St.mk (upd (upd (upd (upd s 99 x1) 100 (s 10)) 101 x2) 102 (s 2)) o) (some 103) 163 [x1, x2, (s 2)] (fun r3 or3 =>
demand (extV r3 0) (fun x4 =>
demand (extV r3 1) (fun x5 =>
demand (extV r3 2) (fun x6 =>
wpB C I R_c3 (St.mk (look [(7, s 7), (12, s 12), (14, s 14), (15, s 15), (17, s 17), (18, x4), (20, x6)]) (looko ([].map fun n => (n, or3 n)))) Q))))))) := rfl
@[instance] theorem g_law10_CheckNeg_c4_u : UnfAt (wpB C I g_law10_CheckNeg.c4 (St.mk s o) Q) g_law10_CheckNeg_c4_sh := Unf.of _
theorem g_law10_CheckNeg_c5_sh : wpB C I (g_law10_CheckNeg.c5F R_c4) (St.mk s o) Q =
 (demand (loadV o (some 2) (s 11)) (fun x1 =>
demand (binV BinOp.add (s 10) (V.d (.int .i64 1))) (fun x2 =>
callK C I (St.mk (upd (upd (upd (upd s 90 x1) 91 (s 10)) 92 x2) 93 (s 2)) o) (some 94) 163 [x1, x2, (s 2)] (fun r3 or3 =>
demand (extV r3 0) (fun x4 =>
demand (extV r3 1) (fun x5 =>
demand (extV r3 2) (fun x6 =>
wpB C I R_c4 (St.mk (look [(2, s 2), (7, s 7), (10, s 10), (11, s 11), (12, s 12), (14, s 14), (15, x4), (17, x6)]) (looko ([11].map fun n => (n, or3 n)))) Q))))))) := rfl
@[instance] theorem g_law10_CheckNeg_c5_u : UnfAt (wpB C I g_law10_CheckNeg.c5 (St.mk s o) Q) g_law10_CheckNeg_c5_sh := Unf.of _
theorem g_law10_CheckNeg_c6_sh : wpB C I (g_law10_CheckNeg.c6F R_c5) (St.mk s o) Q =
 (demand (loadV o (some 2) (s 11)) (fun x1 =>
callK C I (St.mk (upd (upd (upd s 82 x1) 83 (s 10)) 84 (s 2)) o) (some 85) 163 [x1, (s 10), (s 2)] (fun r2 or2 =>
demand (extV r2 0) (fun x3 =>
demand (extV r2 1) (fun x4 =>
demand (extV r2 2) (fun x5 =>
wpB C I R_c5 (St.mk (look [(2, s 2), (7, s 7), (10, s 10), (11, s 11), (12, x3), (14, x5)]) (looko ([11].map fun n => (n, or2 n)))) Q)))))) := rfl
@[instance] theorem g_law10_CheckNeg_c6_u : UnfAt (wpB C I g_law10_CheckNeg.c6 (St.mk s o) Q) g_law10_CheckNeg_c6_sh := Unf.of _
theorem g_law10_CheckNeg_c7_sh : wpB C I (g_law10_CheckNeg.c7F R_c6) (St.mk s o) Q =
 (demand (faddrV 1 (s 3)) (fun x2 =>
demand (loadV o none x2) (fun x3 =>
lstK (readD o x3) (fun ys4 => (∀ e ∈ ys4, e.length = 6) ∧ appK V.cap0
 (ys4.length * 64 ≤ 140737488355328 ∧ ys4.length ≤ 140737488355328 ∧ ¬ I 69 ∧ Fresh (St.mk (upd (upd (upd s 66 V.cap0) 67 x2) 68 x3) o) 69 (some 69) ∧
demand ((buildN [V.d (.str []), V.d (.str []), V.d (.int .i64 0), V.d (.int .i64 0), V.d (.int .i64 0), V.d (.int .i64 0)] [(0, 1, (V.d (.str [110, 101, 103]))), (3, 1, (s 1))]).map V.agg) (fun x9 =>
demand ((buildN [V.d (.str []), V.d (.str []), V.d (.int .i64 0), V.d (.int .i64 0), V.d (.int .i64 0), V.d (.int .i64 0)] [(0, 1, (V.d (.str [109, 105, 110]))), (3, 1, (s 1)), (4, 1, (s 1))]).map V.agg) (fun x10 =>
demand ((buildN [V.d (.str []), V.d (.str []), V.d (.int .i64 0), V.d (.int .i64 0), V.d (.int .i64 0), V.d (.int .i64 0)] [(0, 1, (V.d (.str [61]))), (3, 1, (s 1)), (4, 1, (s 1))]).map V.agg) (fun x11 =>
lstK (partsN 6 [x9, x10, x11]) (fun es12 =>
lstK (readD (upd o 69 (some (Ob.row 6 ys4))) (V.d (D.sl es12))) (fun ys13 => (∀ e ∈ ys13, e.length = 6) ∧ appK (V.own 69)
 (ys13.length * 64 ≤ 140737488355328 ∧ ys13.length ≤ 140737488355328 ∧
demand ((buildN [V.cap0, V.cap0] [(1, 1, (V.d (D.sl ys13)))]).map V.agg) (fun x18 =>
(¬ I 11 ∧ Fresh (St.mk (upd (upd (upd (upd (upd (upd (upd (upd (upd (upd (upd (upd (upd (upd (upd s 66 V.cap0) 67 x2) 68 x3) 69 (V.own 69)) 70 (s 1)) 71 x9) 72 (s 1)) 73 (s 1)) 74 x10) 75 (s 1)) 76 (s 1)) 77 x11) 78 (V.d (D.sl es12))) 79 (V.d (D.sl ys13))) 80 x18) (upd o 69 (some (Ob.row 6 ys4)))) 11 (some 11) ∧ V.refsL 11 [V.cap0, V.cap0] = false ∧
storeK (V.ptr 11 0) (cellsV x18) 2 (upd (upd o 69 (some (Ob.row 6 ys4))) 11 (some (Ob.box [V.cap0, V.cap0]))) (fun m19 ob20 =>
wpB C I R_c6 (St.mk (look [(2, s 2), (7, s 7), (10, s 10), (11, (V.ptr 11 0))]) (looko ([11].map fun n => (n, (upd (upd (upd o 69 (some (Ob.row 6 ys4))) 11 (some (Ob.box [V.cap0, V.cap0]))) m19 (some ob20)) n)))) Q))))
 (fun m14 => ¬ I m14 ∧ rowK ((upd o 69 (some (Ob.row 6 ys4))) m14) (fun z15 es16 => z15 = 6 ∧ (es16.length + ys13.length) * 64 ≤ 140737488355328 ∧ es16.length + ys13.length ≤ 140737488355328 ∧
freeK (St.mk (upd (fun t => scrubV m14 ((upd (upd (upd (upd (upd (upd (upd (upd (upd (upd (upd (upd (upd s 66 V.cap0) 67 x2) 68 x3) 69 (V.own 69)) 70 (s 1)) 71 x9) 72 (s 1)) 73 (s 1)) 74 x10) 75 (s 1)) 76 (s 1)) 77 x11) 78 (V.d (D.sl es12))) t)) 79 (V.own m14)) (upd (fun n => ((upd o 69 (some (Ob.row 6 ys4))) n).map (Ob.scrub m14)) m14 (some (Ob.row 6 (es16 ++ ys13))))) m14 (fun st17 =>
demand ((buildN [V.cap0, V.cap0] [(1, 1, (st17.s 79))]).map V.agg) (fun x21 =>
(¬ I 11 ∧ Fresh (St.mk (upd st17.s 80 x21) st17.o) 11 (some 11) ∧ V.refsL 11 [V.cap0, V.cap0] = false ∧
storeK (V.ptr 11 0) (cellsV x21) 2 (upd st17.o 11 (some (Ob.box [V.cap0, V.cap0]))) (fun m22 ob23 =>
wpB C I R_c6 (St.mk (look [(2, (st17.s 2)), (7, (st17.s 7)), (10, (st17.s 10)), (11, (V.ptr 11 0))]) (looko ([11].map fun n => (n, (upd (upd st17.o 11 (some (Ob.box [V.cap0, V.cap0]))) m22 (some ob23)) n)))) Q))))))))))))
 (fun m5 => ¬ I m5 ∧ rowK (o m5) (fun z6 es7 => z6 = 6 ∧ (es7.length + ys4.length) * 64 ≤ 140737488355328 ∧ es7.length + ys4.length ≤ 140737488355328 ∧
demand ((buildN [V.d (.str []), V.d (.str []), V.d (.int .i64 0), V.d (.int .i64 0), V.d (.int .i64 0), V.d (.int .i64 0)] [(0, 1, (V.d (.str [110, 101, 103]))), (3, 1, ((fun t => scrubV m5 (s t)) 1))]).map V.agg) (fun x24 =>
demand ((buildN [V.d (.str []), V.d (.str []), V.d (.int .i64 0), V.d (.int .i64 0), V.d (.int .i64 0), V.d (.int .i64 0)] [(0, 1, (V.d (.str [109, 105, 110]))), (3, 1, ((fun t => scrubV m5 (s t)) 1)), (4, 1, ((fun t => scrubV m5 (s t)) 1))]).map V.agg) (fun x25 =>
demand ((buildN [V.d (.str []), V.d (.str []), V.d (.int .i64 0), V.d (.int .i64 0), V.d (.int .i64 0), V.d (.int .i64 0)] [(0, 1, (V.d (.str [61]))), (3, 1, ((fun t => scrubV m5 (s t)) 1)), (4, 1, ((fun t => scrubV m5 (s t)) 1))]).map V.agg) (fun x26 =>
lstK (partsN 6 [x24, x25, x26]) (fun es27 =>
lstK (readD (upd (fun n => (o n).map (Ob.scrub m5)) m5 (some (Ob.row 6 (es7 ++ ys4)))) (V.d (D.sl es27))) (fun ys28 => (∀ e ∈ ys28, e.length = 6) ∧ appK (V.own m5)
 (ys28.length * 64 ≤ 140737488355328 ∧ ys28.length ≤ 140737488355328 ∧
demand ((buildN [V.cap0, V.cap0] [(1, 1, (V.d (D.sl ys28)))]).map V.agg) (fun x33 =>
(¬ I 11 ∧ Fresh (St.mk (upd (upd (upd (upd (upd (upd (upd (upd (upd (upd (upd (upd (fun t => scrubV m5 ((upd (upd (upd s 66 V.cap0) 67 x2) 68 x3) t)) 69 (V.own m5)) 70 ((fun t => scrubV m5 (s t)) 1)) 71 x24) 72 ((fun t => scrubV m5 (s t)) 1)) 73 ((fun t => scrubV m5 (s t)) 1)) 74 x25) 75 ((fun t => scrubV m5 (s t)) 1)) 76 ((fun t => scrubV m5 (s t)) 1)) 77 x26) 78 (V.d (D.sl es27))) 79 (V.d (D.sl ys28))) 80 x33) (upd (fun n => (o n).map (Ob.scrub m5)) m5 (some (Ob.row 6 (es7 ++ ys4))))) 11 (some 11) ∧ V.refsL 11 [V.cap0, V.cap0] = false ∧
storeK (V.ptr 11 0) (cellsV x33) 2 (upd (upd (fun n => (o n).map (Ob.scrub m5)) m5 (some (Ob.row 6 (es7 ++ ys4)))) 11 (some (Ob.box [V.cap0, V.cap0]))) (fun m34 ob35 =>
wpB C I R_c6 (St.mk (look [(2, ((fun t => scrubV m5 (s t)) 2)), (7, ((fun t => scrubV m5 (s t)) 7)), (10, ((fun t => scrubV m5 (s t)) 10)), (11, (V.ptr 11 0))]) (looko ([11].map fun n => (n, (upd (upd (upd (fun n => (o n).map (Ob.scrub m5)) m5 (some (Ob.row 6 (es7 ++ ys4)))) 11 (some (Ob.box [V.cap0, V.cap0]))) m34 (some ob35)) n)))) Q))))
 (fun m29 => ¬ I m29 ∧ rowK ((upd (fun n => (o n).map (Ob.scrub m5)) m5 (some (Ob.row 6 (es7 ++ ys4)))) m29) (fun z30 es31 => z30 = 6 ∧ (es31.length + ys28.length) * 64 ≤ 140737488355328 ∧ es31.length + ys28.length ≤ 140737488355328 ∧
freeK (St.mk (upd (fun t => scrubV m29 ((upd (upd (upd (upd (upd (upd (upd (upd (upd (upd (fun t => scrubV m5 ((upd (upd (upd s 66 V.cap0) 67 x2) 68 x3) t)) 69 (V.own m5)) 70 ((fun t => scrubV m5 (s t)) 1)) 71 x24) 72 ((fun t => scrubV m5 (s t)) 1)) 73 ((fun t => scrubV m5 (s t)) 1)) 74 x25) 75 ((fun t => scrubV m5 (s t)) 1)) 76 ((fun t => scrubV m5 (s t)) 1)) 77 x26) 78 (V.d (D.sl es27))) t)) 79 (V.own m29)) (upd (fun n => ((upd (fun n => (o n).map (Ob.scrub m5)) m5 (some (Ob.row 6 (es7 ++ ys4)))) n).map (Ob.scrub m29)) m29 (some (Ob.row 6 (es31 ++ ys28))))) m29 (fun st32 =>
demand ((buildN [V.cap0, V.cap0] [(1, 1, (st32.s 79))]).map V.agg) (fun x36 =>
(¬ I 11 ∧ Fresh (St.mk (upd st32.s 80 x36) st32.o) 11 (some 11) ∧ V.refsL 11 [V.cap0, V.cap0] = false ∧
storeK (V.ptr 11 0) (cellsV x36) 2 (upd st32.o 11 (some (Ob.box [V.cap0, V.cap0]))) (fun m37 ob38 =>
wpB C I R_c6 (St.mk (look [(2, (st32.s 2)), (7, (st32.s 7)), (10, (st32.s 10)), (11, (V.ptr 11 0))]) (looko ([11].map fun n => (n, (upd (upd st32.o 11 (some (Ob.box [V.cap0, V.cap0]))) m37 (some ob38)) n)))) Q))))))))))))))))) := rfl
@[instance] theorem g_law10_CheckNeg_c7_u : UnfAt (wpB C I g_law10_CheckNeg.c7 (St.mk s o) Q) g_law10_CheckNeg_c7_sh := Unf.of _
theorem g_law10_CheckNeg_c8_sh : wpB C I (g_law10_CheckNeg.c8F R_c7) (St.mk s o) Q =
 (demand (faddrV 1 (s 3)) (fun x1 =>
demand (loadV o none x1) (fun x2 =>
demand (lenV o x2) (fun x3 =>
wpB C I R_c7 (St.mk (look [(1, s 1), (2, s 2), (3, s 3), (7, s 7), (10, x3)]) (looko ([3].map fun n => (n, o n)))) Q)))) := rfl
@[instance] theorem g_law10_CheckNeg_c8_u : UnfAt (wpB C I g_law10_CheckNeg.c8 (St.mk s o) Q) g_law10_CheckNeg_c8_sh := Unf.of _
theorem g_law10_CheckNeg_c9_sh : wpB C I (g_law10_CheckNeg.c9F R_o8 R_c1 R_c8) (St.mk s o) Q =
 (demand (binV BinOp.neq (s 9) (V.d (.int .i64 0))) (fun x1 =>
condK x1
 (demand (binV BinOp.eql (s 7) (V.d (.int .i64 0))) (fun x2 =>
opsB C I R_o8 (St.mk (look [(60, x2)]) (looko ([].map fun n => (n, o n)))) (fun st => (seqK (fun st => wpB C I R_c1 st (seqK (fun st => wpB C I R_c8 st Q) Q)) (seqK (fun st => wpB C I R_c8 st Q) Q)) .normal (St.trim st [6] (some [])))))
 (wpB C I R_c8 (St.mk (look [(1, s 1), (2, s 2), (3, s 3), (7, s 7), (57, x1)]) (looko ([3].map fun n => (n, o n)))) Q))) := rfl
@[instance] theorem g_law10_CheckNeg_c9_u : UnfAt (wpB C I g_law10_CheckNeg.c9 (St.mk s o) Q) g_law10_CheckNeg_c9_sh := Unf.of _
theorem g_law10_CheckNeg_c10_sh : wpB C I (g_law10_CheckNeg.c10F R_c9) (St.mk s o) Q =
 (demand (loadV o (some 2) (s 3)) (fun x1 =>
callK C I (St.mk (upd (upd (upd s 49 x1) 50 (s 1)) 51 (s 2)) o) (some 52) 163 [x1, (s 1), (s 2)] (fun r2 or2 =>
demand (extV r2 0) (fun x3 =>
demand (extV r2 1) (fun x4 =>
demand (extV r2 2) (fun x5 =>
wpB C I R_c9 (St.mk (look [(1, s 1), (2, s 2), (3, s 3), (7, x3), (9, x5)]) (looko ([3].map fun n => (n, or2 n)))) Q)))))) := rfl
@[instance] theorem g_law10_CheckNeg_c10_u : UnfAt (wpB C I g_law10_CheckNeg.c10 (St.mk s o) Q) g_law10_CheckNeg_c10_sh := Unf.of _
theorem g_law10_CheckNeg_code_sh : wpB C I (g_law10_CheckNeg.codeF R_o0 R_c0 R_c10) (St.mk s o) Q =
 (lstK (cellsV (s 0)) (fun c1 => c1.length = 2 ∧ ¬ I 3 ∧ Fresh (St.mk s o) 3 (some 3) ∧ V.refsL 3 c1 = false ∧
demand (faddrV 1 (V.ptr 3 0)) (fun x2 =>
demand (loadV (looko ([3].map fun n => (n, (upd o 3 (some (Ob.box c1))) n))) none x2) (fun x3 =>
demand (lenV (looko ([3].map fun n => (n, (upd o 3 (some (Ob.box c1))) n))) x3) (fun x4 =>
demand (binV BinOp.gtr x4 (V.d (.int .i64 200))) (fun x5 =>
opsB C I R_o0 (St.mk (look [(1, s 1), (2, s 2), (3, (V.ptr 3 0)), (25, x5)]) (looko ([3].map fun n => (n, (upd o 3 (some (Ob.box c1))) n)))) (fun st => (seqK (fun st => wpB C I R_c0 st (seqK (fun st => wpB C I R_c10 st Q) Q)) (seqK (fun st => wpB C I R_c10 st Q) Q)) .normal (St.trim st [1, 2, 3, 46] (some [3]))))))))) := rfl
@[instance] theorem g_law10_CheckNeg_code_u : UnfAt (wpB C I g_law10_CheckNeg.code (St.mk s o) Q) g_law10_CheckNeg_code_sh := Unf.of _

end Pay
