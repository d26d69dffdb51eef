/- What the code of the functions comes to, without slots: an equation for each part; no condition. -/
import Derived.Test.YtmglkghngkbioaaGreatDoorPayBb0
import Derived.Test.YtmglkghngkbioaaGreatDoorPayCode1_0
set_option maxRecDepth 20000
set_option maxHeartbeats 400000
set_option linter.unusedVariables false
namespace Pay
open Go
variable {R_c0 R_c1 R_c2 R_c3 R_c4 R_c5 R_c6 R_c7 R_c8 R_c9 R_c10 R_c11 R_c12 R_c13 R_l0 R_l1 : ACode} {R_o0 R_o1 R_o2 R_o3 R_o4 R_o5 R_o6 R_o7 R_o8 R_o9 : List AOper} {C : Ctx} {I : Nat → Prop} {s : Nat → V} {o : Nat → Option Ob} {K : St → Prop} {Q : Ex → St → Prop}
theorem g_law10_CheckKinds_o3_sh : opsB C I (g_law10_CheckKinds.o3) (St.mk s o) K =
 (demand (pickV (s 23) (V.d (.bool true)) (s 26)) (fun x1 =>
K (St.mk (upd s 27 x1) o))) := rfl
@[instance] theorem g_law10_CheckKinds_o3_u : UnfAt (opsB C I g_law10_CheckKinds.o3 (St.mk s o) K) g_law10_CheckKinds_o3_sh := Unf.of _
theorem g_law10_CheckKinds_o2_sh : opsB C I (g_law10_CheckKinds.o2F R_o3) (St.mk s o) K =
 (guardK (s 23) false
 (demand (lenV o (s 2)) (fun x1 =>
demand (binV BinOp.gtr x1 (V.d (.int .i64 60))) (fun x2 =>
opsB C I R_o3 (St.mk (look [(1, s 1), (2, s 2), (3, s 3), (23, (V.d (D.bool false))), (26, x2)]) (looko ([3].map fun n => (n, o n)))) K)))
 (opsB C I R_o3 (St.mk (look [(1, s 1), (2, s 2), (3, s 3), (23, (V.d (D.bool true))), (26, (V.tup []))]) (looko ([3].map fun n => (n, o n)))) K)
 (opsB C I R_o3 (St.mk (look [(1, s 1), (2, s 2), (3, s 3), (23, (V.tup [])), (26, (V.tup []))]) (looko ([3].map fun n => (n, o n)))) K)) := rfl
@[instance] theorem g_law10_CheckKinds_o2_u : UnfAt (opsB C I g_law10_CheckKinds.o2 (St.mk s o) K) g_law10_CheckKinds_o2_sh := Unf.of _
theorem g_law10_CheckKinds_o1_sh : opsB C I (g_law10_CheckKinds.o1F R_o2) (St.mk s o) K =
 (demand (pickV (s 17) (V.d (.bool true)) (s 21)) (fun x1 =>
opsB C I R_o2 (St.mk (look [(1, s 1), (2, s 2), (3, s 3), (23, x1)]) (looko ([3].map fun n => (n, o n)))) K)) := rfl
@[instance] theorem g_law10_CheckKinds_o1_u : UnfAt (opsB C I g_law10_CheckKinds.o1 (St.mk s o) K) g_law10_CheckKinds_o1_sh := Unf.of _
theorem g_law10_CheckKinds_o0_sh : opsB C I (g_law10_CheckKinds.o0F R_o1) (St.mk s o) K =
 (guardK (s 17) false
 (demand (loadV o (some 2) (s 3)) (fun x1 =>
callK C I (St.mk (upd (upd (upd s 17 (V.d (D.bool false))) 18 x1) 17 (V.d (D.bool false))) o) (some 19) 160 [x1] (fun r2 or2 =>
callK C I (St.mk (upd (upd (upd (upd (upd s 17 (V.d (D.bool false))) 18 x1) 17 (V.d (D.bool false))) 19 r2) 17 (V.d (D.bool false))) or2) (some 20) 161 [r2] (fun r3 or3 =>
demand (unV UnOp.not r3) (fun x4 =>
opsB C I R_o1 (St.mk (look [(1, s 1), (2, s 2), (3, s 3), (17, (V.d (D.bool false))), (21, x4)]) (looko ([3].map fun n => (n, or3 n)))) K)))))
 (opsB C I R_o1 (St.mk (look [(1, s 1), (2, s 2), (3, s 3), (17, (V.d (D.bool true))), (21, (V.tup []))]) (looko ([3].map fun n => (n, o n)))) K)
 (opsB C I R_o1 (St.mk (look [(1, s 1), (2, s 2), (3, s 3), (17, (V.tup [])), (21, (V.tup []))]) (looko ([3].map fun n => (n, o n)))) K)) := rfl
@[instance] theorem g_law10_CheckKinds_o0_u : UnfAt (opsB C I g_law10_CheckKinds.o0 (St.mk s o) K) g_law10_CheckKinds_o0_sh := Unf.of _
theorem g_law10_CheckKinds_c0_sh : wpB C I (g_law10_CheckKinds.c0) (St.mk s o) Q =
 (condK (s 27)
 (callK C I (St.mk s o) (some 28) 162 [] (fun r1 or1 =>
Q .ret (St.mk (look [(6, r1)]) (looko ([].map fun n => (n, or1 n))))))
 (Q .normal (St.mk s o))) := rfl
@[instance] theorem g_law10_CheckKinds_c0_u : UnfAt (wpB C I g_law10_CheckKinds.c0 (St.mk s o) Q) g_law10_CheckKinds_c0_sh := Unf.of _
theorem g_law10_CheckKinds_o9_sh : opsB C I (g_law10_CheckKinds.o9) (St.mk s o) K =
 (demand (pickV (s 60) (s 61) (V.d (.bool false))) (fun x1 =>
K (St.mk (upd (upd s 62 x1) 6 x1) o))) := rfl
@[instance] theorem g_law10_CheckKinds_o9_u : UnfAt (opsB C I g_law10_CheckKinds.o9 (St.mk s o) K) g_law10_CheckKinds_o9_sh := Unf.of _
theorem g_law10_CheckKinds_o8_sh : opsB C I (g_law10_CheckKinds.o8F R_o9) (St.mk s o) K =
 (guardK (s 60) true
 (callK C I (St.mk (upd s 60 (V.d (D.bool true))) o) (some 61) 162 [] (fun r1 or1 =>
opsB C I R_o9 (St.mk (look [(60, (V.d (D.bool true))), (61, r1)]) (looko ([].map fun n => (n, or1 n)))) K))
 (opsB C I R_o9 (St.mk (look [(60, (V.d (D.bool false))), (61, (V.tup []))]) (looko ([].map fun n => (n, o n)))) K)
 (opsB C I R_o9 (St.mk (look [(60, (V.tup [])), (61, (V.tup []))]) (looko ([].map fun n => (n, o n)))) K)) := rfl
@[instance] theorem g_law10_CheckKinds_o8_u : UnfAt (opsB C I g_law10_CheckKinds.o8 (St.mk s o) K) g_law10_CheckKinds_o8_sh := Unf.of _
theorem g_law10_CheckKinds_o7_sh : opsB C I (g_law10_CheckKinds.o7F R_o8) (St.mk s o) K =
 (demand (pickV (s 55) (s 58) (V.d (.bool false))) (fun x1 =>
opsB C I R_o8 (St.mk (look [(60, x1)]) (looko ([].map fun n => (n, o n)))) K)) := rfl
@[instance] theorem g_law10_CheckKinds_o7_u : UnfAt (opsB C I g_law10_CheckKinds.o7 (St.mk s o) K) g_law10_CheckKinds_o7_sh := Unf.of _
theorem g_law10_CheckKinds_o6_sh : opsB C I (g_law10_CheckKinds.o6F R_o7) (St.mk s o) K =
 (guardK (s 55) true
 (demand (binV BinOp.eql (s 9) (s 12)) (fun x1 =>
opsB C I R_o7 (St.mk (look [(55, (V.d (D.bool true))), (58, x1)]) (looko ([].map fun n => (n, o n)))) K))
 (opsB C I R_o7 (St.mk (look [(55, (V.d (D.bool false))), (58, (V.tup []))]) (looko ([].map fun n => (n, o n)))) K)
 (opsB C I R_o7 (St.mk (look [(55, (V.tup [])), (58, (V.tup []))]) (looko ([].map fun n => (n, o n)))) K)) := rfl
@[instance] theorem g_law10_CheckKinds_o6_u : UnfAt (opsB C I g_law10_CheckKinds.o6 (St.mk s o) K) g_law10_CheckKinds_o6_sh := Unf.of _
theorem g_law10_CheckKinds_o5_sh : opsB C I (g_law10_CheckKinds.o5F R_o6) (St.mk s o) K =
 (demand (pickV (s 50) (s 53) (V.d (.bool false))) (fun x1 =>
opsB C I R_o6 (St.mk (look [(9, s 9), (12, s 12), (55, x1)]) (looko ([].map fun n => (n, o n)))) K)) := rfl
@[instance] theorem g_law10_CheckKinds_o5_u : UnfAt (opsB C I g_law10_CheckKinds.o5 (St.mk s o) K) g_law10_CheckKinds_o5_sh := Unf.of _
theorem g_law10_CheckKinds_o4_sh : opsB C I (g_law10_CheckKinds.o4F R_o5) (St.mk s o) K =
 (guardK (s 50) true
 (demand (binV BinOp.eql (s 8) (s 11)) (fun x1 =>
opsB C I R_o5 (St.mk (look [(9, s 9), (12, s 12), (50, (V.d (D.bool true))), (53, x1)]) (looko ([].map fun n => (n, o n)))) K))
 (opsB C I R_o5 (St.mk (look [(9, s 9), (12, s 12), (50, (V.d (D.bool false))), (53, (V.tup []))]) (looko ([].map fun n => (n, o n)))) K)
 (opsB C I R_o5 (St.mk (look [(9, s 9), (12, s 12), (50, (V.tup [])), (53, (V.tup []))]) (looko ([].map fun n => (n, o n)))) K)) := rfl
@[instance] theorem g_law10_CheckKinds_o4_u : UnfAt (opsB C I g_law10_CheckKinds.o4 (St.mk s o) K) g_law10_CheckKinds_o4_sh := Unf.of _
theorem g_law10_CheckKinds_c1_sh : wpB C I (g_law10_CheckKinds.c1) (St.mk s o) Q =
 (Q .ret (St.mk s o)) := rfl
@[instance] theorem g_law10_CheckKinds_c1_u : UnfAt (wpB C I g_law10_CheckKinds.c1 (St.mk s o) Q) g_law10_CheckKinds_c1_sh := Unf.of _
theorem g_law10_CheckKinds_c2_sh : wpB C I (g_law10_CheckKinds.c2F R_o4 R_c1) (St.mk s o) Q =
 (demand (binV BinOp.eql (s 7) (s 10)) (fun x1 =>
opsB C I R_o4 (St.mk (look [(8, s 8), (9, s 9), (11, s 11), (12, s 12), (50, x1)]) (looko ([].map fun n => (n, o n)))) (fun st => (seqK (fun st => wpB C I R_c1 st Q) Q) .normal (St.trim st [6] (some []))))) := rfl
@[instance] theorem g_law10_CheckKinds_c2_u : UnfAt (wpB C I g_law10_CheckKinds.c2 (St.mk s o) Q) g_law10_CheckKinds_c2_sh := Unf.of _
theorem g_law10_CheckKinds_c3_sh : wpB C I (g_law10_CheckKinds.c3F R_c2) (St.mk s o) Q =
 (demand (loadV o (some 2) (s 3)) (fun x1 =>
callK C I (St.mk (upd s 38 x1) o) (some 39) 160 [x1] (fun r2 or2 =>
callK C I (St.mk (upd (upd (upd (upd s 38 x1) 39 r2) 40 (s 1)) 41 (s 2)) or2) (some 42) 164 [(s 2)] (fun r3 or3 =>
callK C I (St.mk (upd (upd (upd (upd (upd s 38 x1) 39 r2) 40 (s 1)) 41 (s 2)) 42 r3) or3) (some 43) 165 [r2, (s 1), r3] (fun r4 or4 =>
demand (extV r4 0) (fun x5 =>
demand (extV r4 1) (fun x6 =>
demand (extV r4 2) (fun x7 =>
wpB C I R_c2 (St.mk (look [(7, s 7), (8, s 8), (9, s 9), (10, x5), (11, x6), (12, x7)]) (looko ([].map fun n => (n, or4 n)))) Q)))))))) := rfl
@[instance] theorem g_law10_CheckKinds_c3_u : UnfAt (wpB C I g_law10_CheckKinds.c3 (St.mk s o) Q) g_law10_CheckKinds_c3_sh := Unf.of _
theorem g_law10_CheckKinds_c4_sh : wpB C I (g_law10_CheckKinds.c4F R_c3) (St.mk s o) Q =
 (demand (loadV o (some 2) (s 3)) (fun x1 =>
callK C I (St.mk (upd (upd (upd s 30 x1) 31 (s 1)) 32 (s 2)) o) (some 33) 163 [x1, (s 1), (s 2)] (fun r2 or2 =>
demand (extV r2 0) (fun x3 =>
demand (extV r2 1) (fun x4 =>
demand (extV r2 2) (fun x5 =>
wpB C I R_c3 (St.mk (look [(1, s 1), (2, s 2), (3, s 3), (7, x3), (8, x4), (9, x5)]) (looko ([3].map fun n => (n, or2 n)))) Q)))))) := rfl
@[instance] theorem g_law10_CheckKinds_c4_u : UnfAt (wpB C I g_law10_CheckKinds.c4 (St.mk s o) Q) g_law10_CheckKinds_c4_sh := Unf.of _
theorem g_law10_CheckKinds_code_sh : wpB C I (g_law10_CheckKinds.codeF R_o0 R_c0 R_c4) (St.mk s o) Q =
 (lstK (cellsV (s 0)) (fun c1 => c1.length = 2 ∧ ¬ I 3 ∧ Fresh (St.mk s o) 3 (some 3) ∧ V.refsL 3 c1 = false ∧
demand (faddrV 1 (V.ptr 3 0)) (fun x2 =>
demand (loadV (looko ([3].map fun n => (n, (upd o 3 (some (Ob.box c1))) n))) none x2) (fun x3 =>
demand (lenV (looko ([3].map fun n => (n, (upd o 3 (some (Ob.box c1))) n))) x3) (fun x4 =>
demand (binV BinOp.gtr x4 (V.d (.int .i64 300))) (fun x5 =>
opsB C I R_o0 (St.mk (look [(1, s 1), (2, s 2), (3, (V.ptr 3 0)), (17, x5)]) (looko ([3].map fun n => (n, (upd o 3 (some (Ob.box c1))) n)))) (fun st => (seqK (fun st => wpB C I R_c0 st (seqK (fun st => wpB C I R_c4 st Q) Q)) (seqK (fun st => wpB C I R_c4 st Q) Q)) .normal (St.trim st [1, 2, 3, 27] (some [3]))))))))) := rfl
@[instance] theorem g_law10_CheckKinds_code_u : UnfAt (wpB C I g_law10_CheckKinds.code (St.mk s o) Q) g_law10_CheckKinds_code_sh := Unf.of _
theorem g_ref10_Kind_c0_sh : wpB C I (g_ref10_Kind.c0) (St.mk s o) Q =
 (demand (binV BinOp.add (s 15) (V.d (.int .i64 1))) (fun x1 =>
Q .normal (St.mk (look [(1, s 1), (2, s 2), (3, s 3), (9, s 9), (11, s 11), (12, s 12), (13, s 13), (14, s 14), (15, x1)]) (looko ([3, 13, 14, 26].map fun n => (n, o n)))))) := rfl
@[instance] theorem g_ref10_Kind_c0_u : UnfAt (wpB C I g_ref10_Kind.c0 (St.mk s o) Q) g_ref10_Kind_c0_sh := Unf.of _
theorem g_ref10_Kind_c1_sh : wpB C I (g_ref10_Kind.c1F R_c0) (St.mk s o) Q =
 (demand (loadV o (some 6) (s 13)) (fun x1 =>
callK C I (St.mk (upd (upd (upd (upd s 49 (s 15)) 50 (s 11)) 51 x1) 52 (s 15)) o) (some 53) 190 [x1, (s 15)] (fun r2 or2 =>
demand (iaddrV or2 1 (s 11) r2) (fun x3 =>
demand (loadV or2 none x3) (fun x4 =>
demand (iaddrAV 3 1 (s 14) (s 15)) (fun x5 =>
storeK x5 (cellsV x4) 1 or2 (fun m6 ob7 =>
wpB C I R_c0 (St.mk (look [(1, s 1), (2, s 2), (3, s 3), (9, s 9), (11, s 11), (12, s 12), (13, s 13), (14, s 14), (15, s 15)]) (looko ([3, 13, 14, 26].map fun n => (n, (upd or2 m6 (some ob7)) n)))) Q))))))) := rfl
@[instance] theorem g_ref10_Kind_c1_u : UnfAt (wpB C I g_ref10_Kind.c1 (St.mk s o) Q) g_ref10_Kind_c1_sh := Unf.of _
theorem g_ref10_Kind_l1_sh (hL : R_l1 = g_ref10_Kind.l1F R_c1)
 (h : demand (faddrV 0 (s 13)) (fun x1 =>
demand (loadV (looko ([3, 13, 14, 26].map fun n => (n, o n))) none x1) (fun x2 =>
callK C I (St.mk (upd (upd (upd (look [(1, s 1), (2, s 2), (3, s 3), (9, s 9), (11, s 11), (12, s 12), (13, s 13), (14, s 14), (15, s 15)]) 42 (s 15)) 43 x1) 44 x2) (looko ([3, 13, 14, 26].map fun n => (n, o n)))) (some 45) 189 [x2] (fun r3 or3 =>
demand (binV BinOp.lss (s 15) r3) (fun x4 =>
condK x4
 (wpB C I R_c1 (St.mk (look [(1, s 1), (2, s 2), (3, s 3), (9, s 9), (11, s 11), (12, s 12), (13, s 13), (14, s 14), (15, s 15), (46, x4)]) (looko ([3, 13, 14, 26].map fun n => (n, or3 n)))) (seqK (fun s => wpB C I R_l1 s Q) Q))
 (Q (.exit 2) (St.mk (look [(1, s 1), (2, s 2), (3, s 3), (9, s 9), (11, s 11), (12, s 12), (13, s 13), (14, s 14), (15, s 15), (46, x4)]) (looko ([3, 13, 14, 26].map fun n => (n, or3 n)))))))))) : wpB C I R_l1 (St.mk s o) Q := w_loopC hL h
theorem g_ref10_Kind_o1_sh : opsB C I (g_ref10_Kind.o1) (St.mk s o) K =
 (demand (pickV (s 77) (s 82) (V.d (.bool false))) (fun x1 =>
K (St.mk (upd s 83 x1) o))) := rfl
@[instance] theorem g_ref10_Kind_o1_u : UnfAt (opsB C I g_ref10_Kind.o1 (St.mk s o) K) g_ref10_Kind_o1_sh := Unf.of _
theorem g_ref10_Kind_o0_sh : opsB C I (g_ref10_Kind.o0F R_o1) (St.mk s o) K =
 (guardK (s 77) true
 (demand (faddrV 1 (s 13)) (fun x1 =>
demand (loadV o none x1) (fun x2 =>
callK C I (St.mk (upd (upd (upd (upd (upd (upd (upd s 77 (V.d (D.bool true))) 78 (s 2)) 77 (V.d (D.bool true))) 79 x1) 77 (V.d (D.bool true))) 80 x2) 77 (V.d (D.bool true))) o) (some 81) 192 [(s 2), x2] (fun r3 or3 =>
demand (binV BinOp.lss r3 (V.d (.int .i64 0))) (fun x4 =>
opsB C I R_o1 (St.mk (look [(12, s 12), (77, (V.d (D.bool true))), (82, x4)]) (looko ([].map fun n => (n, or3 n)))) K)))))
 (opsB C I R_o1 (St.mk (look [(12, s 12), (77, (V.d (D.bool false))), (82, (V.tup []))]) (looko ([].map fun n => (n, o n)))) K)
 (opsB C I R_o1 (St.mk (look [(12, s 12), (77, (V.tup [])), (82, (V.tup []))]) (looko ([].map fun n => (n, o n)))) K)) := rfl
@[instance] theorem g_ref10_Kind_o0_u : UnfAt (opsB C I g_ref10_Kind.o0 (St.mk s o) K) g_ref10_Kind_o0_sh := Unf.of _
theorem g_ref10_Kind_c2_sh : wpB C I (g_ref10_Kind.c2) (St.mk s o) Q =
 (condK (s 83)
 (Q .ret (St.mk (look [(6, (V.d (.int .i64 0))), (7, s 12), (8, (V.d (.int .i64 5)))]) (looko ([].map fun n => (n, o n)))))
 (Q .normal (St.mk s o))) := rfl
@[instance] theorem g_ref10_Kind_c2_u : UnfAt (wpB C I g_ref10_Kind.c2 (St.mk s o) Q) g_ref10_Kind_c2_sh := Unf.of _
theorem g_ref10_Kind_c3_sh : wpB C I (g_ref10_Kind.c3) (St.mk s o) Q =
 (Q .ret (St.mk (look [(6, (V.d (.int .i64 0))), (7, s 12), (8, (V.d (.int .i64 7)))]) (looko ([].map fun n => (n, o n))))) := rfl
@[instance] theorem g_ref10_Kind_c3_u : UnfAt (wpB C I g_ref10_Kind.c3 (St.mk s o) Q) g_ref10_Kind_c3_sh := Unf.of _
theorem g_ref10_Kind_c4_sh : wpB C I (g_ref10_Kind.c4F R_o0 R_c2 R_c3) (St.mk s o) Q =
 (demand (iaddrV o 1 (s 11) (s 12)) (fun x1 =>
demand (loadV o none x1) (fun x2 =>
demand (binV BinOp.eql x2 (V.d (.int .i64 0))) (fun x3 =>
condK x3
 (demand (faddrV 0 (s 13)) (fun x4 =>
demand (loadV (looko ([3, 13, 26].map fun n => (n, o n))) none x4) (fun x5 =>
demand (binV BinOp.eql x5 (V.d (.str [110, 97, 109, 101]))) (fun x6 =>
opsB C I R_o0 (St.mk (look [(2, s 2), (12, s 12), (13, s 13), (77, x6)]) (looko ([13].map fun n => (n, o n)))) (fun st => (seqK (fun st => wpB C I R_c2 st (seqK (fun st => wpB C I R_c3 st Q) Q)) (seqK (fun st => wpB C I R_c3 st Q) Q)) .normal (St.trim st [12, 83] (some [])))))))
 (Q .normal (St.mk (look [(1, s 1), (2, s 2), (3, s 3), (9, s 9), (11, s 11), (12, s 12), (13, s 13), (73, x3)]) (looko ([3, 13, 26].map fun n => (n, o n))))))))) := rfl
@[instance] theorem g_ref10_Kind_c4_u : UnfAt (wpB C I g_ref10_Kind.c4 (St.mk s o) Q) g_ref10_Kind_c4_sh := Unf.of _
theorem g_ref10_Kind_c5_sh : wpB C I (g_ref10_Kind.c5F R_c4) (St.mk s o) Q =
 (demand (loadV o (some 6) (s 13)) (fun x1 =>
demand (iaddrAV 3 1 (s 14) (V.d (.int .i64 0))) (fun x2 =>
demand (loadV o none x2) (fun x3 =>
demand (iaddrAV 3 1 (s 14) (V.d (.int .i64 1))) (fun x4 =>
demand (loadV o none x4) (fun x5 =>
demand (iaddrAV 3 1 (s 14) (V.d (.int .i64 2))) (fun x6 =>
demand (loadV o none x6) (fun x7 =>
callK C I (St.mk (upd (upd (upd (upd (upd (upd (upd (upd (upd (upd s 57 (s 11)) 58 (s 12)) 59 x1) 60 x2) 61 x3) 62 x4) 63 x5) 64 x6) 65 x7) 66 (s 2)) o) (some 67) 191 [x1, x3, x5, x7, (s 2)] (fun r8 or8 =>
demand (iaddrV or8 1 (s 11) (s 12)) (fun x9 =>
storeK x9 (cellsV r8) 1 or8 (fun m10 ob11 =>
wpB C I R_c4 (St.mk (look [(1, s 1), (2, s 2), (3, s 3), (9, s 9), (11, s 11), (12, s 12), (13, s 13)]) (looko ([3, 13, 26].map fun n => (n, (upd or8 m10 (some ob11)) n)))) Q))))))))))) := rfl
@[instance] theorem g_ref10_Kind_c5_u : UnfAt (wpB C I g_ref10_Kind.c5 (St.mk s o) Q) g_ref10_Kind_c5_sh := Unf.of _
theorem g_ref10_Kind_c6_sh : wpB C I (g_ref10_Kind.c6F R_l1 R_c5) (St.mk s o) Q =
 ((¬ I 14 ∧ Fresh (St.mk s o) 14 (some 14) ∧ V.refsL 14 [V.d (.int .i64 0), V.d (.int .i64 0), V.d (.int .i64 0)] = false ∧
wpB C I R_l1 (St.mk (look [(1, s 1), (2, s 2), (3, s 3), (9, s 9), (11, s 11), (12, s 12), (13, s 13), (14, (V.ptr 14 0)), (15, (V.d (.int .i64 0)))]) (looko ([3, 13, 14, 26].map fun n => (n, (upd o 14 (some (Ob.box [V.d (.int .i64 0), V.d (.int .i64 0), V.d (.int .i64 0)]))) n)))) (blockK 2 [1, 2, 3, 9, 11, 12, 13, 14] (some [3, 13, 14, 26]) (seqK (fun st => wpB C I R_c5 st Q) Q)))) := rfl
@[instance] theorem g_ref10_Kind_c6_u : UnfAt (wpB C I g_ref10_Kind.c6 (St.mk s o) Q) g_ref10_Kind_c6_sh := Unf.of _
theorem g_ref10_Kind_c7_sh : wpB C I (g_ref10_Kind.c7F R_c6) (St.mk s o) Q =
 (demand (faddrV 1 (s 3)) (fun x1 =>
demand (loadV o none x1) (fun x2 =>
demand (iaddrV o 6 x2 (s 12)) (fun x3 =>
demand (loadV o (some 6) x3) (fun x4 =>
(¬ I 13 ∧ Fresh (St.mk (upd (upd (upd (upd (upd s 37 x1) 38 x2) 39 (s 12)) 40 x3) 41 x4) o) 13 (some 13) ∧ V.refsL 13 [V.d (.str []), V.d (.str []), V.d (.int .i64 0), V.d (.int .i64 0), V.d (.int .i64 0), V.d (.int .i64 0)] = false ∧
storeK (V.ptr 13 0) (cellsV x4) 6 (upd o 13 (some (Ob.box [V.d (.str []), V.d (.str []), V.d (.int .i64 0), V.d (.int .i64 0), V.d (.int .i64 0), V.d (.int .i64 0)]))) (fun m5 ob6 =>
wpB C I R_c6 (St.mk (look [(1, s 1), (2, s 2), (3, s 3), (9, s 9), (11, s 11), (12, s 12), (13, (V.ptr 13 0))]) (looko ([3, 13, 26].map fun n => (n, (upd (upd o 13 (some (Ob.box [V.d (.str []), V.d (.str []), V.d (.int .i64 0), V.d (.int .i64 0), V.d (.int .i64 0), V.d (.int .i64 0)]))) m5 (some ob6)) n)))) Q))))))) := rfl
@[instance] theorem g_ref10_Kind_c7_u : UnfAt (wpB C I g_ref10_Kind.c7 (St.mk s o) Q) g_ref10_Kind_c7_sh := Unf.of _
theorem g_ref10_Kind_c8_sh : wpB C I (g_ref10_Kind.c8) (St.mk s o) Q =
 (demand (binV BinOp.add (s 12) (V.d (.int .i64 1))) (fun x1 =>
Q .normal (St.mk (look [(1, s 1), (2, s 2), (3, s 3), (9, s 9), (11, s 11), (12, x1)]) (looko ([3, 26].map fun n => (n, o n)))))) := rfl
@[instance] theorem g_ref10_Kind_c8_u : UnfAt (wpB C I g_ref10_Kind.c8 (St.mk s o) Q) g_ref10_Kind_c8_sh := Unf.of _
theorem g_ref10_Kind_l0_sh (hL : R_l0 = g_ref10_Kind.l0F R_c7 R_c8)
 (h : demand (binV BinOp.leq (s 12) (s 1)) (fun x1 =>
condK x1
 (demand (iaddrV (looko ([3, 26].map fun n => (n, o n))) 1 (s 9) (s 12)) (fun x2 =>
demand (loadV (looko ([3, 26].map fun n => (n, o n))) none x2) (fun x3 =>
demand (unV UnOp.not x3) (fun x4 =>
condK x4
 (wpB C I R_c8 (St.mk (look [(1, s 1), (2, s 2), (3, s 3), (9, s 9), (11, s 11), (12, s 12)]) (looko ([3, 26].map fun n => (n, o n)))) (seqK (fun s => wpB C I R_l0 s Q) Q))
 (wpB C I R_c7 (St.mk (look [(1, s 1), (2, s 2), (3, s 3), (9, s 9), (11, s 11), (12, s 12), (36, x4)]) (looko ([3, 26].map fun n => (n, o n)))) (blockK 1 [1, 2, 3, 9, 11, 12] (some [3, 26]) (seqK (fun st => wpB C I R_c8 st (seqK (fun s => wpB C I R_l0 s Q) Q)) (seqK (fun s => wpB C I R_l0 s Q) Q))))))))
 (Q (.exit 0) (St.mk (look [(1, s 1), (2, s 2), (3, s 3), (9, s 9), (11, s 11), (12, s 12), (29, x1)]) (looko ([3, 26].map fun n => (n, o n))))))) : wpB C I R_l0 (St.mk s o) Q := w_loopC hL h
theorem g_ref10_Kind_c9_sh : wpB C I (g_ref10_Kind.c9) (St.mk s o) Q =
 (demand (iaddrV o 1 (s 11) (s 1)) (fun x1 =>
demand (loadV o none x1) (fun x2 =>
Q .ret (St.mk (look [(6, x2), (7, (V.d (.int .i64 0))), (8, (V.d (.int .i64 0)))]) (looko ([].map fun n => (n, o n))))))) := rfl
@[instance] theorem g_ref10_Kind_c9_u : UnfAt (wpB C I g_ref10_Kind.c9 (St.mk s o) Q) g_ref10_Kind_c9_sh := Unf.of _
theorem g_ref10_Kind_c10_sh : wpB C I (g_ref10_Kind.c10F R_l0 R_c9) (St.mk s o) Q =
 (wpB C I R_l0 (St.mk (look [(1, s 1), (2, s 2), (3, s 3), (9, s 9), (11, s 11), (12, (V.d (.int .i64 0)))]) (looko ([3, 26].map fun n => (n, o n)))) (blockK 0 [1, 11] (some [26]) (seqK (fun st => wpB C I R_c9 st Q) Q))) := rfl
@[instance] theorem g_ref10_Kind_c10_u : UnfAt (wpB C I g_ref10_Kind.c10 (St.mk s o) Q) g_ref10_Kind_c10_sh := Unf.of _
theorem g_ref10_Kind_c11_sh : wpB C I (g_ref10_Kind.c11F R_c10) (St.mk s o) Q =
 (demand (binV BinOp.add (s 1) (V.d (.int .i64 1))) (fun x1 =>
intK x1 (fun n2 => 0 ≤ n2 ∧ n2.toNat * 8 ≤ 140737488355328 ∧ n2 ≤ 140737488355328 ∧ ¬ I 26 ∧ Fresh (St.mk (upd (upd s 24 (s 1)) 25 x1) o) 26 (some 26) ∧
wpB C I R_c10 (St.mk (look [(1, s 1), (2, s 2), (3, s 3), (9, s 9), (11, (V.own 26))]) (looko ([3, 26].map fun n => (n, (upd o 26 (some (Ob.row 1 (List.replicate n2.toNat [(.int .i64 0)])))) n)))) Q))) := rfl
@[instance] theorem g_ref10_Kind_c11_u : UnfAt (wpB C I g_ref10_Kind.c11 (St.mk s o) Q) g_ref10_Kind_c11_sh := Unf.of _
theorem g_ref10_Kind_c12_sh : wpB C I (g_ref10_Kind.c12F R_c11) (St.mk s o) Q =
 (demand (unV UnOp.not (s 10)) (fun x1 =>
condK x1
 (Q .ret (St.mk (look [(6, (V.d (.int .i64 0))), (7, (V.d (.int .i64 0))), (8, (V.d (.int .i64 1)))]) (looko ([].map fun n => (n, o n)))))
 (wpB C I R_c11 (St.mk (look [(1, s 1), (2, s 2), (3, s 3), (9, s 9), (23, x1)]) (looko ([3].map fun n => (n, o n)))) Q))) := rfl
@[instance] theorem g_ref10_Kind_c12_u : UnfAt (wpB C I g_ref10_Kind.c12 (St.mk s o) Q) g_ref10_Kind_c12_sh := Unf.of _
theorem g_ref10_Kind_c13_sh : wpB C I (g_ref10_Kind.c13F R_c12) (St.mk s o) Q =
 (demand (loadV o (some 2) (s 3)) (fun x1 =>
callK C I (St.mk (upd (upd s 17 x1) 18 (s 1)) o) (some 19) 188 [x1, (s 1)] (fun r2 or2 =>
demand (extV r2 0) (fun x3 =>
demand (extV r2 1) (fun x4 =>
wpB C I R_c12 (St.mk (look [(1, s 1), (2, s 2), (3, s 3), (9, x3), (10, x4)]) (looko ([3].map fun n => (n, or2 n)))) Q))))) := rfl
@[instance] theorem g_ref10_Kind_c13_u : UnfAt (wpB C I g_ref10_Kind.c13 (St.mk s o) Q) g_ref10_Kind_c13_sh := Unf.of _
theorem g_ref10_Kind_code_sh : wpB C I (g_ref10_Kind.codeF R_c13) (St.mk s o) Q =
 (lstK (cellsV (s 0)) (fun c1 => c1.length = 2 ∧ ¬ I 3 ∧ Fresh (St.mk s o) 3 (some 3) ∧ V.refsL 3 c1 = false ∧
wpB C I R_c13 (St.mk (look [(1, s 1), (2, s 2), (3, (V.ptr 3 0))]) (looko ([3].map fun n => (n, (upd o 3 (some (Ob.box c1))) n)))) Q)) := rfl
@[instance] theorem g_ref10_Kind_code_u : UnfAt (wpB C I g_ref10_Kind.code (St.mk s o) Q) g_ref10_Kind_code_sh := Unf.of _
theorem g_law10_refs_c0_sh : wpB C I (g_law10_refs.c0) (St.mk s o) Q =
 (demand (loadV o (some 2) (s 5)) (fun x1 =>
lstK (partsN 2 [x1]) (fun es2 =>
lstK (readD o (V.d (D.sl es2))) (fun ys3 => (∀ e ∈ ys3, e.length = 2) ∧ appK (s 3)
 (ys3.length * 24 ≤ 140737488355328 ∧ ys3.length ≤ 140737488355328 ∧ ¬ I 15 ∧ Fresh (St.mk (upd (upd (upd s 12 (s 3)) 13 x1) 14 (V.d (D.sl es2))) o) 15 (some 15) ∧
Q .normal (St.mk (look [(3, (V.own 15)), (6, s 6), (7, s 7), (8, s 8)]) (looko ([15].map fun n => (n, (upd o 15 (some (Ob.row 2 ys3))) n)))))
 (fun m4 => ¬ I m4 ∧ rowK (o m4) (fun z5 es6 => z5 = 2 ∧ (es6.length + ys3.length) * 24 ≤ 140737488355328 ∧ es6.length + ys3.length ≤ 140737488355328 ∧
Q .normal (St.mk (look [(3, (V.own m4)), (6, ((fun t => scrubV m4 (s t)) 6)), (7, ((fun t => scrubV m4 (s t)) 7)), (8, ((fun t => scrubV m4 (s t)) 8))]) (looko ([15].map fun n => (n, (upd (fun n => (o n).map (Ob.scrub m4)) m4 (some (Ob.row 2 (es6 ++ ys3)))) n)))))))))) := rfl
@[instance] theorem g_law10_refs_c0_u : UnfAt (wpB C I g_law10_refs.c0 (St.mk s o) Q) g_law10_refs_c0_sh := Unf.of _
theorem g_law10_refs_c1_sh : wpB C I (g_law10_refs.c1) (St.mk s o) Q =
 (demand (binV BinOp.add (s 8) (V.d (.int .i64 1))) (fun x1 =>
Q .normal (St.mk (look [(3, s 3), (6, s 6), (7, s 7), (8, x1)]) (looko ([15].map fun n => (n, o n)))))) := rfl
@[instance] theorem g_law10_refs_c1_u : UnfAt (wpB C I g_law10_refs.c1 (St.mk s o) Q) g_law10_refs_c1_sh := Unf.of _
theorem g_law10_refs_l0_sh (hL : R_l0 = g_law10_refs.l0F R_c0 R_c1)
 (h : demand (binV BinOp.lss (s 8) (s 7)) (fun x1 =>
condK x1
 (demand (iaddrV (looko ([15].map fun n => (n, o n))) 2 (s 6) (s 8)) (fun x2 =>
demand (loadV (looko ([15].map fun n => (n, o n))) (some 2) x2) (fun x3 =>
(¬ I 5 ∧ Fresh (St.mk (upd (upd (look [(3, s 3), (6, s 6), (7, s 7), (8, s 8), (9, x1)]) 10 x2) 11 x3) (looko ([15].map fun n => (n, o n)))) 5 (some 5) ∧ V.refsL 5 [V.d (.str []), V.d (.int .i64 0)] = false ∧
storeK (V.ptr 5 0) (cellsV x3) 2 (upd (looko ([15].map fun n => (n, o n))) 5 (some (Ob.box [V.d (.str []), V.d (.int .i64 0)]))) (fun m4 ob5 =>
wpB C I R_c0 (St.mk (look [(3, s 3), (5, (V.ptr 5 0)), (6, s 6), (7, s 7), (8, s 8)]) (looko ([5, 15].map fun n => (n, (upd (upd (looko ([15].map fun n => (n, o n))) 5 (some (Ob.box [V.d (.str []), V.d (.int .i64 0)]))) m4 (some ob5)) n)))) (blockK 1 [3, 6, 7, 8] (some [15]) (seqK (fun st => wpB C I R_c1 st (seqK (fun s => wpB C I R_l0 s Q) Q)) (seqK (fun s => wpB C I R_l0 s Q) Q))))))))
 (Q (.exit 0) (St.mk (look [(3, s 3), (6, s 6), (7, s 7), (8, s 8), (9, x1)]) (looko ([15].map fun n => (n, o n))))))) : wpB C I R_l0 (St.mk s o) Q := w_loopC hL h
theorem g_law10_refs_c2_sh : wpB C I (g_law10_refs.c2) (St.mk s o) Q =
 (Q .ret (St.mk (look [(2, s 3)]) (looko ([15].map fun n => (n, o n))))) := rfl
@[instance] theorem g_law10_refs_c2_u : UnfAt (wpB C I g_law10_refs.c2 (St.mk s o) Q) g_law10_refs_c2_sh := Unf.of _
theorem g_law10_refs_code_sh : wpB C I (g_law10_refs.codeF R_l0 R_c2) (St.mk s o) Q =
 (demand (lenV (looko ([15].map fun n => (n, (looko ([].map fun n => (n, o n))) n))) (s 0)) (fun x1 =>
wpB C I R_l0 (St.mk (look [(3, (V.cap0)), (6, s 0), (7, x1), (8, (V.d (.int .i64 0)))]) (looko ([15].map fun n => (n, (looko ([].map fun n => (n, o n))) n)))) (blockK 0 [3] (some [15]) (seqK (fun st => wpB C I R_c2 st Q) Q)))) := rfl
@[instance] theorem g_law10_refs_code_u : UnfAt (wpB C I g_law10_refs.code (St.mk s o) Q) g_law10_refs_code_sh := Unf.of _
theorem g_ref10_Made_o1_sh : opsB C I (g_ref10_Made.o1) (St.mk s o) K =
 (demand (pickV (s 13) (V.d (.bool true)) (s 18)) (fun x1 =>
K (St.mk (upd s 19 x1) o))) := rfl
@[instance] theorem g_ref10_Made_o1_u : UnfAt (opsB C I g_ref10_Made.o1 (St.mk s o) K) g_ref10_Made_o1_sh := Unf.of _
theorem g_ref10_Made_o0_sh : opsB C I (g_ref10_Made.o0F R_o1) (St.mk s o) K =
 (guardK (s 13) false
 (demand (faddrV 1 (s 2)) (fun x1 =>
demand (loadV o none x1) (fun x2 =>
demand (lenV o x2) (fun x3 =>
demand (binV BinOp.geq (s 1) x3) (fun x4 =>
opsB C I R_o1 (St.mk (look [(1, s 1), (2, s 2), (13, (V.d (D.bool false))), (18, x4)]) (looko ([2].map fun n => (n, o n)))) K)))))
 (opsB C I R_o1 (St.mk (look [(1, s 1), (2, s 2), (13, (V.d (D.bool true))), (18, (V.tup []))]) (looko ([2].map fun n => (n, o n)))) K)
 (opsB C I R_o1 (St.mk (look [(1, s 1), (2, s 2), (13, (V.tup [])), (18, (V.tup []))]) (looko ([2].map fun n => (n, o n)))) K)) := rfl
@[instance] theorem g_ref10_Made_o0_u : UnfAt (opsB C I g_ref10_Made.o0 (St.mk s o) K) g_ref10_Made_o0_sh := Unf.of _
theorem g_ref10_Made_c0_sh : wpB C I (g_ref10_Made.c0) (St.mk s o) Q =
 (condK (s 19)
 (Q .ret (St.mk (look [(4, (V.cap0)), (5, (V.d (.bool false)))]) (looko ([22].map fun n => (n, o n)))))
 (Q .normal (St.mk s o))) := rfl
@[instance] theorem g_ref10_Made_c0_u : UnfAt (wpB C I g_ref10_Made.c0 (St.mk s o) Q) g_ref10_Made_c0_sh := Unf.of _
theorem g_ref10_Made_o3_sh : opsB C I (g_ref10_Made.o3) (St.mk s o) K =
 (demand (pickV (s 43) (s 48) (V.d (.bool false))) (fun x1 =>
K (St.mk (upd s 49 x1) o))) := rfl
@[instance] theorem g_ref10_Made_o3_u : UnfAt (opsB C I g_ref10_Made.o3 (St.mk s o) K) g_ref10_Made_o3_sh := Unf.of _
theorem g_ref10_Made_o2_sh : opsB C I (g_ref10_Made.o2F R_o3) (St.mk s o) K =
 (guardK (s 43) true
 (demand (faddrV 0 (s 8)) (fun x1 =>
demand (loadV o none x1) (fun x2 =>
callK C I (St.mk (upd (upd (upd (upd (upd (upd (upd s 43 (V.d (D.bool true))) 44 (s 9)) 43 (V.d (D.bool true))) 45 x1) 43 (V.d (D.bool true))) 46 x2) 43 (V.d (D.bool true))) o) (some 47) 189 [x2] (fun r3 or3 =>
demand (binV BinOp.lss (s 9) r3) (fun x4 =>
opsB C I R_o3 (St.mk (look [(1, s 1), (2, s 2), (6, s 6), (7, s 7), (8, s 8), (9, s 9), (43, (V.d (D.bool true))), (48, x4)]) (looko ([2, 8, 22].map fun n => (n, or3 n)))) K)))))
 (opsB C I R_o3 (St.mk (look [(1, s 1), (2, s 2), (6, s 6), (7, s 7), (8, s 8), (9, s 9), (43, (V.d (D.bool false))), (48, (V.tup []))]) (looko ([2, 8, 22].map fun n => (n, o n)))) K)
 (opsB C I R_o3 (St.mk (look [(1, s 1), (2, s 2), (6, s 6), (7, s 7), (8, s 8), (9, s 9), (43, (V.tup [])), (48, (V.tup []))]) (looko ([2, 8, 22].map fun n => (n, o n)))) K)) := rfl
@[instance] theorem g_ref10_Made_o2_u : UnfAt (opsB C I g_ref10_Made.o2 (St.mk s o) K) g_ref10_Made_o2_sh := Unf.of _
theorem g_ref10_Made_c1_sh : wpB C I (g_ref10_Made.c1) (St.mk s o) Q =
 (condK (s 49)
 (Q .normal (St.mk s o))
 (Q (.exit 2) (St.mk s o))) := rfl
@[instance] theorem g_ref10_Made_c1_u : UnfAt (wpB C I g_ref10_Made.c1 (St.mk s o) Q) g_ref10_Made_c1_sh := Unf.of _
theorem g_ref10_Made_o5_sh : opsB C I (g_ref10_Made.o5) (St.mk s o) K =
 (demand (pickV (s 57) (V.d (.bool true)) (s 60)) (fun x1 =>
K (St.mk (upd s 61 x1) o))) := rfl
@[instance] theorem g_ref10_Made_o5_u : UnfAt (opsB C I g_ref10_Made.o5 (St.mk s o) K) g_ref10_Made_o5_sh := Unf.of _
theorem g_ref10_Made_o4_sh : opsB C I (g_ref10_Made.o4F R_o5) (St.mk s o) K =
 (guardK (s 57) false
 (demand (binV BinOp.geq (s 10) (s 7)) (fun x1 =>
opsB C I R_o5 (St.mk (look [(1, s 1), (2, s 2), (6, s 6), (7, s 7), (8, s 8), (9, s 9), (10, s 10), (57, (V.d (D.bool false))), (60, x1)]) (looko ([2, 8, 22].map fun n => (n, o n)))) K))
 (opsB C I R_o5 (St.mk (look [(1, s 1), (2, s 2), (6, s 6), (7, s 7), (8, s 8), (9, s 9), (10, s 10), (57, (V.d (D.bool true))), (60, (V.tup []))]) (looko ([2, 8, 22].map fun n => (n, o n)))) K)
 (opsB C I R_o5 (St.mk (look [(1, s 1), (2, s 2), (6, s 6), (7, s 7), (8, s 8), (9, s 9), (10, s 10), (57, (V.tup [])), (60, (V.tup []))]) (looko ([2, 8, 22].map fun n => (n, o n)))) K)) := rfl
@[instance] theorem g_ref10_Made_o4_u : UnfAt (opsB C I g_ref10_Made.o4 (St.mk s o) K) g_ref10_Made_o4_sh := Unf.of _
theorem g_ref10_Made_c2_sh : wpB C I (g_ref10_Made.c2) (St.mk s o) Q =
 (condK (s 61)
 (Q .ret (St.mk (look [(4, (V.cap0)), (5, (V.d (.bool false)))]) (looko ([22].map fun n => (n, o n)))))
 (Q .normal (St.mk s o))) := rfl
@[instance] theorem g_ref10_Made_c2_u : UnfAt (wpB C I g_ref10_Made.c2 (St.mk s o) Q) g_ref10_Made_c2_sh := Unf.of _
theorem g_ref10_Made_c3_sh : wpB C I (g_ref10_Made.c3) (St.mk s o) Q =
 (demand (iaddrV o 1 (s 6) (s 10)) (fun x1 =>
storeK x1 (cellsV (V.d (.bool true))) 1 o (fun m2 ob3 =>
Q .normal (St.mk (look [(1, s 1), (2, s 2), (6, s 6), (7, s 7), (8, s 8), (9, s 9)]) (looko ([2, 8, 22].map fun n => (n, (upd o m2 (some ob3)) n))))))) := rfl
@[instance] theorem g_ref10_Made_c3_u : UnfAt (wpB C I g_ref10_Made.c3 (St.mk s o) Q) g_ref10_Made_c3_sh := Unf.of _
theorem g_ref10_Made_c4_sh : wpB C I (g_ref10_Made.c4F R_o4 R_c2 R_c3) (St.mk s o) Q =
 (demand (binV BinOp.lss (s 10) (V.d (.int .i64 0))) (fun x1 =>
opsB C I R_o4 (St.mk (look [(1, s 1), (2, s 2), (6, s 6), (7, s 7), (8, s 8), (9, s 9), (10, s 10), (57, x1)]) (looko ([2, 8, 22].map fun n => (n, o n)))) (fun st => (seqK (fun st => wpB C I R_c2 st (seqK (fun st => wpB C I R_c3 st Q) Q)) (seqK (fun st => wpB C I R_c3 st Q) Q)) .normal (St.trim st [1, 2, 6, 7, 8, 9, 10, 61] (some [2, 8, 22]))))) := rfl
@[instance] theorem g_ref10_Made_c4_u : UnfAt (wpB C I g_ref10_Made.c4 (St.mk s o) Q) g_ref10_Made_c4_sh := Unf.of _
theorem g_ref10_Made_c5_sh : wpB C I (g_ref10_Made.c5) (St.mk s o) Q =
 (demand (binV BinOp.add (s 9) (V.d (.int .i64 1))) (fun x1 =>
Q .normal (St.mk (look [(1, s 1), (2, s 2), (6, s 6), (7, s 7), (8, s 8), (9, x1)]) (looko ([2, 8, 22].map fun n => (n, o n)))))) := rfl
@[instance] theorem g_ref10_Made_c5_u : UnfAt (wpB C I g_ref10_Made.c5 (St.mk s o) Q) g_ref10_Made_c5_sh := Unf.of _
theorem g_ref10_Made_c6_sh : wpB C I (g_ref10_Made.c6F R_c4 R_c5) (St.mk s o) Q =
 (demand (loadV o (some 6) (s 8)) (fun x1 =>
callK C I (St.mk (upd (upd s 52 x1) 53 (s 9)) o) (some 54) 190 [x1, (s 9)] (fun r2 or2 =>
wpB C I R_c4 (St.mk (look [(1, s 1), (2, s 2), (6, s 6), (7, s 7), (8, s 8), (9, s 9), (10, r2)]) (looko ([2, 8, 22].map fun n => (n, or2 n)))) (blockK 3 [1, 2, 6, 7, 8, 9] (some [2, 8, 22]) (seqK (fun st => wpB C I R_c5 st Q) Q))))) := rfl
@[instance] theorem g_ref10_Made_c6_u : UnfAt (wpB C I g_ref10_Made.c6 (St.mk s o) Q) g_ref10_Made_c6_sh := Unf.of _
theorem g_ref10_Made_l1_sh (hL : R_l1 = g_ref10_Made.l1F R_o2 R_c1 R_c6)
 (h : demand (iaddrV (looko ([2, 8, 22].map fun n => (n, o n))) 1 (s 6) (s 7)) (fun x1 =>
demand (loadV (looko ([2, 8, 22].map fun n => (n, o n))) none x1) (fun x2 =>
opsB C I R_o2 (St.mk (look [(1, s 1), (2, s 2), (6, s 6), (7, s 7), (8, s 8), (9, s 9), (43, x2)]) (looko ([2, 8, 22].map fun n => (n, o n)))) (fun st => (seqK (fun st => wpB C I R_c1 st (seqK (fun st => wpB C I R_c6 st (seqK (fun s => wpB C I R_l1 s Q) Q)) (seqK (fun s => wpB C I R_l1 s Q) Q))) (seqK (fun st => wpB C I R_c6 st (seqK (fun s => wpB C I R_l1 s Q) Q)) (seqK (fun s => wpB C I R_l1 s Q) Q))) .normal (St.trim st [1, 2, 6, 7, 8, 9, 49] (some [2, 8, 22])))))) : wpB C I R_l1 (St.mk s o) Q := w_loopC hL h
theorem g_ref10_Made_c7_sh : wpB C I (g_ref10_Made.c7F R_l1) (St.mk s o) Q =
 (wpB C I R_l1 (St.mk (look [(1, s 1), (2, s 2), (6, s 6), (7, s 7), (8, s 8), (9, (V.d (.int .i64 0)))]) (looko ([2, 8, 22].map fun n => (n, o n)))) (blockK 2 [1, 2, 6, 7] (some [2, 22]) Q)) := rfl
@[instance] theorem g_ref10_Made_c7_u : UnfAt (wpB C I g_ref10_Made.c7 (St.mk s o) Q) g_ref10_Made_c7_sh := Unf.of _
theorem g_ref10_Made_c8_sh : wpB C I (g_ref10_Made.c8F R_c7) (St.mk s o) Q =
 (demand (faddrV 1 (s 2)) (fun x1 =>
demand (loadV o none x1) (fun x2 =>
demand (iaddrV o 6 x2 (s 7)) (fun x3 =>
demand (loadV o (some 6) x3) (fun x4 =>
(¬ I 8 ∧ Fresh (St.mk (upd (upd (upd (upd (upd s 34 x1) 35 x2) 36 (s 7)) 37 x3) 38 x4) o) 8 (some 8) ∧ V.refsL 8 [V.d (.str []), V.d (.str []), V.d (.int .i64 0), V.d (.int .i64 0), V.d (.int .i64 0), V.d (.int .i64 0)] = false ∧
storeK (V.ptr 8 0) (cellsV x4) 6 (upd o 8 (some (Ob.box [V.d (.str []), V.d (.str []), V.d (.int .i64 0), V.d (.int .i64 0), V.d (.int .i64 0), V.d (.int .i64 0)]))) (fun m5 ob6 =>
wpB C I R_c7 (St.mk (look [(1, s 1), (2, s 2), (6, s 6), (7, s 7), (8, (V.ptr 8 0))]) (looko ([2, 8, 22].map fun n => (n, (upd (upd o 8 (some (Ob.box [V.d (.str []), V.d (.str []), V.d (.int .i64 0), V.d (.int .i64 0), V.d (.int .i64 0), V.d (.int .i64 0)]))) m5 (some ob6)) n)))) Q))))))) := rfl
@[instance] theorem g_ref10_Made_c8_u : UnfAt (wpB C I g_ref10_Made.c8 (St.mk s o) Q) g_ref10_Made_c8_sh := Unf.of _
theorem g_ref10_Made_c9_sh : wpB C I (g_ref10_Made.c9) (St.mk s o) Q =
 (demand (binV BinOp.sub (s 7) (V.d (.int .i64 1))) (fun x1 =>
Q .normal (St.mk (look [(1, s 1), (2, s 2), (6, s 6), (7, x1)]) (looko ([2, 22].map fun n => (n, o n)))))) := rfl
@[instance] theorem g_ref10_Made_c9_u : UnfAt (wpB C I g_ref10_Made.c9 (St.mk s o) Q) g_ref10_Made_c9_sh := Unf.of _
theorem g_ref10_Made_l0_sh (hL : R_l0 = g_ref10_Made.l0F R_c8 R_c9)
 (h : demand (binV BinOp.geq (s 7) (V.d (.int .i64 0))) (fun x1 =>
condK x1
 (demand (binV BinOp.eql (s 7) (s 1)) (fun x2 =>
condK x2
 (demand (iaddrV (looko ([2, 22].map fun n => (n, o n))) 1 (s 6) (s 7)) (fun x3 =>
storeK x3 (cellsV (V.d (.bool true))) 1 (looko ([2, 22].map fun n => (n, o n))) (fun m4 ob5 =>
wpB C I R_c8 (St.mk (look [(1, s 1), (2, s 2), (6, s 6), (7, s 7)]) (looko ([2, 22].map fun n => (n, (upd (looko ([2, 22].map fun n => (n, o n))) m4 (some ob5)) n)))) (blockK 1 [1, 2, 6, 7] (some [2, 22]) (seqK (fun st => wpB C I R_c9 st (seqK (fun s => wpB C I R_l0 s Q) Q)) (seqK (fun s => wpB C I R_l0 s Q) Q))))))
 (wpB C I R_c8 (St.mk (look [(1, s 1), (2, s 2), (6, s 6), (7, s 7), (30, x2)]) (looko ([2, 22].map fun n => (n, o n)))) (blockK 1 [1, 2, 6, 7] (some [2, 22]) (seqK (fun st => wpB C I R_c9 st (seqK (fun s => wpB C I R_l0 s Q) Q)) (seqK (fun s => wpB C I R_l0 s Q) Q))))))
 (Q (.exit 0) (St.mk (look [(1, s 1), (2, s 2), (6, s 6), (7, s 7), (25, x1)]) (looko ([2, 22].map fun n => (n, o n))))))) : wpB C I R_l0 (St.mk s o) Q := w_loopC hL h
theorem g_ref10_Made_c10_sh : wpB C I (g_ref10_Made.c10) (St.mk s o) Q =
 (Q .ret (St.mk (look [(4, s 6), (5, (V.d (.bool true)))]) (looko ([22].map fun n => (n, o n))))) := rfl
@[instance] theorem g_ref10_Made_c10_u : UnfAt (wpB C I g_ref10_Made.c10 (St.mk s o) Q) g_ref10_Made_c10_sh := Unf.of _
theorem g_ref10_Made_c11_sh : wpB C I (g_ref10_Made.c11F R_l0 R_c10) (St.mk s o) Q =
 (wpB C I R_l0 (St.mk (look [(1, s 1), (2, s 2), (6, s 6), (7, s 1)]) (looko ([2, 22].map fun n => (n, o n)))) (blockK 0 [6] (some [22]) (seqK (fun st => wpB C I R_c10 st Q) Q))) := rfl
@[instance] theorem g_ref10_Made_c11_u : UnfAt (wpB C I g_ref10_Made.c11 (St.mk s o) Q) g_ref10_Made_c11_sh := Unf.of _
theorem g_ref10_Made_c12_sh : wpB C I (g_ref10_Made.c12F R_c11) (St.mk s o) Q =
 (demand (binV BinOp.add (s 1) (V.d (.int .i64 1))) (fun x1 =>
intK x1 (fun n2 => 0 ≤ n2 ∧ n2.toNat * 1 ≤ 140737488355328 ∧ n2 ≤ 140737488355328 ∧ ¬ I 22 ∧ Fresh (St.mk (upd (upd s 20 (s 1)) 21 x1) o) 22 (some 22) ∧
wpB C I R_c11 (St.mk (look [(1, s 1), (2, s 2), (6, (V.own 22))]) (looko ([2, 22].map fun n => (n, (upd o 22 (some (Ob.row 1 (List.replicate n2.toNat [(.bool false)])))) n)))) Q))) := rfl
@[instance] theorem g_ref10_Made_c12_u : UnfAt (wpB C I g_ref10_Made.c12 (St.mk s o) Q) g_ref10_Made_c12_sh := Unf.of _
theorem g_ref10_Made_code_sh : wpB C I (g_ref10_Made.codeF R_o0 R_c0 R_c12) (St.mk s o) Q =
 (lstK (cellsV (s 0)) (fun c1 => c1.length = 2 ∧ ¬ I 2 ∧ Fresh (St.mk s o) 2 (some 2) ∧ V.refsL 2 c1 = false ∧
demand (binV BinOp.lss (s 1) (V.d (.int .i64 0))) (fun x2 =>
opsB C I R_o0 (St.mk (look [(1, s 1), (2, (V.ptr 2 0)), (13, x2)]) (looko ([2].map fun n => (n, (upd o 2 (some (Ob.box c1))) n)))) (fun st => (seqK (fun st => wpB C I R_c0 st (seqK (fun st => wpB C I R_c12 st Q) Q)) (seqK (fun st => wpB C I R_c12 st Q) Q)) .normal (St.trim st [1, 2, 19] (some [2])))))) := rfl
@[instance] theorem g_ref10_Made_code_u : UnfAt (wpB C I g_ref10_Made.code (St.mk s o) Q) g_ref10_Made_code_sh := Unf.of _
theorem g_ref10_Many_c0_sh : wpB C I (g_ref10_Many.c0) (St.mk s o) Q =
 (condK (s 4)
 (Q .ret (St.mk (look [(2, (V.d (.int .i64 0)))]) (looko ([].map fun n => (n, o n)))))
 (demand (binV BinOp.eql (s 3) (V.d (.str [110, 101, 103]))) (fun x1 =>
condK x1
 (Q .ret (St.mk (look [(2, (V.d (.int .i64 1)))]) (looko ([].map fun n => (n, o n)))))
 (demand (binV BinOp.eql (s 3) (V.d (.str [105, 102]))) (fun x2 =>
condK x2
 (Q .ret (St.mk (look [(2, (V.d (.int .i64 3)))]) (looko ([].map fun n => (n, o n)))))
 (Q .normal (St.mk (look [(11, x2)]) (looko ([].map fun n => (n, o n)))))))))) := rfl
@[instance] theorem g_ref10_Many_c0_u : UnfAt (wpB C I g_ref10_Many.c0 (St.mk s o) Q) g_ref10_Many_c0_sh := Unf.of _
theorem g_ref10_Many_c1_sh : wpB C I (g_ref10_Many.c1) (St.mk s o) Q =
 (Q .ret (St.mk (look [(2, (V.d (.int .i64 2)))]) (looko ([].map fun n => (n, o n))))) := rfl
@[instance] theorem g_ref10_Many_c1_u : UnfAt (wpB C I g_ref10_Many.c1 (St.mk s o) Q) g_ref10_Many_c1_sh := Unf.of _
theorem g_ref10_Many_code_sh : wpB C I (g_ref10_Many.codeF R_c0 R_c1) (St.mk s o) Q =
 (demand (binV BinOp.eql (s 0) (V.d (.str [119, 104, 111, 108, 101]))) (fun x1 =>
condK x1
 (wpB C I R_c0 (St.mk (look [(3, s 0), (4, x1)]) (looko ([].map fun n => (n, o n)))) (blockK 0 [] (some []) (seqK (fun st => wpB C I R_c1 st Q) Q)))
 (demand (binV BinOp.eql (s 0) (V.d (.str [97, 109, 111, 117, 110, 116]))) (fun x2 =>
condK x2
 (wpB C I R_c0 (St.mk (look [(3, s 0), (4, x2)]) (looko ([].map fun n => (n, o n)))) (blockK 0 [] (some []) (seqK (fun st => wpB C I R_c1 st Q) Q)))
 (demand (binV BinOp.eql (s 0) (V.d (.str [114, 97, 116, 101]))) (fun x3 =>
condK x3
 (wpB C I R_c0 (St.mk (look [(3, s 0), (4, x3)]) (looko ([].map fun n => (n, o n)))) (blockK 0 [] (some []) (seqK (fun st => wpB C I R_c1 st Q) Q)))
 (demand (binV BinOp.eql (s 0) (V.d (.str [110, 97, 109, 101]))) (fun x4 =>
wpB C I R_c0 (St.mk (look [(3, s 0), (4, x4)]) (looko ([].map fun n => (n, o n)))) (blockK 0 [] (some []) (seqK (fun st => wpB C I R_c1 st Q) Q)))))))))) := rfl
@[instance] theorem g_ref10_Many_code_u : UnfAt (wpB C I g_ref10_Many.code (St.mk s o) Q) g_ref10_Many_code_sh := Unf.of _
theorem g_ref10_Part_c0_sh : wpB C I (g_ref10_Part.c0) (St.mk s o) Q =
 (demand (faddrV 5 (s 2)) (fun x1 =>
demand (loadV o none x1) (fun x2 =>
Q .ret (St.mk (look [(4, x2)]) (looko ([].map fun n => (n, o n))))))) := rfl
@[instance] theorem g_ref10_Part_c0_u : UnfAt (wpB C I g_ref10_Part.c0 (St.mk s o) Q) g_ref10_Part_c0_sh := Unf.of _
theorem g_ref10_Part_c1_sh : wpB C I (g_ref10_Part.c1F R_c0) (St.mk s o) Q =
 (demand (binV BinOp.eql (s 1) (V.d (.int .i64 1))) (fun x1 =>
condK x1
 (demand (faddrV 4 (s 2)) (fun x2 =>
demand (loadV (looko ([2].map fun n => (n, o n))) none x2) (fun x3 =>
Q .ret (St.mk (look [(4, x3)]) (looko ([].map fun n => (n, o n)))))))
 (wpB C I R_c0 (St.mk (look [(2, s 2), (10, x1)]) (looko ([2].map fun n => (n, o n)))) Q))) := rfl
@[instance] theorem g_ref10_Part_c1_u : UnfAt (wpB C I g_ref10_Part.c1 (St.mk s o) Q) g_ref10_Part_c1_sh := Unf.of _
theorem g_ref10_Part_code_sh : wpB C I (g_ref10_Part.codeF R_c1) (St.mk s o) Q =
 (lstK (cellsV (s 0)) (fun c1 => c1.length = 6 ∧ ¬ I 2 ∧ Fresh (St.mk s o) 2 (some 2) ∧ V.refsL 2 c1 = false ∧
demand (binV BinOp.eql (s 1) (V.d (.int .i64 0))) (fun x2 =>
condK x2
 (demand (faddrV 3 (V.ptr 2 0)) (fun x3 =>
demand (loadV (looko ([2].map fun n => (n, (upd o 2 (some (Ob.box c1))) n))) none x3) (fun x4 =>
Q .ret (St.mk (look [(4, x4)]) (looko ([].map fun n => (n, (upd o 2 (some (Ob.box c1))) n)))))))
 (wpB C I R_c1 (St.mk (look [(1, s 1), (2, (V.ptr 2 0)), (6, x2)]) (looko ([2].map fun n => (n, (upd o 2 (some (Ob.box c1))) n)))) Q)))) := rfl
@[instance] theorem g_ref10_Part_code_u : UnfAt (wpB C I g_ref10_Part.code (St.mk s o) Q) g_ref10_Part_code_sh := Unf.of _
theorem g_ref10_of_o3_sh : opsB C I (g_ref10_of.o3) (St.mk s o) K =
 (demand (pickV (s 38) (V.d (.bool true)) (s 44)) (fun x1 =>
K (St.mk (upd s 45 x1) o))) := rfl
@[instance] theorem g_ref10_of_o3_u : UnfAt (opsB C I g_ref10_of.o3 (St.mk s o) K) g_ref10_of_o3_sh := Unf.of _
theorem g_ref10_of_o2_sh : opsB C I (g_ref10_of.o2F R_o3) (St.mk s o) K =
 (guardK (s 38) false
 (demand (iaddrV o 2 (s 4) (s 11)) (fun x1 =>
demand (faddrV 1 x1) (fun x2 =>
demand (loadV o none x2) (fun x3 =>
demand (binV BinOp.gtr x3 (V.d (.int .i64 4))) (fun x4 =>
opsB C I R_o3 (St.mk (look [(4, s 4), (11, s 11), (38, (V.d (D.bool false))), (44, x4)]) (looko ([].map fun n => (n, o n)))) K)))))
 (opsB C I R_o3 (St.mk (look [(4, s 4), (11, s 11), (38, (V.d (D.bool true))), (44, (V.tup []))]) (looko ([].map fun n => (n, o n)))) K)
 (opsB C I R_o3 (St.mk (look [(4, s 4), (11, s 11), (38, (V.tup [])), (44, (V.tup []))]) (looko ([].map fun n => (n, o n)))) K)) := rfl
@[instance] theorem g_ref10_of_o2_u : UnfAt (opsB C I g_ref10_of.o2 (St.mk s o) K) g_ref10_of_o2_sh := Unf.of _
theorem g_ref10_of_o1_sh : opsB C I (g_ref10_of.o1F R_o2) (St.mk s o) K =
 (demand (pickV (s 30) (V.d (.bool true)) (s 36)) (fun x1 =>
opsB C I R_o2 (St.mk (look [(4, s 4), (11, s 11), (38, x1)]) (looko ([].map fun n => (n, o n)))) K)) := rfl
@[instance] theorem g_ref10_of_o1_u : UnfAt (opsB C I g_ref10_of.o1 (St.mk s o) K) g_ref10_of_o1_sh := Unf.of _
theorem g_ref10_of_o0_sh : opsB C I (g_ref10_of.o0F R_o1) (St.mk s o) K =
 (guardK (s 30) false
 (demand (iaddrV o 2 (s 4) (s 11)) (fun x1 =>
demand (faddrV 1 x1) (fun x2 =>
demand (loadV o none x2) (fun x3 =>
demand (binV BinOp.lss x3 (V.d (.int .i64 1))) (fun x4 =>
opsB C I R_o1 (St.mk (look [(4, s 4), (11, s 11), (30, (V.d (D.bool false))), (36, x4)]) (looko ([].map fun n => (n, o n)))) K)))))
 (opsB C I R_o1 (St.mk (look [(4, s 4), (11, s 11), (30, (V.d (D.bool true))), (36, (V.tup []))]) (looko ([].map fun n => (n, o n)))) K)
 (opsB C I R_o1 (St.mk (look [(4, s 4), (11, s 11), (30, (V.tup [])), (36, (V.tup []))]) (looko ([].map fun n => (n, o n)))) K)) := rfl
@[instance] theorem g_ref10_of_o0_u : UnfAt (opsB C I g_ref10_of.o0 (St.mk s o) K) g_ref10_of_o0_sh := Unf.of _
theorem g_ref10_of_c0_sh : wpB C I (g_ref10_of.c0) (St.mk s o) Q =
 (condK (s 45)
 (Q .ret (St.mk (look [(10, (V.d (.int .i64 0)))]) (looko ([].map fun n => (n, o n)))))
 (Q .normal (St.mk s o))) := rfl
@[instance] theorem g_ref10_of_c0_u : UnfAt (wpB C I g_ref10_of.c0 (St.mk s o) Q) g_ref10_of_c0_sh := Unf.of _
theorem g_ref10_of_c1_sh : wpB C I (g_ref10_of.c1) (St.mk s o) Q =
 (demand (iaddrV o 2 (s 4) (s 11)) (fun x1 =>
demand (faddrV 1 x1) (fun x2 =>
demand (loadV o none x2) (fun x3 =>
Q .ret (St.mk (look [(10, x3)]) (looko ([].map fun n => (n, o n)))))))) := rfl
@[instance] theorem g_ref10_of_c1_u : UnfAt (wpB C I g_ref10_of.c1 (St.mk s o) Q) g_ref10_of_c1_sh := Unf.of _
theorem g_ref10_of_c2_sh : wpB C I (g_ref10_of.c2F R_o0 R_c0 R_c1) (St.mk s o) Q =
 (demand (binV BinOp.lss (s 11) (V.d (.int .i64 0))) (fun x1 =>
opsB C I R_o0 (St.mk (look [(4, s 4), (11, s 11), (30, x1)]) (looko ([].map fun n => (n, o n)))) (fun st => (seqK (fun st => wpB C I R_c0 st (seqK (fun st => wpB C I R_c1 st Q) Q)) (seqK (fun st => wpB C I R_c1 st Q) Q)) .normal (St.trim st [4, 11, 45] (some []))))) := rfl
@[instance] theorem g_ref10_of_c2_u : UnfAt (wpB C I g_ref10_of.c2 (St.mk s o) Q) g_ref10_of_c2_sh := Unf.of _
theorem g_ref10_of_o5_sh : opsB C I (g_ref10_of.o5) (St.mk s o) K =
 (demand (pickV (s 55) (V.d (.bool true)) (s 57)) (fun x1 =>
K (St.mk (upd s 58 x1) o))) := rfl
@[instance] theorem g_ref10_of_o5_u : UnfAt (opsB C I g_ref10_of.o5 (St.mk s o) K) g_ref10_of_o5_sh := Unf.of _
theorem g_ref10_of_o4_sh : opsB C I (g_ref10_of.o4F R_o5) (St.mk s o) K =
 (guardK (s 55) false
 (demand (binV BinOp.eql (s 1) (V.d (.int .i64 3))) (fun x1 =>
opsB C I R_o5 (St.mk (look [(1, s 1), (55, (V.d (D.bool false))), (57, x1)]) (looko ([].map fun n => (n, o n)))) K))
 (opsB C I R_o5 (St.mk (look [(1, s 1), (55, (V.d (D.bool true))), (57, (V.tup []))]) (looko ([].map fun n => (n, o n)))) K)
 (opsB C I R_o5 (St.mk (look [(1, s 1), (55, (V.tup [])), (57, (V.tup []))]) (looko ([].map fun n => (n, o n)))) K)) := rfl
@[instance] theorem g_ref10_of_o4_u : UnfAt (opsB C I g_ref10_of.o4 (St.mk s o) K) g_ref10_of_o4_sh := Unf.of _
theorem g_ref10_of_c3_sh : wpB C I (g_ref10_of.c3) (St.mk s o) Q =
 (condK (s 58)
 (Q .ret (St.mk (look [(10, s 1)]) (looko ([].map fun n => (n, o n)))))
 (Q .normal (St.mk s o))) := rfl
@[instance] theorem g_ref10_of_c3_u : UnfAt (wpB C I g_ref10_of.c3 (St.mk s o) Q) g_ref10_of_c3_sh := Unf.of _
theorem g_ref10_of_c4_sh : wpB C I (g_ref10_of.c4) (St.mk s o) Q =
 (Q .ret (St.mk (look [(10, (V.d (.int .i64 0)))]) (looko ([].map fun n => (n, o n))))) := rfl
@[instance] theorem g_ref10_of_c4_u : UnfAt (wpB C I g_ref10_of.c4 (St.mk s o) Q) g_ref10_of_c4_sh := Unf.of _
theorem g_ref10_of_o7_sh : opsB C I (g_ref10_of.o7) (St.mk s o) K =
 (demand (pickV (s 64) (s 67) (V.d (.bool false))) (fun x1 =>
K (St.mk (upd s 68 x1) o))) := rfl
@[instance] theorem g_ref10_of_o7_u : UnfAt (opsB C I g_ref10_of.o7 (St.mk s o) K) g_ref10_of_o7_sh := Unf.of _
theorem g_ref10_of_o6_sh : opsB C I (g_ref10_of.o6F R_o7) (St.mk s o) K =
 (guardK (s 64) true
 (demand (binV BinOp.eql (s 2) (s 3)) (fun x1 =>
opsB C I R_o7 (St.mk (look [(2, s 2), (64, (V.d (D.bool true))), (67, x1)]) (looko ([].map fun n => (n, o n)))) K))
 (opsB C I R_o7 (St.mk (look [(2, s 2), (64, (V.d (D.bool false))), (67, (V.tup []))]) (looko ([].map fun n => (n, o n)))) K)
 (opsB C I R_o7 (St.mk (look [(2, s 2), (64, (V.tup [])), (67, (V.tup []))]) (looko ([].map fun n => (n, o n)))) K)) := rfl
@[instance] theorem g_ref10_of_o6_u : UnfAt (opsB C I g_ref10_of.o6 (St.mk s o) K) g_ref10_of_o6_sh := Unf.of _
theorem g_ref10_of_c5_sh : wpB C I (g_ref10_of.c5) (St.mk s o) Q =
 (condK (s 68)
 (Q .ret (St.mk (look [(10, s 2)]) (looko ([].map fun n => (n, o n)))))
 (Q .normal (St.mk s o))) := rfl
@[instance] theorem g_ref10_of_c5_u : UnfAt (wpB C I g_ref10_of.c5 (St.mk s o) Q) g_ref10_of_c5_sh := Unf.of _
theorem g_ref10_of_c6_sh : wpB C I (g_ref10_of.c6) (St.mk s o) Q =
 (Q .ret (St.mk (look [(10, (V.d (.int .i64 0)))]) (looko ([].map fun n => (n, o n))))) := rfl
@[instance] theorem g_ref10_of_c6_u : UnfAt (wpB C I g_ref10_of.c6 (St.mk s o) Q) g_ref10_of_c6_sh := Unf.of _
theorem g_ref10_of_o9_sh : opsB C I (g_ref10_of.o9) (St.mk s o) K =
 (demand (pickV (s 83) (s 88) (V.d (.bool false))) (fun x1 =>
K (St.mk (upd s 89 x1) o))) := rfl
@[instance] theorem g_ref10_of_o9_u : UnfAt (opsB C I g_ref10_of.o9 (St.mk s o) K) g_ref10_of_o9_sh := Unf.of _
theorem g_ref10_of_o8_sh : opsB C I (g_ref10_of.o8F R_o9) (St.mk s o) K =
 (guardK (s 83) true
 (demand (iaddrV o 1 (s 13) (V.d (.int .i64 1))) (fun x1 =>
demand (loadV o none x1) (fun x2 =>
demand (binV BinOp.eql x2 (s 2)) (fun x3 =>
opsB C I R_o9 (St.mk (look [(1, s 1), (2, s 2), (13, s 13), (72, s 72), (73, s 73), (74, s 74), (83, (V.d (D.bool true))), (88, x3)]) (looko ([].map fun n => (n, o n)))) K))))
 (opsB C I R_o9 (St.mk (look [(1, s 1), (2, s 2), (13, s 13), (72, s 72), (73, s 73), (74, s 74), (83, (V.d (D.bool false))), (88, (V.tup []))]) (looko ([].map fun n => (n, o n)))) K)
 (opsB C I R_o9 (St.mk (look [(1, s 1), (2, s 2), (13, s 13), (72, s 72), (73, s 73), (74, s 74), (83, (V.tup [])), (88, (V.tup []))]) (looko ([].map fun n => (n, o n)))) K)) := rfl
@[instance] theorem g_ref10_of_o8_u : UnfAt (opsB C I g_ref10_of.o8 (St.mk s o) K) g_ref10_of_o8_sh := Unf.of _
theorem g_ref10_of_c7_sh : wpB C I (g_ref10_of.c7) (St.mk s o) Q =
 (condK (s 89)
 (demand (iaddrV o 1 (s 13) (V.d (.int .i64 2))) (fun x1 =>
demand (loadV o none x1) (fun x2 =>
Q .ret (St.mk (look [(10, x2)]) (looko ([].map fun n => (n, o n)))))))
 (Q .normal (St.mk s o))) := rfl
@[instance] theorem g_ref10_of_c7_u : UnfAt (wpB C I g_ref10_of.c7 (St.mk s o) Q) g_ref10_of_c7_sh := Unf.of _
theorem g_ref10_of_c8_sh : wpB C I (g_ref10_of.c8) (St.mk s o) Q =
 (demand (binV BinOp.add (s 74) (V.d (.int .i64 1))) (fun x1 =>
Q .normal (St.mk (look [(1, s 1), (2, s 2), (72, s 72), (73, s 73), (74, x1)]) (looko ([].map fun n => (n, o n)))))) := rfl
@[instance] theorem g_ref10_of_c8_u : UnfAt (wpB C I g_ref10_of.c8 (St.mk s o) Q) g_ref10_of_c8_sh := Unf.of _
theorem g_ref10_of_l0_sh (hL : R_l0 = g_ref10_of.l0F R_o8 R_c7 R_c8)
 (h : demand (binV BinOp.lss (s 74) (s 73)) (fun x1 =>
condK x1
 (demand (iaddrV (looko ([].map fun n => (n, o n))) 1 (s 72) (s 74)) (fun x2 =>
demand (loadV (looko ([].map fun n => (n, o n))) none x2) (fun x3 =>
demand (iaddrV (looko ([].map fun n => (n, o n))) 1 x3 (V.d (.int .i64 0))) (fun x4 =>
demand (loadV (looko ([].map fun n => (n, o n))) none x4) (fun x5 =>
demand (binV BinOp.eql x5 (s 1)) (fun x6 =>
opsB C I R_o8 (St.mk (look [(1, s 1), (2, s 2), (13, x3), (72, s 72), (73, s 73), (74, s 74), (83, x6)]) (looko ([].map fun n => (n, o n)))) (fun st => (seqK (fun st => wpB C I R_c7 st (blockK 2 [1, 2, 72, 73, 74] (some []) (seqK (fun st => wpB C I R_c8 st (seqK (fun s => wpB C I R_l0 s Q) Q)) (seqK (fun s => wpB C I R_l0 s Q) Q)))) (blockK 2 [1, 2, 72, 73, 74] (some []) (seqK (fun st => wpB C I R_c8 st (seqK (fun s => wpB C I R_l0 s Q) Q)) (seqK (fun s => wpB C I R_l0 s Q) Q)))) .normal (St.trim st [1, 2, 13, 72, 73, 74, 89] (some [])))))))))
 (Q (.exit 1) (St.mk (look [(1, s 1), (2, s 2), (72, s 72), (73, s 73), (74, s 74), (75, x1)]) (looko ([].map fun n => (n, o n))))))) : wpB C I R_l0 (St.mk s o) Q := w_loopC hL h
theorem g_ref10_of_c9_sh : wpB C I (g_ref10_of.c9F R_l0) (St.mk s o) Q =
 (wpB C I R_l0 (St.mk s o) (blockK 1 [] (some []) Q)) := rfl
@[instance] theorem g_ref10_of_c9_u : UnfAt (wpB C I g_ref10_of.c9 (St.mk s o) Q) g_ref10_of_c9_sh := Unf.of _
theorem g_ref10_of_c10_sh : wpB C I (g_ref10_of.c10) (St.mk s o) Q =
 (Q .ret (St.mk (look [(10, (V.d (.int .i64 0)))]) (looko ([].map fun n => (n, o n))))) := rfl
@[instance] theorem g_ref10_of_c10_u : UnfAt (wpB C I g_ref10_of.c10 (St.mk s o) Q) g_ref10_of_c10_sh := Unf.of _
theorem g_ref10_of_c11_sh : wpB C I (g_ref10_of.c11F R_c9 R_c10) (St.mk s o) Q =
 (demand (faddrV 0 (s 5)) (fun x1 =>
demand (loadV o none x1) (fun x2 =>
callK C I (St.mk (upd (upd s 70 x1) 71 x2) o) (some 72) 207 [x2] (fun r3 or3 =>
demand (lenV or3 r3) (fun x4 =>
wpB C I R_c9 (St.mk (look [(1, s 1), (2, s 2), (72, r3), (73, x4), (74, (V.d (.int .i64 0)))]) (looko ([].map fun n => (n, or3 n)))) (seqK (fun st => wpB C I R_c10 st Q) Q)))))) := rfl
@[instance] theorem g_ref10_of_c11_u : UnfAt (wpB C I g_ref10_of.c11 (St.mk s o) Q) g_ref10_of_c11_sh := Unf.of _
theorem g_ref10_of_code_sh : wpB C I (g_ref10_of.codeF R_c2 R_o4 R_c3 R_c4 R_o6 R_c5 R_c6 R_c11) (St.mk s o) Q =
 (lstK (cellsV (s 0)) (fun c1 => c1.length = 6 ∧ ¬ I 5 ∧ Fresh (St.mk s o) 5 (some 5) ∧ V.refsL 5 c1 = false ∧
demand (faddrV 0 (V.ptr 5 0)) (fun x2 =>
demand (loadV (looko ([5].map fun n => (n, (upd o 5 (some (Ob.box c1))) n))) none x2) (fun x3 =>
demand (binV BinOp.eql x3 (V.d (.str [119, 104, 111, 108, 101]))) (fun x4 =>
condK x4
 (Q .ret (St.mk (look [(10, (V.d (.int .i64 3)))]) (looko ([].map fun n => (n, (upd o 5 (some (Ob.box c1))) n)))))
 (demand (binV BinOp.eql x3 (V.d (.str [97, 109, 111, 117, 110, 116]))) (fun x5 =>
condK x5
 (Q .ret (St.mk (look [(10, (V.d (.int .i64 1)))]) (looko ([].map fun n => (n, (upd o 5 (some (Ob.box c1))) n)))))
 (demand (binV BinOp.eql x3 (V.d (.str [114, 97, 116, 101]))) (fun x6 =>
condK x6
 (Q .ret (St.mk (look [(10, (V.d (.int .i64 2)))]) (looko ([].map fun n => (n, (upd o 5 (some (Ob.box c1))) n)))))
 (demand (binV BinOp.eql x3 (V.d (.str [110, 97, 109, 101]))) (fun x7 =>
condK x7
 (demand (faddrV 1 (V.ptr 5 0)) (fun x8 =>
demand (loadV (looko ([5].map fun n => (n, (upd o 5 (some (Ob.box c1))) n))) none x8) (fun x9 =>
callK C I (St.mk (upd (upd (upd (look [(1, s 1), (2, s 2), (3, s 3), (4, s 4), (5, (V.ptr 5 0)), (15, x3), (22, x7)]) 24 (s 4)) 25 x8) 26 x9) (looko ([5].map fun n => (n, (upd o 5 (some (Ob.box c1))) n)))) (some 27) 192 [(s 4), x9] (fun r10 or10 =>
wpB C I R_c2 (St.mk (look [(4, s 4), (11, r10)]) (looko ([].map fun n => (n, or10 n)))) (blockK 0 [1, 2, 5] (some [5]) (seqK (fun st => wpB C I R_c11 st Q) Q))))))
 (demand (binV BinOp.eql x3 (V.d (.str [110, 101, 103]))) (fun x11 =>
condK x11
 (demand (binV BinOp.eql (s 1) (V.d (.int .i64 1))) (fun x12 =>
opsB C I R_o4 (St.mk (look [(1, s 1), (55, x12)]) (looko ([].map fun n => (n, (upd o 5 (some (Ob.box c1))) n)))) (fun st => (seqK (fun st => wpB C I R_c3 st (seqK (fun st => wpB C I R_c4 st (blockK 0 [1, 2, 5] (some [5]) (seqK (fun st => wpB C I R_c11 st Q) Q))) (blockK 0 [1, 2, 5] (some [5]) (seqK (fun st => wpB C I R_c11 st Q) Q)))) (seqK (fun st => wpB C I R_c4 st (blockK 0 [1, 2, 5] (some [5]) (seqK (fun st => wpB C I R_c11 st Q) Q))) (blockK 0 [1, 2, 5] (some [5]) (seqK (fun st => wpB C I R_c11 st Q) Q)))) .normal (St.trim st [1, 58] (some [])))))
 (demand (binV BinOp.eql x3 (V.d (.str [105, 102]))) (fun x13 =>
condK x13
 (demand (binV BinOp.eql (s 1) (V.d (.int .i64 4))) (fun x14 =>
opsB C I R_o6 (St.mk (look [(2, s 2), (3, s 3), (64, x14)]) (looko ([].map fun n => (n, (upd o 5 (some (Ob.box c1))) n)))) (fun st => (seqK (fun st => wpB C I R_c5 st (seqK (fun st => wpB C I R_c6 st (blockK 0 [1, 2, 5] (some [5]) (seqK (fun st => wpB C I R_c11 st Q) Q))) (blockK 0 [1, 2, 5] (some [5]) (seqK (fun st => wpB C I R_c11 st Q) Q)))) (seqK (fun st => wpB C I R_c6 st (blockK 0 [1, 2, 5] (some [5]) (seqK (fun st => wpB C I R_c11 st Q) Q))) (blockK 0 [1, 2, 5] (some [5]) (seqK (fun st => wpB C I R_c11 st Q) Q)))) .normal (St.trim st [2, 68] (some [])))))
 (wpB C I R_c11 (St.mk (look [(1, s 1), (2, s 2), (5, (V.ptr 5 0))]) (looko ([5].map fun n => (n, (upd o 5 (some (Ob.box c1))) n)))) Q)))))))))))))))) := rfl
@[instance] theorem g_ref10_of_code_u : UnfAt (wpB C I g_ref10_of.code (St.mk s o) Q) g_ref10_of_code_sh := Unf.of _
theorem g_ref10_find_c0_sh : wpB C I (g_ref10_find.c0) (St.mk s o) Q =
 (demand (binV BinOp.add (s 5) (V.d (.int .i64 1))) (fun x1 =>
Q .normal (St.mk (look [(0, s 0), (1, s 1), (5, x1)]) (looko ([].map fun n => (n, o n)))))) := rfl
@[instance] theorem g_ref10_find_c0_u : UnfAt (wpB C I g_ref10_find.c0 (St.mk s o) Q) g_ref10_find_c0_sh := Unf.of _
theorem g_ref10_find_c1_sh : wpB C I (g_ref10_find.c1F R_c0) (St.mk s o) Q =
 (demand (iaddrV o 2 (s 0) (s 5)) (fun x1 =>
demand (faddrV 0 x1) (fun x2 =>
demand (loadV o none x2) (fun x3 =>
demand (binV BinOp.eql x3 (s 1)) (fun x4 =>
condK x4
 (Q .ret (St.mk (look [(4, s 5)]) (looko ([].map fun n => (n, o n)))))
 (wpB C I R_c0 (St.mk (look [(0, s 0), (1, s 1), (5, s 5)]) (looko ([].map fun n => (n, o n)))) Q)))))) := rfl
@[instance] theorem g_ref10_find_c1_u : UnfAt (wpB C I g_ref10_find.c1 (St.mk s o) Q) g_ref10_find_c1_sh := Unf.of _
theorem g_ref10_find_l0_sh (hL : R_l0 = g_ref10_find.l0F R_c1)
 (h : demand (lenV (looko ([].map fun n => (n, o n))) (s 0)) (fun x1 =>
demand (binV BinOp.lss (s 5) x1) (fun x2 =>
condK x2
 (wpB C I R_c1 (St.mk (look [(0, s 0), (1, s 1), (5, s 5), (9, x2)]) (looko ([].map fun n => (n, o n)))) (seqK (fun s => wpB C I R_l0 s Q) Q))
 (Q (.exit 0) (St.mk (look [(0, s 0), (1, s 1), (5, s 5), (9, x2)]) (looko ([].map fun n => (n, o n)))))))) : wpB C I R_l0 (St.mk s o) Q := w_loopC hL h
theorem g_ref10_find_c2_sh : wpB C I (g_ref10_find.c2) (St.mk s o) Q =
 (Q .ret (St.mk (look [(4, (V.d (.int .i64 (-1))))]) (looko ([].map fun n => (n, o n))))) := rfl
@[instance] theorem g_ref10_find_c2_u : UnfAt (wpB C I g_ref10_find.c2 (St.mk s o) Q) g_ref10_find_c2_sh := Unf.of _
theorem g_ref10_find_code_sh : wpB C I (g_ref10_find.codeF R_l0 R_c2) (St.mk s o) Q =
 (wpB C I R_l0 (St.mk (look [(0, s 0), (1, s 1), (5, (V.d (.int .i64 0)))]) (looko ([].map fun n => (n, o n)))) (blockK 0 [] (some []) (seqK (fun st => wpB C I R_c2 st Q) Q))) := rfl
@[instance] theorem g_ref10_find_code_u : UnfAt (wpB C I g_ref10_find.code (St.mk s o) Q) g_ref10_find_code_sh := Unf.of _
theorem g_ref10_table_c0_sh : wpB C I (g_ref10_table.c0) (St.mk s o) Q =
 (condK (s 33)
 (lstK (partsN 1 [(V.d (.int .i64 1)), (V.d (.int .i64 1)), (V.d (.int .i64 4))]) (fun es1 =>
lstK (partsN 1 [(V.d (.int .i64 2)), (V.d (.int .i64 2)), (V.d (.int .i64 4))]) (fun es2 =>
lstK (partsN 1 [(V.d (.int .i64 3)), (V.d (.int .i64 3)), (V.d (.int .i64 4))]) (fun es3 =>
lstK (partsN 1 [(V.d (D.sl es1)), (V.d (D.sl es2)), (V.d (D.sl es3))]) (fun es4 =>
Q .ret (St.mk (look [(2, (V.d (D.sl es4)))]) (looko ([].map fun n => (n, o n)))))))))
 (Q .normal (St.mk s o))) := rfl
@[instance] theorem g_ref10_table_c0_u : UnfAt (wpB C I g_ref10_table.c0 (St.mk s o) Q) g_ref10_table_c0_sh := Unf.of _
theorem g_ref10_table_c1_sh : wpB C I (g_ref10_table.c1F R_c0) (St.mk s o) Q =
 (condK (s 25)
 (lstK (partsN 1 [(V.d (.int .i64 1)), (V.d (.int .i64 1)), (V.d (.int .i64 4))]) (fun es1 =>
lstK (partsN 1 [(V.d (.int .i64 2)), (V.d (.int .i64 2)), (V.d (.int .i64 4))]) (fun es2 =>
lstK (partsN 1 [(V.d (.int .i64 3)), (V.d (.int .i64 3)), (V.d (.int .i64 4))]) (fun es3 =>
lstK (partsN 1 [(V.d (.int .i64 4)), (V.d (.int .i64 4)), (V.d (.int .i64 4))]) (fun es4 =>
lstK (partsN 1 [(V.d (D.sl es1)), (V.d (D.sl es2)), (V.d (D.sl es3)), (V.d (D.sl es4))]) (fun es5 =>
Q .ret (St.mk (look [(2, (V.d (D.sl es5)))]) (looko ([].map fun n => (n, o n))))))))))
 (demand (binV BinOp.eql (s 3) (V.d (.str [60]))) (fun x6 =>
condK x6
 (wpB C I R_c0 (St.mk (look [(3, s 3), (33, x6)]) (looko ([].map fun n => (n, o n)))) Q)
 (demand (binV BinOp.eql (s 3) (V.d (.str [60, 61]))) (fun x7 =>
condK x7
 (wpB C I R_c0 (St.mk (look [(3, s 3), (33, x7)]) (looko ([].map fun n => (n, o n)))) Q)
 (demand (binV BinOp.eql (s 3) (V.d (.str [62]))) (fun x8 =>
condK x8
 (wpB C I R_c0 (St.mk (look [(3, s 3), (33, x8)]) (looko ([].map fun n => (n, o n)))) Q)
 (demand (binV BinOp.eql (s 3) (V.d (.str [62, 61]))) (fun x9 =>
wpB C I R_c0 (St.mk (look [(33, x9)]) (looko ([].map fun n => (n, o n)))) Q))))))))) := rfl
@[instance] theorem g_ref10_table_c1_u : UnfAt (wpB C I g_ref10_table.c1 (St.mk s o) Q) g_ref10_table_c1_sh := Unf.of _
theorem g_ref10_table_c2_sh : wpB C I (g_ref10_table.c2F R_c1) (St.mk s o) Q =
 (condK (s 18)
 (lstK (partsN 1 [(V.d (.int .i64 1)), (V.d (.int .i64 1)), (V.d (.int .i64 1))]) (fun es1 =>
lstK (partsN 1 [(V.d (.int .i64 2)), (V.d (.int .i64 2)), (V.d (.int .i64 2))]) (fun es2 =>
lstK (partsN 1 [(V.d (.int .i64 3)), (V.d (.int .i64 3)), (V.d (.int .i64 3))]) (fun es3 =>
lstK (partsN 1 [(V.d (D.sl es1)), (V.d (D.sl es2)), (V.d (D.sl es3))]) (fun es4 =>
Q .ret (St.mk (look [(2, (V.d (D.sl es4)))]) (looko ([].map fun n => (n, o n)))))))))
 (demand (binV BinOp.eql (s 3) (V.d (.str [61]))) (fun x5 =>
condK x5
 (wpB C I R_c1 (St.mk (look [(3, s 3), (25, x5)]) (looko ([].map fun n => (n, o n)))) Q)
 (demand (binV BinOp.eql (s 3) (V.d (.str [60, 62]))) (fun x6 =>
wpB C I R_c1 (St.mk (look [(3, s 3), (25, x6)]) (looko ([].map fun n => (n, o n)))) Q))))) := rfl
@[instance] theorem g_ref10_table_c2_u : UnfAt (wpB C I g_ref10_table.c2 (St.mk s o) Q) g_ref10_table_c2_sh := Unf.of _
theorem g_ref10_table_c3_sh : wpB C I (g_ref10_table.c3F R_c2) (St.mk s o) Q =
 (condK (s 4)
 (lstK (partsN 1 [(V.d (.int .i64 1)), (V.d (.int .i64 1)), (V.d (.int .i64 1))]) (fun es1 =>
lstK (partsN 1 [(V.d (.int .i64 3)), (V.d (.int .i64 3)), (V.d (.int .i64 3))]) (fun es2 =>
lstK (partsN 1 [(V.d (D.sl es1)), (V.d (D.sl es2))]) (fun es3 =>
Q .ret (St.mk (look [(2, (V.d (D.sl es3)))]) (looko ([].map fun n => (n, o n))))))))
 (demand (binV BinOp.eql (s 3) (V.d (.str [42]))) (fun x4 =>
condK x4
 (lstK (partsN 1 [(V.d (.int .i64 3)), (V.d (.int .i64 3)), (V.d (.int .i64 3))]) (fun es5 =>
lstK (partsN 1 [(V.d (.int .i64 1)), (V.d (.int .i64 3)), (V.d (.int .i64 1))]) (fun es6 =>
lstK (partsN 1 [(V.d (.int .i64 3)), (V.d (.int .i64 1)), (V.d (.int .i64 1))]) (fun es7 =>
lstK (partsN 1 [(V.d (.int .i64 1)), (V.d (.int .i64 2)), (V.d (.int .i64 1))]) (fun es8 =>
lstK (partsN 1 [(V.d (.int .i64 2)), (V.d (.int .i64 1)), (V.d (.int .i64 1))]) (fun es9 =>
lstK (partsN 1 [(V.d (D.sl es5)), (V.d (D.sl es6)), (V.d (D.sl es7)), (V.d (D.sl es8)), (V.d (D.sl es9))]) (fun es10 =>
Q .ret (St.mk (look [(2, (V.d (D.sl es10)))]) (looko ([].map fun n => (n, o n)))))))))))
 (demand (binV BinOp.eql (s 3) (V.d (.str [109, 105, 110]))) (fun x11 =>
condK x11
 (wpB C I R_c2 (St.mk (look [(3, s 3), (18, x11)]) (looko ([].map fun n => (n, o n)))) Q)
 (demand (binV BinOp.eql (s 3) (V.d (.str [109, 97, 120]))) (fun x12 =>
wpB C I R_c2 (St.mk (look [(3, s 3), (18, x12)]) (looko ([].map fun n => (n, o n)))) Q))))))) := rfl
@[instance] theorem g_ref10_table_c3_u : UnfAt (wpB C I g_ref10_table.c3 (St.mk s o) Q) g_ref10_table_c3_sh := Unf.of _
theorem g_ref10_table_c4_sh : wpB C I (g_ref10_table.c4) (St.mk s o) Q =
 (Q .ret (St.mk (look [(2, (V.cap0))]) (looko ([].map fun n => (n, o n))))) := rfl
@[instance] theorem g_ref10_table_c4_u : UnfAt (wpB C I g_ref10_table.c4 (St.mk s o) Q) g_ref10_table_c4_sh := Unf.of _
theorem g_ref10_table_code_sh : wpB C I (g_ref10_table.codeF R_c3 R_c4) (St.mk s o) Q =
 (demand (binV BinOp.eql (s 0) (V.d (.str [43]))) (fun x1 =>
condK x1
 (wpB C I R_c3 (St.mk (look [(3, s 0), (4, x1)]) (looko ([].map fun n => (n, o n)))) (blockK 0 [] (some []) (seqK (fun st => wpB C I R_c4 st Q) Q)))
 (demand (binV BinOp.eql (s 0) (V.d (.str [45]))) (fun x2 =>
wpB C I R_c3 (St.mk (look [(3, s 0), (4, x2)]) (looko ([].map fun n => (n, o n)))) (blockK 0 [] (some []) (seqK (fun st => wpB C I R_c4 st Q) Q)))))) := rfl
@[instance] theorem g_ref10_table_code_u : UnfAt (wpB C I g_ref10_table.code (St.mk s o) Q) g_ref10_table_code_sh := Unf.of _

end Pay
