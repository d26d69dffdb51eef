/- What the code of the functions comes to, without slots: an equation for each part; no condition. -/
import Derived.Test.YtmglkghngkbioaaGreatDoorPayBb0
import Derived.Test.YtmglkghngkbioaaGreatDoorPayCode1_0
set_option maxRecDepth 20000
set_option maxHeartbeats 400000
set_option linter.unusedVariables false
namespace Pay
open Go
variable {R_c0 R_c1 R_c2 R_c3 R_c4 R_c5 R_c6 R_c7 R_c8 R_c9 R_l0 R_l1 : ACode} {R_o0 R_o1 R_o2 R_o3 R_o4 R_o5 : List AOper} {C : Ctx} {I : Nat → Prop} {s : Nat → V} {o : Nat → Option Ob} {K : St → Prop} {Q : Ex → St → Prop}
theorem g_law09_ShowBare_o1_sh : opsB C I (g_law09_ShowBare.o1) (St.mk s o) K =
 (demand (pickV (s 28) (s 29) (V.d (.bool false))) (fun x1 =>
K (St.mk (upd (upd s 30 x1) 2 x1) o))) := rfl
@[instance] theorem g_law09_ShowBare_o1_u : UnfAt (opsB C I g_law09_ShowBare.o1 (St.mk s o) K) g_law09_ShowBare_o1_sh := Unf.of _
theorem g_law09_ShowBare_o0_sh : opsB C I (g_law09_ShowBare.o0F R_o1) (St.mk s o) K =
 (guardK (s 28) true
 (callK C I (St.mk (upd s 28 (V.d (D.bool true))) o) (some 29) 172 [] (fun r1 or1 =>
opsB C I R_o1 (St.mk (look [(28, (V.d (D.bool true))), (29, r1)]) (looko ([].map fun n => (n, or1 n)))) K))
 (opsB C I R_o1 (St.mk (look [(28, (V.d (D.bool false))), (29, (V.tup []))]) (looko ([].map fun n => (n, o n)))) K)
 (opsB C I R_o1 (St.mk (look [(28, (V.tup [])), (29, (V.tup []))]) (looko ([].map fun n => (n, o n)))) K)) := rfl
@[instance] theorem g_law09_ShowBare_o0_u : UnfAt (opsB C I g_law09_ShowBare.o0 (St.mk s o) K) g_law09_ShowBare_o0_sh := Unf.of _
theorem g_law09_ShowBare_c0_sh : wpB C I (g_law09_ShowBare.c0) (St.mk s o) Q =
 (Q .ret (St.mk s o)) := rfl
@[instance] theorem g_law09_ShowBare_c0_u : UnfAt (wpB C I g_law09_ShowBare.c0 (St.mk s o) Q) g_law09_ShowBare_c0_sh := Unf.of _
theorem g_law09_ShowBare_c1_sh : wpB C I (g_law09_ShowBare.c1) (St.mk s o) Q =
 (demand (binV BinOp.add (s 38) (V.d (.int .i64 1))) (fun x1 =>
Q .normal (St.mk (look [(0, s 0), (6, s 6), (7, s 7), (8, s 8), (9, s 9), (37, s 37), (38, x1)]) (looko ([].map fun n => (n, o n)))))) := rfl
@[instance] theorem g_law09_ShowBare_c1_u : UnfAt (wpB C I g_law09_ShowBare.c1 (St.mk s o) Q) g_law09_ShowBare_c1_sh := Unf.of _
theorem g_law09_ShowBare_l0_sh (hL : R_l0 = g_law09_ShowBare.l0F R_c1)
 (h : demand (binV BinOp.lss (s 38) (s 37)) (fun x1 =>
condK x1
 (demand (idxV (s 6) (s 38)) (fun x2 =>
demand (binV BinOp.eql x2 (V.d (.int .u8 40))) (fun x3 =>
condK x3
 (demand (binV BinOp.add (s 8) (V.d (.int .i64 1))) (fun x4 =>
wpB C I R_c1 (St.mk (look [(0, s 0), (6, s 6), (7, s 7), (8, x4), (9, s 9), (37, s 37), (38, s 38)]) (looko ([].map fun n => (n, o n)))) (seqK (fun s => wpB C I R_l0 s Q) Q)))
 (wpB C I R_c1 (St.mk (look [(0, s 0), (6, s 6), (7, s 7), (8, s 8), (9, s 9), (37, s 37), (38, s 38)]) (looko ([].map fun n => (n, o n)))) (seqK (fun s => wpB C I R_l0 s Q) Q)))))
 (Q (.exit 0) (St.mk (look [(0, s 0), (6, s 6), (7, s 7), (8, s 8), (9, s 9), (37, s 37), (38, s 38), (39, x1)]) (looko ([].map fun n => (n, o n))))))) : wpB C I R_l0 (St.mk s o) Q := w_loopC hL h
theorem g_law09_ShowBare_c2_sh : wpB C I (g_law09_ShowBare.c2) (St.mk s o) Q =
 (demand (binV BinOp.add (s 50) (V.d (.int .i64 1))) (fun x1 =>
Q .normal (St.mk (look [(0, s 0), (7, s 7), (8, s 8), (9, s 9), (49, s 49), (50, x1)]) (looko ([].map fun n => (n, o n)))))) := rfl
@[instance] theorem g_law09_ShowBare_c2_u : UnfAt (wpB C I g_law09_ShowBare.c2 (St.mk s o) Q) g_law09_ShowBare_c2_sh := Unf.of _
theorem g_law09_ShowBare_l1_sh (hL : R_l1 = g_law09_ShowBare.l1F R_c2)
 (h : demand (binV BinOp.lss (s 50) (s 49)) (fun x1 =>
condK x1
 (demand (idxV (s 0) (s 50)) (fun x2 =>
demand (binV BinOp.eql x2 (V.d (.int .u8 40))) (fun x3 =>
condK x3
 (demand (binV BinOp.add (s 9) (V.d (.int .i64 1))) (fun x4 =>
wpB C I R_c2 (St.mk (look [(0, s 0), (7, s 7), (8, s 8), (9, x4), (49, s 49), (50, s 50)]) (looko ([].map fun n => (n, o n)))) (seqK (fun s => wpB C I R_l1 s Q) Q)))
 (wpB C I R_c2 (St.mk (look [(0, s 0), (7, s 7), (8, s 8), (9, s 9), (49, s 49), (50, s 50)]) (looko ([].map fun n => (n, o n)))) (seqK (fun s => wpB C I R_l1 s Q) Q)))))
 (Q (.exit 2) (St.mk (look [(0, s 0), (7, s 7), (8, s 8), (9, s 9), (49, s 49), (50, s 50), (51, x1)]) (looko ([].map fun n => (n, o n))))))) : wpB C I R_l1 (St.mk s o) Q := w_loopC hL h
theorem g_law09_ShowBare_o5_sh : opsB C I (g_law09_ShowBare.o5) (St.mk s o) K =
 (demand (pickV (s 67) (s 68) (V.d (.bool false))) (fun x1 =>
K (St.mk (upd (upd s 69 x1) 2 x1) o))) := rfl
@[instance] theorem g_law09_ShowBare_o5_u : UnfAt (opsB C I g_law09_ShowBare.o5 (St.mk s o) K) g_law09_ShowBare_o5_sh := Unf.of _
theorem g_law09_ShowBare_o4_sh : opsB C I (g_law09_ShowBare.o4F R_o5) (St.mk s o) K =
 (guardK (s 67) true
 (callK C I (St.mk (upd s 67 (V.d (D.bool true))) o) (some 68) 172 [] (fun r1 or1 =>
opsB C I R_o5 (St.mk (look [(67, (V.d (D.bool true))), (68, r1)]) (looko ([].map fun n => (n, or1 n)))) K))
 (opsB C I R_o5 (St.mk (look [(67, (V.d (D.bool false))), (68, (V.tup []))]) (looko ([].map fun n => (n, o n)))) K)
 (opsB C I R_o5 (St.mk (look [(67, (V.tup [])), (68, (V.tup []))]) (looko ([].map fun n => (n, o n)))) K)) := rfl
@[instance] theorem g_law09_ShowBare_o4_u : UnfAt (opsB C I g_law09_ShowBare.o4 (St.mk s o) K) g_law09_ShowBare_o4_sh := Unf.of _
theorem g_law09_ShowBare_o3_sh : opsB C I (g_law09_ShowBare.o3F R_o4) (St.mk s o) K =
 (demand (pickV (s 62) (s 65) (V.d (.bool false))) (fun x1 =>
opsB C I R_o4 (St.mk (look [(67, x1)]) (looko ([].map fun n => (n, o n)))) K)) := rfl
@[instance] theorem g_law09_ShowBare_o3_u : UnfAt (opsB C I g_law09_ShowBare.o3 (St.mk s o) K) g_law09_ShowBare_o3_sh := Unf.of _
theorem g_law09_ShowBare_o2_sh : opsB C I (g_law09_ShowBare.o2F R_o3) (St.mk s o) K =
 (guardK (s 62) true
 (demand (binV BinOp.leq (s 8) (s 9)) (fun x1 =>
opsB C I R_o3 (St.mk (look [(62, (V.d (D.bool true))), (65, x1)]) (looko ([].map fun n => (n, o n)))) K))
 (opsB C I R_o3 (St.mk (look [(62, (V.d (D.bool false))), (65, (V.tup []))]) (looko ([].map fun n => (n, o n)))) K)
 (opsB C I R_o3 (St.mk (look [(62, (V.tup [])), (65, (V.tup []))]) (looko ([].map fun n => (n, o n)))) K)) := rfl
@[instance] theorem g_law09_ShowBare_o2_u : UnfAt (opsB C I g_law09_ShowBare.o2 (St.mk s o) K) g_law09_ShowBare_o2_sh := Unf.of _
theorem g_law09_ShowBare_c3_sh : wpB C I (g_law09_ShowBare.c3) (St.mk s o) Q =
 (Q .ret (St.mk s o)) := rfl
@[instance] theorem g_law09_ShowBare_c3_u : UnfAt (wpB C I g_law09_ShowBare.c3 (St.mk s o) Q) g_law09_ShowBare_c3_sh := Unf.of _
theorem g_law09_ShowBare_c4_sh : wpB C I (g_law09_ShowBare.c4F R_o2 R_c3) (St.mk s o) Q =
 (demand (binV BinOp.eql (s 7) (V.d (.int .i64 0))) (fun x1 =>
opsB C I R_o2 (St.mk (look [(8, s 8), (9, s 9), (62, x1)]) (looko ([].map fun n => (n, o n)))) (fun st => (seqK (fun st => wpB C I R_c3 st Q) Q) .normal (St.trim st [2] (some []))))) := rfl
@[instance] theorem g_law09_ShowBare_c4_u : UnfAt (wpB C I g_law09_ShowBare.c4 (St.mk s o) Q) g_law09_ShowBare_c4_sh := Unf.of _
theorem g_law09_ShowBare_c5_sh : wpB C I (g_law09_ShowBare.c5F R_l1 R_c4) (St.mk s o) Q =
 (demand (lenSV (s 0)) (fun x1 =>
wpB C I R_l1 (St.mk (look [(0, s 0), (7, s 7), (8, s 8), (9, s 9), (49, x1), (50, (V.d (.int .i64 0)))]) (looko ([].map fun n => (n, o n)))) (blockK 2 [7, 8, 9] (some []) (seqK (fun st => wpB C I R_c4 st Q) Q)))) := rfl
@[instance] theorem g_law09_ShowBare_c5_u : UnfAt (wpB C I g_law09_ShowBare.c5 (St.mk s o) Q) g_law09_ShowBare_c5_sh := Unf.of _
theorem g_law09_ShowBare_c6_sh : wpB C I (g_law09_ShowBare.c6F R_l0 R_c5) (St.mk s o) Q =
 (demand (lenSV (s 6)) (fun x1 =>
wpB C I R_l0 (St.mk (look [(0, s 0), (6, s 6), (7, s 7), (8, (V.d (.int .i64 0))), (9, (V.d (.int .i64 0))), (37, x1), (38, (V.d (.int .i64 0)))]) (looko ([].map fun n => (n, o n)))) (blockK 0 [0, 7, 8, 9] (some []) (seqK (fun st => wpB C I R_c5 st Q) Q)))) := rfl
@[instance] theorem g_law09_ShowBare_c6_u : UnfAt (wpB C I g_law09_ShowBare.c6 (St.mk s o) Q) g_law09_ShowBare_c6_sh := Unf.of _
theorem g_law09_ShowBare_c7_sh : wpB C I (g_law09_ShowBare.c7F R_c6) (St.mk s o) Q =
 (demand (loadV o (some 2) (s 3)) (fun x1 =>
callK C I (St.mk (upd s 32 x1) o) (some 33) 174 [x1] (fun r2 or2 =>
demand (extV r2 0) (fun x3 =>
demand (extV r2 1) (fun x4 =>
wpB C I R_c6 (St.mk (look [(0, s 0), (6, x3), (7, x4)]) (looko ([].map fun n => (n, or2 n)))) Q))))) := rfl
@[instance] theorem g_law09_ShowBare_c7_u : UnfAt (wpB C I g_law09_ShowBare.c7 (St.mk s o) Q) g_law09_ShowBare_c7_sh := Unf.of _
theorem g_law09_ShowBare_c8_sh : wpB C I (g_law09_ShowBare.c8F R_o0 R_c0 R_c7) (St.mk s o) Q =
 (demand (binV BinOp.neq (s 5) (V.d (.int .i64 0))) (fun x1 =>
condK x1
 (demand (faddrV 0 (s 3)) (fun x2 =>
demand (loadV (looko ([3].map fun n => (n, o n))) none x2) (fun x3 =>
demand (lenV (looko ([3].map fun n => (n, o n))) x3) (fun x4 =>
demand (binV BinOp.eql x4 (V.d (.int .i64 0))) (fun x5 =>
opsB C I R_o0 (St.mk (look [(28, x5)]) (looko ([].map fun n => (n, o n)))) (fun st => (seqK (fun st => wpB C I R_c0 st (seqK (fun st => wpB C I R_c7 st Q) Q)) (seqK (fun st => wpB C I R_c7 st Q) Q)) .normal (St.trim st [2] (some []))))))))
 (wpB C I R_c7 (St.mk (look [(0, s 0), (3, s 3), (23, x1)]) (looko ([3].map fun n => (n, o n)))) Q))) := rfl
@[instance] theorem g_law09_ShowBare_c8_u : UnfAt (wpB C I g_law09_ShowBare.c8 (St.mk s o) Q) g_law09_ShowBare_c8_sh := Unf.of _
theorem g_law09_ShowBare_c9_sh : wpB C I (g_law09_ShowBare.c9F R_c8) (St.mk s o) Q =
 (callK C I (St.mk (upd s 17 (s 0)) o) (some 18) 144 [(s 0)] (fun r1 or1 =>
demand (extV r1 0) (fun x2 =>
demand (extV r1 1) (fun x3 =>
demand (extV r1 2) (fun x4 =>
(¬ I 3 ∧ Fresh (St.mk (upd (upd (upd (upd (upd (upd s 17 (s 0)) 18 r1) 16 r1) 19 x2) 20 x3) 21 x4) or1) 3 (some 3) ∧ V.refsL 3 [V.cap0, V.cap0] = false ∧
storeK (V.ptr 3 0) (cellsV x2) 2 (upd or1 3 (some (Ob.box [V.cap0, V.cap0]))) (fun m5 ob6 =>
wpB C I R_c8 (St.mk (look [(0, s 0), (3, (V.ptr 3 0)), (5, x4)]) (looko ([3].map fun n => (n, (upd (upd or1 3 (some (Ob.box [V.cap0, V.cap0]))) m5 (some ob6)) n)))) Q))))))) := rfl
@[instance] theorem g_law09_ShowBare_c9_u : UnfAt (wpB C I g_law09_ShowBare.c9 (St.mk s o) Q) g_law09_ShowBare_c9_sh := Unf.of _
theorem g_law09_ShowBare_code_sh : wpB C I (g_law09_ShowBare.codeF R_c9) (St.mk s o) Q =
 (demand (lenSV (s 0)) (fun x1 =>
demand (binV BinOp.gtr x1 (V.d (.int .i64 300))) (fun x2 =>
condK x2
 (callK C I (St.mk (look [(0, s 0), (14, x2)]) (looko ([].map fun n => (n, o n)))) (some 15) 172 [] (fun r3 or3 =>
Q .ret (St.mk (look [(2, r3)]) (looko ([].map fun n => (n, or3 n))))))
 (wpB C I R_c9 (St.mk (look [(0, s 0), (14, x2)]) (looko ([].map fun n => (n, o n)))) Q)))) := rfl
@[instance] theorem g_law09_ShowBare_code_u : UnfAt (wpB C I g_law09_ShowBare.code (St.mk s o) Q) g_law09_ShowBare_code_sh := Unf.of _
end Pay
