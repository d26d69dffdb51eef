/- What the code of the functions comes to, without slots: an equation for each part; no condition. -/
import Derived.Test.YtmglkghngkbioaaGreatDoorPayBb0
import Derived.Test.YtmglkghngkbioaaGreatDoorPayCode1_0
set_option maxRecDepth 20000
set_option maxHeartbeats 400000
set_option linter.unusedVariables false
namespace Pay
open Go
variable {R_c0 R_c1 R_c2 R_c3 R_c4 R_c5 R_c6 R_c7 R_c8 R_l0 : ACode} {R_o0 R_o1 R_o2 R_o3 R_o4 R_o5 R_o6 R_o7 R_o8 R_o9 R_o10 R_o11 : List AOper} {C : Ctx} {I : Nat → Prop} {s : Nat → V} {o : Nat → Option Ob} {K : St → Prop} {Q : Ex → St → Prop}
theorem g_law09_ShowRules_o1_sh : opsB C I (g_law09_ShowRules.o1) (St.mk s o) K =
 (demand (pickV (s 26) (s 27) (V.d (.bool false))) (fun x1 =>
K (St.mk (upd (upd s 28 x1) 2 x1) o))) := rfl
@[instance] theorem g_law09_ShowRules_o1_u : UnfAt (opsB C I g_law09_ShowRules.o1 (St.mk s o) K) g_law09_ShowRules_o1_sh := Unf.of _
theorem g_law09_ShowRules_o0_sh : opsB C I (g_law09_ShowRules.o0F R_o1) (St.mk s o) K =
 (guardK (s 26) true
 (callK C I (St.mk (upd s 26 (V.d (D.bool true))) o) (some 27) 172 [] (fun r1 or1 =>
opsB C I R_o1 (St.mk (look [(26, (V.d (D.bool true))), (27, r1)]) (looko ([].map fun n => (n, or1 n)))) K))
 (opsB C I R_o1 (St.mk (look [(26, (V.d (D.bool false))), (27, (V.tup []))]) (looko ([].map fun n => (n, o n)))) K)
 (opsB C I R_o1 (St.mk (look [(26, (V.tup [])), (27, (V.tup []))]) (looko ([].map fun n => (n, o n)))) K)) := rfl
@[instance] theorem g_law09_ShowRules_o0_u : UnfAt (opsB C I g_law09_ShowRules.o0 (St.mk s o) K) g_law09_ShowRules_o0_sh := Unf.of _
theorem g_law09_ShowRules_c0_sh : wpB C I (g_law09_ShowRules.c0) (St.mk s o) Q =
 (Q .ret (St.mk s o)) := rfl
@[instance] theorem g_law09_ShowRules_c0_u : UnfAt (wpB C I g_law09_ShowRules.c0 (St.mk s o) Q) g_law09_ShowRules_c0_sh := Unf.of _
theorem g_law09_ShowRules_o3_sh : opsB C I (g_law09_ShowRules.o3) (St.mk s o) K =
 (demand (pickV (s 47) (V.d (.bool true)) (s 52)) (fun x1 =>
K (St.mk (upd s 53 x1) o))) := rfl
@[instance] theorem g_law09_ShowRules_o3_u : UnfAt (opsB C I g_law09_ShowRules.o3 (St.mk s o) K) g_law09_ShowRules_o3_sh := Unf.of _
theorem g_law09_ShowRules_o2_sh : opsB C I (g_law09_ShowRules.o2F R_o3) (St.mk s o) K =
 (guardK (s 47) false
 (demand (binV BinOp.sub (s 9) (V.d (.int .i64 1))) (fun x1 =>
demand (idxV (s 6) x1) (fun x2 =>
demand (binV BinOp.neq x2 (V.d (.int .u8 59))) (fun x3 =>
opsB C I R_o3 (St.mk (look [(3, s 3), (6, s 6), (7, s 7), (8, s 8), (35, s 35), (36, s 36), (47, (V.d (D.bool false))), (52, x3)]) (looko ([3].map fun n => (n, o n)))) K))))
 (opsB C I R_o3 (St.mk (look [(3, s 3), (6, s 6), (7, s 7), (8, s 8), (35, s 35), (36, s 36), (47, (V.d (D.bool true))), (52, (V.tup []))]) (looko ([3].map fun n => (n, o n)))) K)
 (opsB C I R_o3 (St.mk (look [(3, s 3), (6, s 6), (7, s 7), (8, s 8), (35, s 35), (36, s 36), (47, (V.tup [])), (52, (V.tup []))]) (looko ([3].map fun n => (n, o n)))) K)) := rfl
@[instance] theorem g_law09_ShowRules_o2_u : UnfAt (opsB C I g_law09_ShowRules.o2 (St.mk s o) K) g_law09_ShowRules_o2_sh := Unf.of _
theorem g_law09_ShowRules_c1_sh : wpB C I (g_law09_ShowRules.c1) (St.mk s o) Q =
 (condK (s 53)
 (Q .ret (St.mk (look [(2, (V.d (.bool false)))]) (looko ([].map fun n => (n, o n)))))
 (Q .normal (St.mk s o))) := rfl
@[instance] theorem g_law09_ShowRules_c1_u : UnfAt (wpB C I g_law09_ShowRules.c1 (St.mk s o) Q) g_law09_ShowRules_c1_sh := Unf.of _
theorem g_law09_ShowRules_c2_sh : wpB C I (g_law09_ShowRules.c2) (St.mk s o) Q =
 (demand (binV BinOp.add (s 36) (V.d (.int .i64 1))) (fun x1 =>
Q .normal (St.mk (look [(3, s 3), (6, s 6), (7, s 7), (8, s 8), (35, s 35), (36, x1)]) (looko ([3].map fun n => (n, o n)))))) := rfl
@[instance] theorem g_law09_ShowRules_c2_u : UnfAt (wpB C I g_law09_ShowRules.c2 (St.mk s o) Q) g_law09_ShowRules_c2_sh := Unf.of _
theorem g_law09_ShowRules_l0_sh (hL : R_l0 = g_law09_ShowRules.l0F R_o2 R_c1 R_c2)
 (h : demand (binV BinOp.lss (s 36) (s 35)) (fun x1 =>
condK x1
 (demand (idxV (s 6) (s 36)) (fun x2 =>
demand (binV BinOp.eql x2 (V.d (.int .u8 10))) (fun x3 =>
condK x3
 (demand (binV BinOp.add (s 8) (V.d (.int .i64 1))) (fun x4 =>
demand (binV BinOp.eql (s 36) (V.d (.int .i64 0))) (fun x5 =>
opsB C I R_o2 (St.mk (look [(3, s 3), (6, s 6), (7, s 7), (8, x4), (9, s 36), (35, s 35), (36, s 36), (47, x5)]) (looko ([3].map fun n => (n, o n)))) (fun st => (seqK (fun st => wpB C I R_c1 st (blockK 1 [3, 6, 7, 8, 35, 36] (some [3]) (seqK (fun st => wpB C I R_c2 st (seqK (fun s => wpB C I R_l0 s Q) Q)) (seqK (fun s => wpB C I R_l0 s Q) Q)))) (blockK 1 [3, 6, 7, 8, 35, 36] (some [3]) (seqK (fun st => wpB C I R_c2 st (seqK (fun s => wpB C I R_l0 s Q) Q)) (seqK (fun s => wpB C I R_l0 s Q) Q)))) .normal (St.trim st [3, 6, 7, 8, 35, 36, 53] (some [3]))))))
 (wpB C I R_c2 (St.mk (look [(3, s 3), (6, s 6), (7, s 7), (8, s 8), (35, s 35), (36, s 36)]) (looko ([3].map fun n => (n, o n)))) (seqK (fun s => wpB C I R_l0 s Q) Q)))))
 (Q (.exit 0) (St.mk (look [(3, s 3), (6, s 6), (7, s 7), (8, s 8), (35, s 35), (36, s 36), (37, x1)]) (looko ([3].map fun n => (n, o n))))))) : wpB C I R_l0 (St.mk s o) Q := w_loopC hL h
theorem g_law09_ShowRules_o11_sh : opsB C I (g_law09_ShowRules.o11) (St.mk s o) K =
 (demand (pickV (s 76) (s 77) (V.d (.bool false))) (fun x1 =>
K (St.mk (upd (upd s 78 x1) 2 x1) o))) := rfl
@[instance] theorem g_law09_ShowRules_o11_u : UnfAt (opsB C I g_law09_ShowRules.o11 (St.mk s o) K) g_law09_ShowRules_o11_sh := Unf.of _
theorem g_law09_ShowRules_o10_sh : opsB C I (g_law09_ShowRules.o10F R_o11) (St.mk s o) K =
 (guardK (s 76) true
 (callK C I (St.mk (upd s 76 (V.d (D.bool true))) o) (some 77) 172 [] (fun r1 or1 =>
opsB C I R_o11 (St.mk (look [(76, (V.d (D.bool true))), (77, r1)]) (looko ([].map fun n => (n, or1 n)))) K))
 (opsB C I R_o11 (St.mk (look [(76, (V.d (D.bool false))), (77, (V.tup []))]) (looko ([].map fun n => (n, o n)))) K)
 (opsB C I R_o11 (St.mk (look [(76, (V.tup [])), (77, (V.tup []))]) (looko ([].map fun n => (n, o n)))) K)) := rfl
@[instance] theorem g_law09_ShowRules_o10_u : UnfAt (opsB C I g_law09_ShowRules.o10 (St.mk s o) K) g_law09_ShowRules_o10_sh := Unf.of _
theorem g_law09_ShowRules_o9_sh : opsB C I (g_law09_ShowRules.o9F R_o10) (St.mk s o) K =
 (demand (pickV (s 64) (s 74) (V.d (.bool false))) (fun x1 =>
opsB C I R_o10 (St.mk (look [(76, x1)]) (looko ([].map fun n => (n, o n)))) K)) := rfl
@[instance] theorem g_law09_ShowRules_o9_u : UnfAt (opsB C I g_law09_ShowRules.o9 (St.mk s o) K) g_law09_ShowRules_o9_sh := Unf.of _
theorem g_law09_ShowRules_o8_sh : opsB C I (g_law09_ShowRules.o8F R_o9) (St.mk s o) K =
 (guardK (s 64) true
 (demand (pickV (s 67) (V.d (.bool true)) (s 73)) (fun x1 =>
opsB C I R_o9 (St.mk (look [(64, (V.d (D.bool true))), (74, x1)]) (looko ([].map fun n => (n, o n)))) K))
 (opsB C I R_o9 (St.mk (look [(64, (V.d (D.bool false))), (74, (V.tup []))]) (looko ([].map fun n => (n, o n)))) K)
 (opsB C I R_o9 (St.mk (look [(64, (V.tup [])), (74, (V.tup []))]) (looko ([].map fun n => (n, o n)))) K)) := rfl
@[instance] theorem g_law09_ShowRules_o8_u : UnfAt (opsB C I g_law09_ShowRules.o8 (St.mk s o) K) g_law09_ShowRules_o8_sh := Unf.of _
theorem g_law09_ShowRules_o7_sh : opsB C I (g_law09_ShowRules.o7F R_o8) (St.mk s o) K =
 (guardK (s 67) false
 (demand (lenSV (s 6)) (fun x1 =>
demand (binV BinOp.sub x1 (V.d (.int .i64 1))) (fun x2 =>
demand (idxV (s 6) x2) (fun x3 =>
demand (binV BinOp.eql x3 (V.d (.int .u8 10))) (fun x4 =>
opsB C I R_o8 (St.mk (look [(64, s 64), (67, (V.d (D.bool false))), (73, x4)]) (looko ([].map fun n => (n, o n)))) K)))))
 (opsB C I R_o8 (St.mk (look [(64, s 64), (67, (V.d (D.bool true))), (73, (V.tup []))]) (looko ([].map fun n => (n, o n)))) K)
 (opsB C I R_o8 (St.mk (look [(64, s 64), (67, (V.tup [])), (73, (V.tup []))]) (looko ([].map fun n => (n, o n)))) K)) := rfl
@[instance] theorem g_law09_ShowRules_o7_u : UnfAt (opsB C I g_law09_ShowRules.o7 (St.mk s o) K) g_law09_ShowRules_o7_sh := Unf.of _
theorem g_law09_ShowRules_o6_sh : opsB C I (g_law09_ShowRules.o6F R_o7) (St.mk s o) K =
 (guardK (s 64) true
 (demand (binV BinOp.eql (s 6) (V.d (.str []))) (fun x1 =>
opsB C I R_o7 (St.mk (look [(6, s 6), (64, (V.d (D.bool true))), (67, x1)]) (looko ([].map fun n => (n, o n)))) K))
 (opsB C I R_o7 (St.mk (look [(6, s 6), (64, (V.d (D.bool false))), (67, (V.tup []))]) (looko ([].map fun n => (n, o n)))) K)
 (opsB C I R_o7 (St.mk (look [(6, s 6), (64, (V.tup [])), (67, (V.tup []))]) (looko ([].map fun n => (n, o n)))) K)) := rfl
@[instance] theorem g_law09_ShowRules_o6_u : UnfAt (opsB C I g_law09_ShowRules.o6 (St.mk s o) K) g_law09_ShowRules_o6_sh := Unf.of _
theorem g_law09_ShowRules_o5_sh : opsB C I (g_law09_ShowRules.o5F R_o6) (St.mk s o) K =
 (demand (pickV (s 57) (s 62) (V.d (.bool false))) (fun x1 =>
opsB C I R_o6 (St.mk (look [(6, s 6), (64, x1)]) (looko ([].map fun n => (n, o n)))) K)) := rfl
@[instance] theorem g_law09_ShowRules_o5_u : UnfAt (opsB C I g_law09_ShowRules.o5 (St.mk s o) K) g_law09_ShowRules_o5_sh := Unf.of _
theorem g_law09_ShowRules_o4_sh : opsB C I (g_law09_ShowRules.o4F R_o5) (St.mk s o) K =
 (guardK (s 57) true
 (demand (faddrV 0 (s 3)) (fun x1 =>
demand (loadV o none x1) (fun x2 =>
demand (lenV o x2) (fun x3 =>
demand (binV BinOp.eql (s 8) x3) (fun x4 =>
opsB C I R_o5 (St.mk (look [(6, s 6), (57, (V.d (D.bool true))), (62, x4)]) (looko ([].map fun n => (n, o n)))) K)))))
 (opsB C I R_o5 (St.mk (look [(6, s 6), (57, (V.d (D.bool false))), (62, (V.tup []))]) (looko ([].map fun n => (n, o n)))) K)
 (opsB C I R_o5 (St.mk (look [(6, s 6), (57, (V.tup [])), (62, (V.tup []))]) (looko ([].map fun n => (n, o n)))) K)) := rfl
@[instance] theorem g_law09_ShowRules_o4_u : UnfAt (opsB C I g_law09_ShowRules.o4 (St.mk s o) K) g_law09_ShowRules_o4_sh := Unf.of _
theorem g_law09_ShowRules_c3_sh : wpB C I (g_law09_ShowRules.c3) (St.mk s o) Q =
 (Q .ret (St.mk s o)) := rfl
@[instance] theorem g_law09_ShowRules_c3_u : UnfAt (wpB C I g_law09_ShowRules.c3 (St.mk s o) Q) g_law09_ShowRules_c3_sh := Unf.of _
theorem g_law09_ShowRules_c4_sh : wpB C I (g_law09_ShowRules.c4F R_o4 R_c3) (St.mk s o) Q =
 (demand (binV BinOp.eql (s 7) (V.d (.int .i64 0))) (fun x1 =>
opsB C I R_o4 (St.mk (look [(3, s 3), (6, s 6), (8, s 8), (57, x1)]) (looko ([3].map fun n => (n, o n)))) (fun st => (seqK (fun st => wpB C I R_c3 st Q) Q) .normal (St.trim st [2] (some []))))) := rfl
@[instance] theorem g_law09_ShowRules_c4_u : UnfAt (wpB C I g_law09_ShowRules.c4 (St.mk s o) Q) g_law09_ShowRules_c4_sh := Unf.of _
theorem g_law09_ShowRules_c5_sh : wpB C I (g_law09_ShowRules.c5F R_l0 R_c4) (St.mk s o) Q =
 (demand (lenSV (s 6)) (fun x1 =>
wpB C I R_l0 (St.mk (look [(3, s 3), (6, s 6), (7, s 7), (8, (V.d (.int .i64 0))), (35, x1), (36, (V.d (.int .i64 0)))]) (looko ([3].map fun n => (n, o n)))) (blockK 0 [3, 6, 7, 8] (some [3]) (seqK (fun st => wpB C I R_c4 st Q) Q)))) := rfl
@[instance] theorem g_law09_ShowRules_c5_u : UnfAt (wpB C I g_law09_ShowRules.c5 (St.mk s o) Q) g_law09_ShowRules_c5_sh := Unf.of _
theorem g_law09_ShowRules_c6_sh : wpB C I (g_law09_ShowRules.c6F R_c5) (St.mk s o) Q =
 (demand (loadV o (some 2) (s 3)) (fun x1 =>
callK C I (St.mk (upd s 30 x1) o) (some 31) 174 [x1] (fun r2 or2 =>
demand (extV r2 0) (fun x3 =>
demand (extV r2 1) (fun x4 =>
wpB C I R_c5 (St.mk (look [(3, s 3), (6, x3), (7, x4)]) (looko ([3].map fun n => (n, or2 n)))) Q))))) := rfl
@[instance] theorem g_law09_ShowRules_c6_u : UnfAt (wpB C I g_law09_ShowRules.c6 (St.mk s o) Q) g_law09_ShowRules_c6_sh := Unf.of _
theorem g_law09_ShowRules_c7_sh : wpB C I (g_law09_ShowRules.c7F R_o0 R_c0 R_c6) (St.mk s o) Q =
 (demand (binV BinOp.neq (s 5) (V.d (.int .i64 0))) (fun x1 =>
condK x1
 (demand (faddrV 0 (s 3)) (fun x2 =>
demand (loadV (looko ([3].map fun n => (n, o n))) none x2) (fun x3 =>
demand (lenV (looko ([3].map fun n => (n, o n))) x3) (fun x4 =>
demand (binV BinOp.eql x4 (V.d (.int .i64 0))) (fun x5 =>
opsB C I R_o0 (St.mk (look [(26, x5)]) (looko ([].map fun n => (n, o n)))) (fun st => (seqK (fun st => wpB C I R_c0 st (seqK (fun st => wpB C I R_c6 st Q) Q)) (seqK (fun st => wpB C I R_c6 st Q) Q)) .normal (St.trim st [2] (some []))))))))
 (wpB C I R_c6 (St.mk (look [(3, s 3), (21, x1)]) (looko ([3].map fun n => (n, o n)))) Q))) := rfl
@[instance] theorem g_law09_ShowRules_c7_u : UnfAt (wpB C I g_law09_ShowRules.c7 (St.mk s o) Q) g_law09_ShowRules_c7_sh := Unf.of _
theorem g_law09_ShowRules_c8_sh : wpB C I (g_law09_ShowRules.c8F R_c7) (St.mk s o) Q =
 (callK C I (St.mk (upd s 15 (s 0)) o) (some 16) 144 [(s 0)] (fun r1 or1 =>
demand (extV r1 0) (fun x2 =>
demand (extV r1 1) (fun x3 =>
demand (extV r1 2) (fun x4 =>
(¬ I 3 ∧ Fresh (St.mk (upd (upd (upd (upd (upd (upd s 15 (s 0)) 16 r1) 14 r1) 17 x2) 18 x3) 19 x4) or1) 3 (some 3) ∧ V.refsL 3 [V.cap0, V.cap0] = false ∧
storeK (V.ptr 3 0) (cellsV x2) 2 (upd or1 3 (some (Ob.box [V.cap0, V.cap0]))) (fun m5 ob6 =>
wpB C I R_c7 (St.mk (look [(3, (V.ptr 3 0)), (5, x4)]) (looko ([3].map fun n => (n, (upd (upd or1 3 (some (Ob.box [V.cap0, V.cap0]))) m5 (some ob6)) n)))) Q))))))) := rfl
@[instance] theorem g_law09_ShowRules_c8_u : UnfAt (wpB C I g_law09_ShowRules.c8 (St.mk s o) Q) g_law09_ShowRules_c8_sh := Unf.of _
theorem g_law09_ShowRules_code_sh : wpB C I (g_law09_ShowRules.codeF R_c8) (St.mk s o) Q =
 (demand (lenSV (s 0)) (fun x1 =>
demand (binV BinOp.gtr x1 (V.d (.int .i64 500))) (fun x2 =>
condK x2
 (callK C I (St.mk (look [(0, s 0), (12, x2)]) (looko ([].map fun n => (n, o n)))) (some 13) 172 [] (fun r3 or3 =>
Q .ret (St.mk (look [(2, r3)]) (looko ([].map fun n => (n, or3 n))))))
 (wpB C I R_c8 (St.mk (look [(0, s 0), (12, x2)]) (looko ([].map fun n => (n, o n)))) Q)))) := rfl
@[instance] theorem g_law09_ShowRules_code_u : UnfAt (wpB C I g_law09_ShowRules.code (St.mk s o) Q) g_law09_ShowRules_code_sh := Unf.of _

end Pay
