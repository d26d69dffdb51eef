/- What the code of the functions comes to, without slots: an equation for each part; no condition. -/
import Derived.Test.YtmglkghngkbioaaGreatDoorPayBb0
import Derived.Test.YtmglkghngkbioaaGreatDoorPayCode5_0
set_option maxRecDepth 20000
set_option maxHeartbeats 400000
set_option linter.unusedVariables false
namespace Pay
open Go
variable {R_c0 R_c1 R_c2 R_c3 R_c4 R_c5 R_c6 R_c7 R_c8 R_c9 R_c10 R_c11 R_c12 R_c13 R_c14 R_c15 R_c16 R_c17 R_l0 : ACode} {R_o0 R_o1 R_o2 R_o3 R_o4 R_o5 R_o6 R_o7 R_o8 R_o9 R_o10 R_o11 R_o12 R_o13 R_o14 R_o15 R_o16 R_o17 R_o18 R_o19 R_o20 R_o21 R_o22 R_o23 R_o24 R_o25 : List AOper} {C : Ctx} {I : Nat → Prop} {s : Nat → V} {o : Nat → Option Ob} {K : St → Prop} {Q : Ex → St → Prop}
theorem g_law10_CheckIf_o3_sh : opsB C I (g_law10_CheckIf.o3) (St.mk s o) K =
 (demand (pickV (s 36) (V.d (.bool true)) (s 39)) (fun x1 =>
K (St.mk (upd s 40 x1) o))) := rfl
@[instance] theorem g_law10_CheckIf_o3_u : UnfAt (opsB C I g_law10_CheckIf.o3 (St.mk s o) K) g_law10_CheckIf_o3_sh := Unf.of _
theorem g_law10_CheckIf_o2_sh : opsB C I (g_law10_CheckIf.o2F R_o3) (St.mk s o) K =
 (guardK (s 36) false
 (demand (lenV o (s 4)) (fun x1 =>
demand (binV BinOp.gtr x1 (V.d (.int .i64 60))) (fun x2 =>
opsB C I R_o3 (St.mk (look [(1, s 1), (2, s 2), (3, s 3), (4, s 4), (5, s 5), (36, (V.d (D.bool false))), (39, x2)]) (looko ([5].map fun n => (n, o n)))) K)))
 (opsB C I R_o3 (St.mk (look [(1, s 1), (2, s 2), (3, s 3), (4, s 4), (5, s 5), (36, (V.d (D.bool true))), (39, (V.tup []))]) (looko ([5].map fun n => (n, o n)))) K)
 (opsB C I R_o3 (St.mk (look [(1, s 1), (2, s 2), (3, s 3), (4, s 4), (5, s 5), (36, (V.tup [])), (39, (V.tup []))]) (looko ([5].map fun n => (n, o n)))) K)) := rfl
@[instance] theorem g_law10_CheckIf_o2_u : UnfAt (opsB C I g_law10_CheckIf.o2 (St.mk s o) K) g_law10_CheckIf_o2_sh := Unf.of _
theorem g_law10_CheckIf_o1_sh : opsB C I (g_law10_CheckIf.o1F R_o2) (St.mk s o) K =
 (demand (pickV (s 30) (V.d (.bool true)) (s 34)) (fun x1 =>
opsB C I R_o2 (St.mk (look [(1, s 1), (2, s 2), (3, s 3), (4, s 4), (5, s 5), (36, x1)]) (looko ([5].map fun n => (n, o n)))) K)) := rfl
@[instance] theorem g_law10_CheckIf_o1_u : UnfAt (opsB C I g_law10_CheckIf.o1 (St.mk s o) K) g_law10_CheckIf_o1_sh := Unf.of _
theorem g_law10_CheckIf_o0_sh : opsB C I (g_law10_CheckIf.o0F R_o1) (St.mk s o) K =
 (guardK (s 30) false
 (demand (loadV o (some 2) (s 5)) (fun x1 =>
callK C I (St.mk (upd (upd (upd s 30 (V.d (D.bool false))) 31 x1) 30 (V.d (D.bool false))) o) (some 32) 160 [x1] (fun r2 or2 =>
callK C I (St.mk (upd (upd (upd (upd (upd s 30 (V.d (D.bool false))) 31 x1) 30 (V.d (D.bool false))) 32 r2) 30 (V.d (D.bool false))) or2) (some 33) 161 [r2] (fun r3 or3 =>
demand (unV UnOp.not r3) (fun x4 =>
opsB C I R_o1 (St.mk (look [(1, s 1), (2, s 2), (3, s 3), (4, s 4), (5, s 5), (30, (V.d (D.bool false))), (34, x4)]) (looko ([5].map fun n => (n, or3 n)))) K)))))
 (opsB C I R_o1 (St.mk (look [(1, s 1), (2, s 2), (3, s 3), (4, s 4), (5, s 5), (30, (V.d (D.bool true))), (34, (V.tup []))]) (looko ([5].map fun n => (n, o n)))) K)
 (opsB C I R_o1 (St.mk (look [(1, s 1), (2, s 2), (3, s 3), (4, s 4), (5, s 5), (30, (V.tup [])), (34, (V.tup []))]) (looko ([5].map fun n => (n, o n)))) K)) := rfl
@[instance] theorem g_law10_CheckIf_o0_u : UnfAt (opsB C I g_law10_CheckIf.o0 (St.mk s o) K) g_law10_CheckIf_o0_sh := Unf.of _
theorem g_law10_CheckIf_c0_sh : wpB C I (g_law10_CheckIf.c0) (St.mk s o) Q =
 (condK (s 40)
 (callK C I (St.mk s o) (some 41) 162 [] (fun r1 or1 =>
Q .ret (St.mk (look [(10, r1)]) (looko ([].map fun n => (n, or1 n))))))
 (Q .normal (St.mk s o))) := rfl
@[instance] theorem g_law10_CheckIf_c0_u : UnfAt (wpB C I g_law10_CheckIf.c0 (St.mk s o) Q) g_law10_CheckIf_c0_sh := Unf.of _
theorem g_law10_CheckIf_o5_sh : opsB C I (g_law10_CheckIf.o5) (St.mk s o) K =
 (demand (pickV (s 53) (V.d (.bool true)) (s 58)) (fun x1 =>
K (St.mk (upd s 59 x1) o))) := rfl
@[instance] theorem g_law10_CheckIf_o5_u : UnfAt (opsB C I g_law10_CheckIf.o5 (St.mk s o) K) g_law10_CheckIf_o5_sh := Unf.of _
theorem g_law10_CheckIf_o4_sh : opsB C I (g_law10_CheckIf.o4F R_o5) (St.mk s o) K =
 (guardK (s 53) false
 (demand (faddrV 1 (s 5)) (fun x1 =>
demand (loadV o none x1) (fun x2 =>
demand (lenV o x2) (fun x3 =>
demand (binV BinOp.geq (s 12) x3) (fun x4 =>
opsB C I R_o5 (St.mk (look [(1, s 1), (2, s 2), (3, s 3), (4, s 4), (5, s 5), (45, s 45), (46, s 46), (47, s 47), (53, (V.d (D.bool false))), (58, x4)]) (looko ([5].map fun n => (n, o n)))) K)))))
 (opsB C I R_o5 (St.mk (look [(1, s 1), (2, s 2), (3, s 3), (4, s 4), (5, s 5), (45, s 45), (46, s 46), (47, s 47), (53, (V.d (D.bool true))), (58, (V.tup []))]) (looko ([5].map fun n => (n, o n)))) K)
 (opsB C I R_o5 (St.mk (look [(1, s 1), (2, s 2), (3, s 3), (4, s 4), (5, s 5), (45, s 45), (46, s 46), (47, s 47), (53, (V.tup [])), (58, (V.tup []))]) (looko ([5].map fun n => (n, o n)))) K)) := rfl
@[instance] theorem g_law10_CheckIf_o4_u : UnfAt (opsB C I g_law10_CheckIf.o4 (St.mk s o) K) g_law10_CheckIf_o4_sh := Unf.of _
theorem g_law10_CheckIf_c1_sh : wpB C I (g_law10_CheckIf.c1) (St.mk s o) Q =
 (condK (s 59)
 (callK C I (St.mk s o) (some 60) 162 [] (fun r1 or1 =>
Q .ret (St.mk (look [(10, r1)]) (looko ([].map fun n => (n, or1 n))))))
 (Q .normal (St.mk s o))) := rfl
@[instance] theorem g_law10_CheckIf_c1_u : UnfAt (wpB C I g_law10_CheckIf.c1 (St.mk s o) Q) g_law10_CheckIf_c1_sh := Unf.of _
theorem g_law10_CheckIf_c2_sh : wpB C I (g_law10_CheckIf.c2) (St.mk s o) Q =
 (demand (binV BinOp.add (s 47) (V.d (.int .i64 1))) (fun x1 =>
Q .normal (St.mk (look [(1, s 1), (2, s 2), (3, s 3), (4, s 4), (5, s 5), (45, s 45), (46, s 46), (47, x1)]) (looko ([5].map fun n => (n, o n)))))) := rfl
@[instance] theorem g_law10_CheckIf_c2_u : UnfAt (wpB C I g_law10_CheckIf.c2 (St.mk s o) Q) g_law10_CheckIf_c2_sh := Unf.of _
theorem g_law10_CheckIf_l0_sh (hL : R_l0 = g_law10_CheckIf.l0F R_o4 R_c1 R_c2)
 (h : demand (binV BinOp.lss (s 47) (s 46)) (fun x1 =>
condK x1
 (demand (iaddrV (looko ([5].map fun n => (n, o n))) 1 (s 45) (s 47)) (fun x2 =>
demand (loadV (looko ([5].map fun n => (n, o n))) none x2) (fun x3 =>
demand (binV BinOp.lss x3 (V.d (.int .i64 0))) (fun x4 =>
opsB C I R_o4 (St.mk (look [(1, s 1), (2, s 2), (3, s 3), (4, s 4), (5, s 5), (12, x3), (45, s 45), (46, s 46), (47, s 47), (53, x4)]) (looko ([5].map fun n => (n, o n)))) (fun st => (seqK (fun st => wpB C I R_c1 st (blockK 1 [1, 2, 3, 4, 5, 45, 46, 47] (some [5]) (seqK (fun st => wpB C I R_c2 st (seqK (fun s => wpB C I R_l0 s Q) Q)) (seqK (fun s => wpB C I R_l0 s Q) Q)))) (blockK 1 [1, 2, 3, 4, 5, 45, 46, 47] (some [5]) (seqK (fun st => wpB C I R_c2 st (seqK (fun s => wpB C I R_l0 s Q) Q)) (seqK (fun s => wpB C I R_l0 s Q) Q)))) .normal (St.trim st [1, 2, 3, 4, 5, 45, 46, 47, 59] (some [5])))))))
 (Q (.exit 0) (St.mk (look [(1, s 1), (2, s 2), (3, s 3), (4, s 4), (5, s 5), (45, s 45), (46, s 46), (47, s 47), (48, x1)]) (looko ([5].map fun n => (n, o n))))))) : wpB C I R_l0 (St.mk s o) Q := w_loopC hL h
theorem g_law10_CheckIf_c3_sh : wpB C I (g_law10_CheckIf.c3F R_l0) (St.mk s o) Q =
 (wpB C I R_l0 (St.mk s o) (blockK 0 [1, 2, 3, 4, 5] (some [5]) Q)) := rfl
@[instance] theorem g_law10_CheckIf_c3_u : UnfAt (wpB C I g_law10_CheckIf.c3 (St.mk s o) Q) g_law10_CheckIf_c3_sh := Unf.of _
theorem g_law10_CheckIf_o9_sh : opsB C I (g_law10_CheckIf.o9) (St.mk s o) K =
 (demand (pickV (s 113) (V.d (.bool true)) (s 115)) (fun x1 =>
K (St.mk (upd s 116 x1) o))) := rfl
@[instance] theorem g_law10_CheckIf_o9_u : UnfAt (opsB C I g_law10_CheckIf.o9 (St.mk s o) K) g_law10_CheckIf_o9_sh := Unf.of _
theorem g_law10_CheckIf_o8_sh : opsB C I (g_law10_CheckIf.o8F R_o9) (St.mk s o) K =
 (guardK (s 113) false
 (demand (binV BinOp.neq (s 21) (V.d (.int .i64 0))) (fun x1 =>
opsB C I R_o9 (St.mk (look [(5, s 5), (13, s 13), (16, s 16), (19, s 19), (23, s 23), (24, s 24), (25, s 25), (113, (V.d (D.bool false))), (115, x1)]) (looko ([5].map fun n => (n, o n)))) K))
 (opsB C I R_o9 (St.mk (look [(5, s 5), (13, s 13), (16, s 16), (19, s 19), (23, s 23), (24, s 24), (25, s 25), (113, (V.d (D.bool true))), (115, (V.tup []))]) (looko ([5].map fun n => (n, o n)))) K)
 (opsB C I R_o9 (St.mk (look [(5, s 5), (13, s 13), (16, s 16), (19, s 19), (23, s 23), (24, s 24), (25, s 25), (113, (V.tup [])), (115, (V.tup []))]) (looko ([5].map fun n => (n, o n)))) K)) := rfl
@[instance] theorem g_law10_CheckIf_o8_u : UnfAt (opsB C I g_law10_CheckIf.o8 (St.mk s o) K) g_law10_CheckIf_o8_sh := Unf.of _
theorem g_law10_CheckIf_o7_sh : opsB C I (g_law10_CheckIf.o7F R_o8) (St.mk s o) K =
 (demand (pickV (s 109) (V.d (.bool true)) (s 111)) (fun x1 =>
opsB C I R_o8 (St.mk (look [(5, s 5), (13, s 13), (16, s 16), (19, s 19), (21, s 21), (23, s 23), (24, s 24), (25, s 25), (113, x1)]) (looko ([5].map fun n => (n, o n)))) K)) := rfl
@[instance] theorem g_law10_CheckIf_o7_u : UnfAt (opsB C I g_law10_CheckIf.o7 (St.mk s o) K) g_law10_CheckIf_o7_sh := Unf.of _
theorem g_law10_CheckIf_o6_sh : opsB C I (g_law10_CheckIf.o6F R_o7) (St.mk s o) K =
 (guardK (s 109) false
 (demand (binV BinOp.neq (s 18) (V.d (.int .i64 0))) (fun x1 =>
opsB C I R_o7 (St.mk (look [(5, s 5), (13, s 13), (16, s 16), (19, s 19), (21, s 21), (23, s 23), (24, s 24), (25, s 25), (109, (V.d (D.bool false))), (111, x1)]) (looko ([5].map fun n => (n, o n)))) K))
 (opsB C I R_o7 (St.mk (look [(5, s 5), (13, s 13), (16, s 16), (19, s 19), (21, s 21), (23, s 23), (24, s 24), (25, s 25), (109, (V.d (D.bool true))), (111, (V.tup []))]) (looko ([5].map fun n => (n, o n)))) K)
 (opsB C I R_o7 (St.mk (look [(5, s 5), (13, s 13), (16, s 16), (19, s 19), (21, s 21), (23, s 23), (24, s 24), (25, s 25), (109, (V.tup [])), (111, (V.tup []))]) (looko ([5].map fun n => (n, o n)))) K)) := rfl
@[instance] theorem g_law10_CheckIf_o6_u : UnfAt (opsB C I g_law10_CheckIf.o6 (St.mk s o) K) g_law10_CheckIf_o6_sh := Unf.of _
theorem g_law10_CheckIf_o13_sh : opsB C I (g_law10_CheckIf.o13) (St.mk s o) K =
 (demand (pickV (s 123) (s 124) (V.d (.bool false))) (fun x1 =>
K (St.mk (upd (upd s 125 x1) 10 x1) o))) := rfl
@[instance] theorem g_law10_CheckIf_o13_u : UnfAt (opsB C I g_law10_CheckIf.o13 (St.mk s o) K) g_law10_CheckIf_o13_sh := Unf.of _
theorem g_law10_CheckIf_o12_sh : opsB C I (g_law10_CheckIf.o12F R_o13) (St.mk s o) K =
 (guardK (s 123) true
 (callK C I (St.mk (upd s 123 (V.d (D.bool true))) o) (some 124) 162 [] (fun r1 or1 =>
opsB C I R_o13 (St.mk (look [(123, (V.d (D.bool true))), (124, r1)]) (looko ([].map fun n => (n, or1 n)))) K))
 (opsB C I R_o13 (St.mk (look [(123, (V.d (D.bool false))), (124, (V.tup []))]) (looko ([].map fun n => (n, o n)))) K)
 (opsB C I R_o13 (St.mk (look [(123, (V.tup [])), (124, (V.tup []))]) (looko ([].map fun n => (n, o n)))) K)) := rfl
@[instance] theorem g_law10_CheckIf_o12_u : UnfAt (opsB C I g_law10_CheckIf.o12 (St.mk s o) K) g_law10_CheckIf_o12_sh := Unf.of _
theorem g_law10_CheckIf_o11_sh : opsB C I (g_law10_CheckIf.o11F R_o12) (St.mk s o) K =
 (demand (pickV (s 119) (s 121) (V.d (.bool false))) (fun x1 =>
opsB C I R_o12 (St.mk (look [(123, x1)]) (looko ([].map fun n => (n, o n)))) K)) := rfl
@[instance] theorem g_law10_CheckIf_o11_u : UnfAt (opsB C I g_law10_CheckIf.o11 (St.mk s o) K) g_law10_CheckIf_o11_sh := Unf.of _
theorem g_law10_CheckIf_o10_sh : opsB C I (g_law10_CheckIf.o10F R_o11) (St.mk s o) K =
 (guardK (s 119) true
 (demand (binV BinOp.neq (s 25) (V.d (.int .i64 0))) (fun x1 =>
opsB C I R_o11 (St.mk (look [(119, (V.d (D.bool true))), (121, x1)]) (looko ([].map fun n => (n, o n)))) K))
 (opsB C I R_o11 (St.mk (look [(119, (V.d (D.bool false))), (121, (V.tup []))]) (looko ([].map fun n => (n, o n)))) K)
 (opsB C I R_o11 (St.mk (look [(119, (V.tup [])), (121, (V.tup []))]) (looko ([].map fun n => (n, o n)))) K)) := rfl
@[instance] theorem g_law10_CheckIf_o10_u : UnfAt (opsB C I g_law10_CheckIf.o10 (St.mk s o) K) g_law10_CheckIf_o10_sh := Unf.of _
theorem g_law10_CheckIf_c4_sh : wpB C I (g_law10_CheckIf.c4) (St.mk s o) Q =
 (Q .ret (St.mk s o)) := rfl
@[instance] theorem g_law10_CheckIf_c4_u : UnfAt (wpB C I g_law10_CheckIf.c4 (St.mk s o) Q) g_law10_CheckIf_c4_sh := Unf.of _
theorem g_law10_CheckIf_c5_sh : wpB C I (g_law10_CheckIf.c5F R_o10 R_c4) (St.mk s o) Q =
 (condK (s 116)
 (demand (binV BinOp.eql (s 23) (V.d (.int .i64 0))) (fun x1 =>
opsB C I R_o10 (St.mk (look [(25, s 25), (119, x1)]) (looko ([].map fun n => (n, o n)))) (fun st => (seqK (fun st => wpB C I R_c4 st Q) Q) .normal (St.trim st [10] (some [])))))
 (Q .normal (St.mk s o))) := rfl
@[instance] theorem g_law10_CheckIf_c5_u : UnfAt (wpB C I g_law10_CheckIf.c5 (St.mk s o) Q) g_law10_CheckIf_c5_sh := Unf.of _
theorem g_law10_CheckIf_o15_sh : opsB C I (g_law10_CheckIf.o15) (St.mk s o) K =
 (demand (pickV (s 128) (s 131) (V.d (.bool false))) (fun x1 =>
K (St.mk (upd s 132 x1) o))) := rfl
@[instance] theorem g_law10_CheckIf_o15_u : UnfAt (opsB C I g_law10_CheckIf.o15 (St.mk s o) K) g_law10_CheckIf_o15_sh := Unf.of _
theorem g_law10_CheckIf_o14_sh : opsB C I (g_law10_CheckIf.o14F R_o15) (St.mk s o) K =
 (guardK (s 128) true
 (demand (binV BinOp.eql (s 16) (s 19)) (fun x1 =>
opsB C I R_o15 (St.mk (look [(5, s 5), (16, s 16), (23, s 23), (24, s 24), (25, s 25), (128, (V.d (D.bool true))), (131, x1)]) (looko ([5].map fun n => (n, o n)))) K))
 (opsB C I R_o15 (St.mk (look [(5, s 5), (16, s 16), (23, s 23), (24, s 24), (25, s 25), (128, (V.d (D.bool false))), (131, (V.tup []))]) (looko ([5].map fun n => (n, o n)))) K)
 (opsB C I R_o15 (St.mk (look [(5, s 5), (16, s 16), (23, s 23), (24, s 24), (25, s 25), (128, (V.tup [])), (131, (V.tup []))]) (looko ([5].map fun n => (n, o n)))) K)) := rfl
@[instance] theorem g_law10_CheckIf_o14_u : UnfAt (opsB C I g_law10_CheckIf.o14 (St.mk s o) K) g_law10_CheckIf_o14_sh := Unf.of _
theorem g_law10_CheckIf_o19_sh : opsB C I (g_law10_CheckIf.o19) (St.mk s o) K =
 (demand (pickV (s 140) (s 141) (V.d (.bool false))) (fun x1 =>
K (St.mk (upd (upd s 142 x1) 10 x1) o))) := rfl
@[instance] theorem g_law10_CheckIf_o19_u : UnfAt (opsB C I g_law10_CheckIf.o19 (St.mk s o) K) g_law10_CheckIf_o19_sh := Unf.of _
theorem g_law10_CheckIf_o18_sh : opsB C I (g_law10_CheckIf.o18F R_o19) (St.mk s o) K =
 (guardK (s 140) true
 (callK C I (St.mk (upd s 140 (V.d (D.bool true))) o) (some 141) 162 [] (fun r1 or1 =>
opsB C I R_o19 (St.mk (look [(140, (V.d (D.bool true))), (141, r1)]) (looko ([].map fun n => (n, or1 n)))) K))
 (opsB C I R_o19 (St.mk (look [(140, (V.d (D.bool false))), (141, (V.tup []))]) (looko ([].map fun n => (n, o n)))) K)
 (opsB C I R_o19 (St.mk (look [(140, (V.tup [])), (141, (V.tup []))]) (looko ([].map fun n => (n, o n)))) K)) := rfl
@[instance] theorem g_law10_CheckIf_o18_u : UnfAt (opsB C I g_law10_CheckIf.o18 (St.mk s o) K) g_law10_CheckIf_o18_sh := Unf.of _
theorem g_law10_CheckIf_o17_sh : opsB C I (g_law10_CheckIf.o17F R_o18) (St.mk s o) K =
 (demand (pickV (s 136) (s 138) (V.d (.bool false))) (fun x1 =>
opsB C I R_o18 (St.mk (look [(140, x1)]) (looko ([].map fun n => (n, o n)))) K)) := rfl
@[instance] theorem g_law10_CheckIf_o17_u : UnfAt (opsB C I g_law10_CheckIf.o17 (St.mk s o) K) g_law10_CheckIf_o17_sh := Unf.of _
theorem g_law10_CheckIf_o16_sh : opsB C I (g_law10_CheckIf.o16F R_o17) (St.mk s o) K =
 (guardK (s 136) true
 (demand (binV BinOp.eql (s 25) (V.d (.int .i64 0))) (fun x1 =>
opsB C I R_o17 (St.mk (look [(136, (V.d (D.bool true))), (138, x1)]) (looko ([].map fun n => (n, o n)))) K))
 (opsB C I R_o17 (St.mk (look [(136, (V.d (D.bool false))), (138, (V.tup []))]) (looko ([].map fun n => (n, o n)))) K)
 (opsB C I R_o17 (St.mk (look [(136, (V.tup [])), (138, (V.tup []))]) (looko ([].map fun n => (n, o n)))) K)) := rfl
@[instance] theorem g_law10_CheckIf_o16_u : UnfAt (opsB C I g_law10_CheckIf.o16 (St.mk s o) K) g_law10_CheckIf_o16_sh := Unf.of _
theorem g_law10_CheckIf_c6_sh : wpB C I (g_law10_CheckIf.c6) (St.mk s o) Q =
 (Q .ret (St.mk s o)) := rfl
@[instance] theorem g_law10_CheckIf_c6_u : UnfAt (wpB C I g_law10_CheckIf.c6 (St.mk s o) Q) g_law10_CheckIf_c6_sh := Unf.of _
theorem g_law10_CheckIf_c7_sh : wpB C I (g_law10_CheckIf.c7F R_o16 R_c6) (St.mk s o) Q =
 (condK (s 132)
 (demand (binV BinOp.eql (s 23) (s 16)) (fun x1 =>
opsB C I R_o16 (St.mk (look [(25, s 25), (136, x1)]) (looko ([].map fun n => (n, o n)))) (fun st => (seqK (fun st => wpB C I R_c6 st Q) Q) .normal (St.trim st [10] (some [])))))
 (Q .normal (St.mk s o))) := rfl
@[instance] theorem g_law10_CheckIf_c7_u : UnfAt (wpB C I g_law10_CheckIf.c7 (St.mk s o) Q) g_law10_CheckIf_c7_sh := Unf.of _
theorem g_law10_CheckIf_o25_sh : opsB C I (g_law10_CheckIf.o25) (St.mk s o) K =
 (demand (pickV (s 156) (s 157) (V.d (.bool false))) (fun x1 =>
K (St.mk (upd (upd s 158 x1) 10 x1) o))) := rfl
@[instance] theorem g_law10_CheckIf_o25_u : UnfAt (opsB C I g_law10_CheckIf.o25 (St.mk s o) K) g_law10_CheckIf_o25_sh := Unf.of _
theorem g_law10_CheckIf_o24_sh : opsB C I (g_law10_CheckIf.o24F R_o25) (St.mk s o) K =
 (guardK (s 156) true
 (callK C I (St.mk (upd s 156 (V.d (D.bool true))) o) (some 157) 162 [] (fun r1 or1 =>
opsB C I R_o25 (St.mk (look [(156, (V.d (D.bool true))), (157, r1)]) (looko ([].map fun n => (n, or1 n)))) K))
 (opsB C I R_o25 (St.mk (look [(156, (V.d (D.bool false))), (157, (V.tup []))]) (looko ([].map fun n => (n, o n)))) K)
 (opsB C I R_o25 (St.mk (look [(156, (V.tup [])), (157, (V.tup []))]) (looko ([].map fun n => (n, o n)))) K)) := rfl
@[instance] theorem g_law10_CheckIf_o24_u : UnfAt (opsB C I g_law10_CheckIf.o24 (St.mk s o) K) g_law10_CheckIf_o24_sh := Unf.of _
theorem g_law10_CheckIf_o23_sh : opsB C I (g_law10_CheckIf.o23F R_o24) (St.mk s o) K =
 (demand (pickV (s 152) (s 154) (V.d (.bool false))) (fun x1 =>
opsB C I R_o24 (St.mk (look [(156, x1)]) (looko ([].map fun n => (n, o n)))) K)) := rfl
@[instance] theorem g_law10_CheckIf_o23_u : UnfAt (opsB C I g_law10_CheckIf.o23 (St.mk s o) K) g_law10_CheckIf_o23_sh := Unf.of _
theorem g_law10_CheckIf_o22_sh : opsB C I (g_law10_CheckIf.o22F R_o23) (St.mk s o) K =
 (guardK (s 152) true
 (demand (binV BinOp.eql (s 25) (V.d (.int .i64 7))) (fun x1 =>
opsB C I R_o23 (St.mk (look [(152, (V.d (D.bool true))), (154, x1)]) (looko ([].map fun n => (n, o n)))) K))
 (opsB C I R_o23 (St.mk (look [(152, (V.d (D.bool false))), (154, (V.tup []))]) (looko ([].map fun n => (n, o n)))) K)
 (opsB C I R_o23 (St.mk (look [(152, (V.tup [])), (154, (V.tup []))]) (looko ([].map fun n => (n, o n)))) K)) := rfl
@[instance] theorem g_law10_CheckIf_o22_u : UnfAt (opsB C I g_law10_CheckIf.o22 (St.mk s o) K) g_law10_CheckIf_o22_sh := Unf.of _
theorem g_law10_CheckIf_o21_sh : opsB C I (g_law10_CheckIf.o21F R_o22) (St.mk s o) K =
 (demand (pickV (s 145) (s 150) (V.d (.bool false))) (fun x1 =>
opsB C I R_o22 (St.mk (look [(25, s 25), (152, x1)]) (looko ([].map fun n => (n, o n)))) K)) := rfl
@[instance] theorem g_law10_CheckIf_o21_u : UnfAt (opsB C I g_law10_CheckIf.o21 (St.mk s o) K) g_law10_CheckIf_o21_sh := Unf.of _
theorem g_law10_CheckIf_o20_sh : opsB C I (g_law10_CheckIf.o20F R_o21) (St.mk s o) K =
 (guardK (s 145) true
 (demand (faddrV 1 (s 5)) (fun x1 =>
demand (loadV o none x1) (fun x2 =>
demand (lenV o x2) (fun x3 =>
demand (binV BinOp.eql (s 24) x3) (fun x4 =>
opsB C I R_o21 (St.mk (look [(25, s 25), (145, (V.d (D.bool true))), (150, x4)]) (looko ([].map fun n => (n, o n)))) K)))))
 (opsB C I R_o21 (St.mk (look [(25, s 25), (145, (V.d (D.bool false))), (150, (V.tup []))]) (looko ([].map fun n => (n, o n)))) K)
 (opsB C I R_o21 (St.mk (look [(25, s 25), (145, (V.tup [])), (150, (V.tup []))]) (looko ([].map fun n => (n, o n)))) K)) := rfl
@[instance] theorem g_law10_CheckIf_o20_u : UnfAt (opsB C I g_law10_CheckIf.o20 (St.mk s o) K) g_law10_CheckIf_o20_sh := Unf.of _
theorem g_law10_CheckIf_c8_sh : wpB C I (g_law10_CheckIf.c8) (St.mk s o) Q =
 (Q .ret (St.mk s o)) := rfl
@[instance] theorem g_law10_CheckIf_c8_u : UnfAt (wpB C I g_law10_CheckIf.c8 (St.mk s o) Q) g_law10_CheckIf_c8_sh := Unf.of _
theorem g_law10_CheckIf_c9_sh : wpB C I (g_law10_CheckIf.c9F R_o20 R_c8) (St.mk s o) Q =
 (demand (binV BinOp.eql (s 23) (V.d (.int .i64 0))) (fun x1 =>
opsB C I R_o20 (St.mk (look [(5, s 5), (24, s 24), (25, s 25), (145, x1)]) (looko ([5].map fun n => (n, o n)))) (fun st => (seqK (fun st => wpB C I R_c8 st Q) Q) .normal (St.trim st [10] (some []))))) := rfl
@[instance] theorem g_law10_CheckIf_c9_u : UnfAt (wpB C I g_law10_CheckIf.c9 (St.mk s o) Q) g_law10_CheckIf_c9_sh := Unf.of _
theorem g_law10_CheckIf_c10_sh : wpB C I (g_law10_CheckIf.c10F R_o14 R_c7 R_c9) (St.mk s o) Q =
 (demand (binV BinOp.eql (s 13) (V.d (.int .i64 4))) (fun x1 =>
opsB C I R_o14 (St.mk (look [(5, s 5), (16, s 16), (19, s 19), (23, s 23), (24, s 24), (25, s 25), (128, x1)]) (looko ([5].map fun n => (n, o n)))) (fun st => (seqK (fun st => wpB C I R_c7 st (seqK (fun st => wpB C I R_c9 st Q) Q)) (seqK (fun st => wpB C I R_c9 st Q) Q)) .normal (St.trim st [5, 16, 23, 24, 25, 132] (some [5]))))) := rfl
@[instance] theorem g_law10_CheckIf_c10_u : UnfAt (wpB C I g_law10_CheckIf.c10 (St.mk s o) Q) g_law10_CheckIf_c10_sh := Unf.of _
theorem g_law10_CheckIf_c11_sh : wpB C I (g_law10_CheckIf.c11F R_o6 R_c5 R_c10) (St.mk s o) Q =
 (demand (binV BinOp.neq (s 15) (V.d (.int .i64 0))) (fun x1 =>
opsB C I R_o6 (St.mk (look [(5, s 5), (13, s 13), (16, s 16), (18, s 18), (19, s 19), (21, s 21), (23, s 23), (24, s 24), (25, s 25), (109, x1)]) (looko ([5].map fun n => (n, o n)))) (fun st => (seqK (fun st => wpB C I R_c5 st (seqK (fun st => wpB C I R_c10 st Q) Q)) (seqK (fun st => wpB C I R_c10 st Q) Q)) .normal (St.trim st [5, 13, 16, 19, 23, 24, 25, 116] (some [5]))))) := rfl
@[instance] theorem g_law10_CheckIf_c11_u : UnfAt (wpB C I g_law10_CheckIf.c11 (St.mk s o) Q) g_law10_CheckIf_c11_sh := Unf.of _
theorem g_law10_CheckIf_c12_sh : wpB C I (g_law10_CheckIf.c12F R_c11) (St.mk s o) Q =
 (demand (loadV o (some 2) (s 22)) (fun x1 =>
demand (faddrV 1 (s 5)) (fun x2 =>
demand (loadV o none x2) (fun x3 =>
demand (lenV o x3) (fun x4 =>
callK C I (St.mk (upd (upd (upd (upd (upd s 98 x1) 99 x2) 100 x3) 101 x4) 102 (s 4)) o) (some 103) 163 [x1, x4, (s 4)] (fun r5 or5 =>
demand (extV r5 0) (fun x6 =>
demand (extV r5 1) (fun x7 =>
demand (extV r5 2) (fun x8 =>
wpB C I R_c11 (St.mk (look [(5, s 5), (13, s 13), (15, s 15), (16, s 16), (18, s 18), (19, s 19), (21, s 21), (23, x6), (24, x7), (25, x8)]) (looko ([5].map fun n => (n, or5 n)))) Q))))))))) := rfl
@[instance] theorem g_law10_CheckIf_c12_u : UnfAt (wpB C I g_law10_CheckIf.c12 (St.mk s o) Q) g_law10_CheckIf_c12_sh := Unf.of _
theorem g_law10_CheckIf_c13_sh : wpB C I (g_law10_CheckIf.c13F R_c12) (St.mk s o) Q =
 (demand (faddrV 1 (s 5)) (fun x2 =>
demand (loadV o none x2) (fun x3 =>
lstK (readD o x3) (fun ys4 => (∀ e ∈ ys4, e.length = 6) ∧ appK V.cap0
 (ys4.length * 64 ≤ 140737488355328 ∧ ys4.length ≤ 140737488355328 ∧ ¬ I 89 ∧ Fresh (St.mk (upd (upd (upd s 86 V.cap0) 87 x2) 88 x3) o) 89 (some 89) ∧
demand ((buildN [V.d (.str []), V.d (.str []), V.d (.int .i64 0), V.d (.int .i64 0), V.d (.int .i64 0), V.d (.int .i64 0)] [(0, 1, (V.d (.str [105, 102]))), (3, 1, (s 1)), (4, 1, (s 2)), (5, 1, (s 3))]).map V.agg) (fun x9 =>
lstK (partsN 6 [x9]) (fun es10 =>
lstK (readD (upd o 89 (some (Ob.row 6 ys4))) (V.d (D.sl es10))) (fun ys11 => (∀ e ∈ ys11, e.length = 6) ∧ appK (V.own 89)
 (ys11.length * 64 ≤ 140737488355328 ∧ ys11.length ≤ 140737488355328 ∧
demand ((buildN [V.cap0, V.cap0] [(1, 1, (V.d (D.sl ys11)))]).map V.agg) (fun x16 =>
(¬ I 22 ∧ Fresh (St.mk (upd (upd (upd (upd (upd (upd (upd (upd (upd (upd (upd s 86 V.cap0) 87 x2) 88 x3) 89 (V.own 89)) 90 (s 1)) 91 (s 2)) 92 (s 3)) 93 x9) 94 (V.d (D.sl es10))) 95 (V.d (D.sl ys11))) 96 x16) (upd o 89 (some (Ob.row 6 ys4)))) 22 (some 22) ∧ V.refsL 22 [V.cap0, V.cap0] = false ∧
storeK (V.ptr 22 0) (cellsV x16) 2 (upd (upd o 89 (some (Ob.row 6 ys4))) 22 (some (Ob.box [V.cap0, V.cap0]))) (fun m17 ob18 =>
wpB C I R_c12 (St.mk (look [(4, s 4), (5, s 5), (13, s 13), (15, s 15), (16, s 16), (18, s 18), (19, s 19), (21, s 21), (22, (V.ptr 22 0))]) (looko ([5, 22].map fun n => (n, (upd (upd (upd o 89 (some (Ob.row 6 ys4))) 22 (some (Ob.box [V.cap0, V.cap0]))) m17 (some ob18)) n)))) Q))))
 (fun m12 => ¬ I m12 ∧ rowK ((upd o 89 (some (Ob.row 6 ys4))) m12) (fun z13 es14 => z13 = 6 ∧ (es14.length + ys11.length) * 64 ≤ 140737488355328 ∧ es14.length + ys11.length ≤ 140737488355328 ∧
freeK (St.mk (upd (fun t => scrubV m12 ((upd (upd (upd (upd (upd (upd (upd (upd (upd s 86 V.cap0) 87 x2) 88 x3) 89 (V.own 89)) 90 (s 1)) 91 (s 2)) 92 (s 3)) 93 x9) 94 (V.d (D.sl es10))) t)) 95 (V.own m12)) (upd (fun n => ((upd o 89 (some (Ob.row 6 ys4))) n).map (Ob.scrub m12)) m12 (some (Ob.row 6 (es14 ++ ys11))))) m12 (fun st15 =>
demand ((buildN [V.cap0, V.cap0] [(1, 1, (st15.s 95))]).map V.agg) (fun x19 =>
(¬ I 22 ∧ Fresh (St.mk (upd st15.s 96 x19) st15.o) 22 (some 22) ∧ V.refsL 22 [V.cap0, V.cap0] = false ∧
storeK (V.ptr 22 0) (cellsV x19) 2 (upd st15.o 22 (some (Ob.box [V.cap0, V.cap0]))) (fun m20 ob21 =>
wpB C I R_c12 (St.mk (look [(4, (st15.s 4)), (5, (st15.s 5)), (13, (st15.s 13)), (15, (st15.s 15)), (16, (st15.s 16)), (18, (st15.s 18)), (19, (st15.s 19)), (21, (st15.s 21)), (22, (V.ptr 22 0))]) (looko ([5, 22].map fun n => (n, (upd (upd st15.o 22 (some (Ob.box [V.cap0, V.cap0]))) m20 (some ob21)) n)))) Q))))))))))
 (fun m5 => ¬ I m5 ∧ rowK (o m5) (fun z6 es7 => z6 = 6 ∧ (es7.length + ys4.length) * 64 ≤ 140737488355328 ∧ es7.length + ys4.length ≤ 140737488355328 ∧
demand ((buildN [V.d (.str []), V.d (.str []), V.d (.int .i64 0), V.d (.int .i64 0), V.d (.int .i64 0), V.d (.int .i64 0)] [(0, 1, (V.d (.str [105, 102]))), (3, 1, ((fun t => scrubV m5 (s t)) 1)), (4, 1, ((fun t => scrubV m5 (s t)) 2)), (5, 1, ((fun t => scrubV m5 (s t)) 3))]).map V.agg) (fun x22 =>
lstK (partsN 6 [x22]) (fun es23 =>
lstK (readD (upd (fun n => (o n).map (Ob.scrub m5)) m5 (some (Ob.row 6 (es7 ++ ys4)))) (V.d (D.sl es23))) (fun ys24 => (∀ e ∈ ys24, e.length = 6) ∧ appK (V.own m5)
 (ys24.length * 64 ≤ 140737488355328 ∧ ys24.length ≤ 140737488355328 ∧
demand ((buildN [V.cap0, V.cap0] [(1, 1, (V.d (D.sl ys24)))]).map V.agg) (fun x29 =>
(¬ I 22 ∧ Fresh (St.mk (upd (upd (upd (upd (upd (upd (upd (upd (fun t => scrubV m5 ((upd (upd (upd s 86 V.cap0) 87 x2) 88 x3) t)) 89 (V.own m5)) 90 ((fun t => scrubV m5 (s t)) 1)) 91 ((fun t => scrubV m5 (s t)) 2)) 92 ((fun t => scrubV m5 (s t)) 3)) 93 x22) 94 (V.d (D.sl es23))) 95 (V.d (D.sl ys24))) 96 x29) (upd (fun n => (o n).map (Ob.scrub m5)) m5 (some (Ob.row 6 (es7 ++ ys4))))) 22 (some 22) ∧ V.refsL 22 [V.cap0, V.cap0] = false ∧
storeK (V.ptr 22 0) (cellsV x29) 2 (upd (upd (fun n => (o n).map (Ob.scrub m5)) m5 (some (Ob.row 6 (es7 ++ ys4)))) 22 (some (Ob.box [V.cap0, V.cap0]))) (fun m30 ob31 =>
wpB C I R_c12 (St.mk (look [(4, ((fun t => scrubV m5 (s t)) 4)), (5, ((fun t => scrubV m5 (s t)) 5)), (13, ((fun t => scrubV m5 (s t)) 13)), (15, ((fun t => scrubV m5 (s t)) 15)), (16, ((fun t => scrubV m5 (s t)) 16)), (18, ((fun t => scrubV m5 (s t)) 18)), (19, ((fun t => scrubV m5 (s t)) 19)), (21, ((fun t => scrubV m5 (s t)) 21)), (22, (V.ptr 22 0))]) (looko ([5, 22].map fun n => (n, (upd (upd (upd (fun n => (o n).map (Ob.scrub m5)) m5 (some (Ob.row 6 (es7 ++ ys4)))) 22 (some (Ob.box [V.cap0, V.cap0]))) m30 (some ob31)) n)))) Q))))
 (fun m25 => ¬ I m25 ∧ rowK ((upd (fun n => (o n).map (Ob.scrub m5)) m5 (some (Ob.row 6 (es7 ++ ys4)))) m25) (fun z26 es27 => z26 = 6 ∧ (es27.length + ys24.length) * 64 ≤ 140737488355328 ∧ es27.length + ys24.length ≤ 140737488355328 ∧
freeK (St.mk (upd (fun t => scrubV m25 ((upd (upd (upd (upd (upd (upd (fun t => scrubV m5 ((upd (upd (upd s 86 V.cap0) 87 x2) 88 x3) t)) 89 (V.own m5)) 90 ((fun t => scrubV m5 (s t)) 1)) 91 ((fun t => scrubV m5 (s t)) 2)) 92 ((fun t => scrubV m5 (s t)) 3)) 93 x22) 94 (V.d (D.sl es23))) t)) 95 (V.own m25)) (upd (fun n => ((upd (fun n => (o n).map (Ob.scrub m5)) m5 (some (Ob.row 6 (es7 ++ ys4)))) n).map (Ob.scrub m25)) m25 (some (Ob.row 6 (es27 ++ ys24))))) m25 (fun st28 =>
demand ((buildN [V.cap0, V.cap0] [(1, 1, (st28.s 95))]).map V.agg) (fun x32 =>
(¬ I 22 ∧ Fresh (St.mk (upd st28.s 96 x32) st28.o) 22 (some 22) ∧ V.refsL 22 [V.cap0, V.cap0] = false ∧
storeK (V.ptr 22 0) (cellsV x32) 2 (upd st28.o 22 (some (Ob.box [V.cap0, V.cap0]))) (fun m33 ob34 =>
wpB C I R_c12 (St.mk (look [(4, (st28.s 4)), (5, (st28.s 5)), (13, (st28.s 13)), (15, (st28.s 15)), (16, (st28.s 16)), (18, (st28.s 18)), (19, (st28.s 19)), (21, (st28.s 21)), (22, (V.ptr 22 0))]) (looko ([5, 22].map fun n => (n, (upd (upd st28.o 22 (some (Ob.box [V.cap0, V.cap0]))) m33 (some ob34)) n)))) Q))))))))))))))) := rfl
@[instance] theorem g_law10_CheckIf_c13_u : UnfAt (wpB C I g_law10_CheckIf.c13 (St.mk s o) Q) g_law10_CheckIf_c13_sh := Unf.of _
theorem g_law10_CheckIf_c14_sh : wpB C I (g_law10_CheckIf.c14F R_c13) (St.mk s o) Q =
 (demand (loadV o (some 2) (s 5)) (fun x1 =>
callK C I (St.mk (upd (upd (upd s 79 x1) 80 (s 3)) 81 (s 4)) o) (some 82) 163 [x1, (s 3), (s 4)] (fun r2 or2 =>
demand (extV r2 0) (fun x3 =>
demand (extV r2 1) (fun x4 =>
demand (extV r2 2) (fun x5 =>
wpB C I R_c13 (St.mk (look [(1, s 1), (2, s 2), (3, s 3), (4, s 4), (5, s 5), (13, s 13), (15, s 15), (16, s 16), (18, s 18), (19, x3), (21, x5)]) (looko ([5].map fun n => (n, or2 n)))) Q)))))) := rfl
@[instance] theorem g_law10_CheckIf_c14_u : UnfAt (wpB C I g_law10_CheckIf.c14 (St.mk s o) Q) g_law10_CheckIf_c14_sh := Unf.of _
theorem g_law10_CheckIf_c15_sh : wpB C I (g_law10_CheckIf.c15F R_c14) (St.mk s o) Q =
 (demand (loadV o (some 2) (s 5)) (fun x1 =>
callK C I (St.mk (upd (upd (upd s 71 x1) 72 (s 2)) 73 (s 4)) o) (some 74) 163 [x1, (s 2), (s 4)] (fun r2 or2 =>
demand (extV r2 0) (fun x3 =>
demand (extV r2 1) (fun x4 =>
demand (extV r2 2) (fun x5 =>
wpB C I R_c14 (St.mk (look [(1, s 1), (2, s 2), (3, s 3), (4, s 4), (5, s 5), (13, s 13), (15, s 15), (16, x3), (18, x5)]) (looko ([5].map fun n => (n, or2 n)))) Q)))))) := rfl
@[instance] theorem g_law10_CheckIf_c15_u : UnfAt (wpB C I g_law10_CheckIf.c15 (St.mk s o) Q) g_law10_CheckIf_c15_sh := Unf.of _
theorem g_law10_CheckIf_c16_sh : wpB C I (g_law10_CheckIf.c16F R_c15) (St.mk s o) Q =
 (demand (loadV o (some 2) (s 5)) (fun x1 =>
callK C I (St.mk (upd (upd (upd s 63 x1) 64 (s 1)) 65 (s 4)) o) (some 66) 163 [x1, (s 1), (s 4)] (fun r2 or2 =>
demand (extV r2 0) (fun x3 =>
demand (extV r2 1) (fun x4 =>
demand (extV r2 2) (fun x5 =>
wpB C I R_c15 (St.mk (look [(1, s 1), (2, s 2), (3, s 3), (4, s 4), (5, s 5), (13, x3), (15, x5)]) (looko ([5].map fun n => (n, or2 n)))) Q)))))) := rfl
@[instance] theorem g_law10_CheckIf_c16_u : UnfAt (wpB C I g_law10_CheckIf.c16 (St.mk s o) Q) g_law10_CheckIf_c16_sh := Unf.of _
theorem g_law10_CheckIf_c17_sh : wpB C I (g_law10_CheckIf.c17F R_c3 R_c16) (St.mk s o) Q =
 (lstK (partsN 1 [(s 1), (s 2), (s 3)]) (fun es1 =>
demand (lenV o (V.d (D.sl es1))) (fun x2 =>
wpB C I R_c3 (St.mk (look [(1, s 1), (2, s 2), (3, s 3), (4, s 4), (5, s 5), (45, (V.d (D.sl es1))), (46, x2), (47, (V.d (.int .i64 0)))]) (looko ([5].map fun n => (n, o n)))) (seqK (fun st => wpB C I R_c16 st Q) Q)))) := rfl
@[instance] theorem g_law10_CheckIf_c17_u : UnfAt (wpB C I g_law10_CheckIf.c17 (St.mk s o) Q) g_law10_CheckIf_c17_sh := Unf.of _
theorem g_law10_CheckIf_code_sh : wpB C I (g_law10_CheckIf.codeF R_o0 R_c0 R_c17) (St.mk s o) Q =
 (lstK (cellsV (s 0)) (fun c1 => c1.length = 2 ∧ ¬ I 5 ∧ Fresh (St.mk s o) 5 (some 5) ∧ V.refsL 5 c1 = false ∧
demand (faddrV 1 (V.ptr 5 0)) (fun x2 =>
demand (loadV (looko ([5].map fun n => (n, (upd o 5 (some (Ob.box c1))) n))) none x2) (fun x3 =>
demand (lenV (looko ([5].map fun n => (n, (upd o 5 (some (Ob.box c1))) n))) x3) (fun x4 =>
demand (binV BinOp.gtr x4 (V.d (.int .i64 200))) (fun x5 =>
opsB C I R_o0 (St.mk (look [(1, s 1), (2, s 2), (3, s 3), (4, s 4), (5, (V.ptr 5 0)), (30, x5)]) (looko ([5].map fun n => (n, (upd o 5 (some (Ob.box c1))) n)))) (fun st => (seqK (fun st => wpB C I R_c0 st (seqK (fun st => wpB C I R_c17 st Q) Q)) (seqK (fun st => wpB C I R_c17 st Q) Q)) .normal (St.trim st [1, 2, 3, 4, 5, 40] (some [5]))))))))) := rfl
@[instance] theorem g_law10_CheckIf_code_u : UnfAt (wpB C I g_law10_CheckIf.code (St.mk s o) Q) g_law10_CheckIf_code_sh := Unf.of _

end Pay
