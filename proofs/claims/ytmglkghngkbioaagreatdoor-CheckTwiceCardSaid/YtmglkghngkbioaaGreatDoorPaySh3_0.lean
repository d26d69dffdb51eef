/- What the code of the functions comes to, without slots: an equation for each part; no condition. -/
import Derived.Test.YtmglkghngkbioaaGreatDoorPayBb0
import Derived.Test.YtmglkghngkbioaaGreatDoorPayCode3_0
set_option maxRecDepth 20000
set_option maxHeartbeats 400000
set_option linter.unusedVariables false
namespace Pay
open Go
variable {R_c0 R_c1 R_c2 R_c3 R_c4 R_c5 R_c6 R_c7 R_c8 R_c9 R_c10 R_c11 R_c12 R_c13 R_c14 R_c15 : ACode} {R_o0 R_o1 R_o2 R_o3 R_o4 R_o5 R_o6 R_o7 R_o8 R_o9 R_o10 R_o11 R_o12 R_o13 R_o14 R_o15 R_o16 R_o17 R_o18 R_o19 R_o20 R_o21 R_o22 R_o23 R_o24 R_o25 R_o26 R_o27 R_o28 R_o29 R_o30 R_o31 R_o32 R_o33 R_o34 R_o35 R_o36 : List AOper} {C : Ctx} {I : Nat → Prop} {s : Nat → V} {o : Nat → Option Ob} {K : St → Prop} {Q : Ex → St → Prop}
theorem g_law10_CheckTwice_o3_sh : opsB C I (g_law10_CheckTwice.o3) (St.mk s o) K =
 (demand (pickV (s 38) (V.d (.bool true)) (s 41)) (fun x1 =>
K (St.mk (upd s 42 x1) o))) := rfl
@[instance] theorem g_law10_CheckTwice_o3_u : UnfAt (opsB C I g_law10_CheckTwice.o3 (St.mk s o) K) g_law10_CheckTwice_o3_sh := Unf.of _
theorem g_law10_CheckTwice_o2_sh : opsB C I (g_law10_CheckTwice.o2F R_o3) (St.mk s o) K =
 (guardK (s 38) false
 (demand (lenV o (s 3)) (fun x1 =>
demand (binV BinOp.gtr x1 (V.d (.int .i64 60))) (fun x2 =>
opsB C I R_o3 (St.mk (look [(1, s 1), (2, s 2), (3, s 3), (4, s 4), (38, (V.d (D.bool false))), (41, x2)]) (looko ([4].map fun n => (n, o n)))) K)))
 (opsB C I R_o3 (St.mk (look [(1, s 1), (2, s 2), (3, s 3), (4, s 4), (38, (V.d (D.bool true))), (41, (V.tup []))]) (looko ([4].map fun n => (n, o n)))) K)
 (opsB C I R_o3 (St.mk (look [(1, s 1), (2, s 2), (3, s 3), (4, s 4), (38, (V.tup [])), (41, (V.tup []))]) (looko ([4].map fun n => (n, o n)))) K)) := rfl
@[instance] theorem g_law10_CheckTwice_o2_u : UnfAt (opsB C I g_law10_CheckTwice.o2 (St.mk s o) K) g_law10_CheckTwice_o2_sh := Unf.of _
theorem g_law10_CheckTwice_o1_sh : opsB C I (g_law10_CheckTwice.o1F R_o2) (St.mk s o) K =
 (demand (pickV (s 32) (V.d (.bool true)) (s 36)) (fun x1 =>
opsB C I R_o2 (St.mk (look [(1, s 1), (2, s 2), (3, s 3), (4, s 4), (38, x1)]) (looko ([4].map fun n => (n, o n)))) K)) := rfl
@[instance] theorem g_law10_CheckTwice_o1_u : UnfAt (opsB C I g_law10_CheckTwice.o1 (St.mk s o) K) g_law10_CheckTwice_o1_sh := Unf.of _
theorem g_law10_CheckTwice_o0_sh : opsB C I (g_law10_CheckTwice.o0F R_o1) (St.mk s o) K =
 (guardK (s 32) false
 (demand (loadV o (some 2) (s 4)) (fun x1 =>
callK C I (St.mk (upd (upd (upd s 32 (V.d (D.bool false))) 33 x1) 32 (V.d (D.bool false))) o) (some 34) 160 [x1] (fun r2 or2 =>
callK C I (St.mk (upd (upd (upd (upd (upd s 32 (V.d (D.bool false))) 33 x1) 32 (V.d (D.bool false))) 34 r2) 32 (V.d (D.bool false))) or2) (some 35) 161 [r2] (fun r3 or3 =>
demand (unV UnOp.not r3) (fun x4 =>
opsB C I R_o1 (St.mk (look [(1, s 1), (2, s 2), (3, s 3), (4, s 4), (32, (V.d (D.bool false))), (36, x4)]) (looko ([4].map fun n => (n, or3 n)))) K)))))
 (opsB C I R_o1 (St.mk (look [(1, s 1), (2, s 2), (3, s 3), (4, s 4), (32, (V.d (D.bool true))), (36, (V.tup []))]) (looko ([4].map fun n => (n, o n)))) K)
 (opsB C I R_o1 (St.mk (look [(1, s 1), (2, s 2), (3, s 3), (4, s 4), (32, (V.tup [])), (36, (V.tup []))]) (looko ([4].map fun n => (n, o n)))) K)) := rfl
@[instance] theorem g_law10_CheckTwice_o0_u : UnfAt (opsB C I g_law10_CheckTwice.o0 (St.mk s o) K) g_law10_CheckTwice_o0_sh := Unf.of _
theorem g_law10_CheckTwice_c0_sh : wpB C I (g_law10_CheckTwice.c0) (St.mk s o) Q =
 (condK (s 42)
 (callK C I (St.mk s o) (some 43) 162 [] (fun r1 or1 =>
Q .ret (St.mk (look [(8, r1)]) (looko ([].map fun n => (n, or1 n))))))
 (Q .normal (St.mk s o))) := rfl
@[instance] theorem g_law10_CheckTwice_c0_u : UnfAt (wpB C I g_law10_CheckTwice.c0 (St.mk s o) Q) g_law10_CheckTwice_c0_sh := Unf.of _
theorem g_law10_CheckTwice_o13_sh : opsB C I (g_law10_CheckTwice.o13) (St.mk s o) K =
 (demand (pickV (s 81) (V.d (.bool true)) (s 86)) (fun x1 =>
K (St.mk (upd s 87 x1) o))) := rfl
@[instance] theorem g_law10_CheckTwice_o13_u : UnfAt (opsB C I g_law10_CheckTwice.o13 (St.mk s o) K) g_law10_CheckTwice_o13_sh := Unf.of _
theorem g_law10_CheckTwice_o12_sh : opsB C I (g_law10_CheckTwice.o12F R_o13) (St.mk s o) K =
 (guardK (s 81) false
 (demand (faddrV 1 (s 4)) (fun x1 =>
demand (loadV o none x1) (fun x2 =>
demand (lenV o x2) (fun x3 =>
demand (binV BinOp.geq (s 2) x3) (fun x4 =>
opsB C I R_o13 (St.mk (look [(1, s 1), (2, s 2), (3, s 3), (4, s 4), (9, s 9), (12, s 12), (81, (V.d (D.bool false))), (86, x4)]) (looko ([4].map fun n => (n, o n)))) K)))))
 (opsB C I R_o13 (St.mk (look [(1, s 1), (2, s 2), (3, s 3), (4, s 4), (9, s 9), (12, s 12), (81, (V.d (D.bool true))), (86, (V.tup []))]) (looko ([4].map fun n => (n, o n)))) K)
 (opsB C I R_o13 (St.mk (look [(1, s 1), (2, s 2), (3, s 3), (4, s 4), (9, s 9), (12, s 12), (81, (V.tup [])), (86, (V.tup []))]) (looko ([4].map fun n => (n, o n)))) K)) := rfl
@[instance] theorem g_law10_CheckTwice_o12_u : UnfAt (opsB C I g_law10_CheckTwice.o12 (St.mk s o) K) g_law10_CheckTwice_o12_sh := Unf.of _
theorem g_law10_CheckTwice_o11_sh : opsB C I (g_law10_CheckTwice.o11F R_o12) (St.mk s o) K =
 (demand (pickV (s 74) (V.d (.bool true)) (s 79)) (fun x1 =>
opsB C I R_o12 (St.mk (look [(1, s 1), (2, s 2), (3, s 3), (4, s 4), (9, s 9), (12, s 12), (81, x1)]) (looko ([4].map fun n => (n, o n)))) K)) := rfl
@[instance] theorem g_law10_CheckTwice_o11_u : UnfAt (opsB C I g_law10_CheckTwice.o11 (St.mk s o) K) g_law10_CheckTwice_o11_sh := Unf.of _
theorem g_law10_CheckTwice_o10_sh : opsB C I (g_law10_CheckTwice.o10F R_o11) (St.mk s o) K =
 (guardK (s 74) false
 (demand (faddrV 1 (s 4)) (fun x1 =>
demand (loadV o none x1) (fun x2 =>
demand (lenV o x2) (fun x3 =>
demand (binV BinOp.geq (s 1) x3) (fun x4 =>
opsB C I R_o11 (St.mk (look [(1, s 1), (2, s 2), (3, s 3), (4, s 4), (9, s 9), (12, s 12), (74, (V.d (D.bool false))), (79, x4)]) (looko ([4].map fun n => (n, o n)))) K)))))
 (opsB C I R_o11 (St.mk (look [(1, s 1), (2, s 2), (3, s 3), (4, s 4), (9, s 9), (12, s 12), (74, (V.d (D.bool true))), (79, (V.tup []))]) (looko ([4].map fun n => (n, o n)))) K)
 (opsB C I R_o11 (St.mk (look [(1, s 1), (2, s 2), (3, s 3), (4, s 4), (9, s 9), (12, s 12), (74, (V.tup [])), (79, (V.tup []))]) (looko ([4].map fun n => (n, o n)))) K)) := rfl
@[instance] theorem g_law10_CheckTwice_o10_u : UnfAt (opsB C I g_law10_CheckTwice.o10 (St.mk s o) K) g_law10_CheckTwice_o10_sh := Unf.of _
theorem g_law10_CheckTwice_o9_sh : opsB C I (g_law10_CheckTwice.o9F R_o10) (St.mk s o) K =
 (demand (pickV (s 70) (V.d (.bool true)) (s 72)) (fun x1 =>
opsB C I R_o10 (St.mk (look [(1, s 1), (2, s 2), (3, s 3), (4, s 4), (9, s 9), (12, s 12), (74, x1)]) (looko ([4].map fun n => (n, o n)))) K)) := rfl
@[instance] theorem g_law10_CheckTwice_o9_u : UnfAt (opsB C I g_law10_CheckTwice.o9 (St.mk s o) K) g_law10_CheckTwice_o9_sh := Unf.of _
theorem g_law10_CheckTwice_o8_sh : opsB C I (g_law10_CheckTwice.o8F R_o9) (St.mk s o) K =
 (guardK (s 70) false
 (demand (binV BinOp.lss (s 2) (V.d (.int .i64 0))) (fun x1 =>
opsB C I R_o9 (St.mk (look [(1, s 1), (2, s 2), (3, s 3), (4, s 4), (9, s 9), (12, s 12), (70, (V.d (D.bool false))), (72, x1)]) (looko ([4].map fun n => (n, o n)))) K))
 (opsB C I R_o9 (St.mk (look [(1, s 1), (2, s 2), (3, s 3), (4, s 4), (9, s 9), (12, s 12), (70, (V.d (D.bool true))), (72, (V.tup []))]) (looko ([4].map fun n => (n, o n)))) K)
 (opsB C I R_o9 (St.mk (look [(1, s 1), (2, s 2), (3, s 3), (4, s 4), (9, s 9), (12, s 12), (70, (V.tup [])), (72, (V.tup []))]) (looko ([4].map fun n => (n, o n)))) K)) := rfl
@[instance] theorem g_law10_CheckTwice_o8_u : UnfAt (opsB C I g_law10_CheckTwice.o8 (St.mk s o) K) g_law10_CheckTwice_o8_sh := Unf.of _
theorem g_law10_CheckTwice_o7_sh : opsB C I (g_law10_CheckTwice.o7F R_o8) (St.mk s o) K =
 (demand (pickV (s 66) (V.d (.bool true)) (s 68)) (fun x1 =>
opsB C I R_o8 (St.mk (look [(1, s 1), (2, s 2), (3, s 3), (4, s 4), (9, s 9), (12, s 12), (70, x1)]) (looko ([4].map fun n => (n, o n)))) K)) := rfl
@[instance] theorem g_law10_CheckTwice_o7_u : UnfAt (opsB C I g_law10_CheckTwice.o7 (St.mk s o) K) g_law10_CheckTwice_o7_sh := Unf.of _
theorem g_law10_CheckTwice_o6_sh : opsB C I (g_law10_CheckTwice.o6F R_o7) (St.mk s o) K =
 (guardK (s 66) false
 (demand (binV BinOp.lss (s 1) (V.d (.int .i64 0))) (fun x1 =>
opsB C I R_o7 (St.mk (look [(1, s 1), (2, s 2), (3, s 3), (4, s 4), (9, s 9), (12, s 12), (66, (V.d (D.bool false))), (68, x1)]) (looko ([4].map fun n => (n, o n)))) K))
 (opsB C I R_o7 (St.mk (look [(1, s 1), (2, s 2), (3, s 3), (4, s 4), (9, s 9), (12, s 12), (66, (V.d (D.bool true))), (68, (V.tup []))]) (looko ([4].map fun n => (n, o n)))) K)
 (opsB C I R_o7 (St.mk (look [(1, s 1), (2, s 2), (3, s 3), (4, s 4), (9, s 9), (12, s 12), (66, (V.tup [])), (68, (V.tup []))]) (looko ([4].map fun n => (n, o n)))) K)) := rfl
@[instance] theorem g_law10_CheckTwice_o6_u : UnfAt (opsB C I g_law10_CheckTwice.o6 (St.mk s o) K) g_law10_CheckTwice_o6_sh := Unf.of _
theorem g_law10_CheckTwice_o5_sh : opsB C I (g_law10_CheckTwice.o5F R_o6) (St.mk s o) K =
 (demand (pickV (s 62) (V.d (.bool true)) (s 64)) (fun x1 =>
opsB C I R_o6 (St.mk (look [(1, s 1), (2, s 2), (3, s 3), (4, s 4), (9, s 9), (12, s 12), (66, x1)]) (looko ([4].map fun n => (n, o n)))) K)) := rfl
@[instance] theorem g_law10_CheckTwice_o5_u : UnfAt (opsB C I g_law10_CheckTwice.o5 (St.mk s o) K) g_law10_CheckTwice_o5_sh := Unf.of _
theorem g_law10_CheckTwice_o4_sh : opsB C I (g_law10_CheckTwice.o4F R_o5) (St.mk s o) K =
 (guardK (s 62) false
 (demand (binV BinOp.neq (s 14) (V.d (.int .i64 0))) (fun x1 =>
opsB C I R_o5 (St.mk (look [(1, s 1), (2, s 2), (3, s 3), (4, s 4), (9, s 9), (12, s 12), (62, (V.d (D.bool false))), (64, x1)]) (looko ([4].map fun n => (n, o n)))) K))
 (opsB C I R_o5 (St.mk (look [(1, s 1), (2, s 2), (3, s 3), (4, s 4), (9, s 9), (12, s 12), (62, (V.d (D.bool true))), (64, (V.tup []))]) (looko ([4].map fun n => (n, o n)))) K)
 (opsB C I R_o5 (St.mk (look [(1, s 1), (2, s 2), (3, s 3), (4, s 4), (9, s 9), (12, s 12), (62, (V.tup [])), (64, (V.tup []))]) (looko ([4].map fun n => (n, o n)))) K)) := rfl
@[instance] theorem g_law10_CheckTwice_o4_u : UnfAt (opsB C I g_law10_CheckTwice.o4 (St.mk s o) K) g_law10_CheckTwice_o4_sh := Unf.of _
theorem g_law10_CheckTwice_c1_sh : wpB C I (g_law10_CheckTwice.c1) (St.mk s o) Q =
 (condK (s 87)
 (callK C I (St.mk s o) (some 88) 162 [] (fun r1 or1 =>
Q .ret (St.mk (look [(8, r1)]) (looko ([].map fun n => (n, or1 n))))))
 (Q .normal (St.mk s o))) := rfl
@[instance] theorem g_law10_CheckTwice_c1_u : UnfAt (wpB C I g_law10_CheckTwice.c1 (St.mk s o) Q) g_law10_CheckTwice_c1_sh := Unf.of _
theorem g_law10_CheckTwice_o14_sh : opsB C I (g_law10_CheckTwice.o14) (St.mk s o) K =
 (demand ((buildN [V.d (.str []), V.d (.str []), V.d (.int .i64 0), V.d (.int .i64 0), V.d (.int .i64 0), V.d (.int .i64 0)] [(0, 1, (V.d (.str [105, 102]))), (3, 1, (s 109)), (4, 1, (s 110)), (5, 1, (s 111))]).map V.agg) (fun x1 =>
lstK (partsN 6 [(s 98), (s 101), (s 102), (s 107), x1]) (fun es2 =>
lstK (readD o (V.d (D.sl es2))) (fun ys3 => (∀ e ∈ ys3, e.length = 6) ∧ appK (s 95)
 (ys3.length * 64 ≤ 140737488355328 ∧ ys3.length ≤ 140737488355328 ∧
demand ((buildN [V.cap0, V.cap0] [(1, 1, (V.d (D.sl ys3)))]).map V.agg) (fun x8 =>
(¬ I 16 ∧ Fresh (St.mk (upd (upd (upd (upd s 112 x1) 113 (V.d (D.sl es2))) 114 (V.d (D.sl ys3))) 115 x8) o) 16 (some 16) ∧ V.refsL 16 [V.cap0, V.cap0] = false ∧
storeK (V.ptr 16 0) (cellsV x8) 2 (upd o 16 (some (Ob.box [V.cap0, V.cap0]))) (fun m9 ob10 =>
K (St.mk (upd (upd (upd (upd (upd s 112 x1) 113 (V.d (D.sl es2))) 114 (V.d (D.sl ys3))) 115 x8) 16 (V.ptr 16 0)) (upd (upd o 16 (some (Ob.box [V.cap0, V.cap0]))) m9 (some ob10)))))))
 (fun m4 => ¬ I m4 ∧ rowK (o m4) (fun z5 es6 => z5 = 6 ∧ (es6.length + ys3.length) * 64 ≤ 140737488355328 ∧ es6.length + ys3.length ≤ 140737488355328 ∧
freeK (St.mk (upd (fun t => scrubV m4 ((upd (upd s 112 x1) 113 (V.d (D.sl es2))) t)) 114 (V.own m4)) (upd (fun n => (o n).map (Ob.scrub m4)) m4 (some (Ob.row 6 (es6 ++ ys3))))) m4 (fun st7 =>
demand ((buildN [V.cap0, V.cap0] [(1, 1, (st7.s 114))]).map V.agg) (fun x11 =>
(¬ I 16 ∧ Fresh (St.mk (upd st7.s 115 x11) st7.o) 16 (some 16) ∧ V.refsL 16 [V.cap0, V.cap0] = false ∧
storeK (V.ptr 16 0) (cellsV x11) 2 (upd st7.o 16 (some (Ob.box [V.cap0, V.cap0]))) (fun m12 ob13 =>
K (St.mk (upd (upd st7.s 115 x11) 16 (V.ptr 16 0)) (upd (upd st7.o 16 (some (Ob.box [V.cap0, V.cap0]))) m12 (some ob13))))))))))))) := rfl
@[instance] theorem g_law10_CheckTwice_o14_u : UnfAt (opsB C I g_law10_CheckTwice.o14 (St.mk s o) K) g_law10_CheckTwice_o14_sh := Unf.of _
theorem g_law10_CheckTwice_o18_sh : opsB C I (g_law10_CheckTwice.o18) (St.mk s o) K =
 (demand (pickV (s 146) (s 152) (V.d (.bool false))) (fun x1 =>
K (St.mk (upd (upd s 153 x1) 27 x1) o))) := rfl
@[instance] theorem g_law10_CheckTwice_o18_u : UnfAt (opsB C I g_law10_CheckTwice.o18 (St.mk s o) K) g_law10_CheckTwice_o18_sh := Unf.of _
theorem g_law10_CheckTwice_o17_sh : opsB C I (g_law10_CheckTwice.o17F R_o18) (St.mk s o) K =
 (guardK (s 146) true
 (demand (pickV (s 149) (V.d (.bool true)) (s 151)) (fun x1 =>
opsB C I R_o18 (St.mk (look [(9, s 9), (17, s 17), (19, s 19), (20, s 20), (22, s 22), (23, s 23), (25, s 25), (26, s 26), (146, (V.d (D.bool true))), (152, x1)]) (looko ([].map fun n => (n, o n)))) K))
 (opsB C I R_o18 (St.mk (look [(9, s 9), (17, s 17), (19, s 19), (20, s 20), (22, s 22), (23, s 23), (25, s 25), (26, s 26), (146, (V.d (D.bool false))), (152, (V.tup []))]) (looko ([].map fun n => (n, o n)))) K)
 (opsB C I R_o18 (St.mk (look [(9, s 9), (17, s 17), (19, s 19), (20, s 20), (22, s 22), (23, s 23), (25, s 25), (26, s 26), (146, (V.tup [])), (152, (V.tup []))]) (looko ([].map fun n => (n, o n)))) K)) := rfl
@[instance] theorem g_law10_CheckTwice_o17_u : UnfAt (opsB C I g_law10_CheckTwice.o17 (St.mk s o) K) g_law10_CheckTwice_o17_sh := Unf.of _
theorem g_law10_CheckTwice_o16_sh : opsB C I (g_law10_CheckTwice.o16F R_o17) (St.mk s o) K =
 (guardK (s 149) false
 (demand (binV BinOp.eql (s 9) (V.d (.int .i64 3))) (fun x1 =>
opsB C I R_o17 (St.mk (look [(9, s 9), (17, s 17), (19, s 19), (20, s 20), (22, s 22), (23, s 23), (25, s 25), (26, s 26), (146, s 146), (149, (V.d (D.bool false))), (151, x1)]) (looko ([].map fun n => (n, o n)))) K))
 (opsB C I R_o17 (St.mk (look [(9, s 9), (17, s 17), (19, s 19), (20, s 20), (22, s 22), (23, s 23), (25, s 25), (26, s 26), (146, s 146), (149, (V.d (D.bool true))), (151, (V.tup []))]) (looko ([].map fun n => (n, o n)))) K)
 (opsB C I R_o17 (St.mk (look [(9, s 9), (17, s 17), (19, s 19), (20, s 20), (22, s 22), (23, s 23), (25, s 25), (26, s 26), (146, s 146), (149, (V.tup [])), (151, (V.tup []))]) (looko ([].map fun n => (n, o n)))) K)) := rfl
@[instance] theorem g_law10_CheckTwice_o16_u : UnfAt (opsB C I g_law10_CheckTwice.o16 (St.mk s o) K) g_law10_CheckTwice_o16_sh := Unf.of _
theorem g_law10_CheckTwice_o15_sh : opsB C I (g_law10_CheckTwice.o15F R_o16) (St.mk s o) K =
 (guardK (s 146) true
 (demand (binV BinOp.eql (s 9) (V.d (.int .i64 1))) (fun x1 =>
opsB C I R_o16 (St.mk (look [(9, s 9), (17, s 17), (19, s 19), (20, s 20), (22, s 22), (23, s 23), (25, s 25), (26, s 26), (146, (V.d (D.bool true))), (149, x1)]) (looko ([].map fun n => (n, o n)))) K))
 (opsB C I R_o16 (St.mk (look [(9, s 9), (17, s 17), (19, s 19), (20, s 20), (22, s 22), (23, s 23), (25, s 25), (26, s 26), (146, (V.d (D.bool false))), (149, (V.tup []))]) (looko ([].map fun n => (n, o n)))) K)
 (opsB C I R_o16 (St.mk (look [(9, s 9), (17, s 17), (19, s 19), (20, s 20), (22, s 22), (23, s 23), (25, s 25), (26, s 26), (146, (V.tup [])), (149, (V.tup []))]) (looko ([].map fun n => (n, o n)))) K)) := rfl
@[instance] theorem g_law10_CheckTwice_o15_u : UnfAt (opsB C I g_law10_CheckTwice.o15 (St.mk s o) K) g_law10_CheckTwice_o15_sh := Unf.of _
theorem g_law10_CheckTwice_o30_sh : opsB C I (g_law10_CheckTwice.o30) (St.mk s o) K =
 (demand (pickV (s 176) (V.d (.bool true)) (s 182)) (fun x1 =>
K (St.mk (upd s 183 x1) o))) := rfl
@[instance] theorem g_law10_CheckTwice_o30_u : UnfAt (opsB C I g_law10_CheckTwice.o30 (St.mk s o) K) g_law10_CheckTwice_o30_sh := Unf.of _
theorem g_law10_CheckTwice_o29_sh : opsB C I (g_law10_CheckTwice.o29F R_o30) (St.mk s o) K =
 (guardK (s 176) false
 (demand (pickV (s 179) (s 181) (V.d (.bool false))) (fun x1 =>
opsB C I R_o30 (St.mk (look [(9, s 9), (23, s 23), (25, s 25), (26, s 26), (176, (V.d (D.bool false))), (182, x1)]) (looko ([].map fun n => (n, o n)))) K))
 (opsB C I R_o30 (St.mk (look [(9, s 9), (23, s 23), (25, s 25), (26, s 26), (176, (V.d (D.bool true))), (182, (V.tup []))]) (looko ([].map fun n => (n, o n)))) K)
 (opsB C I R_o30 (St.mk (look [(9, s 9), (23, s 23), (25, s 25), (26, s 26), (176, (V.tup [])), (182, (V.tup []))]) (looko ([].map fun n => (n, o n)))) K)) := rfl
@[instance] theorem g_law10_CheckTwice_o29_u : UnfAt (opsB C I g_law10_CheckTwice.o29 (St.mk s o) K) g_law10_CheckTwice_o29_sh := Unf.of _
theorem g_law10_CheckTwice_o28_sh : opsB C I (g_law10_CheckTwice.o28F R_o29) (St.mk s o) K =
 (guardK (s 179) true
 (demand (binV BinOp.neq (s 20) (V.d (.int .i64 4))) (fun x1 =>
opsB C I R_o29 (St.mk (look [(9, s 9), (23, s 23), (25, s 25), (26, s 26), (176, s 176), (179, (V.d (D.bool true))), (181, x1)]) (looko ([].map fun n => (n, o n)))) K))
 (opsB C I R_o29 (St.mk (look [(9, s 9), (23, s 23), (25, s 25), (26, s 26), (176, s 176), (179, (V.d (D.bool false))), (181, (V.tup []))]) (looko ([].map fun n => (n, o n)))) K)
 (opsB C I R_o29 (St.mk (look [(9, s 9), (23, s 23), (25, s 25), (26, s 26), (176, s 176), (179, (V.tup [])), (181, (V.tup []))]) (looko ([].map fun n => (n, o n)))) K)) := rfl
@[instance] theorem g_law10_CheckTwice_o28_u : UnfAt (opsB C I g_law10_CheckTwice.o28 (St.mk s o) K) g_law10_CheckTwice_o28_sh := Unf.of _
theorem g_law10_CheckTwice_o27_sh : opsB C I (g_law10_CheckTwice.o27F R_o28) (St.mk s o) K =
 (guardK (s 176) false
 (demand (binV BinOp.eql (s 22) (V.d (.int .i64 0))) (fun x1 =>
opsB C I R_o28 (St.mk (look [(9, s 9), (20, s 20), (23, s 23), (25, s 25), (26, s 26), (176, (V.d (D.bool false))), (179, x1)]) (looko ([].map fun n => (n, o n)))) K))
 (opsB C I R_o28 (St.mk (look [(9, s 9), (20, s 20), (23, s 23), (25, s 25), (26, s 26), (176, (V.d (D.bool true))), (179, (V.tup []))]) (looko ([].map fun n => (n, o n)))) K)
 (opsB C I R_o28 (St.mk (look [(9, s 9), (20, s 20), (23, s 23), (25, s 25), (26, s 26), (176, (V.tup [])), (179, (V.tup []))]) (looko ([].map fun n => (n, o n)))) K)) := rfl
@[instance] theorem g_law10_CheckTwice_o27_u : UnfAt (opsB C I g_law10_CheckTwice.o27 (St.mk s o) K) g_law10_CheckTwice_o27_sh := Unf.of _
theorem g_law10_CheckTwice_o26_sh : opsB C I (g_law10_CheckTwice.o26F R_o27) (St.mk s o) K =
 (demand (pickV (s 166) (V.d (.bool true)) (s 174)) (fun x1 =>
opsB C I R_o27 (St.mk (look [(9, s 9), (20, s 20), (22, s 22), (23, s 23), (25, s 25), (26, s 26), (176, x1)]) (looko ([].map fun n => (n, o n)))) K)) := rfl
@[instance] theorem g_law10_CheckTwice_o26_u : UnfAt (opsB C I g_law10_CheckTwice.o26 (St.mk s o) K) g_law10_CheckTwice_o26_sh := Unf.of _
theorem g_law10_CheckTwice_o25_sh : opsB C I (g_law10_CheckTwice.o25F R_o26) (St.mk s o) K =
 (guardK (s 166) false
 (demand (pickV (s 168) (s 170) (V.d (.bool false))) (fun x1 =>
demand (binV BinOp.eql (s 22) (V.d (.int .i64 0))) (fun x2 =>
demand (beqV true x1 x2) (fun x3 =>
opsB C I R_o26 (St.mk (look [(9, s 9), (20, s 20), (22, s 22), (23, s 23), (25, s 25), (26, s 26), (166, (V.d (D.bool false))), (174, x3)]) (looko ([].map fun n => (n, o n)))) K))))
 (opsB C I R_o26 (St.mk (look [(9, s 9), (20, s 20), (22, s 22), (23, s 23), (25, s 25), (26, s 26), (166, (V.d (D.bool true))), (174, (V.tup []))]) (looko ([].map fun n => (n, o n)))) K)
 (opsB C I R_o26 (St.mk (look [(9, s 9), (20, s 20), (22, s 22), (23, s 23), (25, s 25), (26, s 26), (166, (V.tup [])), (174, (V.tup []))]) (looko ([].map fun n => (n, o n)))) K)) := rfl
@[instance] theorem g_law10_CheckTwice_o25_u : UnfAt (opsB C I g_law10_CheckTwice.o25 (St.mk s o) K) g_law10_CheckTwice_o25_sh := Unf.of _
theorem g_law10_CheckTwice_o24_sh : opsB C I (g_law10_CheckTwice.o24F R_o25) (St.mk s o) K =
 (guardK (s 168) true
 (demand (binV BinOp.neq (s 9) (V.d (.int .i64 4))) (fun x1 =>
opsB C I R_o25 (St.mk (look [(9, s 9), (20, s 20), (22, s 22), (23, s 23), (25, s 25), (26, s 26), (166, s 166), (168, (V.d (D.bool true))), (170, x1)]) (looko ([].map fun n => (n, o n)))) K))
 (opsB C I R_o25 (St.mk (look [(9, s 9), (20, s 20), (22, s 22), (23, s 23), (25, s 25), (26, s 26), (166, s 166), (168, (V.d (D.bool false))), (170, (V.tup []))]) (looko ([].map fun n => (n, o n)))) K)
 (opsB C I R_o25 (St.mk (look [(9, s 9), (20, s 20), (22, s 22), (23, s 23), (25, s 25), (26, s 26), (166, s 166), (168, (V.tup [])), (170, (V.tup []))]) (looko ([].map fun n => (n, o n)))) K)) := rfl
@[instance] theorem g_law10_CheckTwice_o24_u : UnfAt (opsB C I g_law10_CheckTwice.o24 (St.mk s o) K) g_law10_CheckTwice_o24_sh := Unf.of _
theorem g_law10_CheckTwice_o23_sh : opsB C I (g_law10_CheckTwice.o23F R_o24) (St.mk s o) K =
 (guardK (s 166) false
 (opsB C I R_o24 (St.mk (look [(9, s 9), (20, s 20), (22, s 22), (23, s 23), (25, s 25), (26, s 26), (166, (V.d (D.bool false))), (168, s 26)]) (looko ([].map fun n => (n, o n)))) K)
 (opsB C I R_o24 (St.mk (look [(9, s 9), (20, s 20), (22, s 22), (23, s 23), (25, s 25), (26, s 26), (166, (V.d (D.bool true))), (168, (V.tup []))]) (looko ([].map fun n => (n, o n)))) K)
 (opsB C I R_o24 (St.mk (look [(9, s 9), (20, s 20), (22, s 22), (23, s 23), (25, s 25), (26, s 26), (166, (V.tup [])), (168, (V.tup []))]) (looko ([].map fun n => (n, o n)))) K)) := rfl
@[instance] theorem g_law10_CheckTwice_o23_u : UnfAt (opsB C I g_law10_CheckTwice.o23 (St.mk s o) K) g_law10_CheckTwice_o23_sh := Unf.of _
theorem g_law10_CheckTwice_o22_sh : opsB C I (g_law10_CheckTwice.o22F R_o23) (St.mk s o) K =
 (demand (pickV (s 158) (V.d (.bool true)) (s 164)) (fun x1 =>
opsB C I R_o23 (St.mk (look [(9, s 9), (20, s 20), (22, s 22), (23, s 23), (25, s 25), (26, s 26), (166, x1)]) (looko ([].map fun n => (n, o n)))) K)) := rfl
@[instance] theorem g_law10_CheckTwice_o22_u : UnfAt (opsB C I g_law10_CheckTwice.o22 (St.mk s o) K) g_law10_CheckTwice_o22_sh := Unf.of _
theorem g_law10_CheckTwice_o21_sh : opsB C I (g_law10_CheckTwice.o21F R_o22) (St.mk s o) K =
 (guardK (s 158) false
 (demand (pickV (s 160) (s 163) (V.d (.bool false))) (fun x1 =>
opsB C I R_o22 (St.mk (look [(9, s 9), (20, s 20), (22, s 22), (23, s 23), (25, s 25), (26, s 26), (158, (V.d (D.bool false))), (164, x1)]) (looko ([].map fun n => (n, o n)))) K))
 (opsB C I R_o22 (St.mk (look [(9, s 9), (20, s 20), (22, s 22), (23, s 23), (25, s 25), (26, s 26), (158, (V.d (D.bool true))), (164, (V.tup []))]) (looko ([].map fun n => (n, o n)))) K)
 (opsB C I R_o22 (St.mk (look [(9, s 9), (20, s 20), (22, s 22), (23, s 23), (25, s 25), (26, s 26), (158, (V.tup [])), (164, (V.tup []))]) (looko ([].map fun n => (n, o n)))) K)) := rfl
@[instance] theorem g_law10_CheckTwice_o21_u : UnfAt (opsB C I g_law10_CheckTwice.o21 (St.mk s o) K) g_law10_CheckTwice_o21_sh := Unf.of _
theorem g_law10_CheckTwice_o20_sh : opsB C I (g_law10_CheckTwice.o20F R_o21) (St.mk s o) K =
 (guardK (s 160) true
 (demand (binV BinOp.neq (s 17) (s 9)) (fun x1 =>
opsB C I R_o21 (St.mk (look [(9, s 9), (20, s 20), (22, s 22), (23, s 23), (25, s 25), (26, s 26), (158, s 158), (160, (V.d (D.bool true))), (163, x1)]) (looko ([].map fun n => (n, o n)))) K))
 (opsB C I R_o21 (St.mk (look [(9, s 9), (20, s 20), (22, s 22), (23, s 23), (25, s 25), (26, s 26), (158, s 158), (160, (V.d (D.bool false))), (163, (V.tup []))]) (looko ([].map fun n => (n, o n)))) K)
 (opsB C I R_o21 (St.mk (look [(9, s 9), (20, s 20), (22, s 22), (23, s 23), (25, s 25), (26, s 26), (158, s 158), (160, (V.tup [])), (163, (V.tup []))]) (looko ([].map fun n => (n, o n)))) K)) := rfl
@[instance] theorem g_law10_CheckTwice_o20_u : UnfAt (opsB C I g_law10_CheckTwice.o20 (St.mk s o) K) g_law10_CheckTwice_o20_sh := Unf.of _
theorem g_law10_CheckTwice_o19_sh : opsB C I (g_law10_CheckTwice.o19F R_o20) (St.mk s o) K =
 (guardK (s 158) false
 (opsB C I R_o20 (St.mk (look [(9, s 9), (17, s 17), (20, s 20), (22, s 22), (23, s 23), (25, s 25), (26, s 26), (158, (V.d (D.bool false))), (160, s 27)]) (looko ([].map fun n => (n, o n)))) K)
 (opsB C I R_o20 (St.mk (look [(9, s 9), (17, s 17), (20, s 20), (22, s 22), (23, s 23), (25, s 25), (26, s 26), (158, (V.d (D.bool true))), (160, (V.tup []))]) (looko ([].map fun n => (n, o n)))) K)
 (opsB C I R_o20 (St.mk (look [(9, s 9), (17, s 17), (20, s 20), (22, s 22), (23, s 23), (25, s 25), (26, s 26), (158, (V.tup [])), (160, (V.tup []))]) (looko ([].map fun n => (n, o n)))) K)) := rfl
@[instance] theorem g_law10_CheckTwice_o19_u : UnfAt (opsB C I g_law10_CheckTwice.o19 (St.mk s o) K) g_law10_CheckTwice_o19_sh := Unf.of _
theorem g_law10_CheckTwice_c2_sh : wpB C I (g_law10_CheckTwice.c2) (St.mk s o) Q =
 (condK (s 183)
 (Q .ret (St.mk (look [(8, (V.d (.bool false)))]) (looko ([].map fun n => (n, o n)))))
 (Q .normal (St.mk s o))) := rfl
@[instance] theorem g_law10_CheckTwice_c2_u : UnfAt (wpB C I g_law10_CheckTwice.c2 (St.mk s o) Q) g_law10_CheckTwice_c2_sh := Unf.of _
theorem g_law10_CheckTwice_o36_sh : opsB C I (g_law10_CheckTwice.o36) (St.mk s o) K =
 (demand (pickV (s 197) (s 198) (V.d (.bool false))) (fun x1 =>
K (St.mk (upd (upd s 199 x1) 8 x1) o))) := rfl
@[instance] theorem g_law10_CheckTwice_o36_u : UnfAt (opsB C I g_law10_CheckTwice.o36 (St.mk s o) K) g_law10_CheckTwice_o36_sh := Unf.of _
theorem g_law10_CheckTwice_o35_sh : opsB C I (g_law10_CheckTwice.o35F R_o36) (St.mk s o) K =
 (guardK (s 197) true
 (callK C I (St.mk (upd s 197 (V.d (D.bool true))) o) (some 198) 162 [] (fun r1 or1 =>
opsB C I R_o36 (St.mk (look [(197, (V.d (D.bool true))), (198, r1)]) (looko ([].map fun n => (n, or1 n)))) K))
 (opsB C I R_o36 (St.mk (look [(197, (V.d (D.bool false))), (198, (V.tup []))]) (looko ([].map fun n => (n, o n)))) K)
 (opsB C I R_o36 (St.mk (look [(197, (V.tup [])), (198, (V.tup []))]) (looko ([].map fun n => (n, o n)))) K)) := rfl
@[instance] theorem g_law10_CheckTwice_o35_u : UnfAt (opsB C I g_law10_CheckTwice.o35 (St.mk s o) K) g_law10_CheckTwice_o35_sh := Unf.of _
theorem g_law10_CheckTwice_o34_sh : opsB C I (g_law10_CheckTwice.o34F R_o35) (St.mk s o) K =
 (demand (pickV (s 188) (s 195) (V.d (.bool false))) (fun x1 =>
opsB C I R_o35 (St.mk (look [(197, x1)]) (looko ([].map fun n => (n, o n)))) K)) := rfl
@[instance] theorem g_law10_CheckTwice_o34_u : UnfAt (opsB C I g_law10_CheckTwice.o34 (St.mk s o) K) g_law10_CheckTwice_o34_sh := Unf.of _
theorem g_law10_CheckTwice_o33_sh : opsB C I (g_law10_CheckTwice.o33F R_o34) (St.mk s o) K =
 (guardK (s 188) true
 (demand (pickV (s 191) (V.d (.bool true)) (s 194)) (fun x1 =>
opsB C I R_o34 (St.mk (look [(188, (V.d (D.bool true))), (195, x1)]) (looko ([].map fun n => (n, o n)))) K))
 (opsB C I R_o34 (St.mk (look [(188, (V.d (D.bool false))), (195, (V.tup []))]) (looko ([].map fun n => (n, o n)))) K)
 (opsB C I R_o34 (St.mk (look [(188, (V.tup [])), (195, (V.tup []))]) (looko ([].map fun n => (n, o n)))) K)) := rfl
@[instance] theorem g_law10_CheckTwice_o33_u : UnfAt (opsB C I g_law10_CheckTwice.o33 (St.mk s o) K) g_law10_CheckTwice_o33_sh := Unf.of _
theorem g_law10_CheckTwice_o32_sh : opsB C I (g_law10_CheckTwice.o32F R_o33) (St.mk s o) K =
 (guardK (s 191) false
 (demand (binV BinOp.eql (s 23) (s 9)) (fun x1 =>
opsB C I R_o33 (St.mk (look [(188, s 188), (191, (V.d (D.bool false))), (194, x1)]) (looko ([].map fun n => (n, o n)))) K))
 (opsB C I R_o33 (St.mk (look [(188, s 188), (191, (V.d (D.bool true))), (194, (V.tup []))]) (looko ([].map fun n => (n, o n)))) K)
 (opsB C I R_o33 (St.mk (look [(188, s 188), (191, (V.tup [])), (194, (V.tup []))]) (looko ([].map fun n => (n, o n)))) K)) := rfl
@[instance] theorem g_law10_CheckTwice_o32_u : UnfAt (opsB C I g_law10_CheckTwice.o32 (St.mk s o) K) g_law10_CheckTwice_o32_sh := Unf.of _
theorem g_law10_CheckTwice_o31_sh : opsB C I (g_law10_CheckTwice.o31F R_o32) (St.mk s o) K =
 (guardK (s 188) true
 (demand (unV UnOp.not (s 26)) (fun x1 =>
opsB C I R_o32 (St.mk (look [(9, s 9), (23, s 23), (188, (V.d (D.bool true))), (191, x1)]) (looko ([].map fun n => (n, o n)))) K))
 (opsB C I R_o32 (St.mk (look [(9, s 9), (23, s 23), (188, (V.d (D.bool false))), (191, (V.tup []))]) (looko ([].map fun n => (n, o n)))) K)
 (opsB C I R_o32 (St.mk (look [(9, s 9), (23, s 23), (188, (V.tup [])), (191, (V.tup []))]) (looko ([].map fun n => (n, o n)))) K)) := rfl
@[instance] theorem g_law10_CheckTwice_o31_u : UnfAt (opsB C I g_law10_CheckTwice.o31 (St.mk s o) K) g_law10_CheckTwice_o31_sh := Unf.of _
theorem g_law10_CheckTwice_c3_sh : wpB C I (g_law10_CheckTwice.c3) (St.mk s o) Q =
 (Q .ret (St.mk s o)) := rfl
@[instance] theorem g_law10_CheckTwice_c3_u : UnfAt (wpB C I g_law10_CheckTwice.c3 (St.mk s o) Q) g_law10_CheckTwice_c3_sh := Unf.of _
theorem g_law10_CheckTwice_c4_sh : wpB C I (g_law10_CheckTwice.c4F R_o31 R_c3) (St.mk s o) Q =
 (demand (binV BinOp.eql (s 25) (V.d (.int .i64 0))) (fun x1 =>
demand (beqV false (s 26) x1) (fun x2 =>
opsB C I R_o31 (St.mk (look [(9, s 9), (23, s 23), (26, s 26), (188, x2)]) (looko ([].map fun n => (n, o n)))) (fun st => (seqK (fun st => wpB C I R_c3 st Q) Q) .normal (St.trim st [8] (some [])))))) := rfl
@[instance] theorem g_law10_CheckTwice_c4_u : UnfAt (wpB C I g_law10_CheckTwice.c4 (St.mk s o) Q) g_law10_CheckTwice_c4_sh := Unf.of _
theorem g_law10_CheckTwice_c5_sh : wpB C I (g_law10_CheckTwice.c5F R_o19 R_c2 R_c4) (St.mk s o) Q =
 (demand (binV BinOp.eql (s 19) (V.d (.int .i64 0))) (fun x1 =>
demand (beqV true (s 27) x1) (fun x2 =>
opsB C I R_o19 (St.mk (look [(9, s 9), (17, s 17), (20, s 20), (22, s 22), (23, s 23), (25, s 25), (26, s 26), (27, s 27), (158, x2)]) (looko ([].map fun n => (n, o n)))) (fun st => (seqK (fun st => wpB C I R_c2 st (seqK (fun st => wpB C I R_c4 st Q) Q)) (seqK (fun st => wpB C I R_c4 st Q) Q)) .normal (St.trim st [9, 23, 25, 26, 183] (some [])))))) := rfl
@[instance] theorem g_law10_CheckTwice_c5_u : UnfAt (wpB C I g_law10_CheckTwice.c5 (St.mk s o) Q) g_law10_CheckTwice_c5_sh := Unf.of _
theorem g_law10_CheckTwice_c6_sh : wpB C I (g_law10_CheckTwice.c6F R_o15 R_c5) (St.mk s o) Q =
 (opsB C I R_o15 (St.mk (look [(9, s 9), (17, s 17), (19, s 19), (20, s 20), (22, s 22), (23, s 23), (25, s 25), (26, s 26), (146, s 26)]) (looko ([].map fun n => (n, o n)))) (fun st => (seqK (fun st => wpB C I R_c5 st Q) Q) .normal (St.trim st [9, 17, 19, 20, 22, 23, 25, 26, 27] (some [])))) := rfl
@[instance] theorem g_law10_CheckTwice_c6_u : UnfAt (wpB C I g_law10_CheckTwice.c6 (St.mk s o) Q) g_law10_CheckTwice_c6_sh := Unf.of _
theorem g_law10_CheckTwice_c7_sh : wpB C I (g_law10_CheckTwice.c7F R_c6) (St.mk s o) Q =
 (demand (binV BinOp.eql (s 9) (s 12)) (fun x1 =>
wpB C I R_c6 (St.mk (look [(9, s 9), (17, s 17), (19, s 19), (20, s 20), (22, s 22), (23, s 23), (25, s 25), (26, x1)]) (looko ([].map fun n => (n, o n)))) Q)) := rfl
@[instance] theorem g_law10_CheckTwice_c7_u : UnfAt (wpB C I g_law10_CheckTwice.c7 (St.mk s o) Q) g_law10_CheckTwice_c7_sh := Unf.of _
theorem g_law10_CheckTwice_c8_sh : wpB C I (g_law10_CheckTwice.c8F R_c7) (St.mk s o) Q =
 (demand (loadV o (some 2) (s 16)) (fun x1 =>
demand (binV BinOp.add (s 15) (V.d (.int .i64 4))) (fun x2 =>
callK C I (St.mk (upd (upd (upd (upd s 134 x1) 135 (s 15)) 136 x2) 137 (s 3)) o) (some 138) 163 [x1, x2, (s 3)] (fun r3 or3 =>
demand (extV r3 0) (fun x4 =>
demand (extV r3 1) (fun x5 =>
demand (extV r3 2) (fun x6 =>
wpB C I R_c7 (St.mk (look [(9, s 9), (12, s 12), (17, s 17), (19, s 19), (20, s 20), (22, s 22), (23, x4), (25, x6)]) (looko ([].map fun n => (n, or3 n)))) Q))))))) := rfl
@[instance] theorem g_law10_CheckTwice_c8_u : UnfAt (wpB C I g_law10_CheckTwice.c8 (St.mk s o) Q) g_law10_CheckTwice_c8_sh := Unf.of _
theorem g_law10_CheckTwice_c9_sh : wpB C I (g_law10_CheckTwice.c9F R_c8) (St.mk s o) Q =
 (demand (loadV o (some 2) (s 16)) (fun x1 =>
demand (binV BinOp.add (s 15) (V.d (.int .i64 1))) (fun x2 =>
callK C I (St.mk (upd (upd (upd (upd s 125 x1) 126 (s 15)) 127 x2) 128 (s 3)) o) (some 129) 163 [x1, x2, (s 3)] (fun r3 or3 =>
demand (extV r3 0) (fun x4 =>
demand (extV r3 1) (fun x5 =>
demand (extV r3 2) (fun x6 =>
wpB C I R_c8 (St.mk (look [(3, s 3), (9, s 9), (12, s 12), (15, s 15), (16, s 16), (17, s 17), (19, s 19), (20, x4), (22, x6)]) (looko ([16].map fun n => (n, or3 n)))) Q))))))) := rfl
@[instance] theorem g_law10_CheckTwice_c9_u : UnfAt (wpB C I g_law10_CheckTwice.c9 (St.mk s o) Q) g_law10_CheckTwice_c9_sh := Unf.of _
theorem g_law10_CheckTwice_c10_sh : wpB C I (g_law10_CheckTwice.c10F R_c9) (St.mk s o) Q =
 (demand (loadV o (some 2) (s 16)) (fun x1 =>
callK C I (St.mk (upd (upd (upd s 117 x1) 118 (s 15)) 119 (s 3)) o) (some 120) 163 [x1, (s 15), (s 3)] (fun r2 or2 =>
demand (extV r2 0) (fun x3 =>
demand (extV r2 1) (fun x4 =>
demand (extV r2 2) (fun x5 =>
wpB C I R_c9 (St.mk (look [(3, s 3), (9, s 9), (12, s 12), (15, s 15), (16, s 16), (17, x3), (19, x5)]) (looko ([16].map fun n => (n, or2 n)))) Q)))))) := rfl
@[instance] theorem g_law10_CheckTwice_c10_u : UnfAt (wpB C I g_law10_CheckTwice.c10 (St.mk s o) Q) g_law10_CheckTwice_c10_sh := Unf.of _
theorem g_law10_CheckTwice_c11_sh : wpB C I (g_law10_CheckTwice.c11F R_o14 R_c10) (St.mk s o) Q =
 (demand (faddrV 1 (s 4)) (fun x2 =>
demand (loadV o none x2) (fun x3 =>
lstK (readD o x3) (fun ys4 => (∀ e ∈ ys4, e.length = 6) ∧ appK V.cap0
 (ys4.length * 64 ≤ 140737488355328 ∧ ys4.length ≤ 140737488355328 ∧ ¬ I 95 ∧ Fresh (St.mk (upd (upd (upd s 92 V.cap0) 93 x2) 94 x3) o) 95 (some 95) ∧
demand ((buildN [V.d (.str []), V.d (.str []), V.d (.int .i64 0), V.d (.int .i64 0), V.d (.int .i64 0), V.d (.int .i64 0)] [(0, 1, (V.d (.str [43]))), (3, 1, (s 1)), (4, 1, (s 2))]).map V.agg) (fun x9 =>
demand ((buildN [V.d (.str []), V.d (.str []), V.d (.int .i64 0), V.d (.int .i64 0), V.d (.int .i64 0), V.d (.int .i64 0)] [(0, 1, (V.d (.str [60]))), (3, 1, (s 1)), (4, 1, (s 2))]).map V.agg) (fun x10 =>
demand ((buildN [V.d (.str []), V.d (.str []), V.d (.int .i64 0), V.d (.int .i64 0), V.d (.int .i64 0), V.d (.int .i64 0)] [(0, 1, (V.d (.str [119, 104, 111, 108, 101])))]).map V.agg) (fun x11 =>
demand (binV BinOp.add (s 15) (V.d (.int .i64 2))) (fun x12 =>
demand (binV BinOp.add (s 15) (V.d (.int .i64 2))) (fun x13 =>
demand ((buildN [V.d (.str []), V.d (.str []), V.d (.int .i64 0), V.d (.int .i64 0), V.d (.int .i64 0), V.d (.int .i64 0)] [(0, 1, (V.d (.str [60]))), (3, 1, x12), (4, 1, x13)]).map V.agg) (fun x14 =>
demand (binV BinOp.add (s 15) (V.d (.int .i64 3))) (fun x15 =>
opsB C I R_o14 (St.mk (look [(3, s 3), (9, s 9), (12, s 12), (15, s 15), (95, (V.own 95)), (98, x9), (101, x10), (102, x11), (107, x14), (109, x15), (110, s 1), (111, s 2)]) (looko ([92, 95].map fun n => (n, (upd o 95 (some (Ob.row 6 ys4))) n)))) (fun st => (seqK (fun st => wpB C I R_c10 st Q) Q) .normal (St.trim st [3, 9, 12, 15, 16] (some [16])))))))))))
 (fun m5 => ¬ I m5 ∧ rowK (o m5) (fun z6 es7 => z6 = 6 ∧ (es7.length + ys4.length) * 64 ≤ 140737488355328 ∧ es7.length + ys4.length ≤ 140737488355328 ∧
demand ((buildN [V.d (.str []), V.d (.str []), V.d (.int .i64 0), V.d (.int .i64 0), V.d (.int .i64 0), V.d (.int .i64 0)] [(0, 1, (V.d (.str [43]))), (3, 1, ((fun t => scrubV m5 (s t)) 1)), (4, 1, ((fun t => scrubV m5 (s t)) 2))]).map V.agg) (fun x16 =>
demand ((buildN [V.d (.str []), V.d (.str []), V.d (.int .i64 0), V.d (.int .i64 0), V.d (.int .i64 0), V.d (.int .i64 0)] [(0, 1, (V.d (.str [60]))), (3, 1, ((fun t => scrubV m5 (s t)) 1)), (4, 1, ((fun t => scrubV m5 (s t)) 2))]).map V.agg) (fun x17 =>
demand ((buildN [V.d (.str []), V.d (.str []), V.d (.int .i64 0), V.d (.int .i64 0), V.d (.int .i64 0), V.d (.int .i64 0)] [(0, 1, (V.d (.str [119, 104, 111, 108, 101])))]).map V.agg) (fun x18 =>
demand (binV BinOp.add ((fun t => scrubV m5 (s t)) 15) (V.d (.int .i64 2))) (fun x19 =>
demand (binV BinOp.add ((fun t => scrubV m5 (s t)) 15) (V.d (.int .i64 2))) (fun x20 =>
demand ((buildN [V.d (.str []), V.d (.str []), V.d (.int .i64 0), V.d (.int .i64 0), V.d (.int .i64 0), V.d (.int .i64 0)] [(0, 1, (V.d (.str [60]))), (3, 1, x19), (4, 1, x20)]).map V.agg) (fun x21 =>
demand (binV BinOp.add ((fun t => scrubV m5 (s t)) 15) (V.d (.int .i64 3))) (fun x22 =>
opsB C I R_o14 (St.mk (look [(3, ((fun t => scrubV m5 (s t)) 3)), (9, ((fun t => scrubV m5 (s t)) 9)), (12, ((fun t => scrubV m5 (s t)) 12)), (15, ((fun t => scrubV m5 (s t)) 15)), (95, (V.own m5)), (98, x16), (101, x17), (102, x18), (107, x21), (109, x22), (110, ((fun t => scrubV m5 (s t)) 1)), (111, ((fun t => scrubV m5 (s t)) 2))]) (looko ([92, 95].map fun n => (n, (upd (fun n => (o n).map (Ob.scrub m5)) m5 (some (Ob.row 6 (es7 ++ ys4)))) n)))) (fun st => (seqK (fun st => wpB C I R_c10 st Q) Q) .normal (St.trim st [3, 9, 12, 15, 16] (some [16])))))))))))))))) := rfl
@[instance] theorem g_law10_CheckTwice_c11_u : UnfAt (wpB C I g_law10_CheckTwice.c11 (St.mk s o) Q) g_law10_CheckTwice_c11_sh := Unf.of _
theorem g_law10_CheckTwice_c12_sh : wpB C I (g_law10_CheckTwice.c12F R_c11) (St.mk s o) Q =
 (demand (faddrV 1 (s 4)) (fun x1 =>
demand (loadV o none x1) (fun x2 =>
demand (lenV o x2) (fun x3 =>
wpB C I R_c11 (St.mk (look [(1, s 1), (2, s 2), (3, s 3), (4, s 4), (9, s 9), (12, s 12), (15, x3)]) (looko ([4].map fun n => (n, o n)))) Q)))) := rfl
@[instance] theorem g_law10_CheckTwice_c12_u : UnfAt (wpB C I g_law10_CheckTwice.c12 (St.mk s o) Q) g_law10_CheckTwice_c12_sh := Unf.of _
theorem g_law10_CheckTwice_c13_sh : wpB C I (g_law10_CheckTwice.c13F R_o4 R_c1 R_c12) (St.mk s o) Q =
 (demand (binV BinOp.neq (s 11) (V.d (.int .i64 0))) (fun x1 =>
opsB C I R_o4 (St.mk (look [(1, s 1), (2, s 2), (3, s 3), (4, s 4), (9, s 9), (12, s 12), (14, s 14), (62, x1)]) (looko ([4].map fun n => (n, o n)))) (fun st => (seqK (fun st => wpB C I R_c1 st (seqK (fun st => wpB C I R_c12 st Q) Q)) (seqK (fun st => wpB C I R_c12 st Q) Q)) .normal (St.trim st [1, 2, 3, 4, 9, 12, 87] (some [4]))))) := rfl
@[instance] theorem g_law10_CheckTwice_c13_u : UnfAt (wpB C I g_law10_CheckTwice.c13 (St.mk s o) Q) g_law10_CheckTwice_c13_sh := Unf.of _
theorem g_law10_CheckTwice_c14_sh : wpB C I (g_law10_CheckTwice.c14F R_c13) (St.mk s o) Q =
 (demand (loadV o (some 2) (s 4)) (fun x1 =>
callK C I (St.mk (upd (upd (upd s 53 x1) 54 (s 2)) 55 (s 3)) o) (some 56) 163 [x1, (s 2), (s 3)] (fun r2 or2 =>
demand (extV r2 0) (fun x3 =>
demand (extV r2 1) (fun x4 =>
demand (extV r2 2) (fun x5 =>
wpB C I R_c13 (St.mk (look [(1, s 1), (2, s 2), (3, s 3), (4, s 4), (9, s 9), (11, s 11), (12, x3), (14, x5)]) (looko ([4].map fun n => (n, or2 n)))) Q)))))) := rfl
@[instance] theorem g_law10_CheckTwice_c14_u : UnfAt (wpB C I g_law10_CheckTwice.c14 (St.mk s o) Q) g_law10_CheckTwice_c14_sh := Unf.of _
theorem g_law10_CheckTwice_c15_sh : wpB C I (g_law10_CheckTwice.c15F R_c14) (St.mk s o) Q =
 (demand (loadV o (some 2) (s 4)) (fun x1 =>
callK C I (St.mk (upd (upd (upd s 45 x1) 46 (s 1)) 47 (s 3)) o) (some 48) 163 [x1, (s 1), (s 3)] (fun r2 or2 =>
demand (extV r2 0) (fun x3 =>
demand (extV r2 1) (fun x4 =>
demand (extV r2 2) (fun x5 =>
wpB C I R_c14 (St.mk (look [(1, s 1), (2, s 2), (3, s 3), (4, s 4), (9, x3), (11, x5)]) (looko ([4].map fun n => (n, or2 n)))) Q)))))) := rfl
@[instance] theorem g_law10_CheckTwice_c15_u : UnfAt (wpB C I g_law10_CheckTwice.c15 (St.mk s o) Q) g_law10_CheckTwice_c15_sh := Unf.of _
theorem g_law10_CheckTwice_code_sh : wpB C I (g_law10_CheckTwice.codeF R_o0 R_c0 R_c15) (St.mk s o) Q =
 (lstK (cellsV (s 0)) (fun c1 => c1.length = 2 ∧ ¬ I 4 ∧ Fresh (St.mk s o) 4 (some 4) ∧ V.refsL 4 c1 = false ∧
demand (faddrV 1 (V.ptr 4 0)) (fun x2 =>
demand (loadV (looko ([4].map fun n => (n, (upd o 4 (some (Ob.box c1))) n))) none x2) (fun x3 =>
demand (lenV (looko ([4].map fun n => (n, (upd o 4 (some (Ob.box c1))) n))) x3) (fun x4 =>
demand (binV BinOp.gtr x4 (V.d (.int .i64 200))) (fun x5 =>
opsB C I R_o0 (St.mk (look [(1, s 1), (2, s 2), (3, s 3), (4, (V.ptr 4 0)), (32, x5)]) (looko ([4].map fun n => (n, (upd o 4 (some (Ob.box c1))) n)))) (fun st => (seqK (fun st => wpB C I R_c0 st (seqK (fun st => wpB C I R_c15 st Q) Q)) (seqK (fun st => wpB C I R_c15 st Q) Q)) .normal (St.trim st [1, 2, 3, 4, 42] (some [4]))))))))) := rfl
@[instance] theorem g_law10_CheckTwice_code_u : UnfAt (wpB C I g_law10_CheckTwice.code (St.mk s o) Q) g_law10_CheckTwice_code_sh := Unf.of _

end Pay
