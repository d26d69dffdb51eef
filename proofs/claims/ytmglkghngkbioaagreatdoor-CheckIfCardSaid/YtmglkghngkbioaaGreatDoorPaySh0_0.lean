/- What the code of the functions comes to, without slots: an equation for each part; no condition. -/
import Derived.Test.YtmglkghngkbioaaGreatDoorPayBb0
import Derived.Test.YtmglkghngkbioaaGreatDoorPayCode0_0
set_option maxRecDepth 20000
set_option maxHeartbeats 400000
set_option linter.unusedVariables false
namespace Pay
open Go
variable {R_c0 R_c1 R_c2 R_c3 R_c4 R_c5 R_c6 R_c7 R_c8 R_c9 R_c10 R_c11 R_l0 R_l1 : ACode} {R_i1 R_i2 R_i3 R_i4 R_i7 R_i8 R_i9 R_i10 R_i11 R_i12 R_i13 R_i14 R_i15 R_i16 R_i17 R_i18 R_i19 R_i20 R_i21 R_i22 R_i23 R_i24 R_i25 R_i26 R_i27 R_i28 R_i29 R_i30 R_i31 : List Nat} {R_o0 R_o1 R_o2 R_o3 R_o4 R_o5 R_o6 R_o7 R_o8 R_o9 R_o22 R_o23 : List AOper} {R_t4 R_t5 R_t6 R_t7 R_t8 R_t9 R_t10 R_t11 R_t12 R_t13 R_t14 R_t15 R_t16 R_t17 R_t18 R_t19 R_t20 R_t21 R_t32 R_t33 R_t34 R_t35 R_t36 R_t37 R_t38 R_t39 R_t40 R_t41 R_t42 R_t43 R_t44 R_t45 R_t46 : Tr} {C : Ctx} {I : Nat → Prop} {s : Nat → V} {o : Nat → Option Ob} {K : St → Prop} {Q : Ex → St → Prop}
theorem g_ref10_Small_o1_sh : opsB C I (g_ref10_Small.o1) (St.mk s o) K =
 (demand (pickV (s 9) (V.d (.bool true)) (s 13)) (fun x1 =>
K (St.mk (upd s 14 x1) o))) := rfl
@[instance] theorem g_ref10_Small_o1_u : UnfAt (opsB C I g_ref10_Small.o1 (St.mk s o) K) g_ref10_Small_o1_sh := Unf.of _
theorem g_ref10_Small_o0_sh : opsB C I (g_ref10_Small.o0F R_o1) (St.mk s o) K =
 (guardK (s 9) false
 (demand (faddrV 0 (s 1)) (fun x1 =>
demand (loadV o none x1) (fun x2 =>
demand (lenV o x2) (fun x3 =>
demand (binV BinOp.gtr x3 (V.d (.int .i64 70))) (fun x4 =>
opsB C I R_o1 (St.mk (look [(1, s 1), (9, (V.d (D.bool false))), (13, x4)]) (looko ([1].map fun n => (n, o n)))) K)))))
 (opsB C I R_o1 (St.mk (look [(1, s 1), (9, (V.d (D.bool true))), (13, (V.tup []))]) (looko ([1].map fun n => (n, o n)))) K)
 (opsB C I R_o1 (St.mk (look [(1, s 1), (9, (V.tup [])), (13, (V.tup []))]) (looko ([1].map fun n => (n, o n)))) K)) := rfl
@[instance] theorem g_ref10_Small_o0_u : UnfAt (opsB C I g_ref10_Small.o0 (St.mk s o) K) g_ref10_Small_o0_sh := Unf.of _
theorem g_ref10_Small_c0_sh : wpB C I (g_ref10_Small.c0) (St.mk s o) Q =
 (condK (s 14)
 (Q .ret (St.mk (look [(2, (V.d (.bool false)))]) (looko ([].map fun n => (n, o n)))))
 (Q .normal (St.mk s o))) := rfl
@[instance] theorem g_ref10_Small_c0_u : UnfAt (wpB C I g_ref10_Small.c0 (St.mk s o) Q) g_ref10_Small_c0_sh := Unf.of _
theorem g_ref10_Small_o3_sh : opsB C I (g_ref10_Small.o3) (St.mk s o) K =
 (demand (pickV (s 30) (V.d (.bool true)) (s 38)) (fun x1 =>
K (St.mk (upd s 39 x1) o))) := rfl
@[instance] theorem g_ref10_Small_o3_u : UnfAt (opsB C I g_ref10_Small.o3 (St.mk s o) K) g_ref10_Small_o3_sh := Unf.of _
theorem g_ref10_Small_o2_sh : opsB C I (g_ref10_Small.o2F R_o3) (St.mk s o) K =
 (guardK (s 30) false
 (demand (faddrV 1 (s 1)) (fun x1 =>
demand (loadV o none x1) (fun x2 =>
demand (iaddrV o 6 x2 (s 3)) (fun x3 =>
demand (faddrV 0 x3) (fun x4 =>
demand (loadV o none x4) (fun x5 =>
demand (lenSV x5) (fun x6 =>
demand (binV BinOp.gtr x6 (V.d (.int .i64 30))) (fun x7 =>
opsB C I R_o3 (St.mk (look [(1, s 1), (3, s 3), (30, (V.d (D.bool false))), (38, x7)]) (looko ([1].map fun n => (n, o n)))) K))))))))
 (opsB C I R_o3 (St.mk (look [(1, s 1), (3, s 3), (30, (V.d (D.bool true))), (38, (V.tup []))]) (looko ([1].map fun n => (n, o n)))) K)
 (opsB C I R_o3 (St.mk (look [(1, s 1), (3, s 3), (30, (V.tup [])), (38, (V.tup []))]) (looko ([1].map fun n => (n, o n)))) K)) := rfl
@[instance] theorem g_ref10_Small_o2_u : UnfAt (opsB C I g_ref10_Small.o2 (St.mk s o) K) g_ref10_Small_o2_sh := Unf.of _
theorem g_ref10_Small_c1_sh : wpB C I (g_ref10_Small.c1) (St.mk s o) Q =
 (condK (s 39)
 (Q .ret (St.mk (look [(2, (V.d (.bool false)))]) (looko ([].map fun n => (n, o n)))))
 (Q .normal (St.mk s o))) := rfl
@[instance] theorem g_ref10_Small_c1_u : UnfAt (wpB C I g_ref10_Small.c1 (St.mk s o) Q) g_ref10_Small_c1_sh := Unf.of _
theorem g_ref10_Small_c2_sh : wpB C I (g_ref10_Small.c2) (St.mk s o) Q =
 (demand (binV BinOp.add (s 3) (V.d (.int .i64 1))) (fun x1 =>
Q .normal (St.mk (look [(1, s 1), (3, x1)]) (looko ([1].map fun n => (n, o n)))))) := rfl
@[instance] theorem g_ref10_Small_c2_u : UnfAt (wpB C I g_ref10_Small.c2 (St.mk s o) Q) g_ref10_Small_c2_sh := Unf.of _
theorem g_ref10_Small_c3_sh : wpB C I (g_ref10_Small.c3F R_o2 R_c1 R_c2) (St.mk s o) Q =
 (demand (faddrV 1 (s 1)) (fun x1 =>
demand (loadV o none x1) (fun x2 =>
demand (iaddrV o 6 x2 (s 3)) (fun x3 =>
demand (faddrV 1 x3) (fun x4 =>
demand (loadV o none x4) (fun x5 =>
demand (lenSV x5) (fun x6 =>
demand (binV BinOp.gtr x6 (V.d (.int .i64 30))) (fun x7 =>
opsB C I R_o2 (St.mk (look [(1, s 1), (3, s 3), (30, x7)]) (looko ([1].map fun n => (n, o n)))) (fun st => (seqK (fun st => wpB C I R_c1 st (blockK 1 [1, 3] (some [1]) (seqK (fun st => wpB C I R_c2 st Q) Q))) (blockK 1 [1, 3] (some [1]) (seqK (fun st => wpB C I R_c2 st Q) Q))) .normal (St.trim st [1, 3, 39] (some [1]))))))))))) := rfl
@[instance] theorem g_ref10_Small_c3_u : UnfAt (wpB C I g_ref10_Small.c3 (St.mk s o) Q) g_ref10_Small_c3_sh := Unf.of _
theorem g_ref10_Small_l0_sh (hL : R_l0 = g_ref10_Small.l0F R_c3)
 (h : demand (faddrV 1 (s 1)) (fun x1 =>
demand (loadV (looko ([1].map fun n => (n, o n))) none x1) (fun x2 =>
demand (lenV (looko ([1].map fun n => (n, o n))) x2) (fun x3 =>
demand (binV BinOp.lss (s 3) x3) (fun x4 =>
condK x4
 (wpB C I R_c3 (St.mk (look [(1, s 1), (3, s 3), (19, x4)]) (looko ([1].map fun n => (n, o n)))) (seqK (fun s => wpB C I R_l0 s Q) Q))
 (Q (.exit 0) (St.mk (look [(1, s 1), (3, s 3), (19, x4)]) (looko ([1].map fun n => (n, o n)))))))))) : wpB C I R_l0 (St.mk s o) Q := w_loopC hL h
theorem g_ref10_Small_o5_sh : opsB C I (g_ref10_Small.o5) (St.mk s o) K =
 (demand (pickV (s 55) (V.d (.bool true)) (s 63)) (fun x1 =>
K (St.mk (upd s 64 x1) o))) := rfl
@[instance] theorem g_ref10_Small_o5_u : UnfAt (opsB C I g_ref10_Small.o5 (St.mk s o) K) g_ref10_Small_o5_sh := Unf.of _
theorem g_ref10_Small_o4_sh : opsB C I (g_ref10_Small.o4F R_o5) (St.mk s o) K =
 (guardK (s 55) false
 (demand (faddrV 0 (s 1)) (fun x1 =>
demand (loadV o none x1) (fun x2 =>
demand (iaddrV o 3 x2 (s 4)) (fun x3 =>
demand (faddrV 0 x3) (fun x4 =>
demand (loadV o none x4) (fun x5 =>
demand (lenSV x5) (fun x6 =>
demand (binV BinOp.gtr x6 (V.d (.int .i64 30))) (fun x7 =>
opsB C I R_o5 (St.mk (look [(1, s 1), (4, s 4), (55, (V.d (D.bool false))), (63, x7)]) (looko ([1].map fun n => (n, o n)))) K))))))))
 (opsB C I R_o5 (St.mk (look [(1, s 1), (4, s 4), (55, (V.d (D.bool true))), (63, (V.tup []))]) (looko ([1].map fun n => (n, o n)))) K)
 (opsB C I R_o5 (St.mk (look [(1, s 1), (4, s 4), (55, (V.tup [])), (63, (V.tup []))]) (looko ([1].map fun n => (n, o n)))) K)) := rfl
@[instance] theorem g_ref10_Small_o4_u : UnfAt (opsB C I g_ref10_Small.o4 (St.mk s o) K) g_ref10_Small_o4_sh := Unf.of _
theorem g_ref10_Small_c4_sh : wpB C I (g_ref10_Small.c4) (St.mk s o) Q =
 (condK (s 64)
 (Q .ret (St.mk (look [(2, (V.d (.bool false)))]) (looko ([].map fun n => (n, o n)))))
 (Q .normal (St.mk s o))) := rfl
@[instance] theorem g_ref10_Small_c4_u : UnfAt (wpB C I g_ref10_Small.c4 (St.mk s o) Q) g_ref10_Small_c4_sh := Unf.of _
theorem g_ref10_Small_c5_sh : wpB C I (g_ref10_Small.c5) (St.mk s o) Q =
 (demand (binV BinOp.add (s 4) (V.d (.int .i64 1))) (fun x1 =>
Q .normal (St.mk (look [(1, s 1), (4, x1)]) (looko ([1].map fun n => (n, o n)))))) := rfl
@[instance] theorem g_ref10_Small_c5_u : UnfAt (wpB C I g_ref10_Small.c5 (St.mk s o) Q) g_ref10_Small_c5_sh := Unf.of _
theorem g_ref10_Small_c6_sh : wpB C I (g_ref10_Small.c6F R_o4 R_c4 R_c5) (St.mk s o) Q =
 (demand (faddrV 0 (s 1)) (fun x1 =>
demand (loadV o none x1) (fun x2 =>
demand (iaddrV o 3 x2 (s 4)) (fun x3 =>
demand (faddrV 1 x3) (fun x4 =>
demand (loadV o none x4) (fun x5 =>
demand (lenSV x5) (fun x6 =>
demand (binV BinOp.gtr x6 (V.d (.int .i64 30))) (fun x7 =>
opsB C I R_o4 (St.mk (look [(1, s 1), (4, s 4), (55, x7)]) (looko ([1].map fun n => (n, o n)))) (fun st => (seqK (fun st => wpB C I R_c4 st (blockK 3 [1, 4] (some [1]) (seqK (fun st => wpB C I R_c5 st Q) Q))) (blockK 3 [1, 4] (some [1]) (seqK (fun st => wpB C I R_c5 st Q) Q))) .normal (St.trim st [1, 4, 64] (some [1]))))))))))) := rfl
@[instance] theorem g_ref10_Small_c6_u : UnfAt (wpB C I g_ref10_Small.c6 (St.mk s o) Q) g_ref10_Small_c6_sh := Unf.of _
theorem g_ref10_Small_l1_sh (hL : R_l1 = g_ref10_Small.l1F R_c6)
 (h : demand (faddrV 0 (s 1)) (fun x1 =>
demand (loadV (looko ([1].map fun n => (n, o n))) none x1) (fun x2 =>
demand (lenV (looko ([1].map fun n => (n, o n))) x2) (fun x3 =>
demand (binV BinOp.lss (s 4) x3) (fun x4 =>
condK x4
 (wpB C I R_c6 (St.mk (look [(1, s 1), (4, s 4), (44, x4)]) (looko ([1].map fun n => (n, o n)))) (seqK (fun s => wpB C I R_l1 s Q) Q))
 (Q (.exit 2) (St.mk (look [(1, s 1), (4, s 4), (44, x4)]) (looko ([1].map fun n => (n, o n)))))))))) : wpB C I R_l1 (St.mk s o) Q := w_loopC hL h
theorem g_ref10_Small_c7_sh : wpB C I (g_ref10_Small.c7) (St.mk s o) Q =
 (Q .ret (St.mk (look [(2, (V.d (.bool true)))]) (looko ([].map fun n => (n, o n))))) := rfl
@[instance] theorem g_ref10_Small_c7_u : UnfAt (wpB C I g_ref10_Small.c7 (St.mk s o) Q) g_ref10_Small_c7_sh := Unf.of _
theorem g_ref10_Small_c8_sh : wpB C I (g_ref10_Small.c8F R_l1 R_c7) (St.mk s o) Q =
 (wpB C I R_l1 (St.mk (look [(1, s 1), (4, (V.d (.int .i64 0)))]) (looko ([1].map fun n => (n, o n)))) (blockK 2 [] (some []) (seqK (fun st => wpB C I R_c7 st Q) Q))) := rfl
@[instance] theorem g_ref10_Small_c8_u : UnfAt (wpB C I g_ref10_Small.c8 (St.mk s o) Q) g_ref10_Small_c8_sh := Unf.of _
theorem g_ref10_Small_c9_sh : wpB C I (g_ref10_Small.c9F R_l0 R_c8) (St.mk s o) Q =
 (wpB C I R_l0 (St.mk (look [(1, s 1), (3, (V.d (.int .i64 0)))]) (looko ([1].map fun n => (n, o n)))) (blockK 0 [1] (some [1]) (seqK (fun st => wpB C I R_c8 st Q) Q))) := rfl
@[instance] theorem g_ref10_Small_c9_u : UnfAt (wpB C I g_ref10_Small.c9 (St.mk s o) Q) g_ref10_Small_c9_sh := Unf.of _
theorem g_ref10_Small_code_sh : wpB C I (g_ref10_Small.codeF R_o0 R_c0 R_c9) (St.mk s o) Q =
 (lstK (cellsV (s 0)) (fun c1 => c1.length = 2 ∧ ¬ I 1 ∧ Fresh (St.mk s o) 1 (some 1) ∧ V.refsL 1 c1 = false ∧
demand (faddrV 1 (V.ptr 1 0)) (fun x2 =>
demand (loadV (looko ([1].map fun n => (n, (upd o 1 (some (Ob.box c1))) n))) none x2) (fun x3 =>
demand (lenV (looko ([1].map fun n => (n, (upd o 1 (some (Ob.box c1))) n))) x3) (fun x4 =>
demand (binV BinOp.gtr x4 (V.d (.int .i64 300))) (fun x5 =>
opsB C I R_o0 (St.mk (look [(1, (V.ptr 1 0)), (9, x5)]) (looko ([1].map fun n => (n, (upd o 1 (some (Ob.box c1))) n)))) (fun st => (seqK (fun st => wpB C I R_c0 st (seqK (fun st => wpB C I R_c9 st Q) Q)) (seqK (fun st => wpB C I R_c9 st Q) Q)) .normal (St.trim st [1, 14] (some [1]))))))))) := rfl
@[instance] theorem g_ref10_Small_code_u : UnfAt (wpB C I g_ref10_Small.code (St.mk s o) Q) g_ref10_Small_code_sh := Unf.of _
theorem g_law10_ref_c0_sh : wpB C I (g_law10_ref.c0) (St.mk s o) Q =
 (demand (faddrV 0 (s 3)) (fun x1 =>
demand (loadV o none x1) (fun x2 =>
demand (loadV o (some 3) (s 5)) (fun x3 =>
lstK (partsN 3 [x3]) (fun es4 =>
lstK (readD o (V.d (D.sl es4))) (fun ys5 => (∀ e ∈ ys5, e.length = 3) ∧ appK x2
 (ys5.length * 40 ≤ 140737488355328 ∧ ys5.length ≤ 140737488355328 ∧ ¬ I 19 ∧ Fresh (St.mk (upd (upd (upd (upd s 15 x1) 16 x2) 17 x3) 18 (V.d (D.sl es4))) o) 19 (some 19) ∧
demand (faddrV 0 (s 3)) (fun x10 =>
storeK x10 (cellsV (V.own 19)) 1 (upd o 19 (some (Ob.row 3 ys5))) (fun m11 ob12 =>
Q .normal (St.mk (look [(1, s 1), (2, s 2), (3, s 3), (9, s 9), (10, s 10), (11, s 11)]) (looko ([1, 2, 3, 19, 33].map fun n => (n, (upd (upd o 19 (some (Ob.row 3 ys5))) m11 (some ob12)) n)))))))
 (fun m6 => ¬ I m6 ∧ rowK (o m6) (fun z7 es8 => z7 = 3 ∧ (es8.length + ys5.length) * 40 ≤ 140737488355328 ∧ es8.length + ys5.length ≤ 140737488355328 ∧
demand (faddrV 0 ((fun t => scrubV m6 (s t)) 3)) (fun x13 =>
storeK x13 (cellsV (V.own m6)) 1 (upd (fun n => (o n).map (Ob.scrub m6)) m6 (some (Ob.row 3 (es8 ++ ys5)))) (fun m14 ob15 =>
Q .normal (St.mk (look [(1, ((fun t => scrubV m6 (s t)) 1)), (2, ((fun t => scrubV m6 (s t)) 2)), (3, ((fun t => scrubV m6 (s t)) 3)), (9, ((fun t => scrubV m6 (s t)) 9)), (10, ((fun t => scrubV m6 (s t)) 10)), (11, ((fun t => scrubV m6 (s t)) 11))]) (looko ([1, 2, 3, 19, 33].map fun n => (n, (upd (upd (fun n => (o n).map (Ob.scrub m6)) m6 (some (Ob.row 3 (es8 ++ ys5)))) m14 (some ob15)) n)))))))))))))) := rfl
@[instance] theorem g_law10_ref_c0_u : UnfAt (wpB C I g_law10_ref.c0 (St.mk s o) Q) g_law10_ref_c0_sh := Unf.of _
theorem g_law10_ref_c1_sh : wpB C I (g_law10_ref.c1) (St.mk s o) Q =
 (demand (binV BinOp.add (s 11) (V.d (.int .i64 1))) (fun x1 =>
Q .normal (St.mk (look [(1, s 1), (2, s 2), (3, s 3), (9, s 9), (10, s 10), (11, x1)]) (looko ([1, 2, 3, 19, 33].map fun n => (n, o n)))))) := rfl
@[instance] theorem g_law10_ref_c1_u : UnfAt (wpB C I g_law10_ref.c1 (St.mk s o) Q) g_law10_ref_c1_sh := Unf.of _
theorem g_law10_ref_l0_sh (hL : R_l0 = g_law10_ref.l0F R_c0 R_c1)
 (h : demand (binV BinOp.lss (s 11) (s 10)) (fun x1 =>
condK x1
 (demand (iaddrV (looko ([1, 2, 3, 19, 33].map fun n => (n, o n))) 3 (s 9) (s 11)) (fun x2 =>
demand (loadV (looko ([1, 2, 3, 19, 33].map fun n => (n, o n))) (some 3) x2) (fun x3 =>
(¬ I 5 ∧ Fresh (St.mk (upd (upd (look [(1, s 1), (2, s 2), (3, s 3), (9, s 9), (10, s 10), (11, s 11), (12, x1)]) 13 x2) 14 x3) (looko ([1, 2, 3, 19, 33].map fun n => (n, o n)))) 5 (some 5) ∧ V.refsL 5 [V.d (.str []), V.d (.str []), V.d (.int .i64 0)] = false ∧
storeK (V.ptr 5 0) (cellsV x3) 3 (upd (looko ([1, 2, 3, 19, 33].map fun n => (n, o n))) 5 (some (Ob.box [V.d (.str []), V.d (.str []), V.d (.int .i64 0)]))) (fun m4 ob5 =>
wpB C I R_c0 (St.mk (look [(1, s 1), (2, s 2), (3, s 3), (5, (V.ptr 5 0)), (9, s 9), (10, s 10), (11, s 11)]) (looko ([1, 2, 3, 5, 19, 33].map fun n => (n, (upd (upd (looko ([1, 2, 3, 19, 33].map fun n => (n, o n))) 5 (some (Ob.box [V.d (.str []), V.d (.str []), V.d (.int .i64 0)]))) m4 (some ob5)) n)))) (blockK 1 [1, 2, 3, 9, 10, 11] (some [1, 2, 3, 19, 33]) (seqK (fun st => wpB C I R_c1 st (seqK (fun s => wpB C I R_l0 s Q) Q)) (seqK (fun s => wpB C I R_l0 s Q) Q))))))))
 (Q (.exit 0) (St.mk (look [(1, s 1), (2, s 2), (3, s 3), (9, s 9), (10, s 10), (11, s 11), (12, x1)]) (looko ([1, 2, 3, 19, 33].map fun n => (n, o n))))))) : wpB C I R_l0 (St.mk s o) Q := w_loopC hL h
theorem g_law10_ref_c2_sh : wpB C I (g_law10_ref.c2F R_l0) (St.mk s o) Q =
 (wpB C I R_l0 (St.mk s o) (blockK 0 [1, 2, 3] (some [1, 2, 3, 19, 33]) Q)) := rfl
@[instance] theorem g_law10_ref_c2_u : UnfAt (wpB C I g_law10_ref.c2 (St.mk s o) Q) g_law10_ref_c2_sh := Unf.of _
theorem g_law10_ref_c3_sh : wpB C I (g_law10_ref.c3) (St.mk s o) Q =
 (demand (faddrV 1 (s 3)) (fun x1 =>
demand (loadV o none x1) (fun x2 =>
demand (loadV o (some 6) (s 7)) (fun x3 =>
lstK (partsN 6 [x3]) (fun es4 =>
lstK (readD o (V.d (D.sl es4))) (fun ys5 => (∀ e ∈ ys5, e.length = 6) ∧ appK x2
 (ys5.length * 64 ≤ 140737488355328 ∧ ys5.length ≤ 140737488355328 ∧ ¬ I 33 ∧ Fresh (St.mk (upd (upd (upd (upd s 29 x1) 30 x2) 31 x3) 32 (V.d (D.sl es4))) o) 33 (some 33) ∧
demand (faddrV 1 (s 3)) (fun x10 =>
storeK x10 (cellsV (V.own 33)) 1 (upd o 33 (some (Ob.row 6 ys5))) (fun m11 ob12 =>
Q .normal (St.mk (look [(2, s 2), (3, s 3), (23, s 23), (24, s 24), (25, s 25)]) (looko ([2, 3, 19, 33].map fun n => (n, (upd (upd o 33 (some (Ob.row 6 ys5))) m11 (some ob12)) n)))))))
 (fun m6 => ¬ I m6 ∧ rowK (o m6) (fun z7 es8 => z7 = 6 ∧ (es8.length + ys5.length) * 64 ≤ 140737488355328 ∧ es8.length + ys5.length ≤ 140737488355328 ∧
demand (faddrV 1 ((fun t => scrubV m6 (s t)) 3)) (fun x13 =>
storeK x13 (cellsV (V.own m6)) 1 (upd (fun n => (o n).map (Ob.scrub m6)) m6 (some (Ob.row 6 (es8 ++ ys5)))) (fun m14 ob15 =>
Q .normal (St.mk (look [(2, ((fun t => scrubV m6 (s t)) 2)), (3, ((fun t => scrubV m6 (s t)) 3)), (23, ((fun t => scrubV m6 (s t)) 23)), (24, ((fun t => scrubV m6 (s t)) 24)), (25, ((fun t => scrubV m6 (s t)) 25))]) (looko ([2, 3, 19, 33].map fun n => (n, (upd (upd (fun n => (o n).map (Ob.scrub m6)) m6 (some (Ob.row 6 (es8 ++ ys5)))) m14 (some ob15)) n)))))))))))))) := rfl
@[instance] theorem g_law10_ref_c3_u : UnfAt (wpB C I g_law10_ref.c3 (St.mk s o) Q) g_law10_ref_c3_sh := Unf.of _
theorem g_law10_ref_c4_sh : wpB C I (g_law10_ref.c4) (St.mk s o) Q =
 (demand (binV BinOp.add (s 25) (V.d (.int .i64 1))) (fun x1 =>
Q .normal (St.mk (look [(2, s 2), (3, s 3), (23, s 23), (24, s 24), (25, x1)]) (looko ([2, 3, 19, 33].map fun n => (n, o n)))))) := rfl
@[instance] theorem g_law10_ref_c4_u : UnfAt (wpB C I g_law10_ref.c4 (St.mk s o) Q) g_law10_ref_c4_sh := Unf.of _
theorem g_law10_ref_l1_sh (hL : R_l1 = g_law10_ref.l1F R_c3 R_c4)
 (h : demand (binV BinOp.lss (s 25) (s 24)) (fun x1 =>
condK x1
 (demand (iaddrV (looko ([2, 3, 19, 33].map fun n => (n, o n))) 6 (s 23) (s 25)) (fun x2 =>
demand (loadV (looko ([2, 3, 19, 33].map fun n => (n, o n))) (some 6) x2) (fun x3 =>
(¬ I 7 ∧ Fresh (St.mk (upd (upd (look [(2, s 2), (3, s 3), (23, s 23), (24, s 24), (25, s 25), (26, x1)]) 27 x2) 28 x3) (looko ([2, 3, 19, 33].map fun n => (n, o n)))) 7 (some 7) ∧ V.refsL 7 [V.d (.str []), V.d (.str []), V.d (.int .i64 0), V.d (.int .i64 0), V.d (.int .i64 0), V.d (.int .i64 0)] = false ∧
storeK (V.ptr 7 0) (cellsV x3) 6 (upd (looko ([2, 3, 19, 33].map fun n => (n, o n))) 7 (some (Ob.box [V.d (.str []), V.d (.str []), V.d (.int .i64 0), V.d (.int .i64 0), V.d (.int .i64 0), V.d (.int .i64 0)]))) (fun m4 ob5 =>
wpB C I R_c3 (St.mk (look [(2, s 2), (3, s 3), (7, (V.ptr 7 0)), (23, s 23), (24, s 24), (25, s 25)]) (looko ([2, 3, 7, 19, 33].map fun n => (n, (upd (upd (looko ([2, 3, 19, 33].map fun n => (n, o n))) 7 (some (Ob.box [V.d (.str []), V.d (.str []), V.d (.int .i64 0), V.d (.int .i64 0), V.d (.int .i64 0), V.d (.int .i64 0)]))) m4 (some ob5)) n)))) (blockK 3 [2, 3, 23, 24, 25] (some [2, 3, 19, 33]) (seqK (fun st => wpB C I R_c4 st (seqK (fun s => wpB C I R_l1 s Q) Q)) (seqK (fun s => wpB C I R_l1 s Q) Q))))))))
 (Q (.exit 2) (St.mk (look [(2, s 2), (3, s 3), (23, s 23), (24, s 24), (25, s 25), (26, x1)]) (looko ([2, 3, 19, 33].map fun n => (n, o n))))))) : wpB C I R_l1 (St.mk s o) Q := w_loopC hL h
theorem g_law10_ref_c5_sh : wpB C I (g_law10_ref.c5F R_l1) (St.mk s o) Q =
 (wpB C I R_l1 (St.mk s o) (blockK 2 [2, 3] (some [2, 3, 19, 33]) Q)) := rfl
@[instance] theorem g_law10_ref_c5_u : UnfAt (wpB C I g_law10_ref.c5 (St.mk s o) Q) g_law10_ref_c5_sh := Unf.of _
theorem g_law10_ref_c6_sh : wpB C I (g_law10_ref.c6) (St.mk s o) Q =
 (demand (loadV o (some 2) (s 3)) (fun x1 =>
storeK (s 2) (cellsV x1) 2 o (fun m2 ob3 =>
Q .ret (St.mk (look [(2, s 2)]) (looko ([2, 19, 33].map fun n => (n, (upd o m2 (some ob3)) n))))))) := rfl
@[instance] theorem g_law10_ref_c6_u : UnfAt (wpB C I g_law10_ref.c6 (St.mk s o) Q) g_law10_ref_c6_sh := Unf.of _
theorem g_law10_ref_c7_sh : wpB C I (g_law10_ref.c7F R_c5 R_c6) (St.mk s o) Q =
 (demand (faddrV 1 (s 1)) (fun x1 =>
demand (loadV o none x1) (fun x2 =>
demand (lenV o x2) (fun x3 =>
wpB C I R_c5 (St.mk (look [(2, s 2), (3, s 3), (23, x2), (24, x3), (25, (V.d (.int .i64 0)))]) (looko ([2, 3, 19, 33].map fun n => (n, o n)))) (seqK (fun st => wpB C I R_c6 st Q) Q))))) := rfl
@[instance] theorem g_law10_ref_c7_u : UnfAt (wpB C I g_law10_ref.c7 (St.mk s o) Q) g_law10_ref_c7_sh := Unf.of _
theorem g_law10_ref_code_sh : wpB C I (g_law10_ref.codeF R_c2 R_c7) (St.mk s o) Q =
 (lstK (cellsV (s 0)) (fun c1 => c1.length = 2 ∧ ¬ I 1 ∧ Fresh (St.mk s o) 1 (some 1) ∧ V.refsL 1 c1 = false ∧
(¬ I 2 ∧ Fresh (St.mk (upd s 1 (V.ptr 1 0)) (upd o 1 (some (Ob.box c1)))) 2 (some 2) ∧ V.refsL 2 [V.cap0, V.cap0] = false ∧
(¬ I 3 ∧ Fresh (St.mk (look [(1, (V.ptr 1 0)), (2, (V.ptr 2 0))]) (looko ([1, 2, 19, 33].map fun n => (n, (upd (upd o 1 (some (Ob.box c1))) 2 (some (Ob.box [V.cap0, V.cap0]))) n)))) 3 (some 3) ∧ V.refsL 3 [V.cap0, V.cap0] = false ∧
demand (faddrV 0 (V.ptr 1 0)) (fun x2 =>
demand (loadV (looko ([1, 2, 3, 19, 33].map fun n => (n, (upd (looko ([1, 2, 19, 33].map fun n => (n, (upd (upd o 1 (some (Ob.box c1))) 2 (some (Ob.box [V.cap0, V.cap0]))) n))) 3 (some (Ob.box [V.cap0, V.cap0]))) n))) none x2) (fun x3 =>
demand (lenV (looko ([1, 2, 3, 19, 33].map fun n => (n, (upd (looko ([1, 2, 19, 33].map fun n => (n, (upd (upd o 1 (some (Ob.box c1))) 2 (some (Ob.box [V.cap0, V.cap0]))) n))) 3 (some (Ob.box [V.cap0, V.cap0]))) n))) x3) (fun x4 =>
wpB C I R_c2 (St.mk (look [(1, (V.ptr 1 0)), (2, (V.ptr 2 0)), (3, (V.ptr 3 0)), (9, x3), (10, x4), (11, (V.d (.int .i64 0)))]) (looko ([1, 2, 3, 19, 33].map fun n => (n, (upd (looko ([1, 2, 19, 33].map fun n => (n, (upd (upd o 1 (some (Ob.box c1))) 2 (some (Ob.box [V.cap0, V.cap0]))) n))) 3 (some (Ob.box [V.cap0, V.cap0]))) n)))) (seqK (fun st => wpB C I R_c7 st Q) Q)))))))) := rfl
@[instance] theorem g_law10_ref_code_u : UnfAt (wpB C I g_law10_ref.code (St.mk s o) Q) g_law10_ref_code_sh := Unf.of _
theorem g_law10_awake_o5_sh : opsB C I (g_law10_awake.o5) (St.mk s o) K =
 (demand (pickV (s 37) (s 39) (V.d (.bool false))) (fun x1 =>
K (St.mk (upd (upd s 40 x1) 0 x1) o))) := rfl
@[instance] theorem g_law10_awake_o5_u : UnfAt (opsB C I g_law10_awake.o5 (St.mk s o) K) g_law10_awake_o5_sh := Unf.of _
theorem g_law10_awake_o4_sh : opsB C I (g_law10_awake.o4F R_o5) (St.mk s o) K =
 (guardK (s 37) true
 (demand (binV BinOp.eql (s 9) (V.d (.int .i64 7))) (fun x1 =>
opsB C I R_o5 (St.mk (look [(37, (V.d (D.bool true))), (39, x1)]) (looko ([].map fun n => (n, o n)))) K))
 (opsB C I R_o5 (St.mk (look [(37, (V.d (D.bool false))), (39, (V.tup []))]) (looko ([].map fun n => (n, o n)))) K)
 (opsB C I R_o5 (St.mk (look [(37, (V.tup [])), (39, (V.tup []))]) (looko ([].map fun n => (n, o n)))) K)) := rfl
@[instance] theorem g_law10_awake_o4_u : UnfAt (opsB C I g_law10_awake.o4 (St.mk s o) K) g_law10_awake_o4_sh := Unf.of _
theorem g_law10_awake_o3_sh : opsB C I (g_law10_awake.o3F R_o4) (St.mk s o) K =
 (demand (pickV (s 33) (s 35) (V.d (.bool false))) (fun x1 =>
opsB C I R_o4 (St.mk (look [(9, s 9), (37, x1)]) (looko ([].map fun n => (n, o n)))) K)) := rfl
@[instance] theorem g_law10_awake_o3_u : UnfAt (opsB C I g_law10_awake.o3 (St.mk s o) K) g_law10_awake_o3_sh := Unf.of _
theorem g_law10_awake_o2_sh : opsB C I (g_law10_awake.o2F R_o3) (St.mk s o) K =
 (guardK (s 33) true
 (demand (binV BinOp.eql (s 8) (V.d (.int .i64 5))) (fun x1 =>
opsB C I R_o3 (St.mk (look [(9, s 9), (33, (V.d (D.bool true))), (35, x1)]) (looko ([].map fun n => (n, o n)))) K))
 (opsB C I R_o3 (St.mk (look [(9, s 9), (33, (V.d (D.bool false))), (35, (V.tup []))]) (looko ([].map fun n => (n, o n)))) K)
 (opsB C I R_o3 (St.mk (look [(9, s 9), (33, (V.tup [])), (35, (V.tup []))]) (looko ([].map fun n => (n, o n)))) K)) := rfl
@[instance] theorem g_law10_awake_o2_u : UnfAt (opsB C I g_law10_awake.o2 (St.mk s o) K) g_law10_awake_o2_sh := Unf.of _
theorem g_law10_awake_o1_sh : opsB C I (g_law10_awake.o1F R_o2) (St.mk s o) K =
 (demand (pickV (s 29) (s 31) (V.d (.bool false))) (fun x1 =>
opsB C I R_o2 (St.mk (look [(8, s 8), (9, s 9), (33, x1)]) (looko ([].map fun n => (n, o n)))) K)) := rfl
@[instance] theorem g_law10_awake_o1_u : UnfAt (opsB C I g_law10_awake.o1 (St.mk s o) K) g_law10_awake_o1_sh := Unf.of _
theorem g_law10_awake_o0_sh : opsB C I (g_law10_awake.o0F R_o1) (St.mk s o) K =
 (guardK (s 29) true
 (demand (binV BinOp.eql (s 6) (V.d (.int .i64 0))) (fun x1 =>
opsB C I R_o1 (St.mk (look [(8, s 8), (9, s 9), (29, (V.d (D.bool true))), (31, x1)]) (looko ([].map fun n => (n, o n)))) K))
 (opsB C I R_o1 (St.mk (look [(8, s 8), (9, s 9), (29, (V.d (D.bool false))), (31, (V.tup []))]) (looko ([].map fun n => (n, o n)))) K)
 (opsB C I R_o1 (St.mk (look [(8, s 8), (9, s 9), (29, (V.tup [])), (31, (V.tup []))]) (looko ([].map fun n => (n, o n)))) K)) := rfl
@[instance] theorem g_law10_awake_o0_u : UnfAt (opsB C I g_law10_awake.o0 (St.mk s o) K) g_law10_awake_o0_sh := Unf.of _
theorem g_law10_awake_c0_sh : wpB C I (g_law10_awake.c0) (St.mk s o) Q =
 (Q .ret (St.mk s o)) := rfl
@[instance] theorem g_law10_awake_c0_u : UnfAt (wpB C I g_law10_awake.c0 (St.mk s o) Q) g_law10_awake_c0_sh := Unf.of _
theorem g_law10_awake_c1_sh : wpB C I (g_law10_awake.c1F R_o0 R_c0) (St.mk s o) Q =
 (demand (binV BinOp.eql (s 4) (V.d (.int .i64 1))) (fun x1 =>
opsB C I R_o0 (St.mk (look [(6, s 6), (8, s 8), (9, s 9), (29, x1)]) (looko ([].map fun n => (n, o n)))) (fun st => (seqK (fun st => wpB C I R_c0 st Q) Q) .normal (St.trim st [0] (some []))))) := rfl
@[instance] theorem g_law10_awake_c1_u : UnfAt (wpB C I g_law10_awake.c1 (St.mk s o) Q) g_law10_awake_c1_sh := Unf.of _
theorem g_law10_awake_c2_sh : wpB C I (g_law10_awake.c2F R_c1) (St.mk s o) Q =
 (demand (loadV o (some 2) (s 1)) (fun x1 =>
callK C I (St.mk (upd s 22 x1) o) (some 23) 163 [x1, (V.d (.int .i64 5)), (V.cap0)] (fun r2 or2 =>
demand (extV r2 0) (fun x3 =>
demand (extV r2 1) (fun x4 =>
demand (extV r2 2) (fun x5 =>
wpB C I R_c1 (St.mk (look [(4, s 4), (6, s 6), (8, x4), (9, x5)]) (looko ([].map fun n => (n, or2 n)))) Q)))))) := rfl
@[instance] theorem g_law10_awake_c2_u : UnfAt (wpB C I g_law10_awake.c2 (St.mk s o) Q) g_law10_awake_c2_sh := Unf.of _
theorem g_law10_awake_c3_sh : wpB C I (g_law10_awake.c3F R_c2) (St.mk s o) Q =
 (demand (loadV o (some 2) (s 1)) (fun x1 =>
callK C I (St.mk (upd s 16 x1) o) (some 17) 163 [x1, (V.d (.int .i64 2)), (V.cap0)] (fun r2 or2 =>
demand (extV r2 0) (fun x3 =>
demand (extV r2 1) (fun x4 =>
demand (extV r2 2) (fun x5 =>
wpB C I R_c2 (St.mk (look [(1, s 1), (4, x3), (6, x5)]) (looko ([1].map fun n => (n, or2 n)))) Q)))))) := rfl
@[instance] theorem g_law10_awake_c3_u : UnfAt (wpB C I g_law10_awake.c3 (St.mk s o) Q) g_law10_awake_c3_sh := Unf.of _
theorem g_law10_awake_code_sh : wpB C I (g_law10_awake.codeF R_c3) (St.mk s o) Q =
 (callK C I (St.mk (look []) (looko ([].map fun n => (n, o n)))) (some 11) 144 [(V.d (.str [108, 101, 116, 32, 97, 32, 61, 32, 49, 46, 53, 48, 32, 42, 32, 50, 59, 32, 108, 101, 116, 32, 98, 32, 61, 32, 49, 46, 53, 48, 32, 43, 32, 50, 59]))] (fun r1 or1 =>
demand (extV r1 0) (fun x2 =>
demand (extV r1 1) (fun x3 =>
demand (extV r1 2) (fun x4 =>
(¬ I 1 ∧ Fresh (St.mk (upd (upd (upd (upd (upd (look []) 11 r1) 10 r1) 12 x2) 13 x3) 14 x4) or1) 1 (some 1) ∧ V.refsL 1 [V.cap0, V.cap0] = false ∧
storeK (V.ptr 1 0) (cellsV x2) 2 (upd or1 1 (some (Ob.box [V.cap0, V.cap0]))) (fun m5 ob6 =>
wpB C I R_c3 (St.mk (look [(1, (V.ptr 1 0))]) (looko ([1].map fun n => (n, (upd (upd or1 1 (some (Ob.box [V.cap0, V.cap0]))) m5 (some ob6)) n)))) Q))))))) := rfl
@[instance] theorem g_law10_awake_code_u : UnfAt (wpB C I g_law10_awake.code (St.mk s o) Q) g_law10_awake_code_sh := Unf.of _
theorem g_check_Kind_c0_sh : wpB C I (g_check_Kind.c0) (St.mk s o) Q =
 (demand (iaddrV o 1 (s 11) (s 12)) (fun x1 =>
demand (loadV o none x1) (fun x2 =>
demand (binV BinOp.neq x2 (V.d (.int .i64 0))) (fun x3 =>
condK x3
 (Q (.exit 1) (St.mk (look [(1, s 1), (2, s 2), (3, s 3), (11, s 11), (12, s 12), (14, s 14), (26, s 26), (27, s 27), (28, s 28), (51, x3)]) (looko ([3, 14, 25].map fun n => (n, o n)))))
 (Q .normal (St.mk (look [(1, s 1), (2, s 2), (3, s 3), (11, s 11), (12, s 12), (14, s 14), (26, s 26), (27, s 27), (28, s 28), (51, x3)]) (looko ([3, 14, 25].map fun n => (n, o n))))))))) := rfl
@[instance] theorem g_check_Kind_c0_u : UnfAt (wpB C I g_check_Kind.c0 (St.mk s o) Q) g_check_Kind_c0_sh := Unf.of _
theorem g_check_Kind_o1_sh : opsB C I (g_check_Kind.o1) (St.mk s o) K =
 (demand (pickV (s 55) (s 59) (V.d (.bool false))) (fun x1 =>
K (St.mk (upd s 60 x1) o))) := rfl
@[instance] theorem g_check_Kind_o1_u : UnfAt (opsB C I g_check_Kind.o1 (St.mk s o) K) g_check_Kind_o1_sh := Unf.of _
theorem g_check_Kind_o0_sh : opsB C I (g_check_Kind.o0F R_o1) (St.mk s o) K =
 (guardK (s 55) true
 (callK C I (St.mk (upd (upd (upd (upd (upd s 55 (V.d (D.bool true))) 56 (s 2)) 55 (V.d (D.bool true))) 57 (V.fn 186 [(s 14)])) 55 (V.d (D.bool true))) o) (some 58) 187 [(s 2), (V.fn 186 [(s 14)])] (fun r1 or1 =>
demand (unV UnOp.not r1) (fun x2 =>
opsB C I R_o1 (St.mk (look [(12, s 12), (55, (V.d (D.bool true))), (59, x2)]) (looko ([].map fun n => (n, or1 n)))) K)))
 (opsB C I R_o1 (St.mk (look [(12, s 12), (55, (V.d (D.bool false))), (59, (V.tup []))]) (looko ([].map fun n => (n, o n)))) K)
 (opsB C I R_o1 (St.mk (look [(12, s 12), (55, (V.tup [])), (59, (V.tup []))]) (looko ([].map fun n => (n, o n)))) K)) := rfl
@[instance] theorem g_check_Kind_o0_u : UnfAt (opsB C I g_check_Kind.o0 (St.mk s o) K) g_check_Kind_o0_sh := Unf.of _
theorem g_check_Kind_c1_sh : wpB C I (g_check_Kind.c1) (St.mk s o) Q =
 (condK (s 60)
 (Q .ret (St.mk (look [(6, (V.d (.int .i64 0))), (7, s 12), (8, (V.d (.int .i64 5)))]) (looko ([].map fun n => (n, o n)))))
 (Q .normal (St.mk s o))) := rfl
@[instance] theorem g_check_Kind_c1_u : UnfAt (wpB C I g_check_Kind.c1 (St.mk s o) Q) g_check_Kind_c1_sh := Unf.of _
theorem g_check_Kind_c2_sh : wpB C I (g_check_Kind.c2) (St.mk s o) Q =
 (Q .ret (St.mk (look [(6, (V.d (.int .i64 0))), (7, s 12), (8, (V.d (.int .i64 7)))]) (looko ([].map fun n => (n, o n))))) := rfl
@[instance] theorem g_check_Kind_c2_u : UnfAt (wpB C I g_check_Kind.c2 (St.mk s o) Q) g_check_Kind_c2_sh := Unf.of _
theorem g_check_Kind_c3_sh : wpB C I (g_check_Kind.c3F R_o0 R_c1 R_c2) (St.mk s o) Q =
 (demand (faddrV 0 (s 14)) (fun x1 =>
demand (loadV o none x1) (fun x2 =>
demand (binV BinOp.eql x2 (V.d (.str [110, 97, 109, 101]))) (fun x3 =>
opsB C I R_o0 (St.mk (look [(2, s 2), (12, s 12), (14, s 14), (55, x3)]) (looko ([14].map fun n => (n, o n)))) (fun st => (seqK (fun st => wpB C I R_c1 st (seqK (fun st => wpB C I R_c2 st Q) Q)) (seqK (fun st => wpB C I R_c2 st Q) Q)) .normal (St.trim st [12, 60] (some []))))))) := rfl
@[instance] theorem g_check_Kind_c3_u : UnfAt (wpB C I g_check_Kind.c3 (St.mk s o) Q) g_check_Kind_c3_sh := Unf.of _
theorem g_check_Kind_c4_sh : wpB C I (g_check_Kind.c4F R_c0 R_c3) (St.mk s o) Q =
 (demand (loadV o (some 6) (s 14)) (fun x1 =>
callK C I (St.mk (upd (upd (upd (upd (upd s 40 (s 11)) 41 (s 12)) 42 x1) 43 (s 11)) 44 (s 2)) o) (some 45) 185 [x1, (s 11), (s 2)] (fun r2 or2 =>
demand (iaddrV or2 1 (s 11) (s 12)) (fun x3 =>
storeK x3 (cellsV r2) 1 or2 (fun m4 ob5 =>
wpB C I R_c0 (St.mk (look [(1, s 1), (2, s 2), (3, s 3), (11, s 11), (12, s 12), (14, s 14), (26, s 26), (27, s 27), (28, s 28)]) (looko ([3, 14, 25].map fun n => (n, (upd or2 m4 (some ob5)) n)))) (seqK (fun st => wpB C I R_c3 st Q) Q)))))) := rfl
@[instance] theorem g_check_Kind_c4_u : UnfAt (wpB C I g_check_Kind.c4 (St.mk s o) Q) g_check_Kind_c4_sh := Unf.of _
theorem g_check_Kind_c5_sh : wpB C I (g_check_Kind.c5F R_c4) (St.mk s o) Q =
 (demand (unV UnOp.not (s 13)) (fun x1 =>
condK x1
 (Q (.exit 1) (St.mk (look [(1, s 1), (2, s 2), (3, s 3), (11, s 11), (12, s 12), (26, s 26), (27, s 27), (28, s 28), (34, x1)]) (looko ([3, 25].map fun n => (n, o n)))))
 (demand (faddrV 1 (s 3)) (fun x2 =>
demand (loadV (looko ([3, 25].map fun n => (n, o n))) none x2) (fun x3 =>
demand (iaddrV (looko ([3, 25].map fun n => (n, o n))) 6 x3 (s 12)) (fun x4 =>
demand (loadV (looko ([3, 25].map fun n => (n, o n))) (some 6) x4) (fun x5 =>
(¬ I 14 ∧ Fresh (St.mk (upd (upd (upd (upd (upd (look [(1, s 1), (2, s 2), (3, s 3), (11, s 11), (12, s 12), (26, s 26), (27, s 27), (28, s 28), (34, x1)]) 35 x2) 36 x3) 37 (s 12)) 38 x4) 39 x5) (looko ([3, 25].map fun n => (n, o n)))) 14 (some 14) ∧ V.refsL 14 [V.d (.str []), V.d (.str []), V.d (.int .i64 0), V.d (.int .i64 0), V.d (.int .i64 0), V.d (.int .i64 0)] = false ∧
storeK (V.ptr 14 0) (cellsV x5) 6 (upd (looko ([3, 25].map fun n => (n, o n))) 14 (some (Ob.box [V.d (.str []), V.d (.str []), V.d (.int .i64 0), V.d (.int .i64 0), V.d (.int .i64 0), V.d (.int .i64 0)]))) (fun m6 ob7 =>
wpB C I R_c4 (St.mk (look [(1, s 1), (2, s 2), (3, s 3), (11, s 11), (12, s 12), (14, (V.ptr 14 0)), (26, s 26), (27, s 27), (28, s 28)]) (looko ([3, 14, 25].map fun n => (n, (upd (upd (looko ([3, 25].map fun n => (n, o n))) 14 (some (Ob.box [V.d (.str []), V.d (.str []), V.d (.int .i64 0), V.d (.int .i64 0), V.d (.int .i64 0), V.d (.int .i64 0)]))) m6 (some ob7)) n)))) Q))))))))) := rfl
@[instance] theorem g_check_Kind_c5_u : UnfAt (wpB C I g_check_Kind.c5 (St.mk s o) Q) g_check_Kind_c5_sh := Unf.of _
theorem g_check_Kind_c6_sh : wpB C I (g_check_Kind.c6) (St.mk s o) Q =
 (demand (binV BinOp.add (s 28) (V.d (.int .i64 1))) (fun x1 =>
Q .normal (St.mk (look [(1, s 1), (2, s 2), (3, s 3), (11, s 11), (26, s 26), (27, s 27), (28, x1)]) (looko ([3, 25].map fun n => (n, o n)))))) := rfl
@[instance] theorem g_check_Kind_c6_u : UnfAt (wpB C I g_check_Kind.c6 (St.mk s o) Q) g_check_Kind_c6_sh := Unf.of _
theorem g_check_Kind_l0_sh (hL : R_l0 = g_check_Kind.l0F R_c5 R_c6)
 (h : demand (binV BinOp.lss (s 28) (s 27)) (fun x1 =>
condK x1
 (demand (iaddrV (looko ([3, 25].map fun n => (n, o n))) 1 (s 26) (s 28)) (fun x2 =>
demand (loadV (looko ([3, 25].map fun n => (n, o n))) none x2) (fun x3 =>
wpB C I R_c5 (St.mk (look [(1, s 1), (2, s 2), (3, s 3), (11, s 11), (12, s 28), (13, x3), (26, s 26), (27, s 27), (28, s 28)]) (looko ([3, 25].map fun n => (n, o n)))) (blockK 1 [1, 2, 3, 11, 26, 27, 28] (some [3, 25]) (seqK (fun st => wpB C I R_c6 st (seqK (fun s => wpB C I R_l0 s Q) Q)) (seqK (fun s => wpB C I R_l0 s Q) Q))))))
 (Q (.exit 0) (St.mk (look [(1, s 1), (2, s 2), (3, s 3), (11, s 11), (26, s 26), (27, s 27), (28, s 28), (29, x1)]) (looko ([3, 25].map fun n => (n, o n))))))) : wpB C I R_l0 (St.mk s o) Q := w_loopC hL h
theorem g_check_Kind_c7_sh : wpB C I (g_check_Kind.c7) (St.mk s o) Q =
 (demand (iaddrV o 1 (s 11) (s 1)) (fun x1 =>
demand (loadV o none x1) (fun x2 =>
Q .ret (St.mk (look [(6, x2), (7, (V.d (.int .i64 0))), (8, (V.d (.int .i64 0)))]) (looko ([].map fun n => (n, o n))))))) := rfl
@[instance] theorem g_check_Kind_c7_u : UnfAt (wpB C I g_check_Kind.c7 (St.mk s o) Q) g_check_Kind_c7_sh := Unf.of _
theorem g_check_Kind_c8_sh : wpB C I (g_check_Kind.c8F R_l0 R_c7) (St.mk s o) Q =
 (demand (lenV o (s 9)) (fun x1 =>
wpB C I R_l0 (St.mk (look [(1, s 1), (2, s 2), (3, s 3), (11, s 11), (26, s 9), (27, x1), (28, (V.d (.int .i64 0)))]) (looko ([3, 25].map fun n => (n, o n)))) (blockK 0 [1, 11] (some [25]) (seqK (fun st => wpB C I R_c7 st Q) Q)))) := rfl
@[instance] theorem g_check_Kind_c8_u : UnfAt (wpB C I g_check_Kind.c8 (St.mk s o) Q) g_check_Kind_c8_sh := Unf.of _
theorem g_check_Kind_c9_sh : wpB C I (g_check_Kind.c9F R_c8) (St.mk s o) Q =
 (demand (lenV o (s 9)) (fun x1 =>
intK x1 (fun n2 => 0 ≤ n2 ∧ n2.toNat * 8 ≤ 140737488355328 ∧ n2 ≤ 140737488355328 ∧ ¬ I 25 ∧ Fresh (St.mk (upd (upd s 23 (s 9)) 24 x1) o) 25 (some 25) ∧
wpB C I R_c8 (St.mk (look [(1, s 1), (2, s 2), (3, s 3), (9, s 9), (11, (V.own 25))]) (looko ([3, 25].map fun n => (n, (upd o 25 (some (Ob.row 1 (List.replicate n2.toNat [(.int .i64 0)])))) n)))) Q))) := rfl
@[instance] theorem g_check_Kind_c9_u : UnfAt (wpB C I g_check_Kind.c9 (St.mk s o) Q) g_check_Kind_c9_sh := Unf.of _
theorem g_check_Kind_c10_sh : wpB C I (g_check_Kind.c10F R_c9) (St.mk s o) Q =
 (demand (unV UnOp.not (s 10)) (fun x1 =>
condK x1
 (Q .ret (St.mk (look [(6, (V.d (.int .i64 0))), (7, (V.d (.int .i64 0))), (8, (V.d (.int .i64 1)))]) (looko ([].map fun n => (n, o n)))))
 (wpB C I R_c9 (St.mk (look [(1, s 1), (2, s 2), (3, s 3), (9, s 9), (22, x1)]) (looko ([3].map fun n => (n, o n)))) Q))) := rfl
@[instance] theorem g_check_Kind_c10_u : UnfAt (wpB C I g_check_Kind.c10 (St.mk s o) Q) g_check_Kind_c10_sh := Unf.of _
theorem g_check_Kind_c11_sh : wpB C I (g_check_Kind.c11F R_c10) (St.mk s o) Q =
 (demand (loadV o (some 2) (s 3)) (fun x1 =>
callK C I (St.mk (upd (upd s 16 x1) 17 (s 1)) o) (some 18) 184 [x1, (s 1)] (fun r2 or2 =>
demand (extV r2 0) (fun x3 =>
demand (extV r2 1) (fun x4 =>
wpB C I R_c10 (St.mk (look [(1, s 1), (2, s 2), (3, s 3), (9, x3), (10, x4)]) (looko ([3].map fun n => (n, or2 n)))) Q))))) := rfl
@[instance] theorem g_check_Kind_c11_u : UnfAt (wpB C I g_check_Kind.c11 (St.mk s o) Q) g_check_Kind_c11_sh := Unf.of _
theorem g_check_Kind_code_sh : wpB C I (g_check_Kind.codeF R_c11) (St.mk s o) Q =
 (lstK (cellsV (s 0)) (fun c1 => c1.length = 2 ∧ ¬ I 3 ∧ Fresh (St.mk s o) 3 (some 3) ∧ V.refsL 3 c1 = false ∧
wpB C I R_c11 (St.mk (look [(1, s 1), (2, s 2), (3, (V.ptr 3 0))]) (looko ([3].map fun n => (n, (upd o 3 (some (Ob.box c1))) n)))) Q)) := rfl
@[instance] theorem g_check_Kind_code_u : UnfAt (wpB C I g_check_Kind.code (St.mk s o) Q) g_check_Kind_code_sh := Unf.of _
theorem g_tree_Parse_o1_sh : opsB C I (g_tree_Parse.o1) (St.mk s o) K =
 (demand (pickV (s 32) (s 37) (V.d (.bool false))) (fun x1 =>
K (St.mk (upd s 38 x1) o))) := rfl
@[instance] theorem g_tree_Parse_o1_u : UnfAt (opsB C I g_tree_Parse.o1 (St.mk s o) K) g_tree_Parse_o1_sh := Unf.of _
theorem g_tree_Parse_o0_sh : opsB C I (g_tree_Parse.o0F R_o1) (St.mk s o) K =
 (guardK (s 32) true
 (demand (nilcV (s 8)) (fun x1 =>
demand (faddrV 5 x1) (fun x2 =>
demand (loadV o none x2) (fun x3 =>
demand (binV BinOp.eql x3 (V.d (.int .i64 0))) (fun x4 =>
opsB C I R_o1 (St.mk (look [(2, s 2), (5, s 5), (8, s 8), (32, (V.d (D.bool true))), (37, x4)]) o) K)))))
 (opsB C I R_o1 (St.mk (look [(2, s 2), (5, s 5), (8, s 8), (32, (V.d (D.bool false))), (37, (V.tup []))]) o) K)
 (opsB C I R_o1 (St.mk (look [(2, s 2), (5, s 5), (8, s 8), (32, (V.tup [])), (37, (V.tup []))]) o) K)) := rfl
@[instance] theorem g_tree_Parse_o0_u : UnfAt (opsB C I g_tree_Parse.o0 (St.mk s o) K) g_tree_Parse_o0_sh := Unf.of _
theorem g_tree_Parse_c0_sh : wpB C I (g_tree_Parse.c0) (St.mk s o) Q =
 (condK (s 38)
 (Q .normal (St.mk s o))
 (Q (.exit 0) (St.mk s o))) := rfl
@[instance] theorem g_tree_Parse_c0_u : UnfAt (wpB C I g_tree_Parse.c0 (St.mk s o) Q) g_tree_Parse_c0_sh := Unf.of _
theorem g_tree_Parse_c1_sh : wpB C I (g_tree_Parse.c1) (St.mk s o) Q =
 (callK C I (St.mk (upd s 39 (s 8)) o) (some 40) 153 [(s 8)] (fun r1 or1 =>
Q .normal (St.mk (look [(2, s 2), (5, s 5), (8, s 8)]) or1))) := rfl
@[instance] theorem g_tree_Parse_c1_u : UnfAt (wpB C I g_tree_Parse.c1 (St.mk s o) Q) g_tree_Parse_c1_sh := Unf.of _
theorem g_tree_Parse_l0_sh (hL : R_l0 = g_tree_Parse.l0F R_o0 R_c0 R_c1)
 (h : demand (nilcV (s 8)) (fun x1 =>
demand (faddrV 2 x1) (fun x2 =>
demand (loadV o none x2) (fun x3 =>
demand (lenV o (s 5)) (fun x4 =>
demand (binV BinOp.lss x3 x4) (fun x5 =>
opsB C I R_o0 (St.mk (look [(2, s 2), (5, s 5), (8, s 8), (32, x5)]) o) (fun st => (seqK (fun st => wpB C I R_c0 st (seqK (fun st => wpB C I R_c1 st (seqK (fun s => wpB C I R_l0 s Q) Q)) (seqK (fun s => wpB C I R_l0 s Q) Q))) (seqK (fun st => wpB C I R_c1 st (seqK (fun s => wpB C I R_l0 s Q) Q)) (seqK (fun s => wpB C I R_l0 s Q) Q))) .normal (St.trim st [2, 5, 8, 38] none)))))))) : wpB C I R_l0 (St.mk s o) Q := w_loopC hL h
theorem g_tree_Parse_c2_sh : wpB C I (g_tree_Parse.c2) (St.mk s o) Q =
 (demand (nilcV (s 8)) (fun x1 =>
demand (faddrV 3 x1) (fun x2 =>
demand (loadV o (some 2) x2) (fun x3 =>
storeK (s 2) (cellsV x3) 2 o (fun m4 ob5 =>
Q .ret (St.mk (look [(2, s 2), (3, (V.d (.int .i64 0))), (4, (V.d (.int .i64 0)))]) (upd o m4 (some ob5)))))))) := rfl
@[instance] theorem g_tree_Parse_c2_u : UnfAt (wpB C I g_tree_Parse.c2 (St.mk s o) Q) g_tree_Parse_c2_sh := Unf.of _
theorem g_tree_Parse_c3_sh : wpB C I (g_tree_Parse.c3F R_c2) (St.mk s o) Q =
 (demand (nilcV (s 8)) (fun x1 =>
demand (faddrV 5 x1) (fun x2 =>
demand (loadV o none x2) (fun x3 =>
demand (binV BinOp.neq x3 (V.d (.int .i64 0))) (fun x4 =>
condK x4
 (V.undef = V.undef ∧ (demand ((buildN [V.cap0, V.cap0] []).map V.agg) (fun x5 => quietV o (x5 :: []) ∧
V.undef = V.undef ∧ (quietV o ((s 8) :: [(s 8)]) ∧
V.undef = V.undef ∧ (demand (nilcV (s 8)) (fun x7 => quietV o (x7 :: [(s 8)]) ∧
V.undef = V.undef ∧ (demand (faddrV 6 x7) (fun x8 => quietV o (x8 :: [x7]) ∧
V.undef = V.undef ∧ (demand (loadV o none x8) (fun x9 => quietV o (x9 :: [x8]) ∧
watchV o [(s 2)] [x8] ∧
V.undef = V.undef ∧ (quietV o ((s 8) :: [(s 8)]) ∧
V.undef = V.undef ∧ (demand (nilcV (s 8)) (fun x11 => quietV o (x11 :: [(s 8)]) ∧
V.undef = V.undef ∧ (demand (faddrV 5 x11) (fun x12 => quietV o (x12 :: [x11]) ∧
V.undef = V.undef ∧ (demand (loadV o none x12) (fun x13 => quietV o (x13 :: [x12]) ∧
watchV o [(s 2)] [x12] ∧
(([] : List Nat) = [] ∧ (storeK (s 2) (cellsV x5) 2 o (fun m14 ob15 =>
(([] : List Nat) = [] ∧ ((([] : List Nat) = [] ∧ (Q .ret (St.mk (look [(2, s 2), (3, x9), (4, x13)]) (upd o m14 (some ob15)))))))))))))))))))))))))))
 (wpB C I R_c2 (St.mk (look [(2, s 2), (8, s 8), (45, x4)]) o) Q)))))) := rfl
@[instance] theorem g_tree_Parse_c3_u : UnfAt (wpB C I g_tree_Parse.c3 (St.mk s o) Q) g_tree_Parse_c3_sh := Unf.of _
theorem g_tree_Parse_c4_sh : wpB C I (g_tree_Parse.c4F R_l0 R_c3) (St.mk s o) Q =
 (wpB C I R_l0 (St.mk s o) (blockK 0 [2, 8] none (seqK (fun st => wpB C I R_c3 st Q) Q))) := rfl
@[instance] theorem g_tree_Parse_c4_u : UnfAt (wpB C I g_tree_Parse.c4 (St.mk s o) Q) g_tree_Parse_c4_sh := Unf.of _
theorem g_tree_Parse_c5_sh : wpB C I (g_tree_Parse.c5F R_c4) (St.mk s o) Q =
 (demand (lenSV (s 0)) (fun x1 =>
demand ((buildN [V.cap0, V.d (.int .i64 0), V.d (.int .i64 0), V.cap0, V.cap0, V.d (.int .i64 0), V.d (.int .i64 0)] [(0, 1, (s 5)), (1, 1, x1)]).map V.agg) (fun x2 =>
lstK (cellsV x2) (fun c3 => c3.length = 7 ∧ ¬ I 24 ∧ Fresh (St.mk (upd (upd (upd (upd s 20 (s 5)) 21 (s 0)) 22 x1) 23 x2) o) 24 (some 24) ∧ V.refsL 24 c3 = false ∧
wpB C I R_c4 (St.mk (look [(2, s 2), (5, s 5), (8, (V.ptr 24 0))]) (upd o 24 (some (Ob.box c3)))) Q)))) := rfl
@[instance] theorem g_tree_Parse_c5_u : UnfAt (wpB C I g_tree_Parse.c5 (St.mk s o) Q) g_tree_Parse_c5_sh := Unf.of _
theorem g_tree_Parse_c6_sh : wpB C I (g_tree_Parse.c6F R_c5) (St.mk s o) Q =
 (demand (binV BinOp.neq (s 7) (V.d (.int .i64 0))) (fun x1 =>
condK x1
 (demand ((buildN [V.cap0, V.cap0] []).map V.agg) (fun x2 =>
storeK (s 2) (cellsV x2) 2 o (fun m3 ob4 =>
Q .ret (St.mk (look [(2, s 2), (3, s 6), (4, s 7)]) (upd o m3 (some ob4))))))
 (wpB C I R_c5 (St.mk (look [(0, s 0), (2, s 2), (5, s 5), (6, s 6), (7, s 7), (16, x1)]) o) Q))) := rfl
@[instance] theorem g_tree_Parse_c6_u : UnfAt (wpB C I g_tree_Parse.c6 (St.mk s o) Q) g_tree_Parse_c6_sh := Unf.of _
theorem g_tree_Parse_code_sh : wpB C I (g_tree_Parse.codeF R_c6) (St.mk s o) Q =
 ((¬ I 2 ∧ Fresh (St.mk s o) 2 (some 2) ∧ V.refsL 2 [V.cap0, V.cap0] = false ∧
callK C I (St.mk (upd (look [(0, s 0), (2, (V.ptr 2 0))]) 10 (s 0)) (upd o 2 (some (Ob.box [V.cap0, V.cap0])))) (some 11) 74 [(s 0)] (fun r1 or1 =>
demand (extV r1 0) (fun x2 =>
demand (extV r1 1) (fun x3 =>
demand (extV r1 2) (fun x4 =>
wpB C I R_c6 (St.mk (look [(0, s 0), (2, (V.ptr 2 0)), (5, x2), (6, x3), (7, x4)]) or1) Q)))))) := rfl
@[instance] theorem g_tree_Parse_code_u : UnfAt (wpB C I g_tree_Parse.code (St.mk s o) Q) g_tree_Parse_code_sh := Unf.of _
theorem g_check_needed_o1_sh : opsB C I (g_check_needed.o1) (St.mk s o) K =
 (demand (pickV (s 12) (V.d (.bool true)) (s 17)) (fun x1 =>
K (St.mk (upd s 18 x1) o))) := rfl
@[instance] theorem g_check_needed_o1_u : UnfAt (opsB C I g_check_needed.o1 (St.mk s o) K) g_check_needed_o1_sh := Unf.of _
theorem g_check_needed_o0_sh : opsB C I (g_check_needed.o0F R_o1) (St.mk s o) K =
 (guardK (s 12) false
 (demand (faddrV 1 (s 2)) (fun x1 =>
demand (loadV o none x1) (fun x2 =>
demand (lenV o x2) (fun x3 =>
demand (binV BinOp.geq (s 1) x3) (fun x4 =>
opsB C I R_o1 (St.mk (look [(1, s 1), (2, s 2), (12, (V.d (D.bool false))), (17, x4)]) (looko ([2].map fun n => (n, o n)))) K)))))
 (opsB C I R_o1 (St.mk (look [(1, s 1), (2, s 2), (12, (V.d (D.bool true))), (17, (V.tup []))]) (looko ([2].map fun n => (n, o n)))) K)
 (opsB C I R_o1 (St.mk (look [(1, s 1), (2, s 2), (12, (V.tup [])), (17, (V.tup []))]) (looko ([2].map fun n => (n, o n)))) K)) := rfl
@[instance] theorem g_check_needed_o0_u : UnfAt (opsB C I g_check_needed.o0 (St.mk s o) K) g_check_needed_o0_sh := Unf.of _
theorem g_check_needed_c0_sh : wpB C I (g_check_needed.c0) (St.mk s o) Q =
 (condK (s 18)
 (Q .ret (St.mk (look [(4, (V.cap0)), (5, (V.d (.bool false)))]) (looko ([21].map fun n => (n, o n)))))
 (Q .normal (St.mk s o))) := rfl
@[instance] theorem g_check_needed_c0_u : UnfAt (wpB C I g_check_needed.c0 (St.mk s o) Q) g_check_needed_c0_sh := Unf.of _
theorem g_check_needed_o3_sh : opsB C I (g_check_needed.o3) (St.mk s o) K =
 (demand (pickV (s 48) (V.d (.bool true)) (s 51)) (fun x1 =>
K (St.mk (upd s 52 x1) o))) := rfl
@[instance] theorem g_check_needed_o3_u : UnfAt (opsB C I g_check_needed.o3 (St.mk s o) K) g_check_needed_o3_sh := Unf.of _
theorem g_check_needed_o2_sh : opsB C I (g_check_needed.o2F R_o3) (St.mk s o) K =
 (guardK (s 48) false
 (demand (binV BinOp.geq (s 9) (s 7)) (fun x1 =>
opsB C I R_o3 (St.mk (look [(2, s 2), (6, s 6), (7, s 7), (9, s 9), (40, s 40), (41, s 41), (42, s 42), (48, (V.d (D.bool false))), (51, x1)]) (looko ([2, 21].map fun n => (n, o n)))) K))
 (opsB C I R_o3 (St.mk (look [(2, s 2), (6, s 6), (7, s 7), (9, s 9), (40, s 40), (41, s 41), (42, s 42), (48, (V.d (D.bool true))), (51, (V.tup []))]) (looko ([2, 21].map fun n => (n, o n)))) K)
 (opsB C I R_o3 (St.mk (look [(2, s 2), (6, s 6), (7, s 7), (9, s 9), (40, s 40), (41, s 41), (42, s 42), (48, (V.tup [])), (51, (V.tup []))]) (looko ([2, 21].map fun n => (n, o n)))) K)) := rfl
@[instance] theorem g_check_needed_o2_u : UnfAt (opsB C I g_check_needed.o2 (St.mk s o) K) g_check_needed_o2_sh := Unf.of _
theorem g_check_needed_c1_sh : wpB C I (g_check_needed.c1) (St.mk s o) Q =
 (condK (s 52)
 (Q .ret (St.mk (look [(4, (V.cap0)), (5, (V.d (.bool false)))]) (looko ([21].map fun n => (n, o n)))))
 (Q .normal (St.mk s o))) := rfl
@[instance] theorem g_check_needed_c1_u : UnfAt (wpB C I g_check_needed.c1 (St.mk s o) Q) g_check_needed_c1_sh := Unf.of _
theorem g_check_needed_c2_sh : wpB C I (g_check_needed.c2) (St.mk s o) Q =
 (demand (iaddrV o 1 (s 6) (s 9)) (fun x1 =>
storeK x1 (cellsV (V.d (.bool true))) 1 o (fun m2 ob3 =>
Q .normal (St.mk (look [(2, s 2), (6, s 6), (7, s 7), (40, s 40), (41, s 41), (42, s 42)]) (looko ([2, 21].map fun n => (n, (upd o m2 (some ob3)) n))))))) := rfl
@[instance] theorem g_check_needed_c2_u : UnfAt (wpB C I g_check_needed.c2 (St.mk s o) Q) g_check_needed_c2_sh := Unf.of _
theorem g_check_needed_c3_sh : wpB C I (g_check_needed.c3) (St.mk s o) Q =
 (demand (binV BinOp.add (s 42) (V.d (.int .i64 1))) (fun x1 =>
Q .normal (St.mk (look [(2, s 2), (6, s 6), (7, s 7), (40, s 40), (41, s 41), (42, x1)]) (looko ([2, 21].map fun n => (n, o n)))))) := rfl
@[instance] theorem g_check_needed_c3_u : UnfAt (wpB C I g_check_needed.c3 (St.mk s o) Q) g_check_needed_c3_sh := Unf.of _
theorem g_check_needed_l1_sh (hL : R_l1 = g_check_needed.l1F R_o2 R_c1 R_c2 R_c3)
 (h : demand (binV BinOp.lss (s 42) (s 41)) (fun x1 =>
condK x1
 (demand (iaddrV (looko ([2, 21].map fun n => (n, o n))) 1 (s 40) (s 42)) (fun x2 =>
demand (loadV (looko ([2, 21].map fun n => (n, o n))) none x2) (fun x3 =>
demand (binV BinOp.lss x3 (V.d (.int .i64 0))) (fun x4 =>
opsB C I R_o2 (St.mk (look [(2, s 2), (6, s 6), (7, s 7), (9, x3), (40, s 40), (41, s 41), (42, s 42), (48, x4)]) (looko ([2, 21].map fun n => (n, o n)))) (fun st => (seqK (fun st => wpB C I R_c1 st (seqK (fun st => wpB C I R_c2 st (blockK 3 [2, 6, 7, 40, 41, 42] (some [2, 21]) (seqK (fun st => wpB C I R_c3 st (seqK (fun s => wpB C I R_l1 s Q) Q)) (seqK (fun s => wpB C I R_l1 s Q) Q)))) (blockK 3 [2, 6, 7, 40, 41, 42] (some [2, 21]) (seqK (fun st => wpB C I R_c3 st (seqK (fun s => wpB C I R_l1 s Q) Q)) (seqK (fun s => wpB C I R_l1 s Q) Q))))) (seqK (fun st => wpB C I R_c2 st (blockK 3 [2, 6, 7, 40, 41, 42] (some [2, 21]) (seqK (fun st => wpB C I R_c3 st (seqK (fun s => wpB C I R_l1 s Q) Q)) (seqK (fun s => wpB C I R_l1 s Q) Q)))) (blockK 3 [2, 6, 7, 40, 41, 42] (some [2, 21]) (seqK (fun st => wpB C I R_c3 st (seqK (fun s => wpB C I R_l1 s Q) Q)) (seqK (fun s => wpB C I R_l1 s Q) Q))))) .normal (St.trim st [2, 6, 7, 9, 40, 41, 42, 52] (some [2, 21])))))))
 (Q (.exit 2) (St.mk (look [(2, s 2), (6, s 6), (7, s 7), (40, s 40), (41, s 41), (42, s 42), (43, x1)]) (looko ([2, 21].map fun n => (n, o n))))))) : wpB C I R_l1 (St.mk s o) Q := w_loopC hL h
theorem g_check_needed_c4_sh : wpB C I (g_check_needed.c4F R_l1) (St.mk s o) Q =
 (wpB C I R_l1 (St.mk s o) (blockK 2 [2, 6, 7] (some [2, 21]) Q)) := rfl
@[instance] theorem g_check_needed_c4_u : UnfAt (wpB C I g_check_needed.c4 (St.mk s o) Q) g_check_needed_c4_sh := Unf.of _
theorem g_check_needed_c5_sh : wpB C I (g_check_needed.c5F R_c4) (St.mk s o) Q =
 (demand (faddrV 1 (s 2)) (fun x1 =>
demand (loadV o none x1) (fun x2 =>
demand (iaddrV o 6 x2 (s 7)) (fun x3 =>
demand (loadV o (some 6) x3) (fun x4 =>
callK C I (St.mk (upd (upd (upd (upd (upd s 35 x1) 36 x2) 37 (s 7)) 38 x3) 39 x4) o) (some 40) 203 [x4] (fun r5 or5 =>
demand (lenV or5 r5) (fun x6 =>
wpB C I R_c4 (St.mk (look [(2, s 2), (6, s 6), (7, s 7), (40, r5), (41, x6), (42, (V.d (.int .i64 0)))]) (looko ([2, 21].map fun n => (n, or5 n)))) Q))))))) := rfl
@[instance] theorem g_check_needed_c5_u : UnfAt (wpB C I g_check_needed.c5 (St.mk s o) Q) g_check_needed_c5_sh := Unf.of _
theorem g_check_needed_c6_sh : wpB C I (g_check_needed.c6) (St.mk s o) Q =
 (demand (binV BinOp.sub (s 7) (V.d (.int .i64 1))) (fun x1 =>
Q .normal (St.mk (look [(2, s 2), (6, s 6), (7, x1)]) (looko ([2, 21].map fun n => (n, o n)))))) := rfl
@[instance] theorem g_check_needed_c6_u : UnfAt (wpB C I g_check_needed.c6 (St.mk s o) Q) g_check_needed_c6_sh := Unf.of _
theorem g_check_needed_l0_sh (hL : R_l0 = g_check_needed.l0F R_c5 R_c6)
 (h : demand (binV BinOp.geq (s 7) (V.d (.int .i64 0))) (fun x1 =>
condK x1
 (demand (iaddrV (looko ([2, 21].map fun n => (n, o n))) 1 (s 6) (s 7)) (fun x2 =>
demand (loadV (looko ([2, 21].map fun n => (n, o n))) none x2) (fun x3 =>
demand (unV UnOp.not x3) (fun x4 =>
condK x4
 (wpB C I R_c6 (St.mk (look [(2, s 2), (6, s 6), (7, s 7)]) (looko ([2, 21].map fun n => (n, o n)))) (seqK (fun s => wpB C I R_l0 s Q) Q))
 (wpB C I R_c5 (St.mk (look [(2, s 2), (6, s 6), (7, s 7), (34, x4)]) (looko ([2, 21].map fun n => (n, o n)))) (blockK 1 [2, 6, 7] (some [2, 21]) (seqK (fun st => wpB C I R_c6 st (seqK (fun s => wpB C I R_l0 s Q) Q)) (seqK (fun s => wpB C I R_l0 s Q) Q))))))))
 (Q (.exit 0) (St.mk (look [(2, s 2), (6, s 6), (7, s 7), (27, x1)]) (looko ([2, 21].map fun n => (n, o n))))))) : wpB C I R_l0 (St.mk s o) Q := w_loopC hL h
theorem g_check_needed_c7_sh : wpB C I (g_check_needed.c7) (St.mk s o) Q =
 (Q .ret (St.mk (look [(4, s 6), (5, (V.d (.bool true)))]) (looko ([21].map fun n => (n, o n))))) := rfl
@[instance] theorem g_check_needed_c7_u : UnfAt (wpB C I g_check_needed.c7 (St.mk s o) Q) g_check_needed_c7_sh := Unf.of _
theorem g_check_needed_c8_sh : wpB C I (g_check_needed.c8F R_l0 R_c7) (St.mk s o) Q =
 (wpB C I R_l0 (St.mk (look [(2, s 2), (6, s 6), (7, s 1)]) (looko ([2, 21].map fun n => (n, o n)))) (blockK 0 [6] (some [21]) (seqK (fun st => wpB C I R_c7 st Q) Q))) := rfl
@[instance] theorem g_check_needed_c8_u : UnfAt (wpB C I g_check_needed.c8 (St.mk s o) Q) g_check_needed_c8_sh := Unf.of _
theorem g_check_needed_c9_sh : wpB C I (g_check_needed.c9F R_c8) (St.mk s o) Q =
 (demand (iaddrV o 1 (s 6) (s 1)) (fun x1 =>
storeK x1 (cellsV (V.d (.bool true))) 1 o (fun m2 ob3 =>
wpB C I R_c8 (St.mk (look [(1, s 1), (2, s 2), (6, s 6)]) (looko ([2, 21].map fun n => (n, (upd o m2 (some ob3)) n)))) Q))) := rfl
@[instance] theorem g_check_needed_c9_u : UnfAt (wpB C I g_check_needed.c9 (St.mk s o) Q) g_check_needed_c9_sh := Unf.of _
theorem g_check_needed_c10_sh : wpB C I (g_check_needed.c10F R_c9) (St.mk s o) Q =
 (demand (binV BinOp.add (s 1) (V.d (.int .i64 1))) (fun x1 =>
intK x1 (fun n2 => 0 ≤ n2 ∧ n2.toNat * 1 ≤ 140737488355328 ∧ n2 ≤ 140737488355328 ∧ ¬ I 21 ∧ Fresh (St.mk (upd (upd s 19 (s 1)) 20 x1) o) 21 (some 21) ∧
wpB C I R_c9 (St.mk (look [(1, s 1), (2, s 2), (6, (V.own 21))]) (looko ([2, 21].map fun n => (n, (upd o 21 (some (Ob.row 1 (List.replicate n2.toNat [(.bool false)])))) n)))) Q))) := rfl
@[instance] theorem g_check_needed_c10_u : UnfAt (wpB C I g_check_needed.c10 (St.mk s o) Q) g_check_needed_c10_sh := Unf.of _
theorem g_check_needed_code_sh : wpB C I (g_check_needed.codeF R_o0 R_c0 R_c10) (St.mk s o) Q =
 (lstK (cellsV (s 0)) (fun c1 => c1.length = 2 ∧ ¬ I 2 ∧ Fresh (St.mk s o) 2 (some 2) ∧ V.refsL 2 c1 = false ∧
demand (binV BinOp.lss (s 1) (V.d (.int .i64 0))) (fun x2 =>
opsB C I R_o0 (St.mk (look [(1, s 1), (2, (V.ptr 2 0)), (12, x2)]) (looko ([2].map fun n => (n, (upd o 2 (some (Ob.box c1))) n)))) (fun st => (seqK (fun st => wpB C I R_c0 st (seqK (fun st => wpB C I R_c10 st Q) Q)) (seqK (fun st => wpB C I R_c10 st Q) Q)) .normal (St.trim st [1, 2, 18] (some [2])))))) := rfl
@[instance] theorem g_check_needed_code_u : UnfAt (wpB C I g_check_needed.code (St.mk s o) Q) g_check_needed_code_sh := Unf.of _
theorem g_check_kind_o3_sh : opsB C I (g_check_kind.o3) (St.mk s o) K =
 (demand (pickV (s 31) (s 37) (V.d (.bool false))) (fun x1 =>
K (St.mk (upd s 38 x1) o))) := rfl
@[instance] theorem g_check_kind_o3_u : UnfAt (opsB C I g_check_kind.o3 (St.mk s o) K) g_check_kind_o3_sh := Unf.of _
theorem g_check_kind_o2_sh : opsB C I (g_check_kind.o2F R_o3) (St.mk s o) K =
 (guardK (s 31) true
 (demand (iaddrV o 2 (s 2) (s 7)) (fun x1 =>
demand (faddrV 1 x1) (fun x2 =>
demand (loadV o none x2) (fun x3 =>
demand (binV BinOp.leq x3 (V.d (.int .i64 4))) (fun x4 =>
opsB C I R_o3 (St.mk (look [(2, s 2), (7, s 7), (31, (V.d (D.bool true))), (37, x4)]) (looko ([].map fun n => (n, o n)))) K)))))
 (opsB C I R_o3 (St.mk (look [(2, s 2), (7, s 7), (31, (V.d (D.bool false))), (37, (V.tup []))]) (looko ([].map fun n => (n, o n)))) K)
 (opsB C I R_o3 (St.mk (look [(2, s 2), (7, s 7), (31, (V.tup [])), (37, (V.tup []))]) (looko ([].map fun n => (n, o n)))) K)) := rfl
@[instance] theorem g_check_kind_o2_u : UnfAt (opsB C I g_check_kind.o2 (St.mk s o) K) g_check_kind_o2_sh := Unf.of _
theorem g_check_kind_o1_sh : opsB C I (g_check_kind.o1F R_o2) (St.mk s o) K =
 (demand (pickV (s 23) (s 29) (V.d (.bool false))) (fun x1 =>
opsB C I R_o2 (St.mk (look [(2, s 2), (7, s 7), (31, x1)]) (looko ([].map fun n => (n, o n)))) K)) := rfl
@[instance] theorem g_check_kind_o1_u : UnfAt (opsB C I g_check_kind.o1 (St.mk s o) K) g_check_kind_o1_sh := Unf.of _
theorem g_check_kind_o0_sh : opsB C I (g_check_kind.o0F R_o1) (St.mk s o) K =
 (guardK (s 23) true
 (demand (iaddrV o 2 (s 2) (s 7)) (fun x1 =>
demand (faddrV 1 x1) (fun x2 =>
demand (loadV o none x2) (fun x3 =>
demand (binV BinOp.geq x3 (V.d (.int .i64 1))) (fun x4 =>
opsB C I R_o1 (St.mk (look [(2, s 2), (7, s 7), (23, (V.d (D.bool true))), (29, x4)]) (looko ([].map fun n => (n, o n)))) K)))))
 (opsB C I R_o1 (St.mk (look [(2, s 2), (7, s 7), (23, (V.d (D.bool false))), (29, (V.tup []))]) (looko ([].map fun n => (n, o n)))) K)
 (opsB C I R_o1 (St.mk (look [(2, s 2), (7, s 7), (23, (V.tup [])), (29, (V.tup []))]) (looko ([].map fun n => (n, o n)))) K)) := rfl
@[instance] theorem g_check_kind_o0_u : UnfAt (opsB C I g_check_kind.o0 (St.mk s o) K) g_check_kind_o0_sh := Unf.of _
theorem g_check_kind_c0_sh : wpB C I (g_check_kind.c0) (St.mk s o) Q =
 (condK (s 38)
 (demand (iaddrV o 2 (s 2) (s 7)) (fun x1 =>
demand (faddrV 1 x1) (fun x2 =>
demand (loadV o none x2) (fun x3 =>
Q .ret (St.mk (look [(6, x3)]) (looko ([].map fun n => (n, o n))))))))
 (Q .normal (St.mk s o))) := rfl
@[instance] theorem g_check_kind_c0_u : UnfAt (wpB C I g_check_kind.c0 (St.mk s o) Q) g_check_kind_c0_sh := Unf.of _
theorem g_check_kind_c1_sh : wpB C I (g_check_kind.c1) (St.mk s o) Q =
 (Q .ret (St.mk (look [(6, (V.d (.int .i64 0)))]) (looko ([].map fun n => (n, o n))))) := rfl
@[instance] theorem g_check_kind_c1_u : UnfAt (wpB C I g_check_kind.c1 (St.mk s o) Q) g_check_kind_c1_sh := Unf.of _
theorem g_check_kind_c2_sh : wpB C I (g_check_kind.c2F R_o0 R_c0 R_c1) (St.mk s o) Q =
 (demand (binV BinOp.geq (s 7) (V.d (.int .i64 0))) (fun x1 =>
opsB C I R_o0 (St.mk (look [(2, s 2), (7, s 7), (23, x1)]) (looko ([].map fun n => (n, o n)))) (fun st => (seqK (fun st => wpB C I R_c0 st (seqK (fun st => wpB C I R_c1 st Q) Q)) (seqK (fun st => wpB C I R_c1 st Q) Q)) .normal (St.trim st [2, 7, 38] (some []))))) := rfl
@[instance] theorem g_check_kind_c2_u : UnfAt (wpB C I g_check_kind.c2 (St.mk s o) Q) g_check_kind_c2_sh := Unf.of _
theorem g_check_kind_o5_sh : opsB C I (g_check_kind.o5) (St.mk s o) K =
 (demand (pickV (s 52) (V.d (.bool true)) (s 58)) (fun x1 =>
K (St.mk (upd s 59 x1) o))) := rfl
@[instance] theorem g_check_kind_o5_u : UnfAt (opsB C I g_check_kind.o5 (St.mk s o) K) g_check_kind_o5_sh := Unf.of _
theorem g_check_kind_o4_sh : opsB C I (g_check_kind.o4F R_o5) (St.mk s o) K =
 (guardK (s 52) false
 (demand (faddrV 3 (s 3)) (fun x1 =>
demand (loadV o none x1) (fun x2 =>
demand (iaddrV o 1 (s 1) x2) (fun x3 =>
demand (loadV o none x3) (fun x4 =>
demand (binV BinOp.eql x4 (V.d (.int .i64 3))) (fun x5 =>
opsB C I R_o5 (St.mk (look [(1, s 1), (3, s 3), (52, (V.d (D.bool false))), (58, x5)]) (looko ([3].map fun n => (n, o n)))) K))))))
 (opsB C I R_o5 (St.mk (look [(1, s 1), (3, s 3), (52, (V.d (D.bool true))), (58, (V.tup []))]) (looko ([3].map fun n => (n, o n)))) K)
 (opsB C I R_o5 (St.mk (look [(1, s 1), (3, s 3), (52, (V.tup [])), (58, (V.tup []))]) (looko ([3].map fun n => (n, o n)))) K)) := rfl
@[instance] theorem g_check_kind_o4_u : UnfAt (opsB C I g_check_kind.o4 (St.mk s o) K) g_check_kind_o4_sh := Unf.of _
theorem g_check_kind_c3_sh : wpB C I (g_check_kind.c3) (St.mk s o) Q =
 (condK (s 59)
 (demand (faddrV 3 (s 3)) (fun x1 =>
demand (loadV o none x1) (fun x2 =>
demand (iaddrV o 1 (s 1) x2) (fun x3 =>
demand (loadV o none x3) (fun x4 =>
Q .ret (St.mk (look [(6, x4)]) (looko ([].map fun n => (n, o n)))))))))
 (Q .normal (St.mk s o))) := rfl
@[instance] theorem g_check_kind_c3_u : UnfAt (wpB C I g_check_kind.c3 (St.mk s o) Q) g_check_kind_c3_sh := Unf.of _
theorem g_check_kind_c4_sh : wpB C I (g_check_kind.c4) (St.mk s o) Q =
 (Q .ret (St.mk (look [(6, (V.d (.int .i64 0)))]) (looko ([].map fun n => (n, o n))))) := rfl
@[instance] theorem g_check_kind_c4_u : UnfAt (wpB C I g_check_kind.c4 (St.mk s o) Q) g_check_kind_c4_sh := Unf.of _
theorem g_check_kind_i24_sh : drawB C I g_check_kind.a6 (18 :: []) .done (St.mk s o) K =
 ((s 85) = V.undef ∧ (demand (pickV (s 73) (s 84) (V.d (.bool false))) (fun x1 => quietV o (x1 :: [(s 73), (s 84), (V.d (.bool false))]) ∧
treeB C I g_check_kind.a6 .done (St.mk (upd s 85 x1) o) K))) := rfl
@[instance] theorem g_check_kind_i24_u : UnfAt (drawB C I g_check_kind.a6 g_check_kind.i24 .done (St.mk s o) K) g_check_kind_i24_sh := Unf.of _
theorem g_check_kind_i23_sh : drawB C I g_check_kind.a6 (17 :: R_i24) .done (St.mk s o) K =
 ((s 84) = V.undef ∧ guardK (s 73) true
 (demand (binV BinOp.eql (s 78) (s 83)) (fun x1 => quietV o (x1 :: [(s 78), (s 83)]) ∧
drawB C I g_check_kind.a6 R_i24 .done (St.mk (upd s 84 x1) o) K))
 (quietV o ((V.tup []) :: [(s 78), (s 83)]) ∧
drawB C I g_check_kind.a6 R_i24 .done (St.mk (upd s 84 (V.tup [])) o) K)
 (quietV o ((V.tup []) :: [(s 78), (s 83)]) ∧
drawB C I g_check_kind.a6 R_i24 .done (St.mk (upd s 84 (V.tup [])) o) K)) := rfl
@[instance] theorem g_check_kind_i23_u : UnfAt (drawB C I g_check_kind.a6 g_check_kind.i23 .done (St.mk s o) K) g_check_kind_i23_sh := Unf.of _
theorem g_check_kind_i22_sh : drawB C I g_check_kind.a6 (16 :: R_i23) .done (St.mk s o) K =
 ((s 83) = V.undef ∧ guardK (s 73) true
 (demand (loadV o none (s 82)) (fun x1 => quietV o (x1 :: [(s 82)]) ∧
drawB C I g_check_kind.a6 R_i23 .done (St.mk (upd s 83 x1) o) K))
 (quietV o ((V.tup []) :: [(s 82)]) ∧
drawB C I g_check_kind.a6 R_i23 .done (St.mk (upd s 83 (V.tup [])) o) K)
 (quietV o ((V.tup []) :: [(s 82)]) ∧
drawB C I g_check_kind.a6 R_i23 .done (St.mk (upd s 83 (V.tup [])) o) K)) := rfl
@[instance] theorem g_check_kind_i22_u : UnfAt (drawB C I g_check_kind.a6 g_check_kind.i22 .done (St.mk s o) K) g_check_kind_i22_sh := Unf.of _
theorem g_check_kind_i21_sh : drawB C I g_check_kind.a6 (15 :: R_i22) .done (St.mk s o) K =
 ((s 82) = V.undef ∧ guardK (s 73) true
 (demand (iaddrV o 1 (s 79) (s 81)) (fun x1 => quietV o (x1 :: [(s 79), (s 81)]) ∧
drawB C I g_check_kind.a6 R_i22 .done (St.mk (upd s 82 x1) o) K))
 (quietV o ((V.tup []) :: [(s 79), (s 81)]) ∧
drawB C I g_check_kind.a6 R_i22 .done (St.mk (upd s 82 (V.tup [])) o) K)
 (quietV o ((V.tup []) :: [(s 79), (s 81)]) ∧
drawB C I g_check_kind.a6 R_i22 .done (St.mk (upd s 82 (V.tup [])) o) K)) := rfl
@[instance] theorem g_check_kind_i21_u : UnfAt (drawB C I g_check_kind.a6 g_check_kind.i21 .done (St.mk s o) K) g_check_kind_i21_sh := Unf.of _
theorem g_check_kind_i20_sh : drawB C I g_check_kind.a6 (14 :: R_i21) .done (St.mk s o) K =
 ((s 81) = V.undef ∧ guardK (s 73) true
 (demand (loadV o none (s 80)) (fun x1 => quietV o (x1 :: [(s 80)]) ∧
drawB C I g_check_kind.a6 R_i21 .done (St.mk (upd s 81 x1) o) K))
 (quietV o ((V.tup []) :: [(s 80)]) ∧
drawB C I g_check_kind.a6 R_i21 .done (St.mk (upd s 81 (V.tup [])) o) K)
 (quietV o ((V.tup []) :: [(s 80)]) ∧
drawB C I g_check_kind.a6 R_i21 .done (St.mk (upd s 81 (V.tup [])) o) K)) := rfl
@[instance] theorem g_check_kind_i20_u : UnfAt (drawB C I g_check_kind.a6 g_check_kind.i20 .done (St.mk s o) K) g_check_kind_i20_sh := Unf.of _
theorem g_check_kind_i19_sh : drawB C I g_check_kind.a6 (13 :: R_i20) .done (St.mk s o) K =
 ((s 80) = V.undef ∧ guardK (s 73) true
 (demand (faddrV 5 (s 3)) (fun x1 => quietV o (x1 :: [(s 3)]) ∧
drawB C I g_check_kind.a6 R_i20 .done (St.mk (upd s 80 x1) o) K))
 (quietV o ((V.tup []) :: [(s 3)]) ∧
drawB C I g_check_kind.a6 R_i20 .done (St.mk (upd s 80 (V.tup [])) o) K)
 (quietV o ((V.tup []) :: [(s 3)]) ∧
drawB C I g_check_kind.a6 R_i20 .done (St.mk (upd s 80 (V.tup [])) o) K)) := rfl
@[instance] theorem g_check_kind_i19_u : UnfAt (drawB C I g_check_kind.a6 g_check_kind.i19 .done (St.mk s o) K) g_check_kind_i19_sh := Unf.of _
theorem g_check_kind_i18_sh : drawB C I g_check_kind.a6 (12 :: R_i19) .done (St.mk s o) K =
 ((s 79) = V.undef ∧ guardK (s 73) true
 (quietV o ((s 1) :: [(s 1)]) ∧
drawB C I g_check_kind.a6 R_i19 .done (St.mk (upd s 79 (s 1)) o) K)
 (quietV o ((V.tup []) :: [(s 1)]) ∧
drawB C I g_check_kind.a6 R_i19 .done (St.mk (upd s 79 (V.tup [])) o) K)
 (quietV o ((V.tup []) :: [(s 1)]) ∧
drawB C I g_check_kind.a6 R_i19 .done (St.mk (upd s 79 (V.tup [])) o) K)) := rfl
@[instance] theorem g_check_kind_i18_u : UnfAt (drawB C I g_check_kind.a6 g_check_kind.i18 .done (St.mk s o) K) g_check_kind_i18_sh := Unf.of _
theorem g_check_kind_i17_sh : drawB C I g_check_kind.a6 (11 :: R_i18) .done (St.mk s o) K =
 ((s 78) = V.undef ∧ guardK (s 73) true
 (demand (loadV o none (s 77)) (fun x1 => quietV o (x1 :: [(s 77)]) ∧
drawB C I g_check_kind.a6 R_i18 .done (St.mk (upd s 78 x1) o) K))
 (quietV o ((V.tup []) :: [(s 77)]) ∧
drawB C I g_check_kind.a6 R_i18 .done (St.mk (upd s 78 (V.tup [])) o) K)
 (quietV o ((V.tup []) :: [(s 77)]) ∧
drawB C I g_check_kind.a6 R_i18 .done (St.mk (upd s 78 (V.tup [])) o) K)) := rfl
@[instance] theorem g_check_kind_i17_u : UnfAt (drawB C I g_check_kind.a6 g_check_kind.i17 .done (St.mk s o) K) g_check_kind_i17_sh := Unf.of _
theorem g_check_kind_i16_sh : drawB C I g_check_kind.a6 (10 :: R_i17) .done (St.mk s o) K =
 ((s 77) = V.undef ∧ guardK (s 73) true
 (demand (iaddrV o 1 (s 74) (s 76)) (fun x1 => quietV o (x1 :: [(s 74), (s 76)]) ∧
drawB C I g_check_kind.a6 R_i17 .done (St.mk (upd s 77 x1) o) K))
 (quietV o ((V.tup []) :: [(s 74), (s 76)]) ∧
drawB C I g_check_kind.a6 R_i17 .done (St.mk (upd s 77 (V.tup [])) o) K)
 (quietV o ((V.tup []) :: [(s 74), (s 76)]) ∧
drawB C I g_check_kind.a6 R_i17 .done (St.mk (upd s 77 (V.tup [])) o) K)) := rfl
@[instance] theorem g_check_kind_i16_u : UnfAt (drawB C I g_check_kind.a6 g_check_kind.i16 .done (St.mk s o) K) g_check_kind_i16_sh := Unf.of _
theorem g_check_kind_i15_sh : drawB C I g_check_kind.a6 (9 :: R_i16) .done (St.mk s o) K =
 ((s 76) = V.undef ∧ guardK (s 73) true
 (demand (loadV o none (s 75)) (fun x1 => quietV o (x1 :: [(s 75)]) ∧
drawB C I g_check_kind.a6 R_i16 .done (St.mk (upd s 76 x1) o) K))
 (quietV o ((V.tup []) :: [(s 75)]) ∧
drawB C I g_check_kind.a6 R_i16 .done (St.mk (upd s 76 (V.tup [])) o) K)
 (quietV o ((V.tup []) :: [(s 75)]) ∧
drawB C I g_check_kind.a6 R_i16 .done (St.mk (upd s 76 (V.tup [])) o) K)) := rfl
@[instance] theorem g_check_kind_i15_u : UnfAt (drawB C I g_check_kind.a6 g_check_kind.i15 .done (St.mk s o) K) g_check_kind_i15_sh := Unf.of _
theorem g_check_kind_i14_sh : drawB C I g_check_kind.a6 (8 :: R_i15) .done (St.mk s o) K =
 ((s 75) = V.undef ∧ guardK (s 73) true
 (demand (faddrV 4 (s 3)) (fun x1 => quietV o (x1 :: [(s 3)]) ∧
drawB C I g_check_kind.a6 R_i15 .done (St.mk (upd s 75 x1) o) K))
 (quietV o ((V.tup []) :: [(s 3)]) ∧
drawB C I g_check_kind.a6 R_i15 .done (St.mk (upd s 75 (V.tup [])) o) K)
 (quietV o ((V.tup []) :: [(s 3)]) ∧
drawB C I g_check_kind.a6 R_i15 .done (St.mk (upd s 75 (V.tup [])) o) K)) := rfl
@[instance] theorem g_check_kind_i14_u : UnfAt (drawB C I g_check_kind.a6 g_check_kind.i14 .done (St.mk s o) K) g_check_kind_i14_sh := Unf.of _
theorem g_check_kind_i13_sh : drawB C I g_check_kind.a6 (7 :: R_i14) .done (St.mk s o) K =
 ((s 74) = V.undef ∧ guardK (s 73) true
 (quietV o ((s 1) :: [(s 1)]) ∧
drawB C I g_check_kind.a6 R_i14 .done (St.mk (upd s 74 (s 1)) o) K)
 (quietV o ((V.tup []) :: [(s 1)]) ∧
drawB C I g_check_kind.a6 R_i14 .done (St.mk (upd s 74 (V.tup [])) o) K)
 (quietV o ((V.tup []) :: [(s 1)]) ∧
drawB C I g_check_kind.a6 R_i14 .done (St.mk (upd s 74 (V.tup [])) o) K)) := rfl
@[instance] theorem g_check_kind_i13_u : UnfAt (drawB C I g_check_kind.a6 g_check_kind.i13 .done (St.mk s o) K) g_check_kind_i13_sh := Unf.of _
theorem g_check_kind_i12_sh : drawB C I g_check_kind.a6 (6 :: R_i13) .done (St.mk s o) K =
 ((s 73) = V.undef ∧ (quietV o ((s 72) :: [(s 72)]) ∧
drawB C I g_check_kind.a6 R_i13 .done (St.mk (upd s 73 (s 72)) o) K)) := rfl
@[instance] theorem g_check_kind_i12_u : UnfAt (drawB C I g_check_kind.a6 g_check_kind.i12 .done (St.mk s o) K) g_check_kind_i12_sh := Unf.of _
theorem g_check_kind_i11_sh : drawB C I g_check_kind.a6 (5 :: R_i12) .done (St.mk s o) K =
 ((s 72) = V.undef ∧ (demand (binV BinOp.eql (s 71) (V.d (.int .i64 4))) (fun x1 => quietV o (x1 :: [(s 71), (V.d (.int .i64 4))]) ∧
drawB C I g_check_kind.a6 R_i12 .done (St.mk (upd s 72 x1) o) K))) := rfl
@[instance] theorem g_check_kind_i11_u : UnfAt (drawB C I g_check_kind.a6 g_check_kind.i11 .done (St.mk s o) K) g_check_kind_i11_sh := Unf.of _
theorem g_check_kind_i10_sh : drawB C I g_check_kind.a6 (4 :: R_i11) .done (St.mk s o) K =
 ((s 71) = V.undef ∧ (demand (loadV o none (s 70)) (fun x1 => quietV o (x1 :: [(s 70)]) ∧
drawB C I g_check_kind.a6 R_i11 .done (St.mk (upd s 71 x1) o) K))) := rfl
@[instance] theorem g_check_kind_i10_u : UnfAt (drawB C I g_check_kind.a6 g_check_kind.i10 .done (St.mk s o) K) g_check_kind_i10_sh := Unf.of _
theorem g_check_kind_i9_sh : drawB C I g_check_kind.a6 (3 :: R_i10) .done (St.mk s o) K =
 ((s 70) = V.undef ∧ (demand (iaddrV o 1 (s 67) (s 69)) (fun x1 => quietV o (x1 :: [(s 67), (s 69)]) ∧
drawB C I g_check_kind.a6 R_i10 .done (St.mk (upd s 70 x1) o) K))) := rfl
@[instance] theorem g_check_kind_i9_u : UnfAt (drawB C I g_check_kind.a6 g_check_kind.i9 .done (St.mk s o) K) g_check_kind_i9_sh := Unf.of _
theorem g_check_kind_i8_sh : drawB C I g_check_kind.a6 (2 :: R_i9) .done (St.mk s o) K =
 ((s 69) = V.undef ∧ (demand (loadV o none (s 68)) (fun x1 => quietV o (x1 :: [(s 68)]) ∧
drawB C I g_check_kind.a6 R_i9 .done (St.mk (upd s 69 x1) o) K))) := rfl
@[instance] theorem g_check_kind_i8_u : UnfAt (drawB C I g_check_kind.a6 g_check_kind.i8 .done (St.mk s o) K) g_check_kind_i8_sh := Unf.of _
theorem g_check_kind_i7_sh : drawB C I g_check_kind.a6 (1 :: R_i8) .done (St.mk s o) K =
 ((s 68) = V.undef ∧ (demand (faddrV 3 (s 3)) (fun x1 => quietV o (x1 :: [(s 3)]) ∧
drawB C I g_check_kind.a6 R_i8 .done (St.mk (upd s 68 x1) o) K))) := rfl
@[instance] theorem g_check_kind_i7_u : UnfAt (drawB C I g_check_kind.a6 g_check_kind.i7 .done (St.mk s o) K) g_check_kind_i7_sh := Unf.of _
theorem g_check_kind_c5_sh : wpB C I (g_check_kind.c5) (St.mk s o) Q =
 (condK (s 85)
 (demand (faddrV 4 (s 3)) (fun x1 =>
demand (loadV o none x1) (fun x2 =>
demand (iaddrV o 1 (s 1) x2) (fun x3 =>
demand (loadV o none x3) (fun x4 =>
Q .ret (St.mk (look [(6, x4)]) (looko ([].map fun n => (n, o n)))))))))
 (Q .normal (St.mk s o))) := rfl
@[instance] theorem g_check_kind_c5_u : UnfAt (wpB C I g_check_kind.c5 (St.mk s o) Q) g_check_kind_c5_sh := Unf.of _
theorem g_check_kind_c6_sh : wpB C I (g_check_kind.c6) (St.mk s o) Q =
 (Q .ret (St.mk (look [(6, (V.d (.int .i64 0)))]) (looko ([].map fun n => (n, o n))))) := rfl
@[instance] theorem g_check_kind_c6_u : UnfAt (wpB C I g_check_kind.c6 (St.mk s o) Q) g_check_kind_c6_sh := Unf.of _
theorem g_check_kind_c7_sh : wpB C I (g_check_kind.c7) (St.mk s o) Q =
 ((s 91) = V.undef ∧ (demand (faddrV 0 (s 3)) (fun x1 => quietV o (x1 :: [(s 3)]) ∧
(s 92) = V.undef ∧ (demand (loadV o none x1) (fun x2 => quietV o (x2 :: [x1]) ∧
(s 93) = V.undef ∧ (quietV o ((s 1) :: [(s 1)]) ∧
(s 94) = V.undef ∧ (demand (faddrV 3 (s 3)) (fun x4 => quietV o (x4 :: [(s 3)]) ∧
(s 95) = V.undef ∧ (demand (loadV o none x4) (fun x5 => quietV o (x5 :: [x4]) ∧
(s 96) = V.undef ∧ (demand (iaddrV o 1 (s 1) x5) (fun x6 => quietV o (x6 :: [(s 1), x5]) ∧
(s 97) = V.undef ∧ (demand (loadV o none x6) (fun x7 => quietV o (x7 :: [x6]) ∧
(s 98) = V.undef ∧ (quietV o ((s 1) :: [(s 1)]) ∧
(s 99) = V.undef ∧ (demand (faddrV 4 (s 3)) (fun x9 => quietV o (x9 :: [(s 3)]) ∧
(s 100) = V.undef ∧ (demand (loadV o none x9) (fun x10 => quietV o (x10 :: [x9]) ∧
(s 101) = V.undef ∧ (demand (iaddrV o 1 (s 1) x10) (fun x11 => quietV o (x11 :: [(s 1), x10]) ∧
(s 102) = V.undef ∧ (demand (loadV o none x11) (fun x12 => quietV o (x12 :: [x11]) ∧
(s 103) = V.undef ∧ (∃ x13, SoundAt C 206 ⟨[x2, x7, x12], fun _ => none⟩ ⟨x13, fun _ => none⟩ ∧ (∀ n, V.refs n x13 = false) ∧ quietV o (x13 :: [x2, x7, x12]) ∧
(s 6) = V.undef ∧ (quietV o (x13 :: [x13]) ∧
Q .ret (St.mk (look [(6, x13)]) (looko ([].map fun n => (n, o n))))))))))))))))))))))))))))) := rfl
@[instance] theorem g_check_kind_c7_u : UnfAt (wpB C I g_check_kind.c7 (St.mk s o) Q) g_check_kind_c7_sh := Unf.of _
theorem g_check_kind_code_sh : wpB C I (g_check_kind.codeF R_c2 R_o4 R_c3 R_c4 R_i7 R_c5 R_c6 R_c7) (St.mk s o) Q =
 (lstK (cellsV (s 0)) (fun c1 => c1.length = 6 ∧ ¬ I 3 ∧ Fresh (St.mk s o) 3 (some 3) ∧ V.refsL 3 c1 = false ∧
demand (faddrV 0 (V.ptr 3 0)) (fun x2 =>
demand (loadV (looko ([3].map fun n => (n, (upd o 3 (some (Ob.box c1))) n))) none x2) (fun x3 =>
demand (binV BinOp.eql x3 (V.d (.str [119, 104, 111, 108, 101]))) (fun x4 =>
condK x4
 (Q .ret (St.mk (look [(6, (V.d (.int .i64 3)))]) (looko ([].map fun n => (n, (upd o 3 (some (Ob.box c1))) n)))))
 (demand (binV BinOp.eql x3 (V.d (.str [97, 109, 111, 117, 110, 116]))) (fun x5 =>
condK x5
 (Q .ret (St.mk (look [(6, (V.d (.int .i64 1)))]) (looko ([].map fun n => (n, (upd o 3 (some (Ob.box c1))) n)))))
 (demand (binV BinOp.eql x3 (V.d (.str [114, 97, 116, 101]))) (fun x6 =>
condK x6
 (Q .ret (St.mk (look [(6, (V.d (.int .i64 2)))]) (looko ([].map fun n => (n, (upd o 3 (some (Ob.box c1))) n)))))
 (demand (binV BinOp.eql x3 (V.d (.str [110, 97, 109, 101]))) (fun x7 =>
condK x7
 (callK C I (St.mk (upd (upd (look [(1, s 1), (2, s 2), (3, (V.ptr 3 0)), (9, x3), (16, x7)]) 18 (s 2)) 19 (V.fn 204 [(V.ptr 3 0)])) (looko ([3].map fun n => (n, (upd o 3 (some (Ob.box c1))) n)))) (some 20) 205 [(s 2), (V.fn 204 [(V.ptr 3 0)])] (fun r8 or8 =>
wpB C I R_c2 (St.mk (look [(2, s 2), (7, r8)]) (looko ([].map fun n => (n, or8 n)))) (blockK 0 [1, 3] (some [3]) (seqK (fun st => wpB C I R_c7 st Q) Q))))
 (demand (binV BinOp.eql x3 (V.d (.str [110, 101, 103]))) (fun x9 =>
condK x9
 (demand (faddrV 3 (V.ptr 3 0)) (fun x10 =>
demand (loadV (looko ([3].map fun n => (n, (upd o 3 (some (Ob.box c1))) n))) none x10) (fun x11 =>
demand (iaddrV (looko ([3].map fun n => (n, (upd o 3 (some (Ob.box c1))) n))) 1 (s 1) x11) (fun x12 =>
demand (loadV (looko ([3].map fun n => (n, (upd o 3 (some (Ob.box c1))) n))) none x12) (fun x13 =>
demand (binV BinOp.eql x13 (V.d (.int .i64 1))) (fun x14 =>
opsB C I R_o4 (St.mk (look [(1, s 1), (3, (V.ptr 3 0)), (52, x14)]) (looko ([3].map fun n => (n, (upd o 3 (some (Ob.box c1))) n)))) (fun st => (seqK (fun st => wpB C I R_c3 st (seqK (fun st => wpB C I R_c4 st (blockK 0 [1, 3] (some [3]) (seqK (fun st => wpB C I R_c7 st Q) Q))) (blockK 0 [1, 3] (some [3]) (seqK (fun st => wpB C I R_c7 st Q) Q)))) (seqK (fun st => wpB C I R_c4 st (blockK 0 [1, 3] (some [3]) (seqK (fun st => wpB C I R_c7 st Q) Q))) (blockK 0 [1, 3] (some [3]) (seqK (fun st => wpB C I R_c7 st Q) Q)))) .normal (St.trim st [1, 3, 59] (some [3])))))))))
 (demand (binV BinOp.eql x3 (V.d (.str [105, 102]))) (fun x15 =>
condK x15
 (V.undef = V.undef ∧ (quietV (looko ([3].map fun n => (n, (upd o 3 (some (Ob.box c1))) n))) ((s 1) :: [(s 1)]) ∧
drawB C I g_check_kind.a6 R_i7 .done (St.mk (upd (look [(1, s 1), (3, (V.ptr 3 0)), (65, x15)]) 67 (s 1)) (looko ([3].map fun n => (n, (upd o 3 (some (Ob.box c1))) n)))) (fun st => (seqK (fun st => wpB C I R_c5 st (seqK (fun st => wpB C I R_c6 st (blockK 0 [1, 3] (some [3]) (seqK (fun st => wpB C I R_c7 st Q) Q))) (blockK 0 [1, 3] (some [3]) (seqK (fun st => wpB C I R_c7 st Q) Q)))) (seqK (fun st => wpB C I R_c6 st (blockK 0 [1, 3] (some [3]) (seqK (fun st => wpB C I R_c7 st Q) Q))) (blockK 0 [1, 3] (some [3]) (seqK (fun st => wpB C I R_c7 st Q) Q)))) .normal (St.trim st [1, 3, 85] (some [3])))))
 (wpB C I R_c7 (St.mk (look [(1, s 1), (3, (V.ptr 3 0))]) (looko ([3].map fun n => (n, (upd o 3 (some (Ob.box c1))) n)))) Q)))))))))))))))) := rfl
@[instance] theorem g_check_kind_code_u : UnfAt (wpB C I g_check_kind.code (St.mk s o) Q) g_check_kind_code_sh := Unf.of _
theorem g_slices_ContainsFunc_Bind_code_sh : wpB C I (g_slices_ContainsFunc_Bind.code) (St.mk s o) Q =
 (callK C I (St.mk (upd (upd (look [(0, s 0), (1, s 1)]) 5 (s 0)) 6 (s 1)) o) (some 7) 205 [(s 0), (s 1)] (fun r1 or1 =>
demand (binV BinOp.geq r1 (V.d (.int .i64 0))) (fun x2 =>
Q .ret (St.mk (look [(4, x2)]) or1)))) := rfl
@[instance] theorem g_slices_ContainsFunc_Bind_code_u : UnfAt (wpB C I g_slices_ContainsFunc_Bind.code (St.mk s o) Q) g_slices_ContainsFunc_Bind_code_sh := Unf.of _
theorem g_check_Kind_1_code_sh : wpB C I (g_check_Kind_1.code) (St.mk s o) Q =
 (lstK (cellsV (s 0)) (fun c1 => c1.length = 2 ∧ ¬ I 2 ∧ Fresh (St.mk s o) 2 (some 2) ∧ V.refsL 2 c1 = false ∧
demand (faddrV 0 (V.ptr 2 0)) (fun x2 =>
demand (loadV (upd o 2 (some (Ob.box c1))) none x2) (fun x3 =>
demand (faddrV 1 (s 1)) (fun x4 =>
demand (loadV (upd o 2 (some (Ob.box c1))) none x4) (fun x5 =>
demand (binV BinOp.eql x3 x5) (fun x6 =>
Q .ret (St.mk (look [(3, x6)]) (upd o 2 (some (Ob.box c1))))))))))) := rfl
@[instance] theorem g_check_Kind_1_code_u : UnfAt (wpB C I g_check_Kind_1.code (St.mk s o) Q) g_check_Kind_1_code_sh := Unf.of _
theorem g_lex_All_o1_sh : opsB C I (g_lex_All.o1) (St.mk s o) K =
 (demand (pickV (s 18) (V.d (.bool true)) (s 22)) (fun x1 =>
K (St.mk (upd s 23 x1) o))) := rfl
@[instance] theorem g_lex_All_o1_u : UnfAt (opsB C I g_lex_All.o1 (St.mk s o) K) g_lex_All_o1_sh := Unf.of _
theorem g_lex_All_o0_sh : opsB C I (g_lex_All.o0F R_o1) (St.mk s o) K =
 (guardK (s 18) false
 (demand (idxV (s 0) (s 6)) (fun x1 =>
demand (binV BinOp.eql x1 (V.d (.int .u8 10))) (fun x2 =>
opsB C I R_o1 (St.mk (look [(0, s 0), (5, s 5), (6, s 6), (18, (V.d (D.bool false))), (22, x2)]) (looko ([55].map fun n => (n, o n)))) K)))
 (opsB C I R_o1 (St.mk (look [(0, s 0), (5, s 5), (6, s 6), (18, (V.d (D.bool true))), (22, (V.tup []))]) (looko ([55].map fun n => (n, o n)))) K)
 (opsB C I R_o1 (St.mk (look [(0, s 0), (5, s 5), (6, s 6), (18, (V.tup [])), (22, (V.tup []))]) (looko ([55].map fun n => (n, o n)))) K)) := rfl
@[instance] theorem g_lex_All_o0_u : UnfAt (opsB C I g_lex_All.o0 (St.mk s o) K) g_lex_All_o0_sh := Unf.of _
theorem g_lex_All_c0_sh : wpB C I (g_lex_All.c0) (St.mk s o) Q =
 (condK (s 23)
 (demand (binV BinOp.add (s 6) (V.d (.int .i64 1))) (fun x1 =>
Q (.exit 1000000) (St.mk (look [(0, s 0), (5, s 5), (6, x1)]) (looko ([55].map fun n => (n, o n))))))
 (Q .normal (St.mk s o))) := rfl
@[instance] theorem g_lex_All_c0_u : UnfAt (wpB C I g_lex_All.c0 (St.mk s o) Q) g_lex_All_c0_sh := Unf.of _
theorem g_lex_All_c1_sh : wpB C I (g_lex_All.c1) (St.mk s o) Q =
 (demand (binV BinOp.add (s 6) (s 8)) (fun x1 =>
Q (.exit 1000000) (St.mk (look [(0, s 0), (5, s 5), (6, x1)]) (looko ([55].map fun n => (n, o n)))))) := rfl
@[instance] theorem g_lex_All_c1_u : UnfAt (wpB C I g_lex_All.c1 (St.mk s o) Q) g_lex_All_c1_sh := Unf.of _
theorem g_lex_All_c2_sh : wpB C I (g_lex_All.c2F R_c1) (St.mk s o) Q =
 (demand (binV BinOp.add (s 6) (s 8)) (fun x1 =>
demand (slcSV (s 0) (some (s 6)) (some x1)) (fun x2 =>
demand ((buildN [V.d (.int .i64 0), V.d (.str []), V.d (.int .i64 0)] [(0, 1, (s 7)), (1, 1, x2), (2, 1, (s 6))]).map V.agg) (fun x3 =>
lstK (partsN 3 [x3]) (fun es4 =>
lstK (readD o (V.d (D.sl es4))) (fun ys5 => (∀ e ∈ ys5, e.length = 3) ∧ appK (s 5)
 (ys5.length * 32 ≤ 140737488355328 ∧ ys5.length ≤ 140737488355328 ∧ ¬ I 55 ∧ Fresh (St.mk (upd (upd (upd (upd (upd (upd (upd (upd (upd (upd (upd s 44 (s 5)) 45 (s 7)) 46 (s 0)) 47 (s 6)) 48 (s 6)) 49 (s 8)) 50 x1) 51 x2) 52 (s 6)) 53 x3) 54 (V.d (D.sl es4))) o) 55 (some 55) ∧
wpB C I R_c1 (St.mk (look [(0, s 0), (5, (V.own 55)), (6, s 6), (8, s 8)]) (looko ([55].map fun n => (n, (upd o 55 (some (Ob.row 3 ys5))) n)))) Q)
 (fun m6 => ¬ I m6 ∧ rowK (o m6) (fun z7 es8 => z7 = 3 ∧ (es8.length + ys5.length) * 32 ≤ 140737488355328 ∧ es8.length + ys5.length ≤ 140737488355328 ∧
wpB C I R_c1 (St.mk (look [(0, ((fun t => scrubV m6 (s t)) 0)), (5, (V.own m6)), (6, ((fun t => scrubV m6 (s t)) 6)), (8, ((fun t => scrubV m6 (s t)) 8))]) (looko ([55].map fun n => (n, (upd (fun n => (o n).map (Ob.scrub m6)) m6 (some (Ob.row 3 (es8 ++ ys5)))) n)))) Q)))))))) := rfl
@[instance] theorem g_lex_All_c2_u : UnfAt (wpB C I g_lex_All.c2 (St.mk s o) Q) g_lex_All_c2_sh := Unf.of _
theorem g_lex_All_c3_sh : wpB C I (g_lex_All.c3F R_c2) (St.mk s o) Q =
 (demand (binV BinOp.eql (s 7) (V.d (.int .i64 0))) (fun x1 =>
condK x1
 (Q .ret (St.mk (look [(2, (V.cap0)), (3, s 6), (4, (V.d (.int .i64 2)))]) (looko ([55].map fun n => (n, o n)))))
 (wpB C I R_c2 (St.mk (look [(0, s 0), (5, s 5), (6, s 6), (7, s 7), (8, s 8), (42, x1)]) (looko ([55].map fun n => (n, o n)))) Q))) := rfl
@[instance] theorem g_lex_All_c3_u : UnfAt (wpB C I g_lex_All.c3 (St.mk s o) Q) g_lex_All_c3_sh := Unf.of _
theorem g_lex_All_c4_sh : wpB C I (g_lex_All.c4F R_c3) (St.mk s o) Q =
 (callK C I (St.mk (upd (upd s 36 (s 0)) 37 (s 6)) o) (some 38) 104 [(s 0), (s 6)] (fun r1 or1 =>
demand (extV r1 0) (fun x2 =>
demand (extV r1 1) (fun x3 =>
wpB C I R_c3 (St.mk (look [(0, s 0), (5, s 5), (6, s 6), (7, x2), (8, x3)]) (looko ([55].map fun n => (n, or1 n)))) Q)))) := rfl
@[instance] theorem g_lex_All_c4_u : UnfAt (wpB C I g_lex_All.c4 (St.mk s o) Q) g_lex_All_c4_sh := Unf.of _
theorem g_lex_All_c5_sh : wpB C I (g_lex_All.c5F R_c4) (St.mk s o) Q =
 (demand (idxV (s 0) (s 6)) (fun x1 =>
demand (binV BinOp.eql x1 (V.d (.int .u8 35))) (fun x2 =>
condK x2
 (callK C I (St.mk (upd (upd (upd (look [(0, s 0), (5, s 5), (6, s 6), (29, x2)]) 30 (s 6)) 31 (s 0)) 32 (s 6)) (looko ([55].map fun n => (n, o n)))) (some 33) 102 [(s 0), (s 6), (V.fn 103 [])] (fun r3 or3 =>
demand (binV BinOp.add (s 6) r3) (fun x4 =>
Q (.exit 1000000) (St.mk (look [(0, s 0), (5, s 5), (6, x4)]) (looko ([55].map fun n => (n, or3 n)))))))
 (wpB C I R_c4 (St.mk (look [(0, s 0), (5, s 5), (6, s 6), (29, x2)]) (looko ([55].map fun n => (n, o n)))) Q)))) := rfl
@[instance] theorem g_lex_All_c5_u : UnfAt (wpB C I g_lex_All.c5 (St.mk s o) Q) g_lex_All_c5_sh := Unf.of _
theorem g_lex_All_c6_sh : wpB C I (g_lex_All.c6F R_o0 R_c0 R_c5) (St.mk s o) Q =
 (demand (idxV (s 0) (s 6)) (fun x1 =>
demand (binV BinOp.eql x1 (V.d (.int .u8 32))) (fun x2 =>
opsB C I R_o0 (St.mk (look [(0, s 0), (5, s 5), (6, s 6), (18, x2)]) (looko ([55].map fun n => (n, o n)))) (fun st => (seqK (fun st => wpB C I R_c0 st (seqK (fun st => wpB C I R_c5 st Q) Q)) (seqK (fun st => wpB C I R_c5 st Q) Q)) .normal (St.trim st [0, 5, 6, 23] (some [55])))))) := rfl
@[instance] theorem g_lex_All_c6_u : UnfAt (wpB C I g_lex_All.c6 (St.mk s o) Q) g_lex_All_c6_sh := Unf.of _
theorem g_lex_All_c7_sh : wpB C I (g_lex_All.c7F R_c6) (St.mk s o) Q =
 (demand (lenSV (s 0)) (fun x1 =>
demand (binV BinOp.geq (s 6) x1) (fun x2 =>
condK x2
 (Q .ret (St.mk (look [(2, s 5), (3, (V.d (.int .i64 0))), (4, (V.d (.int .i64 0)))]) (looko ([55].map fun n => (n, o n)))))
 (wpB C I R_c6 (St.mk (look [(0, s 0), (5, s 5), (6, s 6), (12, x2)]) (looko ([55].map fun n => (n, o n)))) Q)))) := rfl
@[instance] theorem g_lex_All_c7_u : UnfAt (wpB C I g_lex_All.c7 (St.mk s o) Q) g_lex_All_c7_sh := Unf.of _
theorem g_lex_All_code_sh : wpB C I (g_lex_All.codeF R_c7) (St.mk s o) Q =
 (wpB C I R_c7 (St.mk (look [(0, s 0), (5, (V.cap0)), (6, (V.d (.int .i64 0)))]) (looko ([55].map fun n => (n, (looko ([].map fun n => (n, o n))) n)))) (jumpK 0 (fun s => wpA C I (.scope 0 [0, 5, 6] (some [55]) (.seq .skip R_c7) (.seq .skip R_c7)) (s.trim [0, 5, 6] (some [55])) Q) Q)) := rfl
@[instance] theorem g_lex_All_code_u : UnfAt (wpB C I g_lex_All.code (St.mk s o) Q) g_lex_All_code_sh := Unf.of _
theorem g_tree_parser_rule_t4_sh : treeB C I g_tree_parser_rule.a0 (.one 17 .done) (St.mk s o) K =
 ((([] : List Nat) = [] ∧ (demand (pickV (s 21) (s 25) (V.d (.bool false))) (fun x1 =>
K (St.mk (upd s 26 x1) o))))) := rfl
@[instance] theorem g_tree_parser_rule_t4_u : UnfAt (treeB C I g_tree_parser_rule.a0 g_tree_parser_rule.t4 (St.mk s o) K) g_tree_parser_rule_t4_sh := Unf.of _
theorem g_tree_parser_rule_t5_sh : treeB C I g_tree_parser_rule.a0 (.one 16 R_t4) (St.mk s o) K =
 ((([] : List Nat) = [] ∧ guardK (s 21) true
 (callE C I (St.mk s o) (some 25) 155 [(s 22), (s 24)] (fun r1 or1 =>
treeB C I g_tree_parser_rule.a0 R_t4 (St.mk (upd s 25 r1) or1) K))
 (treeB C I g_tree_parser_rule.a0 R_t4 (St.mk (upd s 25 (V.tup [])) o) K)
 (treeB C I g_tree_parser_rule.a0 R_t4 (St.mk (upd s 25 (V.tup [])) o) K))) := rfl
@[instance] theorem g_tree_parser_rule_t5_u : UnfAt (treeB C I g_tree_parser_rule.a0 g_tree_parser_rule.t5 (St.mk s o) K) g_tree_parser_rule_t5_sh := Unf.of _
theorem g_tree_parser_rule_t6_sh : treeB C I g_tree_parser_rule.a0 (.one 15 R_t5) (St.mk s o) K =
 ((([] : List Nat) = [] ∧ guardK (s 21) true
 (demand (loadV o none (s 23)) (fun x1 =>
treeB C I g_tree_parser_rule.a0 R_t5 (St.mk (upd s 24 x1) o) K))
 (treeB C I g_tree_parser_rule.a0 R_t5 (St.mk (upd s 24 (V.tup [])) o) K)
 (treeB C I g_tree_parser_rule.a0 R_t5 (St.mk (upd s 24 (V.tup [])) o) K))) := rfl
@[instance] theorem g_tree_parser_rule_t6_u : UnfAt (treeB C I g_tree_parser_rule.a0 g_tree_parser_rule.t6 (St.mk s o) K) g_tree_parser_rule_t6_sh := Unf.of _
theorem g_tree_parser_rule_t7_sh : treeB C I g_tree_parser_rule.a0 (.one 14 R_t6) (St.mk s o) K =
 ((([] : List Nat) = [] ∧ guardK (s 21) true
 (demand (faddrV 1 (s 2)) (fun x1 =>
treeB C I g_tree_parser_rule.a0 R_t6 (St.mk (upd s 23 x1) o) K))
 (treeB C I g_tree_parser_rule.a0 R_t6 (St.mk (upd s 23 (V.tup [])) o) K)
 (treeB C I g_tree_parser_rule.a0 R_t6 (St.mk (upd s 23 (V.tup [])) o) K))) := rfl
@[instance] theorem g_tree_parser_rule_t7_u : UnfAt (treeB C I g_tree_parser_rule.a0 g_tree_parser_rule.t7 (St.mk s o) K) g_tree_parser_rule_t7_sh := Unf.of _
theorem g_tree_parser_rule_t8_sh : treeB C I g_tree_parser_rule.a0 (.one 13 R_t5) (St.mk s o) K =
 ((([] : List Nat) = [] ∧ guardK (s 21) true
 (callE C I (St.mk s o) (some 22) 157 [] (fun r1 or1 =>
treeB C I g_tree_parser_rule.a0 R_t5 (St.mk (upd s 22 r1) or1) K))
 (treeB C I g_tree_parser_rule.a0 R_t5 (St.mk (upd s 22 (V.tup [])) o) K)
 (treeB C I g_tree_parser_rule.a0 R_t5 (St.mk (upd s 22 (V.tup [])) o) K))) := rfl
@[instance] theorem g_tree_parser_rule_t8_u : UnfAt (treeB C I g_tree_parser_rule.a0 g_tree_parser_rule.t8 (St.mk s o) K) g_tree_parser_rule_t8_sh := Unf.of _
theorem g_tree_parser_rule_t9_sh : treeB C I g_tree_parser_rule.a0 (.one 15 R_t8) (St.mk s o) K =
 ((([] : List Nat) = [] ∧ guardK (s 21) true
 (demand (loadV o none (s 23)) (fun x1 =>
treeB C I g_tree_parser_rule.a0 R_t8 (St.mk (upd s 24 x1) o) K))
 (treeB C I g_tree_parser_rule.a0 R_t8 (St.mk (upd s 24 (V.tup [])) o) K)
 (treeB C I g_tree_parser_rule.a0 R_t8 (St.mk (upd s 24 (V.tup [])) o) K))) := rfl
@[instance] theorem g_tree_parser_rule_t9_u : UnfAt (treeB C I g_tree_parser_rule.a0 g_tree_parser_rule.t9 (St.mk s o) K) g_tree_parser_rule_t9_sh := Unf.of _
theorem g_tree_parser_rule_t10_sh : treeB C I g_tree_parser_rule.a0 (.two 13 R_t6 R_t9) (St.mk s o) K =
 ((([] : List Nat) = [] ∧ guardK (s 21) true
 (callE C I (St.mk s o) (some 22) 157 [] (fun r1 or1 =>
treeB C I g_tree_parser_rule.a0 R_t6 (St.mk (upd s 22 r1) or1) K))
 (treeB C I g_tree_parser_rule.a0 R_t6 (St.mk (upd s 22 (V.tup [])) o) K)
 (treeB C I g_tree_parser_rule.a0 R_t6 (St.mk (upd s 22 (V.tup [])) o) K)) ∧ treeB C I g_tree_parser_rule.a0 R_t9 (St.mk s o) K) := rfl
@[instance] theorem g_tree_parser_rule_t10_u : UnfAt (treeB C I g_tree_parser_rule.a0 g_tree_parser_rule.t10 (St.mk s o) K) g_tree_parser_rule_t10_sh := Unf.of _
theorem g_tree_parser_rule_t11_sh : treeB C I g_tree_parser_rule.a0 (.one 14 R_t10) (St.mk s o) K =
 ((([] : List Nat) = [] ∧ guardK (s 21) true
 (demand (faddrV 1 (s 2)) (fun x1 =>
treeB C I g_tree_parser_rule.a0 R_t10 (St.mk (upd s 23 x1) o) K))
 (treeB C I g_tree_parser_rule.a0 R_t10 (St.mk (upd s 23 (V.tup [])) o) K)
 (treeB C I g_tree_parser_rule.a0 R_t10 (St.mk (upd s 23 (V.tup [])) o) K))) := rfl
@[instance] theorem g_tree_parser_rule_t11_u : UnfAt (treeB C I g_tree_parser_rule.a0 g_tree_parser_rule.t11 (St.mk s o) K) g_tree_parser_rule_t11_sh := Unf.of _
theorem g_tree_parser_rule_t12_sh : treeB C I g_tree_parser_rule.a0 (.two 13 R_t7 R_t11) (St.mk s o) K =
 ((([] : List Nat) = [] ∧ guardK (s 21) true
 (callE C I (St.mk s o) (some 22) 157 [] (fun r1 or1 =>
treeB C I g_tree_parser_rule.a0 R_t7 (St.mk (upd s 22 r1) or1) K))
 (treeB C I g_tree_parser_rule.a0 R_t7 (St.mk (upd s 22 (V.tup [])) o) K)
 (treeB C I g_tree_parser_rule.a0 R_t7 (St.mk (upd s 22 (V.tup [])) o) K)) ∧ treeB C I g_tree_parser_rule.a0 R_t11 (St.mk s o) K) := rfl
@[instance] theorem g_tree_parser_rule_t12_u : UnfAt (treeB C I g_tree_parser_rule.a0 g_tree_parser_rule.t12 (St.mk s o) K) g_tree_parser_rule_t12_sh := Unf.of _
theorem g_tree_parser_rule_t13_sh : treeB C I g_tree_parser_rule.a0 (.one 12 R_t12) (St.mk s o) K =
 ((([] : List Nat) = [] ∧ (treeB C I g_tree_parser_rule.a0 R_t12 (St.mk (upd s 21 (s 20)) o) K))) := rfl
@[instance] theorem g_tree_parser_rule_t13_u : UnfAt (treeB C I g_tree_parser_rule.a0 g_tree_parser_rule.t13 (St.mk s o) K) g_tree_parser_rule_t13_sh := Unf.of _
theorem g_tree_parser_rule_t14_sh : treeB C I g_tree_parser_rule.a0 (.one 11 R_t13) (St.mk s o) K =
 ((([] : List Nat) = [] ∧ (demand (pickV (s 16) (s 19) (V.d (.bool false))) (fun x1 =>
treeB C I g_tree_parser_rule.a0 R_t13 (St.mk (upd s 20 x1) o) K)))) := rfl
@[instance] theorem g_tree_parser_rule_t14_u : UnfAt (treeB C I g_tree_parser_rule.a0 g_tree_parser_rule.t14 (St.mk s o) K) g_tree_parser_rule_t14_sh := Unf.of _
theorem g_tree_parser_rule_t15_sh : treeB C I g_tree_parser_rule.a0 (.one 10 R_t14) (St.mk s o) K =
 ((([] : List Nat) = [] ∧ guardK (s 16) true
 (demand (binV BinOp.eql (s 18) (V.d (.int .i64 1))) (fun x1 =>
treeB C I g_tree_parser_rule.a0 R_t14 (St.mk (upd s 19 x1) o) K))
 (treeB C I g_tree_parser_rule.a0 R_t14 (St.mk (upd s 19 (V.tup [])) o) K)
 (treeB C I g_tree_parser_rule.a0 R_t14 (St.mk (upd s 19 (V.tup [])) o) K))) := rfl
@[instance] theorem g_tree_parser_rule_t15_u : UnfAt (treeB C I g_tree_parser_rule.a0 g_tree_parser_rule.t15 (St.mk s o) K) g_tree_parser_rule_t15_sh := Unf.of _
theorem g_tree_parser_rule_t16_sh : treeB C I g_tree_parser_rule.a0 (.one 9 R_t15) (St.mk s o) K =
 ((([] : List Nat) = [] ∧ guardK (s 16) true
 (demand (loadV o none (s 17)) (fun x1 =>
treeB C I g_tree_parser_rule.a0 R_t15 (St.mk (upd s 18 x1) o) K))
 (treeB C I g_tree_parser_rule.a0 R_t15 (St.mk (upd s 18 (V.tup [])) o) K)
 (treeB C I g_tree_parser_rule.a0 R_t15 (St.mk (upd s 18 (V.tup [])) o) K))) := rfl
@[instance] theorem g_tree_parser_rule_t16_u : UnfAt (treeB C I g_tree_parser_rule.a0 g_tree_parser_rule.t16 (St.mk s o) K) g_tree_parser_rule_t16_sh := Unf.of _
theorem g_tree_parser_rule_t17_sh : treeB C I g_tree_parser_rule.a0 (.one 8 R_t16) (St.mk s o) K =
 ((([] : List Nat) = [] ∧ guardK (s 16) true
 (demand (faddrV 0 (s 2)) (fun x1 =>
treeB C I g_tree_parser_rule.a0 R_t16 (St.mk (upd s 17 x1) o) K))
 (treeB C I g_tree_parser_rule.a0 R_t16 (St.mk (upd s 17 (V.tup [])) o) K)
 (treeB C I g_tree_parser_rule.a0 R_t16 (St.mk (upd s 17 (V.tup [])) o) K))) := rfl
@[instance] theorem g_tree_parser_rule_t17_u : UnfAt (treeB C I g_tree_parser_rule.a0 g_tree_parser_rule.t17 (St.mk s o) K) g_tree_parser_rule_t17_sh := Unf.of _
theorem g_tree_parser_rule_t18_sh : treeB C I g_tree_parser_rule.a0 (.one 7 R_t17) (St.mk s o) K =
 ((([] : List Nat) = [] ∧ (treeB C I g_tree_parser_rule.a0 R_t17 (St.mk (upd s 16 (s 15)) o) K))) := rfl
@[instance] theorem g_tree_parser_rule_t18_u : UnfAt (treeB C I g_tree_parser_rule.a0 g_tree_parser_rule.t18 (St.mk s o) K) g_tree_parser_rule_t18_sh := Unf.of _
theorem g_tree_parser_rule_t19_sh : treeB C I g_tree_parser_rule.a0 (.one 6 R_t18) (St.mk s o) K =
 ((([] : List Nat) = [] ∧ (demand (binV BinOp.geq (s 14) (V.d (.int .i64 60))) (fun x1 =>
treeB C I g_tree_parser_rule.a0 R_t18 (St.mk (upd s 15 x1) o) K)))) := rfl
@[instance] theorem g_tree_parser_rule_t19_u : UnfAt (treeB C I g_tree_parser_rule.a0 g_tree_parser_rule.t19 (St.mk s o) K) g_tree_parser_rule_t19_sh := Unf.of _
theorem g_tree_parser_rule_t20_sh : treeB C I g_tree_parser_rule.a0 (.one 5 R_t19) (St.mk s o) K =
 ((([] : List Nat) = [] ∧ (demand (lenV o (s 13)) (fun x1 =>
treeB C I g_tree_parser_rule.a0 R_t19 (St.mk (upd s 14 x1) o) K)))) := rfl
@[instance] theorem g_tree_parser_rule_t20_u : UnfAt (treeB C I g_tree_parser_rule.a0 g_tree_parser_rule.t20 (St.mk s o) K) g_tree_parser_rule_t20_sh := Unf.of _
theorem g_tree_parser_rule_t21_sh : treeB C I g_tree_parser_rule.a0 (.one 4 R_t20) (St.mk s o) K =
 ((([] : List Nat) = [] ∧ (demand (loadV o none (s 12)) (fun x1 =>
treeB C I g_tree_parser_rule.a0 R_t20 (St.mk (upd s 13 x1) o) K)))) := rfl
@[instance] theorem g_tree_parser_rule_t21_u : UnfAt (treeB C I g_tree_parser_rule.a0 g_tree_parser_rule.t21 (St.mk s o) K) g_tree_parser_rule_t21_sh := Unf.of _
theorem g_tree_parser_rule_i3_sh : drawB C I g_tree_parser_rule.a0 (3 :: []) R_t21 (St.mk s o) K =
 ((s 12) = V.undef ∧ (demand (faddrV 0 (s 11)) (fun x1 => quietV o (x1 :: [(s 11)]) ∧
treeB C I g_tree_parser_rule.a0 R_t21 (St.mk (upd s 12 x1) o) K))) := rfl
@[instance] theorem g_tree_parser_rule_i3_u : UnfAt (drawB C I g_tree_parser_rule.a0 g_tree_parser_rule.i3 g_tree_parser_rule.t21 (St.mk s o) K) g_tree_parser_rule_i3_sh := Unf.of _
theorem g_tree_parser_rule_i2_sh : drawB C I g_tree_parser_rule.a0 (2 :: R_i3) R_t21 (St.mk s o) K =
 ((s 11) = V.undef ∧ (demand (faddrV 3 (s 10)) (fun x1 => quietV o (x1 :: [(s 10)]) ∧
drawB C I g_tree_parser_rule.a0 R_i3 R_t21 (St.mk (upd s 11 x1) o) K))) := rfl
@[instance] theorem g_tree_parser_rule_i2_u : UnfAt (drawB C I g_tree_parser_rule.a0 g_tree_parser_rule.i2 g_tree_parser_rule.t21 (St.mk s o) K) g_tree_parser_rule_i2_sh := Unf.of _
theorem g_tree_parser_rule_i1_sh : drawB C I g_tree_parser_rule.a0 (1 :: R_i2) R_t21 (St.mk s o) K =
 ((s 10) = V.undef ∧ (demand (nilcV (s 9)) (fun x1 => quietV o (x1 :: [(s 9)]) ∧
drawB C I g_tree_parser_rule.a0 R_i2 R_t21 (St.mk (upd s 10 x1) o) K))) := rfl
@[instance] theorem g_tree_parser_rule_i1_u : UnfAt (drawB C I g_tree_parser_rule.a0 g_tree_parser_rule.i1 g_tree_parser_rule.t21 (St.mk s o) K) g_tree_parser_rule_i1_sh := Unf.of _
theorem g_tree_parser_rule_c0_sh : wpB C I (g_tree_parser_rule.c0) (St.mk s o) Q =
 (condK (s 26)
 (callK C I (St.mk (upd s 27 (s 0)) o) (some 28) 218 [(s 0), (V.d (.int .i64 9))] (fun r1 or1 =>
Q .ret (St.mk (look []) or1)))
 (Q .normal (St.mk s o))) := rfl
@[instance] theorem g_tree_parser_rule_c0_u : UnfAt (wpB C I g_tree_parser_rule.c0 (St.mk s o) Q) g_tree_parser_rule_c0_sh := Unf.of _
theorem g_tree_parser_rule_o23_sh : opsB C I (g_tree_parser_rule.o23) (St.mk s o) K =
 (demand (pickV (s 44) (V.d (.bool true)) (s 48)) (fun x1 =>
K (St.mk (upd s 49 x1) o))) := rfl
@[instance] theorem g_tree_parser_rule_o23_u : UnfAt (opsB C I g_tree_parser_rule.o23 (St.mk s o) K) g_tree_parser_rule_o23_sh := Unf.of _
theorem g_tree_parser_rule_o22_sh : opsB C I (g_tree_parser_rule.o22F R_o23) (St.mk s o) K =
 (guardK (s 44) false
 (demand (faddrV 1 (s 5)) (fun x1 =>
demand (loadV o none x1) (fun x2 =>
callK C I (St.mk (upd (upd (upd (upd (upd s 44 (V.d (D.bool false))) 45 x1) 44 (V.d (D.bool false))) 46 x2) 44 (V.d (D.bool false))) o) (some 47) 158 [x2] (fun r3 or3 =>
demand (unV UnOp.not r3) (fun x4 =>
opsB C I R_o23 (St.mk (look [(0, s 0), (3, s 3), (5, s 5), (44, (V.d (D.bool false))), (48, x4)]) or3) K)))))
 (opsB C I R_o23 (St.mk (look [(0, s 0), (3, s 3), (5, s 5), (44, (V.d (D.bool true))), (48, (V.tup []))]) o) K)
 (opsB C I R_o23 (St.mk (look [(0, s 0), (3, s 3), (5, s 5), (44, (V.tup [])), (48, (V.tup []))]) o) K)) := rfl
@[instance] theorem g_tree_parser_rule_o22_u : UnfAt (opsB C I g_tree_parser_rule.o22 (St.mk s o) K) g_tree_parser_rule_o22_sh := Unf.of _
theorem g_tree_parser_rule_c1_sh : wpB C I (g_tree_parser_rule.c1) (St.mk s o) Q =
 (condK (s 49)
 (callK C I (St.mk (upd s 50 (s 0)) o) (some 51) 218 [(s 0), (V.d (.int .i64 2))] (fun r1 or1 =>
Q .ret (St.mk (look []) or1)))
 (Q .normal (St.mk s o))) := rfl
@[instance] theorem g_tree_parser_rule_c1_u : UnfAt (wpB C I g_tree_parser_rule.c1 (St.mk s o) Q) g_tree_parser_rule_c1_sh := Unf.of _
theorem g_tree_parser_rule_t32_sh : treeB C I g_tree_parser_rule.a24 (.one 16 .done) (St.mk s o) K =
 ((([] : List Nat) = [] ∧ (storeK (s 80) (cellsV (s 77)) 1 o (fun m1 ob2 =>
K (St.mk s (upd o m1 (some ob2))))))) := rfl
@[instance] theorem g_tree_parser_rule_t32_u : UnfAt (treeB C I g_tree_parser_rule.a24 g_tree_parser_rule.t32 (St.mk s o) K) g_tree_parser_rule_t32_sh := Unf.of _
theorem g_tree_parser_rule_t33_sh : treeB C I g_tree_parser_rule.a24 (.one 15 R_t32) (St.mk s o) K =
 ((([] : List Nat) = [] ∧ (demand (faddrV 0 (s 79)) (fun x1 =>
treeB C I g_tree_parser_rule.a24 R_t32 (St.mk (upd s 80 x1) o) K)))) := rfl
@[instance] theorem g_tree_parser_rule_t33_u : UnfAt (treeB C I g_tree_parser_rule.a24 g_tree_parser_rule.t33 (St.mk s o) K) g_tree_parser_rule_t33_sh := Unf.of _
theorem g_tree_parser_rule_t34_sh : treeB C I g_tree_parser_rule.a24 (.one 14 R_t33) (St.mk s o) K =
 ((([] : List Nat) = [] ∧ (demand (faddrV 3 (s 78)) (fun x1 =>
treeB C I g_tree_parser_rule.a24 R_t33 (St.mk (upd s 79 x1) o) K)))) := rfl
@[instance] theorem g_tree_parser_rule_t34_u : UnfAt (treeB C I g_tree_parser_rule.a24 g_tree_parser_rule.t34 (St.mk s o) K) g_tree_parser_rule_t34_sh := Unf.of _
theorem g_tree_parser_rule_t35_sh : treeB C I g_tree_parser_rule.a24 (.one 13 R_t34) (St.mk s o) K =
 ((([] : List Nat) = [] ∧ (demand (nilcV (s 65)) (fun x1 =>
treeB C I g_tree_parser_rule.a24 R_t34 (St.mk (upd s 78 x1) o) K)))) := rfl
@[instance] theorem g_tree_parser_rule_t35_u : UnfAt (treeB C I g_tree_parser_rule.a24 g_tree_parser_rule.t35 (St.mk s o) K) g_tree_parser_rule_t35_sh := Unf.of _
theorem g_tree_parser_rule_t36_sh : treeB C I g_tree_parser_rule.a24 (.one 12 R_t35) (St.mk s o) K =
 ((([] : List Nat) = [] ∧ (lstK (readD o (s 76)) (fun ys1 => (∀ e ∈ ys1, e.length = 3) ∧ appK (s 70)
 (ys1.length * 40 ≤ 140737488355328 ∧ ys1.length ≤ 140737488355328 ∧ ¬ I 77 ∧ Fresh (St.mk s o) 77 (some 77) ∧
treeB C I g_tree_parser_rule.a24 R_t35 (St.mk (upd s 77 (V.own 77)) (upd o 77 (some (Ob.row 3 ys1)))) K)
 (fun m2 => ¬ I m2 ∧ rowK (o m2) (fun z3 es4 => z3 = 3 ∧ (es4.length + ys1.length) * 40 ≤ 140737488355328 ∧ es4.length + ys1.length ≤ 140737488355328 ∧
treeB C I g_tree_parser_rule.a24 R_t35 (St.mk (upd (fun t => scrubV m2 (s t)) 77 (V.own m2)) (upd (fun n => (o n).map (Ob.scrub m2)) m2 (some (Ob.row 3 (es4 ++ ys1))))) K)))))) := rfl
@[instance] theorem g_tree_parser_rule_t36_u : UnfAt (treeB C I g_tree_parser_rule.a24 g_tree_parser_rule.t36 (St.mk s o) K) g_tree_parser_rule_t36_sh := Unf.of _
theorem g_tree_parser_rule_t37_sh : treeB C I g_tree_parser_rule.a24 (.one 11 R_t36) (St.mk s o) K =
 ((([] : List Nat) = [] ∧ (lstK (partsN 3 [(s 75)]) (fun es1 =>
treeB C I g_tree_parser_rule.a24 R_t36 (St.mk (upd s 76 (V.d (D.sl es1))) o) K)))) := rfl
@[instance] theorem g_tree_parser_rule_t37_u : UnfAt (treeB C I g_tree_parser_rule.a24 g_tree_parser_rule.t37 (St.mk s o) K) g_tree_parser_rule_t37_sh := Unf.of _
theorem g_tree_parser_rule_t38_sh : treeB C I g_tree_parser_rule.a24 (.one 10 R_t37) (St.mk s o) K =
 ((([] : List Nat) = [] ∧ (demand ((buildN [V.d (.str []), V.d (.str []), V.d (.int .i64 0)] [(0, 1, (s 71)), (1, 1, (s 73)), (2, 1, (s 74))]).map V.agg) (fun x1 =>
treeB C I g_tree_parser_rule.a24 R_t37 (St.mk (upd s 75 x1) o) K)))) := rfl
@[instance] theorem g_tree_parser_rule_t38_u : UnfAt (treeB C I g_tree_parser_rule.a24 g_tree_parser_rule.t38 (St.mk s o) K) g_tree_parser_rule_t38_sh := Unf.of _
theorem g_tree_parser_rule_t39_sh : treeB C I g_tree_parser_rule.a24 (.one 8 R_t38) (St.mk s o) K =
 ((([] : List Nat) = [] ∧ (demand (loadV o none (s 72)) (fun x1 =>
treeB C I g_tree_parser_rule.a24 R_t38 (St.mk (upd s 73 x1) o) K)))) := rfl
@[instance] theorem g_tree_parser_rule_t39_u : UnfAt (treeB C I g_tree_parser_rule.a24 g_tree_parser_rule.t39 (St.mk s o) K) g_tree_parser_rule_t39_sh := Unf.of _
theorem g_tree_parser_rule_t40_sh : treeB C I g_tree_parser_rule.a24 (.one 5 R_t36) (St.mk s o) K =
 ((([] : List Nat) = [] ∧ (demand (loadV o none (s 69)) (fun x1 =>
treeB C I g_tree_parser_rule.a24 R_t36 (St.mk (upd s 70 x1) o) K)))) := rfl
@[instance] theorem g_tree_parser_rule_t40_u : UnfAt (treeB C I g_tree_parser_rule.a24 g_tree_parser_rule.t40 (St.mk s o) K) g_tree_parser_rule_t40_sh := Unf.of _
theorem g_tree_parser_rule_t41_sh : treeB C I g_tree_parser_rule.a24 (.one 11 R_t40) (St.mk s o) K =
 ((([] : List Nat) = [] ∧ (lstK (partsN 3 [(s 75)]) (fun es1 =>
treeB C I g_tree_parser_rule.a24 R_t40 (St.mk (upd s 76 (V.d (D.sl es1))) o) K)))) := rfl
@[instance] theorem g_tree_parser_rule_t41_u : UnfAt (treeB C I g_tree_parser_rule.a24 g_tree_parser_rule.t41 (St.mk s o) K) g_tree_parser_rule_t41_sh := Unf.of _
theorem g_tree_parser_rule_t42_sh : treeB C I g_tree_parser_rule.a24 (.two 5 R_t37 R_t41) (St.mk s o) K =
 ((([] : List Nat) = [] ∧ (demand (loadV o none (s 69)) (fun x1 =>
treeB C I g_tree_parser_rule.a24 R_t37 (St.mk (upd s 70 x1) o) K))) ∧ treeB C I g_tree_parser_rule.a24 R_t41 (St.mk s o) K) := rfl
@[instance] theorem g_tree_parser_rule_t42_u : UnfAt (treeB C I g_tree_parser_rule.a24 g_tree_parser_rule.t42 (St.mk s o) K) g_tree_parser_rule_t42_sh := Unf.of _
theorem g_tree_parser_rule_t43_sh : treeB C I g_tree_parser_rule.a24 (.one 10 R_t42) (St.mk s o) K =
 ((([] : List Nat) = [] ∧ (demand ((buildN [V.d (.str []), V.d (.str []), V.d (.int .i64 0)] [(0, 1, (s 71)), (1, 1, (s 73)), (2, 1, (s 74))]).map V.agg) (fun x1 =>
treeB C I g_tree_parser_rule.a24 R_t42 (St.mk (upd s 75 x1) o) K)))) := rfl
@[instance] theorem g_tree_parser_rule_t43_u : UnfAt (treeB C I g_tree_parser_rule.a24 g_tree_parser_rule.t43 (St.mk s o) K) g_tree_parser_rule_t43_sh := Unf.of _
theorem g_tree_parser_rule_t44_sh : treeB C I g_tree_parser_rule.a24 (.two 5 R_t38 R_t43) (St.mk s o) K =
 ((([] : List Nat) = [] ∧ (demand (loadV o none (s 69)) (fun x1 =>
treeB C I g_tree_parser_rule.a24 R_t38 (St.mk (upd s 70 x1) o) K))) ∧ treeB C I g_tree_parser_rule.a24 R_t43 (St.mk s o) K) := rfl
@[instance] theorem g_tree_parser_rule_t44_u : UnfAt (treeB C I g_tree_parser_rule.a24 g_tree_parser_rule.t44 (St.mk s o) K) g_tree_parser_rule_t44_sh := Unf.of _
theorem g_tree_parser_rule_t45_sh : treeB C I g_tree_parser_rule.a24 (.one 8 R_t44) (St.mk s o) K =
 ((([] : List Nat) = [] ∧ (demand (loadV o none (s 72)) (fun x1 =>
treeB C I g_tree_parser_rule.a24 R_t44 (St.mk (upd s 73 x1) o) K)))) := rfl
@[instance] theorem g_tree_parser_rule_t45_u : UnfAt (treeB C I g_tree_parser_rule.a24 g_tree_parser_rule.t45 (St.mk s o) K) g_tree_parser_rule_t45_sh := Unf.of _
theorem g_tree_parser_rule_t46_sh : treeB C I g_tree_parser_rule.a24 (.two 5 R_t39 R_t45) (St.mk s o) K =
 ((([] : List Nat) = [] ∧ (demand (loadV o none (s 69)) (fun x1 =>
treeB C I g_tree_parser_rule.a24 R_t39 (St.mk (upd s 70 x1) o) K))) ∧ treeB C I g_tree_parser_rule.a24 R_t45 (St.mk s o) K) := rfl
@[instance] theorem g_tree_parser_rule_t46_u : UnfAt (treeB C I g_tree_parser_rule.a24 g_tree_parser_rule.t46 (St.mk s o) K) g_tree_parser_rule_t46_sh := Unf.of _
theorem g_tree_parser_rule_i31_sh : drawB C I g_tree_parser_rule.a24 (9 :: []) R_t46 (St.mk s o) K =
 ((s 74) = V.undef ∧ (quietV o ((s 6) :: [(s 6)]) ∧
treeB C I g_tree_parser_rule.a24 R_t46 (St.mk (upd s 74 (s 6)) o) K)) := rfl
@[instance] theorem g_tree_parser_rule_i31_u : UnfAt (drawB C I g_tree_parser_rule.a24 g_tree_parser_rule.i31 g_tree_parser_rule.t46 (St.mk s o) K) g_tree_parser_rule_i31_sh := Unf.of _
theorem g_tree_parser_rule_i30_sh : drawB C I g_tree_parser_rule.a24 (7 :: R_i31) R_t46 (St.mk s o) K =
 ((s 72) = V.undef ∧ (demand (faddrV 1 (s 5)) (fun x1 => quietV o (x1 :: [(s 5)]) ∧
drawB C I g_tree_parser_rule.a24 R_i31 R_t46 (St.mk (upd s 72 x1) o) K))) := rfl
@[instance] theorem g_tree_parser_rule_i30_u : UnfAt (drawB C I g_tree_parser_rule.a24 g_tree_parser_rule.i30 g_tree_parser_rule.t46 (St.mk s o) K) g_tree_parser_rule_i30_sh := Unf.of _
theorem g_tree_parser_rule_i29_sh : drawB C I g_tree_parser_rule.a24 (6 :: R_i30) R_t46 (St.mk s o) K =
 ((s 71) = V.undef ∧ (quietV o ((s 3) :: [(s 3)]) ∧
drawB C I g_tree_parser_rule.a24 R_i30 R_t46 (St.mk (upd s 71 (s 3)) o) K)) := rfl
@[instance] theorem g_tree_parser_rule_i29_u : UnfAt (drawB C I g_tree_parser_rule.a24 g_tree_parser_rule.i29 g_tree_parser_rule.t46 (St.mk s o) K) g_tree_parser_rule_i29_sh := Unf.of _
theorem g_tree_parser_rule_i28_sh : drawB C I g_tree_parser_rule.a24 (4 :: R_i29) R_t46 (St.mk s o) K =
 ((s 69) = V.undef ∧ (demand (faddrV 0 (s 68)) (fun x1 => quietV o (x1 :: [(s 68)]) ∧
drawB C I g_tree_parser_rule.a24 R_i29 R_t46 (St.mk (upd s 69 x1) o) K))) := rfl
@[instance] theorem g_tree_parser_rule_i28_u : UnfAt (drawB C I g_tree_parser_rule.a24 g_tree_parser_rule.i28 g_tree_parser_rule.t46 (St.mk s o) K) g_tree_parser_rule_i28_sh := Unf.of _
theorem g_tree_parser_rule_i27_sh : drawB C I g_tree_parser_rule.a24 (3 :: R_i28) R_t46 (St.mk s o) K =
 ((s 68) = V.undef ∧ (demand (faddrV 3 (s 67)) (fun x1 => quietV o (x1 :: [(s 67)]) ∧
drawB C I g_tree_parser_rule.a24 R_i28 R_t46 (St.mk (upd s 68 x1) o) K))) := rfl
@[instance] theorem g_tree_parser_rule_i27_u : UnfAt (drawB C I g_tree_parser_rule.a24 g_tree_parser_rule.i27 g_tree_parser_rule.t46 (St.mk s o) K) g_tree_parser_rule_i27_sh := Unf.of _
theorem g_tree_parser_rule_i26_sh : drawB C I g_tree_parser_rule.a24 (2 :: R_i27) R_t46 (St.mk s o) K =
 ((s 67) = V.undef ∧ (demand (nilcV (s 66)) (fun x1 => quietV o (x1 :: [(s 66)]) ∧
drawB C I g_tree_parser_rule.a24 R_i27 R_t46 (St.mk (upd s 67 x1) o) K))) := rfl
@[instance] theorem g_tree_parser_rule_i26_u : UnfAt (drawB C I g_tree_parser_rule.a24 g_tree_parser_rule.i26 g_tree_parser_rule.t46 (St.mk s o) K) g_tree_parser_rule_i26_sh := Unf.of _
theorem g_tree_parser_rule_i25_sh : drawB C I g_tree_parser_rule.a24 (1 :: R_i26) R_t46 (St.mk s o) K =
 ((s 66) = V.undef ∧ (quietV o ((s 0) :: [(s 0)]) ∧
drawB C I g_tree_parser_rule.a24 R_i26 R_t46 (St.mk (upd s 66 (s 0)) o) K)) := rfl
@[instance] theorem g_tree_parser_rule_i25_u : UnfAt (drawB C I g_tree_parser_rule.a24 g_tree_parser_rule.i25 g_tree_parser_rule.t46 (St.mk s o) K) g_tree_parser_rule_i25_sh := Unf.of _
theorem g_tree_parser_rule_c2_sh : wpB C I (g_tree_parser_rule.c2F R_i25 R_t46) (St.mk s o) Q =
 (callK C I (St.mk (upd s 59 (s 0)) o) (some 60) 220 [(s 0), (V.d (.str [61]))] (fun r1 or1 =>
callK C I (St.mk (upd (look [(0, s 0), (3, s 3), (5, s 5)]) 61 (s 0)) or1) (some 62) 221 [(s 0), (V.d (.int .i64 1))] (fun r2 or2 =>
callK C I (St.mk (upd (look [(0, s 0), (3, s 3), (5, s 5), (6, r2)]) 63 (s 0)) or2) (some 64) 220 [(s 0), (V.d (.str [59]))] (fun r3 or3 =>
V.undef = V.undef ∧ (quietV or3 ((s 0) :: [(s 0)]) ∧
drawB C I g_tree_parser_rule.a24 R_i25 R_t46 (St.mk (upd (look [(0, s 0), (3, s 3), (5, s 5), (6, r2)]) 65 (s 0)) or3) (fun st => Q .normal (St.trim st [] none))))))) := rfl
@[instance] theorem g_tree_parser_rule_c2_u : UnfAt (wpB C I g_tree_parser_rule.c2 (St.mk s o) Q) g_tree_parser_rule_c2_sh := Unf.of _
theorem g_tree_parser_rule_c3_sh : wpB C I (g_tree_parser_rule.c3F R_c2) (St.mk s o) Q =
 (demand (nilcV (s 0)) (fun x1 =>
demand (faddrV 2 x1) (fun x2 =>
demand (loadV o none x2) (fun x3 =>
demand (binV BinOp.add x3 (V.d (.int .i64 1))) (fun x4 =>
demand (nilcV (s 0)) (fun x5 =>
demand (faddrV 2 x5) (fun x6 =>
storeK x6 (cellsV x4) 1 o (fun m7 ob8 =>
wpB C I R_c2 (St.mk (look [(0, s 0), (3, s 3), (5, s 5)]) (upd o m7 (some ob8))) Q)))))))) := rfl
@[instance] theorem g_tree_parser_rule_c3_u : UnfAt (wpB C I g_tree_parser_rule.c3 (St.mk s o) Q) g_tree_parser_rule_c3_sh := Unf.of _
theorem g_tree_parser_rule_c4_sh : wpB C I (g_tree_parser_rule.c4F R_o22 R_c1 R_c3) (St.mk s o) Q =
 (demand (faddrV 0 (s 5)) (fun x1 =>
demand (loadV o none x1) (fun x2 =>
demand (binV BinOp.neq x2 (V.d (.int .i64 1))) (fun x3 =>
opsB C I R_o22 (St.mk (look [(0, s 0), (3, s 3), (5, s 5), (44, x3)]) o) (fun st => (seqK (fun st => wpB C I R_c1 st (seqK (fun st => wpB C I R_c3 st Q) Q)) (seqK (fun st => wpB C I R_c3 st Q) Q)) .normal (St.trim st [0, 3, 5, 49] none)))))) := rfl
@[instance] theorem g_tree_parser_rule_c4_u : UnfAt (wpB C I g_tree_parser_rule.c4 (St.mk s o) Q) g_tree_parser_rule_c4_sh := Unf.of _
theorem g_tree_parser_rule_c5_sh : wpB C I (g_tree_parser_rule.c5F R_c4) (St.mk s o) Q =
 (callK C I (St.mk (upd s 39 (s 0)) o) (some 40) 217 [(s 0)] (fun r1 or1 =>
(¬ I 5 ∧ Fresh (St.mk (upd (upd s 39 (s 0)) 40 r1) or1) 5 (some 5) ∧ V.refsL 5 [V.d (.int .i64 0), V.d (.str []), V.d (.int .i64 0)] = false ∧
storeK (V.ptr 5 0) (cellsV r1) 3 (upd or1 5 (some (Ob.box [V.d (.int .i64 0), V.d (.str []), V.d (.int .i64 0)]))) (fun m2 ob3 =>
wpB C I R_c4 (St.mk (look [(0, s 0), (3, s 3), (5, (V.ptr 5 0))]) (upd (upd or1 5 (some (Ob.box [V.d (.int .i64 0), V.d (.str []), V.d (.int .i64 0)]))) m2 (some ob3))) Q)))) := rfl
@[instance] theorem g_tree_parser_rule_c5_u : UnfAt (wpB C I g_tree_parser_rule.c5 (St.mk s o) Q) g_tree_parser_rule_c5_sh := Unf.of _
theorem g_tree_parser_rule_c6_sh : wpB C I (g_tree_parser_rule.c6F R_c5) (St.mk s o) Q =
 (demand (unV UnOp.not (s 4)) (fun x1 =>
condK x1
 (callK C I (St.mk (upd (look [(0, s 0), (3, s 3), (36, x1)]) 37 (s 0)) o) (some 38) 218 [(s 0), (V.d (.int .i64 2))] (fun r2 or2 =>
Q .ret (St.mk (look []) or2)))
 (wpB C I R_c5 (St.mk (look [(0, s 0), (3, s 3), (36, x1)]) o) Q))) := rfl
@[instance] theorem g_tree_parser_rule_c6_u : UnfAt (wpB C I g_tree_parser_rule.c6 (St.mk s o) Q) g_tree_parser_rule_c6_sh := Unf.of _
theorem g_tree_parser_rule_c7_sh : wpB C I (g_tree_parser_rule.c7F R_c6) (St.mk s o) Q =
 (callK C I (St.mk (upd s 30 (s 0)) o) (some 31) 157 [] (fun r1 or1 =>
callK C I (St.mk (upd (upd s 30 (s 0)) 31 r1) or1) (some 32) 219 [(s 0), r1] (fun r2 or2 =>
demand (extV r2 0) (fun x3 =>
demand (extV r2 1) (fun x4 =>
wpB C I R_c6 (St.mk (look [(0, s 0), (3, x3), (4, x4)]) or2) Q))))) := rfl
@[instance] theorem g_tree_parser_rule_c7_u : UnfAt (wpB C I g_tree_parser_rule.c7 (St.mk s o) Q) g_tree_parser_rule_c7_sh := Unf.of _
theorem g_tree_parser_rule_c8_sh : wpB C I (g_tree_parser_rule.c8F R_i1 R_t21 R_c0 R_c7) (St.mk s o) Q =
 ((s 9) = V.undef ∧ (quietV o ((s 0) :: [(s 0)]) ∧
drawB C I g_tree_parser_rule.a0 R_i1 R_t21 (St.mk (upd s 9 (s 0)) o) (fun st => (seqK (fun st => wpB C I R_c0 st (seqK (fun st => wpB C I R_c7 st Q) Q)) (seqK (fun st => wpB C I R_c7 st Q) Q)) .normal (St.trim st [0, 26] none)))) := rfl
@[instance] theorem g_tree_parser_rule_c8_u : UnfAt (wpB C I g_tree_parser_rule.c8 (St.mk s o) Q) g_tree_parser_rule_c8_sh := Unf.of _
theorem g_tree_parser_rule_code_sh : wpB C I (g_tree_parser_rule.codeF R_c8) (St.mk s o) Q =
 (callK C I (St.mk (upd s 7 (s 0)) o) (some 8) 217 [(s 0)] (fun r1 or1 =>
(¬ I 2 ∧ Fresh (St.mk (upd (upd s 7 (s 0)) 8 r1) or1) 2 (some 2) ∧ V.refsL 2 [V.d (.int .i64 0), V.d (.str []), V.d (.int .i64 0)] = false ∧
storeK (V.ptr 2 0) (cellsV r1) 3 (upd or1 2 (some (Ob.box [V.d (.int .i64 0), V.d (.str []), V.d (.int .i64 0)]))) (fun m2 ob3 =>
wpB C I R_c8 (St.mk (look [(0, s 0), (2, (V.ptr 2 0))]) (upd (upd or1 2 (some (Ob.box [V.d (.int .i64 0), V.d (.str []), V.d (.int .i64 0)]))) m2 (some ob3))) Q)))) := rfl
@[instance] theorem g_tree_parser_rule_code_u : UnfAt (wpB C I g_tree_parser_rule.code (St.mk s o) Q) g_tree_parser_rule_code_sh := Unf.of _
theorem g_check_parts_c0_sh : wpB C I (g_check_parts.c0) (St.mk s o) Q =
 (condK (s 5)
 (Q .ret (St.mk (look [(2, (V.cap0))]) (looko ([].map fun n => (n, o n)))))
 (demand (binV BinOp.eql (s 4) (V.d (.str [110, 101, 103]))) (fun x1 =>
condK x1
 (demand (faddrV 3 (s 1)) (fun x2 =>
demand (loadV (looko ([1].map fun n => (n, o n))) none x2) (fun x3 =>
lstK (partsN 1 [x3]) (fun es4 =>
Q .ret (St.mk (look [(2, (V.d (D.sl es4)))]) (looko ([].map fun n => (n, o n))))))))
 (demand (binV BinOp.eql (s 4) (V.d (.str [105, 102]))) (fun x5 =>
condK x5
 (demand (faddrV 3 (s 1)) (fun x6 =>
demand (loadV (looko ([1].map fun n => (n, o n))) none x6) (fun x7 =>
demand (faddrV 4 (s 1)) (fun x8 =>
demand (loadV (looko ([1].map fun n => (n, o n))) none x8) (fun x9 =>
demand (faddrV 5 (s 1)) (fun x10 =>
demand (loadV (looko ([1].map fun n => (n, o n))) none x10) (fun x11 =>
lstK (partsN 1 [x7, x9, x11]) (fun es12 =>
Q .ret (St.mk (look [(2, (V.d (D.sl es12)))]) (looko ([].map fun n => (n, o n))))))))))))
 (Q .normal (St.mk (look [(1, s 1), (15, x5)]) (looko ([1].map fun n => (n, o n)))))))))) := rfl
@[instance] theorem g_check_parts_c0_u : UnfAt (wpB C I g_check_parts.c0 (St.mk s o) Q) g_check_parts_c0_sh := Unf.of _
theorem g_check_parts_c1_sh : wpB C I (g_check_parts.c1) (St.mk s o) Q =
 (demand (faddrV 3 (s 1)) (fun x1 =>
demand (loadV o none x1) (fun x2 =>
demand (faddrV 4 (s 1)) (fun x3 =>
demand (loadV o none x3) (fun x4 =>
lstK (partsN 1 [x2, x4]) (fun es5 =>
Q .ret (St.mk (look [(2, (V.d (D.sl es5)))]) (looko ([].map fun n => (n, o n)))))))))) := rfl
@[instance] theorem g_check_parts_c1_u : UnfAt (wpB C I g_check_parts.c1 (St.mk s o) Q) g_check_parts_c1_sh := Unf.of _
theorem g_check_parts_code_sh : wpB C I (g_check_parts.codeF R_c0 R_c1) (St.mk s o) Q =
 (lstK (cellsV (s 0)) (fun c1 => c1.length = 6 ∧ ¬ I 1 ∧ Fresh (St.mk s o) 1 (some 1) ∧ V.refsL 1 c1 = false ∧
demand (faddrV 0 (V.ptr 1 0)) (fun x2 =>
demand (loadV (looko ([1].map fun n => (n, (upd o 1 (some (Ob.box c1))) n))) none x2) (fun x3 =>
demand (binV BinOp.eql x3 (V.d (.str [119, 104, 111, 108, 101]))) (fun x4 =>
condK x4
 (wpB C I R_c0 (St.mk (look [(1, (V.ptr 1 0)), (4, x3), (5, x4)]) (looko ([1].map fun n => (n, (upd o 1 (some (Ob.box c1))) n)))) (blockK 0 [1] (some [1]) (seqK (fun st => wpB C I R_c1 st Q) Q)))
 (demand (binV BinOp.eql x3 (V.d (.str [97, 109, 111, 117, 110, 116]))) (fun x5 =>
condK x5
 (wpB C I R_c0 (St.mk (look [(1, (V.ptr 1 0)), (4, x3), (5, x5)]) (looko ([1].map fun n => (n, (upd o 1 (some (Ob.box c1))) n)))) (blockK 0 [1] (some [1]) (seqK (fun st => wpB C I R_c1 st Q) Q)))
 (demand (binV BinOp.eql x3 (V.d (.str [114, 97, 116, 101]))) (fun x6 =>
condK x6
 (wpB C I R_c0 (St.mk (look [(1, (V.ptr 1 0)), (4, x3), (5, x6)]) (looko ([1].map fun n => (n, (upd o 1 (some (Ob.box c1))) n)))) (blockK 0 [1] (some [1]) (seqK (fun st => wpB C I R_c1 st Q) Q)))
 (demand (binV BinOp.eql x3 (V.d (.str [110, 97, 109, 101]))) (fun x7 =>
wpB C I R_c0 (St.mk (look [(1, (V.ptr 1 0)), (4, x3), (5, x7)]) (looko ([1].map fun n => (n, (upd o 1 (some (Ob.box c1))) n)))) (blockK 0 [1] (some [1]) (seqK (fun st => wpB C I R_c1 st Q) Q))))))))))))) := rfl
@[instance] theorem g_check_parts_code_u : UnfAt (wpB C I g_check_parts.code (St.mk s o) Q) g_check_parts_code_sh := Unf.of _
theorem g_slices_IndexFunc_Bind_c0_sh : wpB C I (g_slices_IndexFunc_Bind.c0) (St.mk s o) Q =
 (demand (binV BinOp.add (s 8) (V.d (.int .i64 1))) (fun x1 =>
Q .normal (St.mk (look [(0, s 0), (1, s 1), (7, s 7), (8, x1)]) o))) := rfl
@[instance] theorem g_slices_IndexFunc_Bind_c0_u : UnfAt (wpB C I g_slices_IndexFunc_Bind.c0 (St.mk s o) Q) g_slices_IndexFunc_Bind_c0_sh := Unf.of _
theorem g_slices_IndexFunc_Bind_l0_sh (hL : R_l0 = g_slices_IndexFunc_Bind.l0F R_c0)
 (h : demand (binV BinOp.lss (s 8) (s 7)) (fun x1 =>
condK x1
 (demand (iaddrV o 2 (s 0) (s 8)) (fun x2 =>
demand (loadV o (some 2) x2) (fun x3 =>
fnK (s 1) (fun f5 cs6 => callK C I (St.mk (upd (upd (upd (upd (upd (look [(0, s 0), (1, s 1), (5, s 8), (7, s 7), (8, s 8)]) 11 (s 1)) 12 (s 0)) 13 (s 8)) 14 x2) 15 x3) o) (some 16) f5 ([x3] ++ cs6) (fun r4 or4 =>
condK r4
 (Q .ret (St.mk (look [(4, s 8)]) or4))
 (wpB C I R_c0 (St.mk (look [(0, s 0), (1, s 1), (7, s 7), (8, s 8)]) or4) (seqK (fun s => wpB C I R_l0 s Q) Q)))))))
 (Q (.exit 0) (St.mk (look [(0, s 0), (1, s 1), (7, s 7), (8, s 8), (9, x1)]) o)))) : wpB C I R_l0 (St.mk s o) Q := w_loopC hL h
theorem g_slices_IndexFunc_Bind_c1_sh : wpB C I (g_slices_IndexFunc_Bind.c1) (St.mk s o) Q =
 (Q .ret (St.mk (look [(4, (V.d (.int .i64 (-1))))]) o)) := rfl
@[instance] theorem g_slices_IndexFunc_Bind_c1_u : UnfAt (wpB C I g_slices_IndexFunc_Bind.c1 (St.mk s o) Q) g_slices_IndexFunc_Bind_c1_sh := Unf.of _
theorem g_slices_IndexFunc_Bind_code_sh : wpB C I (g_slices_IndexFunc_Bind.codeF R_l0 R_c1) (St.mk s o) Q =
 (demand (lenV o (s 0)) (fun x1 =>
wpB C I R_l0 (St.mk (look [(0, s 0), (1, s 1), (7, x1), (8, (V.d (.int .i64 0)))]) o) (blockK 0 [] none (seqK (fun st => wpB C I R_c1 st Q) Q)))) := rfl
@[instance] theorem g_slices_IndexFunc_Bind_code_u : UnfAt (wpB C I g_slices_IndexFunc_Bind.code (St.mk s o) Q) g_slices_IndexFunc_Bind_code_sh := Unf.of _
theorem g_check_kind_1_code_sh : wpB C I (g_check_kind_1.code) (St.mk s o) Q =
 (lstK (cellsV (s 0)) (fun c1 => c1.length = 2 ∧ ¬ I 2 ∧ Fresh (St.mk s o) 2 (some 2) ∧ V.refsL 2 c1 = false ∧
demand (faddrV 0 (V.ptr 2 0)) (fun x2 =>
demand (loadV (upd o 2 (some (Ob.box c1))) none x2) (fun x3 =>
demand (faddrV 1 (s 1)) (fun x4 =>
demand (loadV (upd o 2 (some (Ob.box c1))) none x4) (fun x5 =>
demand (binV BinOp.eql x3 x5) (fun x6 =>
Q .ret (St.mk (look [(3, x6)]) (upd o 2 (some (Ob.box c1))))))))))) := rfl
@[instance] theorem g_check_kind_1_code_u : UnfAt (wpB C I g_check_kind_1.code (St.mk s o) Q) g_check_kind_1_code_sh := Unf.of _
theorem g_check_two_o1_sh : opsB C I (g_check_two.o1) (St.mk s o) K =
 (demand (pickV (s 11) (s 13) (V.d (.bool false))) (fun x1 =>
K (St.mk (upd (upd s 14 x1) 7 x1) o))) := rfl
@[instance] theorem g_check_two_o1_u : UnfAt (opsB C I g_check_two.o1 (St.mk s o) K) g_check_two_o1_sh := Unf.of _
theorem g_check_two_o0_sh : opsB C I (g_check_two.o0F R_o1) (St.mk s o) K =
 (guardK (s 11) true
 (demand (binV BinOp.neq (s 1) (V.d (.int .i64 0))) (fun x1 =>
opsB C I R_o1 (St.mk (look [(0, s 0), (1, s 1), (2, s 2), (11, (V.d (D.bool true))), (13, x1)]) (looko ([].map fun n => (n, o n)))) K))
 (opsB C I R_o1 (St.mk (look [(0, s 0), (1, s 1), (2, s 2), (11, (V.d (D.bool false))), (13, (V.tup []))]) (looko ([].map fun n => (n, o n)))) K)
 (opsB C I R_o1 (St.mk (look [(0, s 0), (1, s 1), (2, s 2), (11, (V.tup [])), (13, (V.tup []))]) (looko ([].map fun n => (n, o n)))) K)) := rfl
@[instance] theorem g_check_two_o0_u : UnfAt (opsB C I g_check_two.o0 (St.mk s o) K) g_check_two_o0_sh := Unf.of _
theorem g_check_two_o5_sh : opsB C I (g_check_two.o5) (St.mk s o) K =
 (demand (pickV (s 20) (s 26) (V.d (.bool false))) (fun x1 =>
K (St.mk (upd s 27 x1) o))) := rfl
@[instance] theorem g_check_two_o5_u : UnfAt (opsB C I g_check_two.o5 (St.mk s o) K) g_check_two_o5_sh := Unf.of _
theorem g_check_two_o4_sh : opsB C I (g_check_two.o4F R_o5) (St.mk s o) K =
 (guardK (s 20) true
 (demand (pickV (s 23) (V.d (.bool true)) (s 25)) (fun x1 =>
opsB C I R_o5 (St.mk (look [(1, s 1), (20, (V.d (D.bool true))), (26, x1)]) (looko ([].map fun n => (n, o n)))) K))
 (opsB C I R_o5 (St.mk (look [(1, s 1), (20, (V.d (D.bool false))), (26, (V.tup []))]) (looko ([].map fun n => (n, o n)))) K)
 (opsB C I R_o5 (St.mk (look [(1, s 1), (20, (V.tup [])), (26, (V.tup []))]) (looko ([].map fun n => (n, o n)))) K)) := rfl
@[instance] theorem g_check_two_o4_u : UnfAt (opsB C I g_check_two.o4 (St.mk s o) K) g_check_two_o4_sh := Unf.of _
theorem g_check_two_o3_sh : opsB C I (g_check_two.o3F R_o4) (St.mk s o) K =
 (guardK (s 23) false
 (demand (binV BinOp.eql (s 1) (V.d (.int .i64 3))) (fun x1 =>
opsB C I R_o4 (St.mk (look [(1, s 1), (20, s 20), (23, (V.d (D.bool false))), (25, x1)]) (looko ([].map fun n => (n, o n)))) K))
 (opsB C I R_o4 (St.mk (look [(1, s 1), (20, s 20), (23, (V.d (D.bool true))), (25, (V.tup []))]) (looko ([].map fun n => (n, o n)))) K)
 (opsB C I R_o4 (St.mk (look [(1, s 1), (20, s 20), (23, (V.tup [])), (25, (V.tup []))]) (looko ([].map fun n => (n, o n)))) K)) := rfl
@[instance] theorem g_check_two_o3_u : UnfAt (opsB C I g_check_two.o3 (St.mk s o) K) g_check_two_o3_sh := Unf.of _
theorem g_check_two_o2_sh : opsB C I (g_check_two.o2F R_o3) (St.mk s o) K =
 (guardK (s 20) true
 (demand (binV BinOp.eql (s 1) (V.d (.int .i64 1))) (fun x1 =>
opsB C I R_o3 (St.mk (look [(1, s 1), (20, (V.d (D.bool true))), (23, x1)]) (looko ([].map fun n => (n, o n)))) K))
 (opsB C I R_o3 (St.mk (look [(1, s 1), (20, (V.d (D.bool false))), (23, (V.tup []))]) (looko ([].map fun n => (n, o n)))) K)
 (opsB C I R_o3 (St.mk (look [(1, s 1), (20, (V.tup [])), (23, (V.tup []))]) (looko ([].map fun n => (n, o n)))) K)) := rfl
@[instance] theorem g_check_two_o2_u : UnfAt (opsB C I g_check_two.o2 (St.mk s o) K) g_check_two_o2_sh := Unf.of _
theorem g_check_two_c0_sh : wpB C I (g_check_two.c0) (St.mk s o) Q =
 (condK (s 27)
 (Q .ret (St.mk (look [(6, s 1)]) (looko ([].map fun n => (n, o n)))))
 (Q .normal (St.mk s o))) := rfl
@[instance] theorem g_check_two_c0_u : UnfAt (wpB C I g_check_two.c0 (St.mk s o) Q) g_check_two_c0_sh := Unf.of _
theorem g_check_two_o7_sh : opsB C I (g_check_two.o7) (St.mk s o) K =
 (demand (pickV (s 38) (s 40) (V.d (.bool false))) (fun x1 =>
K (St.mk (upd s 41 x1) o))) := rfl
@[instance] theorem g_check_two_o7_u : UnfAt (opsB C I g_check_two.o7 (St.mk s o) K) g_check_two_o7_sh := Unf.of _
theorem g_check_two_o6_sh : opsB C I (g_check_two.o6F R_o7) (St.mk s o) K =
 (guardK (s 38) true
 (demand (binV BinOp.neq (s 1) (V.d (.int .i64 4))) (fun x1 =>
opsB C I R_o7 (St.mk (look [(1, s 1), (38, (V.d (D.bool true))), (40, x1)]) (looko ([].map fun n => (n, o n)))) K))
 (opsB C I R_o7 (St.mk (look [(1, s 1), (38, (V.d (D.bool false))), (40, (V.tup []))]) (looko ([].map fun n => (n, o n)))) K)
 (opsB C I R_o7 (St.mk (look [(1, s 1), (38, (V.tup [])), (40, (V.tup []))]) (looko ([].map fun n => (n, o n)))) K)) := rfl
@[instance] theorem g_check_two_o6_u : UnfAt (opsB C I g_check_two.o6 (St.mk s o) K) g_check_two_o6_sh := Unf.of _
theorem g_check_two_c1_sh : wpB C I (g_check_two.c1) (St.mk s o) Q =
 (condK (s 41)
 (Q .ret (St.mk (look [(6, s 1)]) (looko ([].map fun n => (n, o n)))))
 (Q .normal (St.mk s o))) := rfl
@[instance] theorem g_check_two_c1_u : UnfAt (wpB C I g_check_two.c1 (St.mk s o) Q) g_check_two_c1_sh := Unf.of _
theorem g_check_two_o9_sh : opsB C I (g_check_two.o9) (St.mk s o) K =
 (demand (pickV (s 53) (s 55) (V.d (.bool false))) (fun x1 =>
K (St.mk (upd s 56 x1) o))) := rfl
@[instance] theorem g_check_two_o9_u : UnfAt (opsB C I g_check_two.o9 (St.mk s o) K) g_check_two_o9_sh := Unf.of _
theorem g_check_two_o8_sh : opsB C I (g_check_two.o8F R_o9) (St.mk s o) K =
 (guardK (s 53) true
 (demand (binV BinOp.neq (s 1) (V.d (.int .i64 4))) (fun x1 =>
opsB C I R_o9 (St.mk (look [(53, (V.d (D.bool true))), (55, x1)]) (looko ([].map fun n => (n, o n)))) K))
 (opsB C I R_o9 (St.mk (look [(53, (V.d (D.bool false))), (55, (V.tup []))]) (looko ([].map fun n => (n, o n)))) K)
 (opsB C I R_o9 (St.mk (look [(53, (V.tup [])), (55, (V.tup []))]) (looko ([].map fun n => (n, o n)))) K)) := rfl
@[instance] theorem g_check_two_o8_u : UnfAt (opsB C I g_check_two.o8 (St.mk s o) K) g_check_two_o8_sh := Unf.of _
theorem g_check_two_c2_sh : wpB C I (g_check_two.c2) (St.mk s o) Q =
 (condK (s 56)
 (Q .ret (St.mk (look [(6, (V.d (.int .i64 4)))]) (looko ([].map fun n => (n, o n)))))
 (Q .normal (St.mk s o))) := rfl
@[instance] theorem g_check_two_c2_u : UnfAt (wpB C I g_check_two.c2 (St.mk s o) Q) g_check_two_c2_sh := Unf.of _
theorem g_check_two_c3_sh : wpB C I (g_check_two.c3F R_o8 R_c2) (St.mk s o) Q =
 (condK (s 47)
 (opsB C I R_o8 (St.mk (look [(1, s 1), (53, s 7)]) (looko ([].map fun n => (n, o n)))) (fun st => (seqK (fun st => wpB C I R_c2 st Q) Q) .normal (St.trim st [56] (some []))))
 (Q .normal (St.mk s o))) := rfl
@[instance] theorem g_check_two_c3_u : UnfAt (wpB C I g_check_two.c3 (St.mk s o) Q) g_check_two_c3_sh := Unf.of _
theorem g_check_two_c4_sh : wpB C I (g_check_two.c4F R_c3) (St.mk s o) Q =
 (condK (s 43)
 (condK (s 7)
 (Q .ret (St.mk (look [(6, (V.d (.int .i64 4)))]) (looko ([].map fun n => (n, o n)))))
 (Q .normal (St.mk (look [(46, s 7)]) (looko ([].map fun n => (n, o n))))))
 (demand (binV BinOp.eql (s 15) (V.d (.str [60]))) (fun x1 =>
condK x1
 (wpB C I R_c3 (St.mk (look [(1, s 1), (7, s 7), (15, s 15), (47, x1)]) (looko ([].map fun n => (n, o n)))) Q)
 (demand (binV BinOp.eql (s 15) (V.d (.str [60, 61]))) (fun x2 =>
condK x2
 (wpB C I R_c3 (St.mk (look [(1, s 1), (7, s 7), (15, s 15), (47, x2)]) (looko ([].map fun n => (n, o n)))) Q)
 (demand (binV BinOp.eql (s 15) (V.d (.str [62]))) (fun x3 =>
condK x3
 (wpB C I R_c3 (St.mk (look [(1, s 1), (7, s 7), (15, s 15), (47, x3)]) (looko ([].map fun n => (n, o n)))) Q)
 (demand (binV BinOp.eql (s 15) (V.d (.str [62, 61]))) (fun x4 =>
wpB C I R_c3 (St.mk (look [(1, s 1), (7, s 7), (47, x4)]) (looko ([].map fun n => (n, o n)))) Q))))))))) := rfl
@[instance] theorem g_check_two_c4_u : UnfAt (wpB C I g_check_two.c4 (St.mk s o) Q) g_check_two_c4_sh := Unf.of _
theorem g_check_two_c5_sh : wpB C I (g_check_two.c5F R_o6 R_c1 R_c4) (St.mk s o) Q =
 (condK (s 34)
 (opsB C I R_o6 (St.mk (look [(1, s 1), (38, s 7)]) (looko ([].map fun n => (n, o n)))) (fun st => (seqK (fun st => wpB C I R_c1 st Q) Q) .normal (St.trim st [1, 41] (some []))))
 (demand (binV BinOp.eql (s 15) (V.d (.str [61]))) (fun x1 =>
condK x1
 (wpB C I R_c4 (St.mk (look [(1, s 1), (7, s 7), (15, s 15), (43, x1)]) (looko ([].map fun n => (n, o n)))) Q)
 (demand (binV BinOp.eql (s 15) (V.d (.str [60, 62]))) (fun x2 =>
wpB C I R_c4 (St.mk (look [(1, s 1), (7, s 7), (15, s 15), (43, x2)]) (looko ([].map fun n => (n, o n)))) Q))))) := rfl
@[instance] theorem g_check_two_c5_u : UnfAt (wpB C I g_check_two.c5 (St.mk s o) Q) g_check_two_c5_sh := Unf.of _
theorem g_check_two_c6_sh : wpB C I (g_check_two.c6F R_o2 R_c0 R_c5) (St.mk s o) Q =
 (condK (s 16)
 (opsB C I R_o2 (St.mk (look [(1, s 1), (20, s 7)]) (looko ([].map fun n => (n, o n)))) (fun st => (seqK (fun st => wpB C I R_c0 st Q) Q) .normal (St.trim st [1, 27] (some []))))
 (demand (binV BinOp.eql (s 15) (V.d (.str [42]))) (fun x1 =>
condK x1
 (callK C I (St.mk (upd (upd (look [(1, s 1), (2, s 2), (7, s 7), (15, s 15), (29, x1)]) 31 (s 1)) 32 (s 2)) (looko ([].map fun n => (n, o n)))) (some 33) 213 [(s 1), (s 2)] (fun r2 or2 =>
Q .ret (St.mk (look [(6, r2)]) (looko ([].map fun n => (n, or2 n))))))
 (demand (binV BinOp.eql (s 15) (V.d (.str [109, 105, 110]))) (fun x3 =>
condK x3
 (wpB C I R_c5 (St.mk (look [(1, s 1), (7, s 7), (15, s 15), (34, x3)]) (looko ([].map fun n => (n, o n)))) Q)
 (demand (binV BinOp.eql (s 15) (V.d (.str [109, 97, 120]))) (fun x4 =>
wpB C I R_c5 (St.mk (look [(1, s 1), (7, s 7), (15, s 15), (34, x4)]) (looko ([].map fun n => (n, o n)))) Q))))))) := rfl
@[instance] theorem g_check_two_c6_u : UnfAt (wpB C I g_check_two.c6 (St.mk s o) Q) g_check_two_c6_sh := Unf.of _
theorem g_check_two_c7_sh : wpB C I (g_check_two.c7) (St.mk s o) Q =
 (Q .ret (St.mk (look [(6, (V.d (.int .i64 0)))]) (looko ([].map fun n => (n, o n))))) := rfl
@[instance] theorem g_check_two_c7_u : UnfAt (wpB C I g_check_two.c7 (St.mk s o) Q) g_check_two_c7_sh := Unf.of _
theorem g_check_two_c8_sh : wpB C I (g_check_two.c8F R_c6 R_c7) (St.mk s o) Q =
 (demand (binV BinOp.eql (s 0) (V.d (.str [43]))) (fun x1 =>
condK x1
 (wpB C I R_c6 (St.mk (look [(1, s 1), (2, s 2), (7, s 7), (15, s 0), (16, x1)]) (looko ([].map fun n => (n, o n)))) (blockK 0 [] (some []) (seqK (fun st => wpB C I R_c7 st Q) Q)))
 (demand (binV BinOp.eql (s 0) (V.d (.str [45]))) (fun x2 =>
wpB C I R_c6 (St.mk (look [(1, s 1), (2, s 2), (7, s 7), (15, s 0), (16, x2)]) (looko ([].map fun n => (n, o n)))) (blockK 0 [] (some []) (seqK (fun st => wpB C I R_c7 st Q) Q)))))) := rfl
@[instance] theorem g_check_two_c8_u : UnfAt (wpB C I g_check_two.c8 (St.mk s o) Q) g_check_two_c8_sh := Unf.of _
theorem g_check_two_code_sh : wpB C I (g_check_two.codeF R_o0 R_c8) (St.mk s o) Q =
 (demand (binV BinOp.eql (s 1) (s 2)) (fun x1 =>
opsB C I R_o0 (St.mk (look [(0, s 0), (1, s 1), (2, s 2), (11, x1)]) (looko ([].map fun n => (n, o n)))) (fun st => (seqK (fun st => wpB C I R_c8 st Q) Q) .normal (St.trim st [0, 1, 2, 7] (some []))))) := rfl
@[instance] theorem g_check_two_code_u : UnfAt (wpB C I g_check_two.code (St.mk s o) Q) g_check_two_code_sh := Unf.of _
theorem g_lex_run_o1_sh : opsB C I (g_lex_run.o1) (St.mk s o) K =
 (demand (pickV (s 13) (s 18) (V.d (.bool false))) (fun x1 =>
K (St.mk (upd s 19 x1) o))) := rfl
@[instance] theorem g_lex_run_o1_u : UnfAt (opsB C I g_lex_run.o1 (St.mk s o) K) g_lex_run_o1_sh := Unf.of _
theorem g_lex_run_o0_sh : opsB C I (g_lex_run.o0F R_o1) (St.mk s o) K =
 (guardK (s 13) true
 (demand (idxV (s 0) (s 7)) (fun x1 =>
fnK (s 2) (fun f3 cs4 => callK C I (St.mk (upd (upd (upd (upd (upd (upd (upd (upd (upd s 13 (V.d (D.bool true))) 14 (s 2)) 13 (V.d (D.bool true))) 15 (s 0)) 13 (V.d (D.bool true))) 16 (s 7)) 13 (V.d (D.bool true))) 17 x1) 13 (V.d (D.bool true))) o) (some 18) f3 ([x1] ++ cs4) (fun r2 or2 =>
opsB C I R_o1 (St.mk (look [(0, s 0), (1, s 1), (2, s 2), (7, s 7), (13, (V.d (D.bool true))), (18, r2)]) or2) K))))
 (opsB C I R_o1 (St.mk (look [(0, s 0), (1, s 1), (2, s 2), (7, s 7), (13, (V.d (D.bool false))), (18, (V.tup []))]) o) K)
 (opsB C I R_o1 (St.mk (look [(0, s 0), (1, s 1), (2, s 2), (7, s 7), (13, (V.tup [])), (18, (V.tup []))]) o) K)) := rfl
@[instance] theorem g_lex_run_o0_u : UnfAt (opsB C I g_lex_run.o0 (St.mk s o) K) g_lex_run_o0_sh := Unf.of _
theorem g_lex_run_c0_sh : wpB C I (g_lex_run.c0) (St.mk s o) Q =
 (condK (s 19)
 (Q .normal (St.mk s o))
 (Q (.exit 0) (St.mk s o))) := rfl
@[instance] theorem g_lex_run_c0_u : UnfAt (wpB C I g_lex_run.c0 (St.mk s o) Q) g_lex_run_c0_sh := Unf.of _
theorem g_lex_run_c1_sh : wpB C I (g_lex_run.c1) (St.mk s o) Q =
 (demand (binV BinOp.add (s 7) (V.d (.int .i64 1))) (fun x1 =>
Q .normal (St.mk (look [(0, s 0), (1, s 1), (2, s 2), (7, x1)]) o))) := rfl
@[instance] theorem g_lex_run_c1_u : UnfAt (wpB C I g_lex_run.c1 (St.mk s o) Q) g_lex_run_c1_sh := Unf.of _
theorem g_lex_run_l0_sh (hL : R_l0 = g_lex_run.l0F R_o0 R_c0 R_c1)
 (h : demand (lenSV (s 0)) (fun x1 =>
demand (binV BinOp.lss (s 7) x1) (fun x2 =>
opsB C I R_o0 (St.mk (look [(0, s 0), (1, s 1), (2, s 2), (7, s 7), (13, x2)]) o) (fun st => (seqK (fun st => wpB C I R_c0 st (seqK (fun st => wpB C I R_c1 st (seqK (fun s => wpB C I R_l0 s Q) Q)) (seqK (fun s => wpB C I R_l0 s Q) Q))) (seqK (fun st => wpB C I R_c1 st (seqK (fun s => wpB C I R_l0 s Q) Q)) (seqK (fun s => wpB C I R_l0 s Q) Q))) .normal (St.trim st [0, 1, 2, 7, 19] none))))) : wpB C I R_l0 (St.mk s o) Q := w_loopC hL h
theorem g_lex_run_c2_sh : wpB C I (g_lex_run.c2) (St.mk s o) Q =
 (demand (binV BinOp.sub (s 7) (s 1)) (fun x1 =>
Q .ret (St.mk (look [(6, x1)]) o))) := rfl
@[instance] theorem g_lex_run_c2_u : UnfAt (wpB C I g_lex_run.c2 (St.mk s o) Q) g_lex_run_c2_sh := Unf.of _
theorem g_lex_run_code_sh : wpB C I (g_lex_run.codeF R_l0 R_c2) (St.mk s o) Q =
 (wpB C I R_l0 (St.mk (look [(0, s 0), (1, s 1), (2, s 2), (7, s 1)]) o) (blockK 0 [1, 7] none (seqK (fun st => wpB C I R_c2 st Q) Q))) := rfl
@[instance] theorem g_lex_run_code_u : UnfAt (wpB C I g_lex_run.code (St.mk s o) Q) g_lex_run_code_sh := Unf.of _
theorem g_lex_All_1_code_sh : wpB C I (g_lex_All_1.code) (St.mk s o) Q =
 (demand (binV BinOp.neq (s 0) (V.d (.int .u8 10))) (fun x1 =>
Q .ret (St.mk (look [(2, x1)]) (looko ([].map fun n => (n, o n)))))) := rfl
@[instance] theorem g_lex_All_1_code_u : UnfAt (wpB C I g_lex_All_1.code (St.mk s o) Q) g_lex_All_1_code_sh := Unf.of _
theorem g_lex_one_c0_sh : wpB C I (g_lex_one.c0) (St.mk s o) Q =
 (Q .ret (St.mk (look [(4, (V.d (.int .i64 1))), (5, s 7)]) (looko ([].map fun n => (n, o n))))) := rfl
@[instance] theorem g_lex_one_c0_u : UnfAt (wpB C I g_lex_one.c0 (St.mk s o) Q) g_lex_one_c0_sh := Unf.of _
theorem g_lex_one_c1_sh : wpB C I (g_lex_one.c1F R_c0) (St.mk s o) Q =
 (demand (binV BinOp.gtr (s 7) (V.d (.int .i64 12))) (fun x1 =>
condK x1
 (Q .ret (St.mk (look [(4, (V.d (.int .i64 0))), (5, (V.d (.int .i64 0)))]) (looko ([].map fun n => (n, o n)))))
 (wpB C I R_c0 (St.mk (look [(7, s 7), (20, x1)]) (looko ([].map fun n => (n, o n)))) Q))) := rfl
@[instance] theorem g_lex_one_c1_u : UnfAt (wpB C I g_lex_one.c1 (St.mk s o) Q) g_lex_one_c1_sh := Unf.of _
theorem g_lex_one_c2_sh : wpB C I (g_lex_one.c2) (St.mk s o) Q =
 (demand (binV BinOp.add (s 1) (s 8)) (fun x1 =>
demand (slcSV (s 0) (some (s 1)) (some x1)) (fun x2 =>
callK C I (St.mk (upd (upd (upd (upd (upd (upd s 28 (s 0)) 29 (s 1)) 30 (s 1)) 31 (s 8)) 32 x1) 33 x2) o) (some 34) 109 [x2] (fun r3 or3 =>
Q .ret (St.mk (look [(4, r3), (5, s 8)]) (looko ([].map fun n => (n, or3 n)))))))) := rfl
@[instance] theorem g_lex_one_c2_u : UnfAt (wpB C I g_lex_one.c2 (St.mk s o) Q) g_lex_one_c2_sh := Unf.of _
theorem g_lex_one_c3_sh : wpB C I (g_lex_one.c3F R_c1 R_c2) (St.mk s o) Q =
 (callK C I (St.mk (upd s 14 (s 6)) o) (some 15) 105 [(s 6)] (fun r1 or1 =>
condK r1
 (callK C I (St.mk (upd (upd (look [(0, s 0), (1, s 1), (6, s 6), (13, r1)]) 16 (s 0)) 17 (s 1)) (looko ([].map fun n => (n, or1 n)))) (some 18) 102 [(s 0), (s 1), (V.fn 106 [])] (fun r2 or2 =>
wpB C I R_c1 (St.mk (look [(7, r2)]) (looko ([].map fun n => (n, or2 n)))) (blockK 0 [0, 1] (some []) Q)))
 (callK C I (St.mk (upd (look [(0, s 0), (1, s 1), (6, s 6), (13, r1)]) 23 (s 6)) (looko ([].map fun n => (n, or1 n)))) (some 24) 107 [(s 6)] (fun r3 or3 =>
condK r3
 (callK C I (St.mk (upd (upd (look [(0, s 0), (1, s 1), (22, r3)]) 25 (s 0)) 26 (s 1)) (looko ([].map fun n => (n, or3 n)))) (some 27) 102 [(s 0), (s 1), (V.fn 108 [])] (fun r4 or4 =>
wpB C I R_c2 (St.mk (look [(0, s 0), (1, s 1), (8, r4)]) (looko ([].map fun n => (n, or4 n)))) (blockK 0 [0, 1] (some []) Q)))
 (Q .normal (St.mk (look [(0, s 0), (1, s 1)]) (looko ([].map fun n => (n, or3 n))))))))) := rfl
@[instance] theorem g_lex_one_c3_u : UnfAt (wpB C I g_lex_one.c3 (St.mk s o) Q) g_lex_one_c3_sh := Unf.of _
theorem g_lex_one_c4_sh : wpB C I (g_lex_one.c4) (St.mk s o) Q =
 (Q .ret (St.mk (look [(4, (V.d (.int .i64 5))), (5, s 9)]) (looko ([].map fun n => (n, o n))))) := rfl
@[instance] theorem g_lex_one_c4_u : UnfAt (wpB C I g_lex_one.c4 (St.mk s o) Q) g_lex_one_c4_sh := Unf.of _
theorem g_lex_one_c5_sh : wpB C I (g_lex_one.c5F R_c4) (St.mk s o) Q =
 (demand (binV BinOp.eql (s 9) (V.d (.int .i64 0))) (fun x1 =>
condK x1
 (Q .ret (St.mk (look [(4, (V.d (.int .i64 0))), (5, (V.d (.int .i64 0)))]) (looko ([].map fun n => (n, o n)))))
 (wpB C I R_c4 (St.mk (look [(9, s 9), (41, x1)]) (looko ([].map fun n => (n, o n)))) Q))) := rfl
@[instance] theorem g_lex_one_c5_u : UnfAt (wpB C I g_lex_one.c5 (St.mk s o) Q) g_lex_one_c5_sh := Unf.of _
theorem g_lex_one_c6_sh : wpB C I (g_lex_one.c6F R_c5) (St.mk s o) Q =
 (demand (slcSV (s 0) (some (s 1)) none) (fun x1 =>
callK C I (St.mk (upd (upd (upd s 36 (s 0)) 37 (s 1)) 38 x1) o) (some 39) 110 [x1] (fun r2 or2 =>
wpB C I R_c5 (St.mk (look [(9, r2)]) (looko ([].map fun n => (n, or2 n)))) Q))) := rfl
@[instance] theorem g_lex_one_c6_u : UnfAt (wpB C I g_lex_one.c6 (St.mk s o) Q) g_lex_one_c6_sh := Unf.of _
theorem g_lex_one_code_sh : wpB C I (g_lex_one.codeF R_c3 R_c6) (St.mk s o) Q =
 (demand (idxV (s 0) (s 1)) (fun x1 =>
wpB C I R_c3 (St.mk (look [(0, s 0), (1, s 1), (6, x1)]) (looko ([].map fun n => (n, o n)))) (seqK (fun st => wpB C I R_c6 st Q) Q))) := rfl
@[instance] theorem g_lex_one_code_u : UnfAt (wpB C I g_lex_one.code (St.mk s o) Q) g_lex_one_code_sh := Unf.of _
theorem g_tree_parser_token_c0_sh : wpB C I (g_tree_parser_token.c0) (St.mk s o) Q =
 (demand (nilcV (s 0)) (fun x1 =>
demand (faddrV 1 x1) (fun x2 =>
demand (loadV o none x2) (fun x3 =>
demand ((buildN [V.d (.int .i64 0), V.d (.str []), V.d (.int .i64 0)] [(2, 1, x3)]).map V.agg) (fun x4 =>
storeK (s 2) (cellsV x4) 3 o (fun m5 ob6 =>
Q .ret (St.mk (look [(2, s 2)]) (upd o m5 (some ob6))))))))) := rfl
@[instance] theorem g_tree_parser_token_c0_u : UnfAt (wpB C I g_tree_parser_token.c0 (St.mk s o) Q) g_tree_parser_token_c0_sh := Unf.of _
theorem g_tree_parser_token_code_sh : wpB C I (g_tree_parser_token.codeF R_c0) (St.mk s o) Q =
 ((¬ I 2 ∧ Fresh (St.mk s o) 2 (some 2) ∧ V.refsL 2 [V.d (.int .i64 0), V.d (.str []), V.d (.int .i64 0)] = false ∧
V.undef = V.undef ∧ (quietV (upd o 2 (some (Ob.box [V.d (.int .i64 0), V.d (.str []), V.d (.int .i64 0)]))) ((s 0) :: [(s 0)]) ∧
V.undef = V.undef ∧ (demand (nilcV (s 0)) (fun x2 => quietV (upd o 2 (some (Ob.box [V.d (.int .i64 0), V.d (.str []), V.d (.int .i64 0)]))) (x2 :: [(s 0)]) ∧
V.undef = V.undef ∧ (demand (faddrV 2 x2) (fun x3 => quietV (upd o 2 (some (Ob.box [V.d (.int .i64 0), V.d (.str []), V.d (.int .i64 0)]))) (x3 :: [x2]) ∧
V.undef = V.undef ∧ (demand (loadV (upd o 2 (some (Ob.box [V.d (.int .i64 0), V.d (.str []), V.d (.int .i64 0)]))) none x3) (fun x4 => quietV (upd o 2 (some (Ob.box [V.d (.int .i64 0), V.d (.str []), V.d (.int .i64 0)]))) (x4 :: [x3]) ∧
V.undef = V.undef ∧ (quietV (upd o 2 (some (Ob.box [V.d (.int .i64 0), V.d (.str []), V.d (.int .i64 0)]))) ((s 0) :: [(s 0)]) ∧
V.undef = V.undef ∧ (demand (nilcV (s 0)) (fun x6 => quietV (upd o 2 (some (Ob.box [V.d (.int .i64 0), V.d (.str []), V.d (.int .i64 0)]))) (x6 :: [(s 0)]) ∧
V.undef = V.undef ∧ (demand (faddrV 0 x6) (fun x7 => quietV (upd o 2 (some (Ob.box [V.d (.int .i64 0), V.d (.str []), V.d (.int .i64 0)]))) (x7 :: [x6]) ∧
V.undef = V.undef ∧ (demand (loadV (upd o 2 (some (Ob.box [V.d (.int .i64 0), V.d (.str []), V.d (.int .i64 0)]))) none x7) (fun x8 => quietV (upd o 2 (some (Ob.box [V.d (.int .i64 0), V.d (.str []), V.d (.int .i64 0)]))) (x8 :: [x7]) ∧
V.undef = V.undef ∧ (demand (lenV (upd o 2 (some (Ob.box [V.d (.int .i64 0), V.d (.str []), V.d (.int .i64 0)]))) x8) (fun x9 => quietV (upd o 2 (some (Ob.box [V.d (.int .i64 0), V.d (.str []), V.d (.int .i64 0)]))) (x9 :: [x8]) ∧
V.undef = V.undef ∧ (demand (binV BinOp.lss x4 x9) (fun x10 => quietV (upd o 2 (some (Ob.box [V.d (.int .i64 0), V.d (.str []), V.d (.int .i64 0)]))) (x10 :: [x4, x9]) ∧
condK x10
 (V.undef = V.undef ∧ (quietV (upd o 2 (some (Ob.box [V.d (.int .i64 0), V.d (.str []), V.d (.int .i64 0)]))) ((s 0) :: [(s 0)]) ∧
V.undef = V.undef ∧ (demand (nilcV (s 0)) (fun x12 => quietV (upd o 2 (some (Ob.box [V.d (.int .i64 0), V.d (.str []), V.d (.int .i64 0)]))) (x12 :: [(s 0)]) ∧
V.undef = V.undef ∧ (demand (faddrV 0 x12) (fun x13 => quietV (upd o 2 (some (Ob.box [V.d (.int .i64 0), V.d (.str []), V.d (.int .i64 0)]))) (x13 :: [x12]) ∧
V.undef = V.undef ∧ (demand (loadV (upd o 2 (some (Ob.box [V.d (.int .i64 0), V.d (.str []), V.d (.int .i64 0)]))) none x13) (fun x14 => quietV (upd o 2 (some (Ob.box [V.d (.int .i64 0), V.d (.str []), V.d (.int .i64 0)]))) (x14 :: [x13]) ∧
V.undef = V.undef ∧ (quietV (upd o 2 (some (Ob.box [V.d (.int .i64 0), V.d (.str []), V.d (.int .i64 0)]))) ((s 0) :: [(s 0)]) ∧
V.undef = V.undef ∧ (demand (nilcV (s 0)) (fun x16 => quietV (upd o 2 (some (Ob.box [V.d (.int .i64 0), V.d (.str []), V.d (.int .i64 0)]))) (x16 :: [(s 0)]) ∧
V.undef = V.undef ∧ (demand (faddrV 2 x16) (fun x17 => quietV (upd o 2 (some (Ob.box [V.d (.int .i64 0), V.d (.str []), V.d (.int .i64 0)]))) (x17 :: [x16]) ∧
V.undef = V.undef ∧ (demand (loadV (upd o 2 (some (Ob.box [V.d (.int .i64 0), V.d (.str []), V.d (.int .i64 0)]))) none x17) (fun x18 => quietV (upd o 2 (some (Ob.box [V.d (.int .i64 0), V.d (.str []), V.d (.int .i64 0)]))) (x18 :: [x17]) ∧
V.undef = V.undef ∧ (demand (iaddrV (upd o 2 (some (Ob.box [V.d (.int .i64 0), V.d (.str []), V.d (.int .i64 0)]))) 3 x14 x18) (fun x19 => quietV (upd o 2 (some (Ob.box [V.d (.int .i64 0), V.d (.str []), V.d (.int .i64 0)]))) (x19 :: [x14, x18]) ∧
V.undef = V.undef ∧ (demand (loadV (upd o 2 (some (Ob.box [V.d (.int .i64 0), V.d (.str []), V.d (.int .i64 0)]))) (some 3) x19) (fun x20 => quietV (upd o 2 (some (Ob.box [V.d (.int .i64 0), V.d (.str []), V.d (.int .i64 0)]))) (x20 :: [x19]) ∧
(([] : List Nat) = [] ∧ (storeK (V.ptr 2 0) (cellsV x20) 3 (upd o 2 (some (Ob.box [V.d (.int .i64 0), V.d (.str []), V.d (.int .i64 0)]))) (fun m21 ob22 =>
Q .ret (St.mk (look [(2, (V.ptr 2 0))]) (upd (upd o 2 (some (Ob.box [V.d (.int .i64 0), V.d (.str []), V.d (.int .i64 0)]))) m21 (some ob22)))))))))))))))))))))))))
 (wpB C I R_c0 (St.mk (look [(0, s 0), (2, (V.ptr 2 0)), (12, x10)]) (upd o 2 (some (Ob.box [V.d (.int .i64 0), V.d (.str []), V.d (.int .i64 0)])))) Q))))))))))))))))))))) := rfl
@[instance] theorem g_tree_parser_token_code_u : UnfAt (wpB C I g_tree_parser_token.code (St.mk s o) Q) g_tree_parser_token_code_sh := Unf.of _
theorem g_slices_Contains_string_code_sh : wpB C I (g_slices_Contains_string.code) (St.mk s o) Q =
 (callK C I (St.mk (upd (upd (look [(0, s 0), (1, s 1)]) 5 (s 0)) 6 (s 1)) (looko ([].map fun n => (n, o n)))) (some 7) 156 [(s 0), (s 1)] (fun r1 or1 =>
demand (binV BinOp.geq r1 (V.d (.int .i64 0))) (fun x2 =>
Q .ret (St.mk (look [(4, x2)]) (looko ([].map fun n => (n, or1 n))))))) := rfl
@[instance] theorem g_slices_Contains_string_code_u : UnfAt (wpB C I g_slices_Contains_string.code (St.mk s o) Q) g_slices_Contains_string_code_sh := Unf.of _
theorem g_tree_kinds_code_sh : wpB C I (g_tree_kinds.code) (St.mk s o) Q =
 (lstK (partsN 1 [(V.d (.str [101, 97, 114, 110])), (V.d (.str [112, 114, 101, 116, 97, 120])), (V.d (.str [112, 111, 115, 116])), (V.d (.str [108, 101, 116]))]) (fun es1 => ¬ I 1 ∧ Fresh (St.mk (look []) (looko ([].map fun n => (n, o n)))) 1 (some 1) ∧
Q .ret (St.mk (look [(0, (V.own 1))]) (looko ([1].map fun n => (n, (upd (looko ([].map fun n => (n, o n))) 1 (some (Ob.row 1 es1))) n)))))) := rfl
@[instance] theorem g_tree_kinds_code_u : UnfAt (wpB C I g_tree_kinds.code (St.mk s o) Q) g_tree_kinds_code_sh := Unf.of _
theorem g_tree_parser_fail_code_sh : wpB C I (g_tree_parser_fail.code) (St.mk s o) Q =
 (demand (nilcV (s 0)) (fun x1 =>
demand (faddrV 5 x1) (fun x2 =>
demand (loadV o none x2) (fun x3 =>
demand (binV BinOp.eql x3 (V.d (.int .i64 0))) (fun x4 =>
condK x4
 (callK C I (St.mk (upd (upd (upd (upd (look [(0, s 0), (1, s 1), (8, x4)]) 9 (s 0)) 10 (s 0)) 11 (s 1)) 12 (s 0)) o) (some 13) 217 [(s 0)] (fun r5 or5 =>
demand (fldV 2 none r5) (fun x6 =>
demand (nilcV (s 0)) (fun x7 =>
demand (faddrV 5 x7) (fun x8 =>
storeK x8 (cellsV (s 1)) 1 or5 (fun m9 ob10 =>
demand (nilcV (s 0)) (fun x11 =>
demand (faddrV 6 x11) (fun x12 =>
storeK x12 (cellsV x6) 1 (upd or5 m9 (some ob10)) (fun m13 ob14 =>
Q .normal (St.mk (look []) (upd (upd or5 m9 (some ob10)) m13 (some ob14))))))))))))
 (Q .normal (St.mk (look [(0, s 0), (1, s 1), (8, x4)]) o))))))) := rfl
@[instance] theorem g_tree_parser_fail_code_u : UnfAt (wpB C I g_tree_parser_fail.code (St.mk s o) Q) g_tree_parser_fail_code_sh := Unf.of _
theorem g_tree_parser_take_o5_sh : opsB C I (g_tree_parser_take.o5) (St.mk s o) K =
 (demand (pickV (s 24) (V.d (.bool true)) (s 29)) (fun x1 =>
K (St.mk (upd s 30 x1) o))) := rfl
@[instance] theorem g_tree_parser_take_o5_u : UnfAt (opsB C I g_tree_parser_take.o5 (St.mk s o) K) g_tree_parser_take_o5_sh := Unf.of _
theorem g_tree_parser_take_o4_sh : opsB C I (g_tree_parser_take.o4F R_o5) (St.mk s o) K =
 (guardK (s 24) false
 (demand (faddrV 1 (s 6)) (fun x1 =>
demand (loadV o none x1) (fun x2 =>
callK C I (St.mk (upd (upd (upd (upd (upd (upd (upd s 24 (V.d (D.bool false))) 25 (s 1)) 24 (V.d (D.bool false))) 26 x1) 24 (V.d (D.bool false))) 27 x2) 24 (V.d (D.bool false))) o) (some 28) 155 [(s 1), x2] (fun r3 or3 =>
demand (unV UnOp.not r3) (fun x4 =>
opsB C I R_o5 (St.mk (look [(0, s 0), (6, s 6), (24, (V.d (D.bool false))), (29, x4)]) or3) K)))))
 (opsB C I R_o5 (St.mk (look [(0, s 0), (6, s 6), (24, (V.d (D.bool true))), (29, (V.tup []))]) o) K)
 (opsB C I R_o5 (St.mk (look [(0, s 0), (6, s 6), (24, (V.tup [])), (29, (V.tup []))]) o) K)) := rfl
@[instance] theorem g_tree_parser_take_o4_u : UnfAt (opsB C I g_tree_parser_take.o4 (St.mk s o) K) g_tree_parser_take_o4_sh := Unf.of _
theorem g_tree_parser_take_o3_sh : opsB C I (g_tree_parser_take.o3F R_o4) (St.mk s o) K =
 (demand (pickV (s 14) (V.d (.bool true)) (s 22)) (fun x1 =>
opsB C I R_o4 (St.mk (look [(0, s 0), (1, s 1), (6, s 6), (24, x1)]) o) K)) := rfl
@[instance] theorem g_tree_parser_take_o3_u : UnfAt (opsB C I g_tree_parser_take.o3 (St.mk s o) K) g_tree_parser_take_o3_sh := Unf.of _
theorem g_tree_parser_take_o2_sh : opsB C I (g_tree_parser_take.o2F R_o3) (St.mk s o) K =
 (guardK (s 14) false
 (demand (pickV (s 18) (s 21) (V.d (.bool false))) (fun x1 =>
opsB C I R_o3 (St.mk (look [(0, s 0), (1, s 1), (6, s 6), (14, (V.d (D.bool false))), (22, x1)]) o) K))
 (opsB C I R_o3 (St.mk (look [(0, s 0), (1, s 1), (6, s 6), (14, (V.d (D.bool true))), (22, (V.tup []))]) o) K)
 (opsB C I R_o3 (St.mk (look [(0, s 0), (1, s 1), (6, s 6), (14, (V.tup [])), (22, (V.tup []))]) o) K)) := rfl
@[instance] theorem g_tree_parser_take_o2_u : UnfAt (opsB C I g_tree_parser_take.o2 (St.mk s o) K) g_tree_parser_take_o2_sh := Unf.of _
theorem g_tree_parser_take_o1_sh : opsB C I (g_tree_parser_take.o1F R_o2) (St.mk s o) K =
 (guardK (s 18) true
 (demand (faddrV 0 (s 6)) (fun x1 =>
demand (loadV o none x1) (fun x2 =>
demand (binV BinOp.neq x2 (V.d (.int .i64 5))) (fun x3 =>
opsB C I R_o2 (St.mk (look [(0, s 0), (1, s 1), (6, s 6), (14, s 14), (18, (V.d (D.bool true))), (21, x3)]) o) K))))
 (opsB C I R_o2 (St.mk (look [(0, s 0), (1, s 1), (6, s 6), (14, s 14), (18, (V.d (D.bool false))), (21, (V.tup []))]) o) K)
 (opsB C I R_o2 (St.mk (look [(0, s 0), (1, s 1), (6, s 6), (14, s 14), (18, (V.tup [])), (21, (V.tup []))]) o) K)) := rfl
@[instance] theorem g_tree_parser_take_o1_u : UnfAt (opsB C I g_tree_parser_take.o1 (St.mk s o) K) g_tree_parser_take_o1_sh := Unf.of _
theorem g_tree_parser_take_o0_sh : opsB C I (g_tree_parser_take.o0F R_o1) (St.mk s o) K =
 (guardK (s 14) false
 (demand (faddrV 0 (s 6)) (fun x1 =>
demand (loadV o none x1) (fun x2 =>
demand (binV BinOp.neq x2 (V.d (.int .i64 1))) (fun x3 =>
opsB C I R_o1 (St.mk (look [(0, s 0), (1, s 1), (6, s 6), (14, (V.d (D.bool false))), (18, x3)]) o) K))))
 (opsB C I R_o1 (St.mk (look [(0, s 0), (1, s 1), (6, s 6), (14, (V.d (D.bool true))), (18, (V.tup []))]) o) K)
 (opsB C I R_o1 (St.mk (look [(0, s 0), (1, s 1), (6, s 6), (14, (V.tup [])), (18, (V.tup []))]) o) K)) := rfl
@[instance] theorem g_tree_parser_take_o0_u : UnfAt (opsB C I g_tree_parser_take.o0 (St.mk s o) K) g_tree_parser_take_o0_sh := Unf.of _
theorem g_tree_parser_take_c0_sh : wpB C I (g_tree_parser_take.c0) (St.mk s o) Q =
 (condK (s 30)
 (Q .ret (St.mk (look [(4, (V.d (.str []))), (5, (V.d (.bool false)))]) o))
 (Q .normal (St.mk s o))) := rfl
@[instance] theorem g_tree_parser_take_c0_u : UnfAt (wpB C I g_tree_parser_take.c0 (St.mk s o) Q) g_tree_parser_take_c0_sh := Unf.of _
theorem g_tree_parser_take_c1_sh : wpB C I (g_tree_parser_take.c1) (St.mk s o) Q =
 (demand (faddrV 1 (s 6)) (fun x1 =>
demand (loadV o none x1) (fun x2 =>
Q .ret (St.mk (look [(4, x2), (5, (V.d (.bool true)))]) o)))) := rfl
@[instance] theorem g_tree_parser_take_c1_u : UnfAt (wpB C I g_tree_parser_take.c1 (St.mk s o) Q) g_tree_parser_take_c1_sh := Unf.of _
theorem g_tree_parser_take_c2_sh : wpB C I (g_tree_parser_take.c2F R_c1) (St.mk s o) Q =
 (demand (nilcV (s 0)) (fun x1 =>
demand (faddrV 2 x1) (fun x2 =>
demand (loadV o none x2) (fun x3 =>
demand (binV BinOp.add x3 (V.d (.int .i64 1))) (fun x4 =>
demand (nilcV (s 0)) (fun x5 =>
demand (faddrV 2 x5) (fun x6 =>
storeK x6 (cellsV x4) 1 o (fun m7 ob8 =>
wpB C I R_c1 (St.mk (look [(6, s 6)]) (upd o m7 (some ob8))) Q)))))))) := rfl
@[instance] theorem g_tree_parser_take_c2_u : UnfAt (wpB C I g_tree_parser_take.c2 (St.mk s o) Q) g_tree_parser_take_c2_sh := Unf.of _
theorem g_tree_parser_take_c3_sh : wpB C I (g_tree_parser_take.c3F R_o0 R_c0 R_c2) (St.mk s o) Q =
 (demand (nilcV (s 0)) (fun x1 =>
demand (faddrV 5 x1) (fun x2 =>
demand (loadV o none x2) (fun x3 =>
demand (binV BinOp.neq x3 (V.d (.int .i64 0))) (fun x4 =>
opsB C I R_o0 (St.mk (look [(0, s 0), (1, s 1), (6, s 6), (14, x4)]) o) (fun st => (seqK (fun st => wpB C I R_c0 st (seqK (fun st => wpB C I R_c2 st Q) Q)) (seqK (fun st => wpB C I R_c2 st Q) Q)) .normal (St.trim st [0, 6, 30] none))))))) := rfl
@[instance] theorem g_tree_parser_take_c3_u : UnfAt (wpB C I g_tree_parser_take.c3 (St.mk s o) Q) g_tree_parser_take_c3_sh := Unf.of _
theorem g_tree_parser_take_code_sh : wpB C I (g_tree_parser_take.codeF R_c3) (St.mk s o) Q =
 (callK C I (St.mk (upd (look [(0, s 0), (1, s 1)]) 7 (s 0)) o) (some 8) 217 [(s 0)] (fun r1 or1 =>
(¬ I 6 ∧ Fresh (St.mk (upd (upd (look [(0, s 0), (1, s 1)]) 7 (s 0)) 8 r1) or1) 6 (some 6) ∧ V.refsL 6 [V.d (.int .i64 0), V.d (.str []), V.d (.int .i64 0)] = false ∧
storeK (V.ptr 6 0) (cellsV r1) 3 (upd or1 6 (some (Ob.box [V.d (.int .i64 0), V.d (.str []), V.d (.int .i64 0)]))) (fun m2 ob3 =>
wpB C I R_c3 (St.mk (look [(0, s 0), (1, s 1), (6, (V.ptr 6 0))]) (upd (upd or1 6 (some (Ob.box [V.d (.int .i64 0), V.d (.str []), V.d (.int .i64 0)]))) m2 (some ob3))) Q)))) := rfl
@[instance] theorem g_tree_parser_take_code_u : UnfAt (wpB C I g_tree_parser_take.code (St.mk s o) Q) g_tree_parser_take_code_sh := Unf.of _
theorem g_tree_named_code_sh : wpB C I (g_tree_named.code) (St.mk s o) Q =
 (callK C I (St.mk (look [(0, s 0)]) (looko ([].map fun n => (n, o n)))) (some 3) 157 [] (fun r1 or1 =>
lstK (partsN 1 [(V.d (.str [105, 102])), (V.d (.str [116, 104, 101, 110])), (V.d (.str [101, 108, 115, 101])), (V.d (.str [109, 105, 110])), (V.d (.str [109, 97, 120]))]) (fun es2 =>
lstK (readD or1 (V.d (D.sl es2))) (fun ys3 => (∀ e ∈ ys3, e.length = 1) ∧ appK r1
 (ys3.length * 16 ≤ 140737488355328 ∧ ys3.length ≤ 140737488355328 ∧
callK C I (St.mk (upd (upd (upd (upd (look [(0, s 0)]) 3 r1) 4 (V.d (D.sl es2))) 5 (V.d (D.sl ys3))) 6 (s 0)) or1) (some 7) 155 [(V.d (D.sl ys3)), (s 0)] (fun r8 or8 =>
demand (unV UnOp.not r8) (fun x9 =>
Q .ret (St.mk (look [(2, x9)]) (looko ([].map fun n => (n, or8 n)))))))
 (fun m4 => ¬ I m4 ∧ rowK (or1 m4) (fun z5 es6 => z5 = 1 ∧ (es6.length + ys3.length) * 16 ≤ 140737488355328 ∧ es6.length + ys3.length ≤ 140737488355328 ∧
freeK (St.mk (upd (fun t => scrubV m4 ((upd (upd (look [(0, s 0)]) 3 r1) 4 (V.d (D.sl es2))) t)) 5 (V.own m4)) (upd (fun n => (or1 n).map (Ob.scrub m4)) m4 (some (Ob.row 1 (es6 ++ ys3))))) m4 (fun st7 =>
callK C I (St.mk (upd st7.s 6 (st7.s 0)) st7.o) (some 7) 155 [(st7.s 5), (st7.s 0)] (fun r10 or10 =>
demand (unV UnOp.not r10) (fun x11 =>
Q .ret (St.mk (look [(2, x11)]) (looko ([].map fun n => (n, or10 n))))))))))))) := rfl
@[instance] theorem g_tree_named_code_u : UnfAt (wpB C I g_tree_named.code (St.mk s o) Q) g_tree_named_code_sh := Unf.of _
theorem g_tree_parser_need_c0_sh : wpB C I (g_tree_parser_need.c0) (St.mk s o) Q =
 (demand (unV UnOp.not (s 5)) (fun x1 =>
condK x1
 (callK C I (St.mk (upd (look [(0, s 0), (14, x1)]) 15 (s 0)) o) (some 16) 218 [(s 0), (V.d (.int .i64 2))] (fun r2 or2 =>
Q .normal (St.mk (look []) or2)))
 (Q .normal (St.mk (look [(0, s 0), (14, x1)]) o)))) := rfl
@[instance] theorem g_tree_parser_need_c0_u : UnfAt (wpB C I g_tree_parser_need.c0 (St.mk s o) Q) g_tree_parser_need_c0_sh := Unf.of _
theorem g_tree_parser_need_code_sh : wpB C I (g_tree_parser_need.codeF R_c0) (St.mk s o) Q =
 (lstK (partsN 1 [(s 1)]) (fun es1 =>
callK C I (St.mk (upd (upd (upd s 7 (s 0)) 8 (s 1)) 9 (V.d (D.sl es1))) o) (some 10) 219 [(s 0), (V.d (D.sl es1))] (fun r2 or2 =>
demand (extV r2 0) (fun x3 =>
demand (extV r2 1) (fun x4 =>
wpB C I R_c0 (St.mk (look [(0, s 0), (5, x4)]) or2) Q))))) := rfl
@[instance] theorem g_tree_parser_need_code_u : UnfAt (wpB C I g_tree_parser_need.code (St.mk s o) Q) g_tree_parser_need_code_sh := Unf.of _
theorem g_tree_parser_expression_c0_sh : wpB C I (g_tree_parser_expression.c0) (St.mk s o) Q =
 (demand ((buildN [V.d (.str []), V.d (.str []), V.d (.int .i64 0), V.d (.int .i64 0), V.d (.int .i64 0), V.d (.int .i64 0)] [(0, 1, (V.d (.str [105, 102]))), (3, 1, (s 7)), (4, 1, (s 8)), (5, 1, (s 9))]).map V.agg) (fun x1 =>
callK C I (St.mk (upd (upd (upd (upd (upd s 46 (s 0)) 47 (s 7)) 48 (s 8)) 49 (s 9)) 50 x1) o) (some 51) 222 [(s 0), x1] (fun r2 or2 =>
Q .ret (St.mk (look [(4, r2)]) or2)))) := rfl
@[instance] theorem g_tree_parser_expression_c0_u : UnfAt (wpB C I g_tree_parser_expression.c0 (St.mk s o) Q) g_tree_parser_expression_c0_sh := Unf.of _
theorem g_tree_parser_expression_c1_sh : wpB C I (g_tree_parser_expression.c1F R_c0) (St.mk s o) Q =
 (callK C I (St.mk (upd s 40 (s 0)) o) (some 41) 220 [(s 0), (V.d (.str [101, 108, 115, 101]))] (fun r1 or1 =>
demand (binV BinOp.add (s 1) (V.d (.int .i64 1))) (fun x2 =>
callK C I (St.mk (upd (upd (upd (look [(0, s 0), (1, s 1), (7, s 7), (8, s 8)]) 42 (s 0)) 43 (s 1)) 44 x2) or1) (some 45) 221 [(s 0), x2] (fun r3 or3 =>
wpB C I R_c0 (St.mk (look [(0, s 0), (7, s 7), (8, s 8), (9, r3)]) or3) Q)))) := rfl
@[instance] theorem g_tree_parser_expression_c1_u : UnfAt (wpB C I g_tree_parser_expression.c1 (St.mk s o) Q) g_tree_parser_expression_c1_sh := Unf.of _
theorem g_tree_parser_expression_c2_sh : wpB C I (g_tree_parser_expression.c2F R_c1) (St.mk s o) Q =
 (callK C I (St.mk (upd s 34 (s 0)) o) (some 35) 220 [(s 0), (V.d (.str [116, 104, 101, 110]))] (fun r1 or1 =>
demand (binV BinOp.add (s 1) (V.d (.int .i64 1))) (fun x2 =>
callK C I (St.mk (upd (upd (upd (look [(0, s 0), (1, s 1), (7, s 7)]) 36 (s 0)) 37 (s 1)) 38 x2) or1) (some 39) 221 [(s 0), x2] (fun r3 or3 =>
wpB C I R_c1 (St.mk (look [(0, s 0), (1, s 1), (7, s 7), (8, r3)]) or3) Q)))) := rfl
@[instance] theorem g_tree_parser_expression_c2_u : UnfAt (wpB C I g_tree_parser_expression.c2 (St.mk s o) Q) g_tree_parser_expression_c2_sh := Unf.of _
theorem g_tree_parser_expression_c3_sh : wpB C I (g_tree_parser_expression.c3F R_c2) (St.mk s o) Q =
 (condK (s 6)
 (demand (binV BinOp.add (s 1) (V.d (.int .i64 1))) (fun x1 =>
callK C I (St.mk (upd (upd (upd (look [(0, s 0), (1, s 1), (29, s 6)]) 30 (s 0)) 31 (s 1)) 32 x1) o) (some 33) 221 [(s 0), x1] (fun r2 or2 =>
wpB C I R_c2 (St.mk (look [(0, s 0), (1, s 1), (7, r2)]) or2) Q)))
 (Q .normal (St.mk (look [(0, s 0), (1, s 1), (29, s 6)]) o))) := rfl
@[instance] theorem g_tree_parser_expression_c3_u : UnfAt (wpB C I g_tree_parser_expression.c3 (St.mk s o) Q) g_tree_parser_expression_c3_sh := Unf.of _
theorem g_tree_parser_expression_c4_sh : wpB C I (g_tree_parser_expression.c4) (St.mk s o) Q =
 (demand ((buildN [V.d (.str []), V.d (.str []), V.d (.int .i64 0), V.d (.int .i64 0), V.d (.int .i64 0), V.d (.int .i64 0)] [(0, 1, (s 11)), (3, 1, (s 10)), (4, 1, (s 13))]).map V.agg) (fun x1 =>
callK C I (St.mk (upd (upd (upd (upd (upd s 65 (s 0)) 66 (s 11)) 67 (s 10)) 68 (s 13)) 69 x1) o) (some 70) 222 [(s 0), x1] (fun r2 or2 =>
Q .ret (St.mk (look [(4, r2)]) or2)))) := rfl
@[instance] theorem g_tree_parser_expression_c4_u : UnfAt (wpB C I g_tree_parser_expression.c4 (St.mk s o) Q) g_tree_parser_expression_c4_sh := Unf.of _
theorem g_tree_parser_expression_c5_sh : wpB C I (g_tree_parser_expression.c5F R_c4) (St.mk s o) Q =
 (condK (s 12)
 (callK C I (St.mk (upd (upd (look [(0, s 0), (1, s 1), (10, s 10), (11, s 11), (61, s 12)]) 62 (s 0)) 63 (s 1)) o) (some 64) 223 [(s 0), (s 1)] (fun r1 or1 =>
wpB C I R_c4 (St.mk (look [(0, s 0), (10, s 10), (11, s 11), (13, r1)]) or1) Q))
 (Q .normal (St.mk (look [(0, s 0), (1, s 1), (10, s 10), (11, s 11), (61, s 12)]) o))) := rfl
@[instance] theorem g_tree_parser_expression_c5_u : UnfAt (wpB C I g_tree_parser_expression.c5 (St.mk s o) Q) g_tree_parser_expression_c5_sh := Unf.of _
theorem g_tree_parser_expression_c6_sh : wpB C I (g_tree_parser_expression.c6) (St.mk s o) Q =
 (Q .ret (St.mk (look [(4, s 10)]) o)) := rfl
@[instance] theorem g_tree_parser_expression_c6_u : UnfAt (wpB C I g_tree_parser_expression.c6 (St.mk s o) Q) g_tree_parser_expression_c6_sh := Unf.of _
theorem g_tree_parser_expression_c7_sh : wpB C I (g_tree_parser_expression.c7F R_c5 R_c6) (St.mk s o) Q =
 (lstK (partsN 1 [(V.d (.str [60])), (V.d (.str [60, 61])), (V.d (.str [61])), (V.d (.str [60, 62])), (V.d (.str [62])), (V.d (.str [62, 61]))]) (fun es1 =>
callK C I (St.mk (upd (upd s 56 (s 0)) 57 (V.d (D.sl es1))) o) (some 58) 219 [(s 0), (V.d (D.sl es1))] (fun r2 or2 =>
demand (extV r2 0) (fun x3 =>
demand (extV r2 1) (fun x4 =>
wpB C I R_c5 (St.mk (look [(0, s 0), (1, s 1), (10, s 10), (11, x3), (12, x4)]) or2) (seqK (fun st => wpB C I R_c6 st Q) Q)))))) := rfl
@[instance] theorem g_tree_parser_expression_c7_u : UnfAt (wpB C I g_tree_parser_expression.c7 (St.mk s o) Q) g_tree_parser_expression_c7_sh := Unf.of _
theorem g_tree_parser_expression_c8_sh : wpB C I (g_tree_parser_expression.c8F R_c7) (St.mk s o) Q =
 (callK C I (St.mk (upd (upd s 52 (s 0)) 53 (s 1)) o) (some 54) 223 [(s 0), (s 1)] (fun r1 or1 =>
wpB C I R_c7 (St.mk (look [(0, s 0), (1, s 1), (10, r1)]) or1) Q)) := rfl
@[instance] theorem g_tree_parser_expression_c8_u : UnfAt (wpB C I g_tree_parser_expression.c8 (St.mk s o) Q) g_tree_parser_expression_c8_sh := Unf.of _
theorem g_tree_parser_expression_c9_sh : wpB C I (g_tree_parser_expression.c9F R_c3 R_c8) (St.mk s o) Q =
 (lstK (partsN 1 [(V.d (.str [105, 102]))]) (fun es1 =>
callK C I (St.mk (upd (upd s 24 (s 0)) 25 (V.d (D.sl es1))) o) (some 26) 219 [(s 0), (V.d (D.sl es1))] (fun r2 or2 =>
demand (extV r2 0) (fun x3 =>
demand (extV r2 1) (fun x4 =>
wpB C I R_c3 (St.mk (look [(0, s 0), (1, s 1), (6, x4)]) or2) (seqK (fun st => wpB C I R_c8 st Q) Q)))))) := rfl
@[instance] theorem g_tree_parser_expression_c9_u : UnfAt (wpB C I g_tree_parser_expression.c9 (St.mk s o) Q) g_tree_parser_expression_c9_sh := Unf.of _
theorem g_tree_parser_expression_c10_sh : wpB C I (g_tree_parser_expression.c10F R_c9) (St.mk s o) Q =
 (demand (nilcV (s 0)) (fun x1 =>
demand (faddrV 5 x1) (fun x2 =>
demand (loadV o none x2) (fun x3 =>
demand (binV BinOp.neq x3 (V.d (.int .i64 0))) (fun x4 =>
condK x4
 (Q .ret (St.mk (look [(4, (V.d (.int .i64 0)))]) o))
 (wpB C I R_c9 (St.mk (look [(0, s 0), (1, s 1), (22, x4)]) o) Q)))))) := rfl
@[instance] theorem g_tree_parser_expression_c10_u : UnfAt (wpB C I g_tree_parser_expression.c10 (St.mk s o) Q) g_tree_parser_expression_c10_sh := Unf.of _
theorem g_tree_parser_expression_code_sh : wpB C I (g_tree_parser_expression.codeF R_c10) (St.mk s o) Q =
 (demand (binV BinOp.gtr (s 1) (V.d (.int .i64 20))) (fun x1 =>
condK x1
 (callK C I (St.mk (upd (look [(0, s 0), (1, s 1), (15, x1)]) 16 (s 0)) o) (some 17) 218 [(s 0), (V.d (.int .i64 9))] (fun r2 or2 =>
wpB C I R_c10 (St.mk (look [(0, s 0), (1, s 1)]) or2) Q))
 (wpB C I R_c10 (St.mk (look [(0, s 0), (1, s 1), (15, x1)]) o) Q))) := rfl
@[instance] theorem g_tree_parser_expression_code_u : UnfAt (wpB C I g_tree_parser_expression.code (St.mk s o) Q) g_tree_parser_expression_code_sh := Unf.of _
theorem g_check_product_o1_sh : opsB C I (g_check_product.o1) (St.mk s o) K =
 (demand (pickV (s 8) (s 10) (V.d (.bool false))) (fun x1 =>
K (St.mk (upd (upd s 11 x1) 5 x1) o))) := rfl
@[instance] theorem g_check_product_o1_u : UnfAt (opsB C I g_check_product.o1 (St.mk s o) K) g_check_product_o1_sh := Unf.of _
theorem g_check_product_o0_sh : opsB C I (g_check_product.o0F R_o1) (St.mk s o) K =
 (guardK (s 8) true
 (demand (binV BinOp.eql (s 1) (V.d (.int .i64 3))) (fun x1 =>
opsB C I R_o1 (St.mk (look [(0, s 0), (1, s 1), (8, (V.d (D.bool true))), (10, x1)]) (looko ([].map fun n => (n, o n)))) K))
 (opsB C I R_o1 (St.mk (look [(0, s 0), (1, s 1), (8, (V.d (D.bool false))), (10, (V.tup []))]) (looko ([].map fun n => (n, o n)))) K)
 (opsB C I R_o1 (St.mk (look [(0, s 0), (1, s 1), (8, (V.tup [])), (10, (V.tup []))]) (looko ([].map fun n => (n, o n)))) K)) := rfl
@[instance] theorem g_check_product_o0_u : UnfAt (opsB C I g_check_product.o0 (St.mk s o) K) g_check_product_o0_sh := Unf.of _
theorem g_check_product_o5_sh : opsB C I (g_check_product.o5) (St.mk s o) K =
 (demand (pickV (s 15) (s 21) (V.d (.bool false))) (fun x1 =>
K (St.mk (upd (upd s 22 x1) 12 x1) o))) := rfl
@[instance] theorem g_check_product_o5_u : UnfAt (opsB C I g_check_product.o5 (St.mk s o) K) g_check_product_o5_sh := Unf.of _
theorem g_check_product_o4_sh : opsB C I (g_check_product.o4F R_o5) (St.mk s o) K =
 (guardK (s 15) true
 (demand (pickV (s 18) (V.d (.bool true)) (s 20)) (fun x1 =>
opsB C I R_o5 (St.mk (look [(0, s 0), (1, s 1), (15, (V.d (D.bool true))), (21, x1)]) (looko ([].map fun n => (n, o n)))) K))
 (opsB C I R_o5 (St.mk (look [(0, s 0), (1, s 1), (15, (V.d (D.bool false))), (21, (V.tup []))]) (looko ([].map fun n => (n, o n)))) K)
 (opsB C I R_o5 (St.mk (look [(0, s 0), (1, s 1), (15, (V.tup [])), (21, (V.tup []))]) (looko ([].map fun n => (n, o n)))) K)) := rfl
@[instance] theorem g_check_product_o4_u : UnfAt (opsB C I g_check_product.o4 (St.mk s o) K) g_check_product_o4_sh := Unf.of _
theorem g_check_product_o3_sh : opsB C I (g_check_product.o3F R_o4) (St.mk s o) K =
 (guardK (s 18) false
 (demand (binV BinOp.eql (s 1) (V.d (.int .i64 2))) (fun x1 =>
opsB C I R_o4 (St.mk (look [(0, s 0), (1, s 1), (15, s 15), (18, (V.d (D.bool false))), (20, x1)]) (looko ([].map fun n => (n, o n)))) K))
 (opsB C I R_o4 (St.mk (look [(0, s 0), (1, s 1), (15, s 15), (18, (V.d (D.bool true))), (20, (V.tup []))]) (looko ([].map fun n => (n, o n)))) K)
 (opsB C I R_o4 (St.mk (look [(0, s 0), (1, s 1), (15, s 15), (18, (V.tup [])), (20, (V.tup []))]) (looko ([].map fun n => (n, o n)))) K)) := rfl
@[instance] theorem g_check_product_o3_u : UnfAt (opsB C I g_check_product.o3 (St.mk s o) K) g_check_product_o3_sh := Unf.of _
theorem g_check_product_o2_sh : opsB C I (g_check_product.o2F R_o3) (St.mk s o) K =
 (guardK (s 15) true
 (demand (binV BinOp.eql (s 1) (V.d (.int .i64 3))) (fun x1 =>
opsB C I R_o3 (St.mk (look [(0, s 0), (1, s 1), (15, (V.d (D.bool true))), (18, x1)]) (looko ([].map fun n => (n, o n)))) K))
 (opsB C I R_o3 (St.mk (look [(0, s 0), (1, s 1), (15, (V.d (D.bool false))), (18, (V.tup []))]) (looko ([].map fun n => (n, o n)))) K)
 (opsB C I R_o3 (St.mk (look [(0, s 0), (1, s 1), (15, (V.tup [])), (18, (V.tup []))]) (looko ([].map fun n => (n, o n)))) K)) := rfl
@[instance] theorem g_check_product_o2_u : UnfAt (opsB C I g_check_product.o2 (St.mk s o) K) g_check_product_o2_sh := Unf.of _
theorem g_check_product_o9_sh : opsB C I (g_check_product.o9) (St.mk s o) K =
 (demand (pickV (s 25) (s 31) (V.d (.bool false))) (fun x1 =>
K (St.mk (upd (upd s 32 x1) 12 x1) o))) := rfl
@[instance] theorem g_check_product_o9_u : UnfAt (opsB C I g_check_product.o9 (St.mk s o) K) g_check_product_o9_sh := Unf.of _
theorem g_check_product_o8_sh : opsB C I (g_check_product.o8F R_o9) (St.mk s o) K =
 (guardK (s 25) true
 (demand (pickV (s 28) (V.d (.bool true)) (s 30)) (fun x1 =>
opsB C I R_o9 (St.mk (look [(25, (V.d (D.bool true))), (31, x1)]) (looko ([].map fun n => (n, o n)))) K))
 (opsB C I R_o9 (St.mk (look [(25, (V.d (D.bool false))), (31, (V.tup []))]) (looko ([].map fun n => (n, o n)))) K)
 (opsB C I R_o9 (St.mk (look [(25, (V.tup [])), (31, (V.tup []))]) (looko ([].map fun n => (n, o n)))) K)) := rfl
@[instance] theorem g_check_product_o8_u : UnfAt (opsB C I g_check_product.o8 (St.mk s o) K) g_check_product_o8_sh := Unf.of _
theorem g_check_product_o7_sh : opsB C I (g_check_product.o7F R_o8) (St.mk s o) K =
 (guardK (s 28) false
 (demand (binV BinOp.eql (s 0) (V.d (.int .i64 2))) (fun x1 =>
opsB C I R_o8 (St.mk (look [(25, s 25), (28, (V.d (D.bool false))), (30, x1)]) (looko ([].map fun n => (n, o n)))) K))
 (opsB C I R_o8 (St.mk (look [(25, s 25), (28, (V.d (D.bool true))), (30, (V.tup []))]) (looko ([].map fun n => (n, o n)))) K)
 (opsB C I R_o8 (St.mk (look [(25, s 25), (28, (V.tup [])), (30, (V.tup []))]) (looko ([].map fun n => (n, o n)))) K)) := rfl
@[instance] theorem g_check_product_o7_u : UnfAt (opsB C I g_check_product.o7 (St.mk s o) K) g_check_product_o7_sh := Unf.of _
theorem g_check_product_o6_sh : opsB C I (g_check_product.o6F R_o7) (St.mk s o) K =
 (guardK (s 25) true
 (demand (binV BinOp.eql (s 0) (V.d (.int .i64 3))) (fun x1 =>
opsB C I R_o7 (St.mk (look [(0, s 0), (25, (V.d (D.bool true))), (28, x1)]) (looko ([].map fun n => (n, o n)))) K))
 (opsB C I R_o7 (St.mk (look [(0, s 0), (25, (V.d (D.bool false))), (28, (V.tup []))]) (looko ([].map fun n => (n, o n)))) K)
 (opsB C I R_o7 (St.mk (look [(0, s 0), (25, (V.tup [])), (28, (V.tup []))]) (looko ([].map fun n => (n, o n)))) K)) := rfl
@[instance] theorem g_check_product_o6_u : UnfAt (opsB C I g_check_product.o6 (St.mk s o) K) g_check_product_o6_sh := Unf.of _
theorem g_check_product_c0_sh : wpB C I (g_check_product.c0F R_o6) (St.mk s o) Q =
 (condK (s 12)
 (Q .normal (St.mk s o))
 (demand (binV BinOp.eql (s 1) (V.d (.int .i64 1))) (fun x1 =>
opsB C I R_o6 (St.mk (look [(0, s 0), (25, x1)]) (looko ([].map fun n => (n, o n)))) (fun st => Q .normal (St.trim st [12] (some [])))))) := rfl
@[instance] theorem g_check_product_c0_u : UnfAt (wpB C I g_check_product.c0 (St.mk s o) Q) g_check_product_c0_sh := Unf.of _
theorem g_check_product_c1_sh : wpB C I (g_check_product.c1) (St.mk s o) Q =
 (condK (s 12)
 (Q .ret (St.mk (look [(4, (V.d (.int .i64 1)))]) (looko ([].map fun n => (n, o n)))))
 (Q .normal (St.mk s o))) := rfl
@[instance] theorem g_check_product_c1_u : UnfAt (wpB C I g_check_product.c1 (St.mk s o) Q) g_check_product_c1_sh := Unf.of _
theorem g_check_product_c2_sh : wpB C I (g_check_product.c2F R_o2 R_c0 R_c1) (St.mk s o) Q =
 (condK (s 5)
 (Q .ret (St.mk (look [(4, (V.d (.int .i64 3)))]) (looko ([].map fun n => (n, o n)))))
 (demand (binV BinOp.eql (s 0) (V.d (.int .i64 1))) (fun x1 =>
opsB C I R_o2 (St.mk (look [(0, s 0), (1, s 1), (15, x1)]) (looko ([].map fun n => (n, o n)))) (fun st => (seqK (fun st => wpB C I R_c0 st (seqK (fun st => wpB C I R_c1 st Q) Q)) (seqK (fun st => wpB C I R_c1 st Q) Q)) .normal (St.trim st [0, 1, 12] (some [])))))) := rfl
@[instance] theorem g_check_product_c2_u : UnfAt (wpB C I g_check_product.c2 (St.mk s o) Q) g_check_product_c2_sh := Unf.of _
theorem g_check_product_c3_sh : wpB C I (g_check_product.c3) (St.mk s o) Q =
 (Q .ret (St.mk (look [(4, (V.d (.int .i64 0)))]) (looko ([].map fun n => (n, o n))))) := rfl
@[instance] theorem g_check_product_c3_u : UnfAt (wpB C I g_check_product.c3 (St.mk s o) Q) g_check_product_c3_sh := Unf.of _
theorem g_check_product_code_sh : wpB C I (g_check_product.codeF R_o0 R_c2 R_c3) (St.mk s o) Q =
 (demand (binV BinOp.eql (s 0) (V.d (.int .i64 3))) (fun x1 =>
opsB C I R_o0 (St.mk (look [(0, s 0), (1, s 1), (8, x1)]) (looko ([].map fun n => (n, o n)))) (fun st => (seqK (fun st => wpB C I R_c2 st (blockK 0 [] (some []) (seqK (fun st => wpB C I R_c3 st Q) Q))) (blockK 0 [] (some []) (seqK (fun st => wpB C I R_c3 st Q) Q))) .normal (St.trim st [0, 1, 5] (some []))))) := rfl
@[instance] theorem g_check_product_code_u : UnfAt (wpB C I g_check_product.code (St.mk s o) Q) g_check_product_code_sh := Unf.of _
theorem g_lex_letter_o1_sh : opsB C I (g_lex_letter.o1) (St.mk s o) K =
 (demand (pickV (s 5) (s 7) (V.d (.bool false))) (fun x1 =>
K (St.mk (upd (upd s 8 x1) 2 x1) o))) := rfl
@[instance] theorem g_lex_letter_o1_u : UnfAt (opsB C I g_lex_letter.o1 (St.mk s o) K) g_lex_letter_o1_sh := Unf.of _
theorem g_lex_letter_o0_sh : opsB C I (g_lex_letter.o0F R_o1) (St.mk s o) K =
 (guardK (s 5) true
 (demand (binV BinOp.leq (s 0) (V.d (.int .u8 122))) (fun x1 =>
opsB C I R_o1 (St.mk (look [(5, (V.d (D.bool true))), (7, x1)]) (looko ([].map fun n => (n, o n)))) K))
 (opsB C I R_o1 (St.mk (look [(5, (V.d (D.bool false))), (7, (V.tup []))]) (looko ([].map fun n => (n, o n)))) K)
 (opsB C I R_o1 (St.mk (look [(5, (V.tup [])), (7, (V.tup []))]) (looko ([].map fun n => (n, o n)))) K)) := rfl
@[instance] theorem g_lex_letter_o0_u : UnfAt (opsB C I g_lex_letter.o0 (St.mk s o) K) g_lex_letter_o0_sh := Unf.of _
theorem g_lex_letter_c0_sh : wpB C I (g_lex_letter.c0) (St.mk s o) Q =
 (Q .ret (St.mk s o)) := rfl
@[instance] theorem g_lex_letter_c0_u : UnfAt (wpB C I g_lex_letter.c0 (St.mk s o) Q) g_lex_letter_c0_sh := Unf.of _
theorem g_lex_letter_code_sh : wpB C I (g_lex_letter.codeF R_o0 R_c0) (St.mk s o) Q =
 (demand (binV BinOp.geq (s 0) (V.d (.int .u8 97))) (fun x1 =>
opsB C I R_o0 (St.mk (look [(0, s 0), (5, x1)]) (looko ([].map fun n => (n, o n)))) (fun st => (seqK (fun st => wpB C I R_c0 st Q) Q) .normal (St.trim st [2] (some []))))) := rfl
@[instance] theorem g_lex_letter_code_u : UnfAt (wpB C I g_lex_letter.code (St.mk s o) Q) g_lex_letter_code_sh := Unf.of _
theorem g_lex_one_1_o1_sh : opsB C I (g_lex_one_1.o1) (St.mk s o) K =
 (demand (pickV (s 5) (V.d (.bool true)) (s 7)) (fun x1 =>
K (St.mk (upd (upd s 8 x1) 2 x1) o))) := rfl
@[instance] theorem g_lex_one_1_o1_u : UnfAt (opsB C I g_lex_one_1.o1 (St.mk s o) K) g_lex_one_1_o1_sh := Unf.of _
theorem g_lex_one_1_o0_sh : opsB C I (g_lex_one_1.o0F R_o1) (St.mk s o) K =
 (guardK (s 5) false
 (callK C I (St.mk (upd (upd (upd s 5 (V.d (D.bool false))) 6 (s 0)) 5 (V.d (D.bool false))) o) (some 7) 107 [(s 0)] (fun r1 or1 =>
opsB C I R_o1 (St.mk (look [(5, (V.d (D.bool false))), (7, r1)]) (looko ([].map fun n => (n, or1 n)))) K))
 (opsB C I R_o1 (St.mk (look [(5, (V.d (D.bool true))), (7, (V.tup []))]) (looko ([].map fun n => (n, o n)))) K)
 (opsB C I R_o1 (St.mk (look [(5, (V.tup [])), (7, (V.tup []))]) (looko ([].map fun n => (n, o n)))) K)) := rfl
@[instance] theorem g_lex_one_1_o0_u : UnfAt (opsB C I g_lex_one_1.o0 (St.mk s o) K) g_lex_one_1_o0_sh := Unf.of _
theorem g_lex_one_1_c0_sh : wpB C I (g_lex_one_1.c0) (St.mk s o) Q =
 (Q .ret (St.mk s o)) := rfl
@[instance] theorem g_lex_one_1_c0_u : UnfAt (wpB C I g_lex_one_1.c0 (St.mk s o) Q) g_lex_one_1_c0_sh := Unf.of _
theorem g_lex_one_1_code_sh : wpB C I (g_lex_one_1.codeF R_o0 R_c0) (St.mk s o) Q =
 (callK C I (St.mk (upd (look [(0, s 0)]) 3 (s 0)) (looko ([].map fun n => (n, o n)))) (some 4) 105 [(s 0)] (fun r1 or1 =>
opsB C I R_o0 (St.mk (look [(0, s 0), (5, r1)]) (looko ([].map fun n => (n, or1 n)))) (fun st => (seqK (fun st => wpB C I R_c0 st Q) Q) .normal (St.trim st [2] (some []))))) := rfl
@[instance] theorem g_lex_one_1_code_u : UnfAt (wpB C I g_lex_one_1.code (St.mk s o) Q) g_lex_one_1_code_sh := Unf.of _
theorem g_lex_digit_o1_sh : opsB C I (g_lex_digit.o1) (St.mk s o) K =
 (demand (pickV (s 5) (s 7) (V.d (.bool false))) (fun x1 =>
K (St.mk (upd (upd s 8 x1) 2 x1) o))) := rfl
@[instance] theorem g_lex_digit_o1_u : UnfAt (opsB C I g_lex_digit.o1 (St.mk s o) K) g_lex_digit_o1_sh := Unf.of _
theorem g_lex_digit_o0_sh : opsB C I (g_lex_digit.o0F R_o1) (St.mk s o) K =
 (guardK (s 5) true
 (demand (binV BinOp.leq (s 0) (V.d (.int .u8 57))) (fun x1 =>
opsB C I R_o1 (St.mk (look [(5, (V.d (D.bool true))), (7, x1)]) (looko ([].map fun n => (n, o n)))) K))
 (opsB C I R_o1 (St.mk (look [(5, (V.d (D.bool false))), (7, (V.tup []))]) (looko ([].map fun n => (n, o n)))) K)
 (opsB C I R_o1 (St.mk (look [(5, (V.tup [])), (7, (V.tup []))]) (looko ([].map fun n => (n, o n)))) K)) := rfl
@[instance] theorem g_lex_digit_o0_u : UnfAt (opsB C I g_lex_digit.o0 (St.mk s o) K) g_lex_digit_o0_sh := Unf.of _
theorem g_lex_digit_c0_sh : wpB C I (g_lex_digit.c0) (St.mk s o) Q =
 (Q .ret (St.mk s o)) := rfl
@[instance] theorem g_lex_digit_c0_u : UnfAt (wpB C I g_lex_digit.c0 (St.mk s o) Q) g_lex_digit_c0_sh := Unf.of _
theorem g_lex_digit_code_sh : wpB C I (g_lex_digit.codeF R_o0 R_c0) (St.mk s o) Q =
 (demand (binV BinOp.geq (s 0) (V.d (.int .u8 48))) (fun x1 =>
opsB C I R_o0 (St.mk (look [(0, s 0), (5, x1)]) (looko ([].map fun n => (n, o n)))) (fun st => (seqK (fun st => wpB C I R_c0 st Q) Q) .normal (St.trim st [2] (some []))))) := rfl
@[instance] theorem g_lex_digit_code_u : UnfAt (wpB C I g_lex_digit.code (St.mk s o) Q) g_lex_digit_code_sh := Unf.of _
theorem g_lex_one_2_o3_sh : opsB C I (g_lex_one_2.o3) (St.mk s o) K =
 (demand (pickV (s 9) (V.d (.bool true)) (s 11)) (fun x1 =>
K (St.mk (upd (upd s 12 x1) 2 x1) o))) := rfl
@[instance] theorem g_lex_one_2_o3_u : UnfAt (opsB C I g_lex_one_2.o3 (St.mk s o) K) g_lex_one_2_o3_sh := Unf.of _
theorem g_lex_one_2_o2_sh : opsB C I (g_lex_one_2.o2F R_o3) (St.mk s o) K =
 (guardK (s 9) false
 (demand (binV BinOp.eql (s 0) (V.d (.int .u8 37))) (fun x1 =>
opsB C I R_o3 (St.mk (look [(9, (V.d (D.bool false))), (11, x1)]) (looko ([].map fun n => (n, o n)))) K))
 (opsB C I R_o3 (St.mk (look [(9, (V.d (D.bool true))), (11, (V.tup []))]) (looko ([].map fun n => (n, o n)))) K)
 (opsB C I R_o3 (St.mk (look [(9, (V.tup [])), (11, (V.tup []))]) (looko ([].map fun n => (n, o n)))) K)) := rfl
@[instance] theorem g_lex_one_2_o2_u : UnfAt (opsB C I g_lex_one_2.o2 (St.mk s o) K) g_lex_one_2_o2_sh := Unf.of _
theorem g_lex_one_2_o1_sh : opsB C I (g_lex_one_2.o1F R_o2) (St.mk s o) K =
 (demand (pickV (s 5) (V.d (.bool true)) (s 7)) (fun x1 =>
opsB C I R_o2 (St.mk (look [(0, s 0), (9, x1)]) (looko ([].map fun n => (n, o n)))) K)) := rfl
@[instance] theorem g_lex_one_2_o1_u : UnfAt (opsB C I g_lex_one_2.o1 (St.mk s o) K) g_lex_one_2_o1_sh := Unf.of _
theorem g_lex_one_2_o0_sh : opsB C I (g_lex_one_2.o0F R_o1) (St.mk s o) K =
 (guardK (s 5) false
 (demand (binV BinOp.eql (s 0) (V.d (.int .u8 46))) (fun x1 =>
opsB C I R_o1 (St.mk (look [(0, s 0), (5, (V.d (D.bool false))), (7, x1)]) (looko ([].map fun n => (n, o n)))) K))
 (opsB C I R_o1 (St.mk (look [(0, s 0), (5, (V.d (D.bool true))), (7, (V.tup []))]) (looko ([].map fun n => (n, o n)))) K)
 (opsB C I R_o1 (St.mk (look [(0, s 0), (5, (V.tup [])), (7, (V.tup []))]) (looko ([].map fun n => (n, o n)))) K)) := rfl
@[instance] theorem g_lex_one_2_o0_u : UnfAt (opsB C I g_lex_one_2.o0 (St.mk s o) K) g_lex_one_2_o0_sh := Unf.of _
theorem g_lex_one_2_c0_sh : wpB C I (g_lex_one_2.c0) (St.mk s o) Q =
 (Q .ret (St.mk s o)) := rfl
@[instance] theorem g_lex_one_2_c0_u : UnfAt (wpB C I g_lex_one_2.c0 (St.mk s o) Q) g_lex_one_2_c0_sh := Unf.of _
theorem g_lex_one_2_code_sh : wpB C I (g_lex_one_2.codeF R_o0 R_c0) (St.mk s o) Q =
 (callK C I (St.mk (upd (look [(0, s 0)]) 3 (s 0)) (looko ([].map fun n => (n, o n)))) (some 4) 107 [(s 0)] (fun r1 or1 =>
opsB C I R_o0 (St.mk (look [(0, s 0), (5, r1)]) (looko ([].map fun n => (n, or1 n)))) (fun st => (seqK (fun st => wpB C I R_c0 st Q) Q) .normal (St.trim st [2] (some []))))) := rfl
@[instance] theorem g_lex_one_2_code_u : UnfAt (wpB C I g_lex_one_2.code (St.mk s o) Q) g_lex_one_2_code_sh := Unf.of _
theorem g_lex_figure_c0_sh : wpB C I (g_lex_figure.c0) (St.mk s o) Q =
 (condK (s 4)
 (Q .ret (St.mk (look [(2, (V.d (.int .i64 3)))]) (looko ([].map fun n => (n, o n)))))
 (Q .normal (St.mk (look [(0, s 0), (12, s 4)]) (looko ([].map fun n => (n, o n)))))) := rfl
@[instance] theorem g_lex_figure_c0_u : UnfAt (wpB C I g_lex_figure.c0 (St.mk s o) Q) g_lex_figure_c0_sh := Unf.of _
theorem g_lex_figure_c1_sh : wpB C I (g_lex_figure.c1) (St.mk s o) Q =
 (condK (s 6)
 (Q .ret (St.mk (look [(2, (V.d (.int .i64 4)))]) (looko ([].map fun n => (n, o n)))))
 (Q .normal (St.mk (look [(0, s 0), (18, s 6)]) (looko ([].map fun n => (n, o n)))))) := rfl
@[instance] theorem g_lex_figure_c1_u : UnfAt (wpB C I g_lex_figure.c1 (St.mk s o) Q) g_lex_figure_c1_sh := Unf.of _
theorem g_lex_figure_o5_sh : opsB C I (g_lex_figure.o5) (St.mk s o) K =
 (demand (pickV (s 29) (s 36) (V.d (.bool false))) (fun x1 =>
K (St.mk (upd s 37 x1) o))) := rfl
@[instance] theorem g_lex_figure_o5_u : UnfAt (opsB C I g_lex_figure.o5 (St.mk s o) K) g_lex_figure_o5_sh := Unf.of _
theorem g_lex_figure_o4_sh : opsB C I (g_lex_figure.o4F R_o5) (St.mk s o) K =
 (guardK (s 29) true
 (demand (pickV (s 32) (V.d (.bool true)) (s 35)) (fun x1 =>
opsB C I R_o5 (St.mk (look [(29, (V.d (D.bool true))), (36, x1)]) (looko ([].map fun n => (n, o n)))) K))
 (opsB C I R_o5 (St.mk (look [(29, (V.d (D.bool false))), (36, (V.tup []))]) (looko ([].map fun n => (n, o n)))) K)
 (opsB C I R_o5 (St.mk (look [(29, (V.tup [])), (36, (V.tup []))]) (looko ([].map fun n => (n, o n)))) K)) := rfl
@[instance] theorem g_lex_figure_o4_u : UnfAt (opsB C I g_lex_figure.o4 (St.mk s o) K) g_lex_figure_o4_sh := Unf.of _
theorem g_lex_figure_o3_sh : opsB C I (g_lex_figure.o3F R_o4) (St.mk s o) K =
 (guardK (s 32) false
 (demand (idxV (s 0) (V.d (.int .i64 0))) (fun x1 =>
demand (binV BinOp.neq x1 (V.d (.int .u8 48))) (fun x2 =>
opsB C I R_o4 (St.mk (look [(29, s 29), (32, (V.d (D.bool false))), (35, x2)]) (looko ([].map fun n => (n, o n)))) K)))
 (opsB C I R_o4 (St.mk (look [(29, s 29), (32, (V.d (D.bool true))), (35, (V.tup []))]) (looko ([].map fun n => (n, o n)))) K)
 (opsB C I R_o4 (St.mk (look [(29, s 29), (32, (V.tup [])), (35, (V.tup []))]) (looko ([].map fun n => (n, o n)))) K)) := rfl
@[instance] theorem g_lex_figure_o3_u : UnfAt (opsB C I g_lex_figure.o3 (St.mk s o) K) g_lex_figure_o3_sh := Unf.of _
theorem g_lex_figure_o2_sh : opsB C I (g_lex_figure.o2F R_o3) (St.mk s o) K =
 (guardK (s 29) true
 (demand (binV BinOp.eql (s 0) (V.d (.str [48]))) (fun x1 =>
opsB C I R_o3 (St.mk (look [(0, s 0), (29, (V.d (D.bool true))), (32, x1)]) (looko ([].map fun n => (n, o n)))) K))
 (opsB C I R_o3 (St.mk (look [(0, s 0), (29, (V.d (D.bool false))), (32, (V.tup []))]) (looko ([].map fun n => (n, o n)))) K)
 (opsB C I R_o3 (St.mk (look [(0, s 0), (29, (V.tup [])), (32, (V.tup []))]) (looko ([].map fun n => (n, o n)))) K)) := rfl
@[instance] theorem g_lex_figure_o2_u : UnfAt (opsB C I g_lex_figure.o2 (St.mk s o) K) g_lex_figure_o2_sh := Unf.of _
theorem g_lex_figure_o1_sh : opsB C I (g_lex_figure.o1F R_o2) (St.mk s o) K =
 (demand (pickV (s 22) (s 27) (V.d (.bool false))) (fun x1 =>
opsB C I R_o2 (St.mk (look [(0, s 0), (29, x1)]) (looko ([].map fun n => (n, o n)))) K)) := rfl
@[instance] theorem g_lex_figure_o1_u : UnfAt (opsB C I g_lex_figure.o1 (St.mk s o) K) g_lex_figure_o1_sh := Unf.of _
theorem g_lex_figure_o0_sh : opsB C I (g_lex_figure.o0F R_o1) (St.mk s o) K =
 (guardK (s 22) true
 (callK C I (St.mk (upd (upd (upd s 22 (V.d (D.bool true))) 23 (s 0)) 22 (V.d (D.bool true))) o) (some 24) 102 [(s 0), (V.d (.int .i64 0)), (V.fn 107 [])] (fun r1 or1 =>
demand (lenSV (s 0)) (fun x2 =>
demand (binV BinOp.eql r1 x2) (fun x3 =>
opsB C I R_o1 (St.mk (look [(0, s 0), (22, (V.d (D.bool true))), (27, x3)]) (looko ([].map fun n => (n, or1 n)))) K))))
 (opsB C I R_o1 (St.mk (look [(0, s 0), (22, (V.d (D.bool false))), (27, (V.tup []))]) (looko ([].map fun n => (n, o n)))) K)
 (opsB C I R_o1 (St.mk (look [(0, s 0), (22, (V.tup [])), (27, (V.tup []))]) (looko ([].map fun n => (n, o n)))) K)) := rfl
@[instance] theorem g_lex_figure_o0_u : UnfAt (opsB C I g_lex_figure.o0 (St.mk s o) K) g_lex_figure_o0_sh := Unf.of _
theorem g_lex_figure_c2_sh : wpB C I (g_lex_figure.c2) (St.mk s o) Q =
 (condK (s 37)
 (Q .ret (St.mk (look [(2, (V.d (.int .i64 2)))]) (looko ([].map fun n => (n, o n)))))
 (Q .normal (St.mk s o))) := rfl
@[instance] theorem g_lex_figure_c2_u : UnfAt (wpB C I g_lex_figure.c2 (St.mk s o) Q) g_lex_figure_c2_sh := Unf.of _
theorem g_lex_figure_c3_sh : wpB C I (g_lex_figure.c3) (St.mk s o) Q =
 (Q .ret (St.mk (look [(2, (V.d (.int .i64 0)))]) (looko ([].map fun n => (n, o n))))) := rfl
@[instance] theorem g_lex_figure_c3_u : UnfAt (wpB C I g_lex_figure.c3 (St.mk s o) Q) g_lex_figure_c3_sh := Unf.of _
theorem g_lex_figure_c4_sh : wpB C I (g_lex_figure.c4F R_o0 R_c2 R_c3) (St.mk s o) Q =
 (demand (lenSV (s 0)) (fun x1 =>
demand (binV BinOp.leq x1 (V.d (.int .i64 9))) (fun x2 =>
opsB C I R_o0 (St.mk (look [(0, s 0), (22, x2)]) (looko ([].map fun n => (n, o n)))) (fun st => (seqK (fun st => wpB C I R_c2 st (seqK (fun st => wpB C I R_c3 st Q) Q)) (seqK (fun st => wpB C I R_c3 st Q) Q)) .normal (St.trim st [37] (some [])))))) := rfl
@[instance] theorem g_lex_figure_c4_u : UnfAt (wpB C I g_lex_figure.c4 (St.mk s o) Q) g_lex_figure_c4_sh := Unf.of _
theorem g_lex_figure_c5_sh : wpB C I (g_lex_figure.c5F R_c1 R_c4) (St.mk s o) Q =
 (callK C I (St.mk (upd s 14 (s 0)) o) (some 15) 92 [(s 0)] (fun r1 or1 =>
demand (extV r1 0) (fun x2 =>
demand (extV r1 1) (fun x3 =>
wpB C I R_c1 (St.mk (look [(0, s 0), (6, x3)]) (looko ([].map fun n => (n, or1 n)))) (seqK (fun st => wpB C I R_c4 st Q) Q))))) := rfl
@[instance] theorem g_lex_figure_c5_u : UnfAt (wpB C I g_lex_figure.c5 (St.mk s o) Q) g_lex_figure_c5_sh := Unf.of _
theorem g_lex_figure_code_sh : wpB C I (g_lex_figure.codeF R_c0 R_c5) (St.mk s o) Q =
 (callK C I (St.mk (upd (look [(0, s 0)]) 8 (s 0)) (looko ([].map fun n => (n, o n)))) (some 9) 51 [(s 0)] (fun r1 or1 =>
demand (extV r1 0) (fun x2 =>
demand (extV r1 1) (fun x3 =>
wpB C I R_c0 (St.mk (look [(0, s 0), (4, x3)]) (looko ([].map fun n => (n, or1 n)))) (seqK (fun st => wpB C I R_c5 st Q) Q))))) := rfl
@[instance] theorem g_lex_figure_code_u : UnfAt (wpB C I g_lex_figure.code (St.mk s o) Q) g_lex_figure_code_sh := Unf.of _
theorem g_lex_sign_c0_sh : wpB C I (g_lex_sign.c0) (St.mk s o) Q =
 (demand (binV BinOp.add (s 7) (V.d (.int .i64 1))) (fun x1 =>
Q .normal (St.mk (look [(0, s 0), (5, s 5), (6, s 6), (7, x1)]) (looko ([].map fun n => (n, o n)))))) := rfl
@[instance] theorem g_lex_sign_c0_u : UnfAt (wpB C I g_lex_sign.c0 (St.mk s o) Q) g_lex_sign_c0_sh := Unf.of _
theorem g_lex_sign_l0_sh (hL : R_l0 = g_lex_sign.l0F R_c0)
 (h : demand (binV BinOp.lss (s 7) (s 6)) (fun x1 =>
condK x1
 (demand (iaddrV (looko ([].map fun n => (n, o n))) 1 (s 5) (s 7)) (fun x2 =>
demand (loadV (looko ([].map fun n => (n, o n))) none x2) (fun x3 =>
callK C I (St.mk (upd (upd (look [(0, s 0), (4, x3), (5, s 5), (6, s 6), (7, s 7)]) 11 (s 0)) 12 x3) (looko ([].map fun n => (n, o n)))) (some 13) 123 [(s 0), x3] (fun r4 or4 =>
condK r4
 (demand (lenSV x3) (fun x5 =>
Q .ret (St.mk (look [(2, x5)]) (looko ([].map fun n => (n, or4 n))))))
 (wpB C I R_c0 (St.mk (look [(0, s 0), (5, s 5), (6, s 6), (7, s 7)]) (looko ([].map fun n => (n, or4 n)))) (seqK (fun s => wpB C I R_l0 s Q) Q))))))
 (Q (.exit 0) (St.mk (look [(0, s 0), (5, s 5), (6, s 6), (7, s 7), (8, x1)]) (looko ([].map fun n => (n, o n))))))) : wpB C I R_l0 (St.mk s o) Q := w_loopC hL h
theorem g_lex_sign_c1_sh : wpB C I (g_lex_sign.c1) (St.mk s o) Q =
 (Q .ret (St.mk (look [(2, (V.d (.int .i64 0)))]) (looko ([].map fun n => (n, o n))))) := rfl
@[instance] theorem g_lex_sign_c1_u : UnfAt (wpB C I g_lex_sign.c1 (St.mk s o) Q) g_lex_sign_c1_sh := Unf.of _
theorem g_lex_sign_c2_sh : wpB C I (g_lex_sign.c2F R_c1) (St.mk s o) Q =
 (demand (idxV (s 0) (V.d (.int .i64 0))) (fun x1 =>
callK C I (St.mk (upd (upd s 17 (s 0)) 18 x1) o) (some 19) 124 [(V.d (.str [61, 60, 62, 43, 45, 42, 40, 41, 44, 59])), x1] (fun r2 or2 =>
demand (binV BinOp.geq r2 (V.d (.int .i64 0))) (fun x3 =>
condK x3
 (Q .ret (St.mk (look [(2, (V.d (.int .i64 1)))]) (looko ([].map fun n => (n, or2 n)))))
 (wpB C I R_c1 (St.mk (look [(20, x3)]) (looko ([].map fun n => (n, or2 n)))) Q))))) := rfl
@[instance] theorem g_lex_sign_c2_u : UnfAt (wpB C I g_lex_sign.c2 (St.mk s o) Q) g_lex_sign_c2_sh := Unf.of _
theorem g_lex_sign_code_sh : wpB C I (g_lex_sign.codeF R_l0 R_c2) (St.mk s o) Q =
 (lstK (partsN 1 [(V.d (.str [60, 61])), (V.d (.str [62, 61])), (V.d (.str [60, 62]))]) (fun es1 =>
demand (lenV (looko ([].map fun n => (n, o n))) (V.d (D.sl es1))) (fun x2 =>
wpB C I R_l0 (St.mk (look [(0, s 0), (5, (V.d (D.sl es1))), (6, x2), (7, (V.d (.int .i64 0)))]) (looko ([].map fun n => (n, o n)))) (blockK 0 [0] (some []) (seqK (fun st => wpB C I R_c2 st Q) Q))))) := rfl
@[instance] theorem g_lex_sign_code_u : UnfAt (wpB C I g_lex_sign.code (St.mk s o) Q) g_lex_sign_code_sh := Unf.of _
theorem g_slices_Index_string_c0_sh : wpB C I (g_slices_Index_string.c0) (St.mk s o) Q =
 (demand (binV BinOp.add (s 8) (V.d (.int .i64 1))) (fun x1 =>
Q .normal (St.mk (look [(0, s 0), (1, s 1), (7, s 7), (8, x1)]) (looko ([].map fun n => (n, o n)))))) := rfl
@[instance] theorem g_slices_Index_string_c0_u : UnfAt (wpB C I g_slices_Index_string.c0 (St.mk s o) Q) g_slices_Index_string_c0_sh := Unf.of _
theorem g_slices_Index_string_l0_sh (hL : R_l0 = g_slices_Index_string.l0F R_c0)
 (h : demand (binV BinOp.lss (s 8) (s 7)) (fun x1 =>
condK x1
 (demand (iaddrV (looko ([].map fun n => (n, o n))) 1 (s 0) (s 8)) (fun x2 =>
demand (loadV (looko ([].map fun n => (n, o n))) none x2) (fun x3 =>
demand (binV BinOp.eql (s 1) x3) (fun x4 =>
condK x4
 (Q .ret (St.mk (look [(4, s 8)]) (looko ([].map fun n => (n, o n)))))
 (wpB C I R_c0 (St.mk (look [(0, s 0), (1, s 1), (7, s 7), (8, s 8)]) (looko ([].map fun n => (n, o n)))) (seqK (fun s => wpB C I R_l0 s Q) Q))))))
 (Q (.exit 0) (St.mk (look [(0, s 0), (1, s 1), (7, s 7), (8, s 8), (9, x1)]) (looko ([].map fun n => (n, o n))))))) : wpB C I R_l0 (St.mk s o) Q := w_loopC hL h
theorem g_slices_Index_string_c1_sh : wpB C I (g_slices_Index_string.c1) (St.mk s o) Q =
 (Q .ret (St.mk (look [(4, (V.d (.int .i64 (-1))))]) (looko ([].map fun n => (n, o n))))) := rfl
@[instance] theorem g_slices_Index_string_c1_u : UnfAt (wpB C I g_slices_Index_string.c1 (St.mk s o) Q) g_slices_Index_string_c1_sh := Unf.of _
theorem g_slices_Index_string_code_sh : wpB C I (g_slices_Index_string.codeF R_l0 R_c1) (St.mk s o) Q =
 (demand (lenV (looko ([].map fun n => (n, o n))) (s 0)) (fun x1 =>
wpB C I R_l0 (St.mk (look [(0, s 0), (1, s 1), (7, x1), (8, (V.d (.int .i64 0)))]) (looko ([].map fun n => (n, o n)))) (blockK 0 [] (some []) (seqK (fun st => wpB C I R_c1 st Q) Q)))) := rfl
@[instance] theorem g_slices_Index_string_code_u : UnfAt (wpB C I g_slices_Index_string.code (St.mk s o) Q) g_slices_Index_string_code_sh := Unf.of _
theorem g_tree_parser_put_t5_sh : treeB C I g_tree_parser_put.a0 (.one 12 .done) (St.mk s o) K =
 ((([] : List Nat) = [] ∧ (storeK (s 16) (cellsV (s 13)) 1 o (fun m1 ob2 =>
K (St.mk s (upd o m1 (some ob2))))))) := rfl
@[instance] theorem g_tree_parser_put_t5_u : UnfAt (treeB C I g_tree_parser_put.a0 g_tree_parser_put.t5 (St.mk s o) K) g_tree_parser_put_t5_sh := Unf.of _
theorem g_tree_parser_put_t6_sh : treeB C I g_tree_parser_put.a0 (.one 11 R_t5) (St.mk s o) K =
 ((([] : List Nat) = [] ∧ (demand (faddrV 1 (s 15)) (fun x1 =>
treeB C I g_tree_parser_put.a0 R_t5 (St.mk (upd s 16 x1) o) K)))) := rfl
@[instance] theorem g_tree_parser_put_t6_u : UnfAt (treeB C I g_tree_parser_put.a0 g_tree_parser_put.t6 (St.mk s o) K) g_tree_parser_put_t6_sh := Unf.of _
theorem g_tree_parser_put_t7_sh : treeB C I g_tree_parser_put.a0 (.one 10 R_t6) (St.mk s o) K =
 ((([] : List Nat) = [] ∧ (demand (faddrV 3 (s 14)) (fun x1 =>
treeB C I g_tree_parser_put.a0 R_t6 (St.mk (upd s 15 x1) o) K)))) := rfl
@[instance] theorem g_tree_parser_put_t7_u : UnfAt (treeB C I g_tree_parser_put.a0 g_tree_parser_put.t7 (St.mk s o) K) g_tree_parser_put_t7_sh := Unf.of _
theorem g_tree_parser_put_t8_sh : treeB C I g_tree_parser_put.a0 (.one 9 R_t7) (St.mk s o) K =
 ((([] : List Nat) = [] ∧ (demand (nilcV (s 5)) (fun x1 =>
treeB C I g_tree_parser_put.a0 R_t7 (St.mk (upd s 14 x1) o) K)))) := rfl
@[instance] theorem g_tree_parser_put_t8_u : UnfAt (treeB C I g_tree_parser_put.a0 g_tree_parser_put.t8 (St.mk s o) K) g_tree_parser_put_t8_sh := Unf.of _
theorem g_tree_parser_put_t9_sh : treeB C I g_tree_parser_put.a0 (.one 8 R_t8) (St.mk s o) K =
 ((([] : List Nat) = [] ∧ (lstK (readD o (s 12)) (fun ys1 => (∀ e ∈ ys1, e.length = 6) ∧ appK (s 10)
 (ys1.length * 64 ≤ 140737488355328 ∧ ys1.length ≤ 140737488355328 ∧ ¬ I 13 ∧ Fresh (St.mk s o) 13 (some 13) ∧
treeB C I g_tree_parser_put.a0 R_t8 (St.mk (upd s 13 (V.own 13)) (upd o 13 (some (Ob.row 6 ys1)))) K)
 (fun m2 => ¬ I m2 ∧ rowK (o m2) (fun z3 es4 => z3 = 6 ∧ (es4.length + ys1.length) * 64 ≤ 140737488355328 ∧ es4.length + ys1.length ≤ 140737488355328 ∧
treeB C I g_tree_parser_put.a0 R_t8 (St.mk (upd (fun t => scrubV m2 (s t)) 13 (V.own m2)) (upd (fun n => (o n).map (Ob.scrub m2)) m2 (some (Ob.row 6 (es4 ++ ys1))))) K)))))) := rfl
@[instance] theorem g_tree_parser_put_t9_u : UnfAt (treeB C I g_tree_parser_put.a0 g_tree_parser_put.t9 (St.mk s o) K) g_tree_parser_put_t9_sh := Unf.of _
theorem g_tree_parser_put_t10_sh : treeB C I g_tree_parser_put.a0 (.one 7 R_t9) (St.mk s o) K =
 ((([] : List Nat) = [] ∧ (lstK (partsN 6 [(s 11)]) (fun es1 =>
treeB C I g_tree_parser_put.a0 R_t9 (St.mk (upd s 12 (V.d (D.sl es1))) o) K)))) := rfl
@[instance] theorem g_tree_parser_put_t10_u : UnfAt (treeB C I g_tree_parser_put.a0 g_tree_parser_put.t10 (St.mk s o) K) g_tree_parser_put_t10_sh := Unf.of _
theorem g_tree_parser_put_t11_sh : treeB C I g_tree_parser_put.a0 (.one 6 R_t10) (St.mk s o) K =
 ((([] : List Nat) = [] ∧ (demand (loadV o (some 6) (s 3)) (fun x1 =>
treeB C I g_tree_parser_put.a0 R_t10 (St.mk (upd s 11 x1) o) K)))) := rfl
@[instance] theorem g_tree_parser_put_t11_u : UnfAt (treeB C I g_tree_parser_put.a0 g_tree_parser_put.t11 (St.mk s o) K) g_tree_parser_put_t11_sh := Unf.of _
theorem g_tree_parser_put_t12_sh : treeB C I g_tree_parser_put.a0 (.one 5 R_t9) (St.mk s o) K =
 ((([] : List Nat) = [] ∧ (demand (loadV o none (s 9)) (fun x1 =>
treeB C I g_tree_parser_put.a0 R_t9 (St.mk (upd s 10 x1) o) K)))) := rfl
@[instance] theorem g_tree_parser_put_t12_u : UnfAt (treeB C I g_tree_parser_put.a0 g_tree_parser_put.t12 (St.mk s o) K) g_tree_parser_put_t12_sh := Unf.of _
theorem g_tree_parser_put_t13_sh : treeB C I g_tree_parser_put.a0 (.one 7 R_t12) (St.mk s o) K =
 ((([] : List Nat) = [] ∧ (lstK (partsN 6 [(s 11)]) (fun es1 =>
treeB C I g_tree_parser_put.a0 R_t12 (St.mk (upd s 12 (V.d (D.sl es1))) o) K)))) := rfl
@[instance] theorem g_tree_parser_put_t13_u : UnfAt (treeB C I g_tree_parser_put.a0 g_tree_parser_put.t13 (St.mk s o) K) g_tree_parser_put_t13_sh := Unf.of _
theorem g_tree_parser_put_t14_sh : treeB C I g_tree_parser_put.a0 (.two 5 R_t10 R_t13) (St.mk s o) K =
 ((([] : List Nat) = [] ∧ (demand (loadV o none (s 9)) (fun x1 =>
treeB C I g_tree_parser_put.a0 R_t10 (St.mk (upd s 10 x1) o) K))) ∧ treeB C I g_tree_parser_put.a0 R_t13 (St.mk s o) K) := rfl
@[instance] theorem g_tree_parser_put_t14_u : UnfAt (treeB C I g_tree_parser_put.a0 g_tree_parser_put.t14 (St.mk s o) K) g_tree_parser_put_t14_sh := Unf.of _
theorem g_tree_parser_put_t15_sh : treeB C I g_tree_parser_put.a0 (.one 6 R_t14) (St.mk s o) K =
 ((([] : List Nat) = [] ∧ (demand (loadV o (some 6) (s 3)) (fun x1 =>
treeB C I g_tree_parser_put.a0 R_t14 (St.mk (upd s 11 x1) o) K)))) := rfl
@[instance] theorem g_tree_parser_put_t15_u : UnfAt (treeB C I g_tree_parser_put.a0 g_tree_parser_put.t15 (St.mk s o) K) g_tree_parser_put_t15_sh := Unf.of _
theorem g_tree_parser_put_t16_sh : treeB C I g_tree_parser_put.a0 (.two 5 R_t11 R_t15) (St.mk s o) K =
 ((([] : List Nat) = [] ∧ (demand (loadV o none (s 9)) (fun x1 =>
treeB C I g_tree_parser_put.a0 R_t11 (St.mk (upd s 10 x1) o) K))) ∧ treeB C I g_tree_parser_put.a0 R_t15 (St.mk s o) K) := rfl
@[instance] theorem g_tree_parser_put_t16_u : UnfAt (treeB C I g_tree_parser_put.a0 g_tree_parser_put.t16 (St.mk s o) K) g_tree_parser_put_t16_sh := Unf.of _
theorem g_tree_parser_put_i4_sh : drawB C I g_tree_parser_put.a0 (4 :: []) R_t16 (St.mk s o) K =
 ((s 9) = V.undef ∧ (demand (faddrV 1 (s 8)) (fun x1 => quietV o (x1 :: [(s 8)]) ∧
treeB C I g_tree_parser_put.a0 R_t16 (St.mk (upd s 9 x1) o) K))) := rfl
@[instance] theorem g_tree_parser_put_i4_u : UnfAt (drawB C I g_tree_parser_put.a0 g_tree_parser_put.i4 g_tree_parser_put.t16 (St.mk s o) K) g_tree_parser_put_i4_sh := Unf.of _
theorem g_tree_parser_put_i3_sh : drawB C I g_tree_parser_put.a0 (3 :: R_i4) R_t16 (St.mk s o) K =
 ((s 8) = V.undef ∧ (demand (faddrV 3 (s 7)) (fun x1 => quietV o (x1 :: [(s 7)]) ∧
drawB C I g_tree_parser_put.a0 R_i4 R_t16 (St.mk (upd s 8 x1) o) K))) := rfl
@[instance] theorem g_tree_parser_put_i3_u : UnfAt (drawB C I g_tree_parser_put.a0 g_tree_parser_put.i3 g_tree_parser_put.t16 (St.mk s o) K) g_tree_parser_put_i3_sh := Unf.of _
theorem g_tree_parser_put_i2_sh : drawB C I g_tree_parser_put.a0 (2 :: R_i3) R_t16 (St.mk s o) K =
 ((s 7) = V.undef ∧ (demand (nilcV (s 6)) (fun x1 => quietV o (x1 :: [(s 6)]) ∧
drawB C I g_tree_parser_put.a0 R_i3 R_t16 (St.mk (upd s 7 x1) o) K))) := rfl
@[instance] theorem g_tree_parser_put_i2_u : UnfAt (drawB C I g_tree_parser_put.a0 g_tree_parser_put.i2 g_tree_parser_put.t16 (St.mk s o) K) g_tree_parser_put_i2_sh := Unf.of _
theorem g_tree_parser_put_i1_sh : drawB C I g_tree_parser_put.a0 (1 :: R_i2) R_t16 (St.mk s o) K =
 ((s 6) = V.undef ∧ (quietV o ((s 0) :: [(s 0)]) ∧
drawB C I g_tree_parser_put.a0 R_i2 R_t16 (St.mk (upd s 6 (s 0)) o) K)) := rfl
@[instance] theorem g_tree_parser_put_i1_u : UnfAt (drawB C I g_tree_parser_put.a0 g_tree_parser_put.i1 g_tree_parser_put.t16 (St.mk s o) K) g_tree_parser_put_i1_sh := Unf.of _
theorem g_tree_parser_put_c0_sh : wpB C I (g_tree_parser_put.c0) (St.mk s o) Q =
 (demand (nilcV (s 0)) (fun x1 =>
demand (faddrV 3 x1) (fun x2 =>
demand (faddrV 1 x2) (fun x3 =>
demand (loadV o none x3) (fun x4 =>
demand (lenV o x4) (fun x5 =>
demand (binV BinOp.sub x5 (V.d (.int .i64 1))) (fun x6 =>
Q .ret (St.mk (look [(4, x6)]) o)))))))) := rfl
@[instance] theorem g_tree_parser_put_c0_u : UnfAt (wpB C I g_tree_parser_put.c0 (St.mk s o) Q) g_tree_parser_put_c0_sh := Unf.of _
theorem g_tree_parser_put_code_sh : wpB C I (g_tree_parser_put.codeF R_i1 R_t16 R_c0) (St.mk s o) Q =
 (lstK (cellsV (s 1)) (fun c1 => c1.length = 6 ∧ ¬ I 3 ∧ Fresh (St.mk s o) 3 (some 3) ∧ V.refsL 3 c1 = false ∧
V.undef = V.undef ∧ (quietV (upd o 3 (some (Ob.box c1))) ((s 0) :: [(s 0)]) ∧
drawB C I g_tree_parser_put.a0 R_i1 R_t16 (St.mk (upd (look [(0, s 0), (3, (V.ptr 3 0))]) 5 (s 0)) (upd o 3 (some (Ob.box c1)))) (fun st => (seqK (fun st => wpB C I R_c0 st Q) Q) .normal (St.trim st [0] none))))) := rfl
@[instance] theorem g_tree_parser_put_code_u : UnfAt (wpB C I g_tree_parser_put.code (St.mk s o) Q) g_tree_parser_put_code_sh := Unf.of _
theorem g_tree_parser_sum_c0_sh : wpB C I (g_tree_parser_sum.c0) (St.mk s o) Q =
 (demand ((buildN [V.d (.str []), V.d (.str []), V.d (.int .i64 0), V.d (.int .i64 0), V.d (.int .i64 0), V.d (.int .i64 0)] [(0, 1, (s 6)), (3, 1, (s 5)), (4, 1, (s 8))]).map V.agg) (fun x1 =>
callK C I (St.mk (upd (upd (upd (upd (upd s 24 (s 0)) 25 (s 6)) 26 (s 5)) 27 (s 8)) 28 x1) o) (some 29) 222 [(s 0), x1] (fun r2 or2 =>
Q .normal (St.mk (look [(0, s 0), (1, s 1), (5, r2)]) or2)))) := rfl
@[instance] theorem g_tree_parser_sum_c0_u : UnfAt (wpB C I g_tree_parser_sum.c0 (St.mk s o) Q) g_tree_parser_sum_c0_sh := Unf.of _
theorem g_tree_parser_sum_c1_sh : wpB C I (g_tree_parser_sum.c1F R_c0) (St.mk s o) Q =
 (callK C I (St.mk (upd (upd s 21 (s 0)) 22 (s 1)) o) (some 23) 224 [(s 0), (s 1)] (fun r1 or1 =>
wpB C I R_c0 (St.mk (look [(0, s 0), (1, s 1), (5, s 5), (6, s 6), (8, r1)]) or1) Q)) := rfl
@[instance] theorem g_tree_parser_sum_c1_u : UnfAt (wpB C I g_tree_parser_sum.c1 (St.mk s o) Q) g_tree_parser_sum_c1_sh := Unf.of _
theorem g_tree_parser_sum_c2_sh : wpB C I (g_tree_parser_sum.c2F R_c1) (St.mk s o) Q =
 (demand (unV UnOp.not (s 7)) (fun x1 =>
condK x1
 (Q .ret (St.mk (look [(4, s 5)]) o))
 (wpB C I R_c1 (St.mk (look [(0, s 0), (1, s 1), (5, s 5), (6, s 6), (19, x1)]) o) Q))) := rfl
@[instance] theorem g_tree_parser_sum_c2_u : UnfAt (wpB C I g_tree_parser_sum.c2 (St.mk s o) Q) g_tree_parser_sum_c2_sh := Unf.of _
theorem g_tree_parser_sum_l0_sh (hL : R_l0 = g_tree_parser_sum.l0F R_c2)
 (h : lstK (partsN 1 [(V.d (.str [43])), (V.d (.str [45]))]) (fun es1 =>
callK C I (St.mk (upd (upd (look [(0, s 0), (1, s 1), (5, s 5)]) 13 (s 0)) 14 (V.d (D.sl es1))) o) (some 15) 219 [(s 0), (V.d (D.sl es1))] (fun r2 or2 =>
demand (extV r2 0) (fun x3 =>
demand (extV r2 1) (fun x4 =>
wpB C I R_c2 (St.mk (look [(0, s 0), (1, s 1), (5, s 5), (6, x3), (7, x4)]) or2) (blockK 1 [0, 1, 5] none (seqK (fun s => wpB C I R_l0 s Q) Q))))))) : wpB C I R_l0 (St.mk s o) Q := w_loopC hL h
theorem g_tree_parser_sum_c3_sh : wpB C I (g_tree_parser_sum.c3F R_l0) (St.mk s o) Q =
 (wpB C I R_l0 (St.mk s o) (blockK 0 [4] none Q)) := rfl
@[instance] theorem g_tree_parser_sum_c3_u : UnfAt (wpB C I g_tree_parser_sum.c3 (St.mk s o) Q) g_tree_parser_sum_c3_sh := Unf.of _
theorem g_tree_parser_sum_code_sh : wpB C I (g_tree_parser_sum.codeF R_c3) (St.mk s o) Q =
 (callK C I (St.mk (upd (upd (look [(0, s 0), (1, s 1)]) 9 (s 0)) 10 (s 1)) o) (some 11) 224 [(s 0), (s 1)] (fun r1 or1 =>
wpB C I R_c3 (St.mk (look [(0, s 0), (1, s 1), (5, r1)]) or1) Q)) := rfl
@[instance] theorem g_tree_parser_sum_code_u : UnfAt (wpB C I g_tree_parser_sum.code (St.mk s o) Q) g_tree_parser_sum_code_sh := Unf.of _
theorem g_money_Parse_o1_sh : opsB C I (g_money_Parse.o1) (St.mk s o) K =
 (demand (pickV (s 16) (V.d (.bool true)) (s 19)) (fun x1 =>
K (St.mk (upd s 20 x1) o))) := rfl
@[instance] theorem g_money_Parse_o1_u : UnfAt (opsB C I g_money_Parse.o1 (St.mk s o) K) g_money_Parse_o1_sh := Unf.of _
theorem g_money_Parse_o0_sh : opsB C I (g_money_Parse.o0F R_o1) (St.mk s o) K =
 (guardK (s 16) false
 (callK C I (St.mk (upd (upd (upd s 16 (V.d (D.bool false))) 17 (s 4)) 16 (V.d (D.bool false))) o) (some 18) 58 [(s 4)] (fun r1 or1 =>
demand (unV UnOp.not r1) (fun x2 =>
opsB C I R_o1 (St.mk (look [(0, s 0), (4, s 4), (16, (V.d (D.bool false))), (19, x2)]) (looko ([].map fun n => (n, or1 n)))) K)))
 (opsB C I R_o1 (St.mk (look [(0, s 0), (4, s 4), (16, (V.d (D.bool true))), (19, (V.tup []))]) (looko ([].map fun n => (n, o n)))) K)
 (opsB C I R_o1 (St.mk (look [(0, s 0), (4, s 4), (16, (V.tup [])), (19, (V.tup []))]) (looko ([].map fun n => (n, o n)))) K)) := rfl
@[instance] theorem g_money_Parse_o0_u : UnfAt (opsB C I g_money_Parse.o0 (St.mk s o) K) g_money_Parse_o0_sh := Unf.of _
theorem g_money_Parse_c0_sh : wpB C I (g_money_Parse.c0) (St.mk s o) Q =
 (condK (s 20)
 (Q .ret (St.mk (look [(2, (V.d (.int .i64 0))), (3, (V.d (.bool false)))]) (looko ([].map fun n => (n, o n)))))
 (Q .normal (St.mk s o))) := rfl
@[instance] theorem g_money_Parse_c0_u : UnfAt (wpB C I g_money_Parse.c0 (St.mk s o) Q) g_money_Parse_c0_sh := Unf.of _
theorem g_money_Parse_c1_sh : wpB C I (g_money_Parse.c1) (St.mk s o) Q =
 (demand (binV BinOp.neq (s 6) (s 0)) (fun x1 =>
condK x1
 (Q .ret (St.mk (look [(2, (V.d (.int .i64 0))), (3, (V.d (.bool false)))]) (looko ([].map fun n => (n, o n)))))
 (Q .normal (St.mk (look [(4, s 4), (28, x1)]) (looko ([].map fun n => (n, o n))))))) := rfl
@[instance] theorem g_money_Parse_c1_u : UnfAt (wpB C I g_money_Parse.c1 (St.mk s o) Q) g_money_Parse_c1_sh := Unf.of _
theorem g_money_Parse_c2_sh : wpB C I (g_money_Parse.c2) (St.mk s o) Q =
 (Q .ret (St.mk (look [(2, s 4), (3, (V.d (.bool true)))]) (looko ([].map fun n => (n, o n))))) := rfl
@[instance] theorem g_money_Parse_c2_u : UnfAt (wpB C I g_money_Parse.c2 (St.mk s o) Q) g_money_Parse_c2_sh := Unf.of _
theorem g_money_Parse_c3_sh : wpB C I (g_money_Parse.c3F R_c1 R_c2) (St.mk s o) Q =
 (callK C I (St.mk (upd s 22 (s 4)) o) (some 23) 50 [(s 4)] (fun r1 or1 =>
demand (extV r1 0) (fun x2 =>
demand (extV r1 1) (fun x3 =>
wpB C I R_c1 (St.mk (look [(0, s 0), (4, s 4), (6, x2)]) (looko ([].map fun n => (n, or1 n)))) (seqK (fun st => wpB C I R_c2 st Q) Q))))) := rfl
@[instance] theorem g_money_Parse_c3_u : UnfAt (wpB C I g_money_Parse.c3 (St.mk s o) Q) g_money_Parse_c3_sh := Unf.of _
theorem g_money_Parse_c4_sh : wpB C I (g_money_Parse.c4F R_o0 R_c0 R_c3) (St.mk s o) Q =
 (demand (nilEV true (s 5)) (fun x1 =>
opsB C I R_o0 (St.mk (look [(0, s 0), (4, s 4), (16, x1)]) (looko ([].map fun n => (n, o n)))) (fun st => (seqK (fun st => wpB C I R_c0 st (seqK (fun st => wpB C I R_c3 st Q) Q)) (seqK (fun st => wpB C I R_c3 st Q) Q)) .normal (St.trim st [0, 4, 20] (some []))))) := rfl
@[instance] theorem g_money_Parse_c4_u : UnfAt (wpB C I g_money_Parse.c4 (St.mk s o) Q) g_money_Parse_c4_sh := Unf.of _
theorem g_money_Parse_code_sh : wpB C I (g_money_Parse.codeF R_c4) (St.mk s o) Q =
 (callK C I (St.mk (upd (look [(0, s 0)]) 9 (s 0)) (looko ([].map fun n => (n, o n)))) (some 10) 69 [(s 0), (V.d (.str [46])), (V.d (.str [])), (V.d (.int .i64 1))] (fun r1 or1 =>
callK C I (St.mk (upd (upd (look [(0, s 0)]) 9 (s 0)) 10 r1) or1) (some 11) 70 [r1] (fun r2 or2 =>
demand (extV r2 0) (fun x3 =>
demand (extV r2 1) (fun x4 =>
wpB C I R_c4 (St.mk (look [(0, s 0), (4, x3), (5, x4)]) (looko ([].map fun n => (n, or2 n)))) Q))))) := rfl
@[instance] theorem g_money_Parse_code_u : UnfAt (wpB C I g_money_Parse.code (St.mk s o) Q) g_money_Parse_code_sh := Unf.of _
theorem g_rate_Parse_o3_sh : opsB C I (g_rate_Parse.o3) (St.mk s o) K =
 (demand (pickV (s 24) (V.d (.bool true)) (s 27)) (fun x1 =>
K (St.mk (upd s 28 x1) o))) := rfl
@[instance] theorem g_rate_Parse_o3_u : UnfAt (opsB C I g_rate_Parse.o3 (St.mk s o) K) g_rate_Parse_o3_sh := Unf.of _
theorem g_rate_Parse_o2_sh : opsB C I (g_rate_Parse.o2F R_o3) (St.mk s o) K =
 (guardK (s 24) false
 (callK C I (St.mk (upd (upd (upd s 24 (V.d (D.bool false))) 25 (s 6)) 24 (V.d (D.bool false))) o) (some 26) 88 [(s 6)] (fun r1 or1 =>
demand (unV UnOp.not r1) (fun x2 =>
opsB C I R_o3 (St.mk (look [(6, s 6), (24, (V.d (D.bool false))), (27, x2)]) (looko ([].map fun n => (n, or1 n)))) K)))
 (opsB C I R_o3 (St.mk (look [(6, s 6), (24, (V.d (D.bool true))), (27, (V.tup []))]) (looko ([].map fun n => (n, o n)))) K)
 (opsB C I R_o3 (St.mk (look [(6, s 6), (24, (V.tup [])), (27, (V.tup []))]) (looko ([].map fun n => (n, o n)))) K)) := rfl
@[instance] theorem g_rate_Parse_o2_u : UnfAt (opsB C I g_rate_Parse.o2 (St.mk s o) K) g_rate_Parse_o2_sh := Unf.of _
theorem g_rate_Parse_o1_sh : opsB C I (g_rate_Parse.o1F R_o2) (St.mk s o) K =
 (demand (pickV (s 20) (V.d (.bool true)) (s 22)) (fun x1 =>
opsB C I R_o2 (St.mk (look [(6, s 6), (24, x1)]) (looko ([].map fun n => (n, o n)))) K)) := rfl
@[instance] theorem g_rate_Parse_o1_u : UnfAt (opsB C I g_rate_Parse.o1 (St.mk s o) K) g_rate_Parse_o1_sh := Unf.of _
theorem g_rate_Parse_o0_sh : opsB C I (g_rate_Parse.o0F R_o1) (St.mk s o) K =
 (guardK (s 20) false
 (demand (unV UnOp.not (s 7)) (fun x1 =>
opsB C I R_o1 (St.mk (look [(6, s 6), (20, (V.d (D.bool false))), (22, x1)]) (looko ([].map fun n => (n, o n)))) K))
 (opsB C I R_o1 (St.mk (look [(6, s 6), (20, (V.d (D.bool true))), (22, (V.tup []))]) (looko ([].map fun n => (n, o n)))) K)
 (opsB C I R_o1 (St.mk (look [(6, s 6), (20, (V.tup [])), (22, (V.tup []))]) (looko ([].map fun n => (n, o n)))) K)) := rfl
@[instance] theorem g_rate_Parse_o0_u : UnfAt (opsB C I g_rate_Parse.o0 (St.mk s o) K) g_rate_Parse_o0_sh := Unf.of _
theorem g_rate_Parse_c0_sh : wpB C I (g_rate_Parse.c0) (St.mk s o) Q =
 (condK (s 28)
 (Q .ret (St.mk (look [(2, (V.d (.int .i64 0))), (3, (V.d (.bool false)))]) (looko ([].map fun n => (n, o n)))))
 (Q .normal (St.mk s o))) := rfl
@[instance] theorem g_rate_Parse_c0_u : UnfAt (wpB C I g_rate_Parse.c0 (St.mk s o) Q) g_rate_Parse_c0_sh := Unf.of _
theorem g_rate_Parse_c1_sh : wpB C I (g_rate_Parse.c1) (St.mk s o) Q =
 (Q .ret (St.mk (look [(2, s 6), (3, (V.d (.bool true)))]) (looko ([].map fun n => (n, o n))))) := rfl
@[instance] theorem g_rate_Parse_c1_u : UnfAt (wpB C I g_rate_Parse.c1 (St.mk s o) Q) g_rate_Parse_c1_sh := Unf.of _
theorem g_rate_Parse_c2_sh : wpB C I (g_rate_Parse.c2F R_o0 R_c0 R_c1) (St.mk s o) Q =
 (demand (unV UnOp.not (s 5)) (fun x1 =>
opsB C I R_o0 (St.mk (look [(6, s 6), (7, s 7), (20, x1)]) (looko ([].map fun n => (n, o n)))) (fun st => (seqK (fun st => wpB C I R_c0 st (seqK (fun st => wpB C I R_c1 st Q) Q)) (seqK (fun st => wpB C I R_c1 st Q) Q)) .normal (St.trim st [6, 28] (some []))))) := rfl
@[instance] theorem g_rate_Parse_c2_u : UnfAt (wpB C I g_rate_Parse.c2 (St.mk s o) Q) g_rate_Parse_c2_sh := Unf.of _
theorem g_rate_Parse_c3_sh : wpB C I (g_rate_Parse.c3F R_c2) (St.mk s o) Q =
 (callK C I (St.mk (upd s 14 (s 4)) o) (some 15) 51 [(s 4)] (fun r1 or1 =>
demand (extV r1 0) (fun x2 =>
demand (extV r1 1) (fun x3 =>
wpB C I R_c2 (St.mk (look [(5, s 5), (6, x2), (7, x3)]) (looko ([].map fun n => (n, or1 n)))) Q)))) := rfl
@[instance] theorem g_rate_Parse_c3_u : UnfAt (wpB C I g_rate_Parse.c3 (St.mk s o) Q) g_rate_Parse_c3_sh := Unf.of _
theorem g_rate_Parse_code_sh : wpB C I (g_rate_Parse.codeF R_c3) (St.mk s o) Q =
 (callK C I (St.mk (upd (look [(0, s 0)]) 9 (s 0)) (looko ([].map fun n => (n, o n)))) (some 10) 101 [(s 0), (V.d (.str [37]))] (fun r1 or1 =>
demand (extV r1 0) (fun x2 =>
demand (extV r1 1) (fun x3 =>
wpB C I R_c3 (St.mk (look [(4, x2), (5, x3)]) (looko ([].map fun n => (n, or1 n)))) Q)))) := rfl
@[instance] theorem g_rate_Parse_code_u : UnfAt (wpB C I g_rate_Parse.code (St.mk s o) Q) g_rate_Parse_code_sh := Unf.of _
theorem g_strings_HasPrefix_code_sh : wpB C I (g_strings_HasPrefix.code) (St.mk s o) Q =
 (callK C I (St.mk (upd (upd (look [(0, s 0), (1, s 1)]) 5 (s 0)) 6 (s 1)) (looko ([].map fun n => (n, o n)))) (some 7) 131 [(s 0), (s 1)] (fun r1 or1 =>
Q .ret (St.mk (look [(4, r1)]) (looko ([].map fun n => (n, or1 n)))))) := rfl
@[instance] theorem g_strings_HasPrefix_code_u : UnfAt (wpB C I g_strings_HasPrefix.code (St.mk s o) Q) g_strings_HasPrefix_code_sh := Unf.of _
theorem g_tree_parser_product_c0_sh : wpB C I (g_tree_parser_product.c0) (St.mk s o) Q =
 (demand (unV UnOp.not (s 7)) (fun x1 =>
condK x1
 (Q .ret (St.mk (look [(4, s 5)]) o))
 (Q .normal (St.mk (look [(0, s 0), (1, s 1), (5, s 5), (19, x1)]) o)))) := rfl
@[instance] theorem g_tree_parser_product_c0_u : UnfAt (wpB C I g_tree_parser_product.c0 (St.mk s o) Q) g_tree_parser_product_c0_sh := Unf.of _
theorem g_tree_parser_product_c1_sh : wpB C I (g_tree_parser_product.c1) (St.mk s o) Q =
 (demand ((buildN [V.d (.str []), V.d (.str []), V.d (.int .i64 0), V.d (.int .i64 0), V.d (.int .i64 0), V.d (.int .i64 0)] [(0, 1, (V.d (.str [42]))), (3, 1, (s 5)), (4, 1, (s 8))]).map V.agg) (fun x1 =>
callK C I (St.mk (upd (upd (upd (upd s 24 (s 0)) 25 (s 5)) 26 (s 8)) 27 x1) o) (some 28) 222 [(s 0), x1] (fun r2 or2 =>
Q .normal (St.mk (look [(0, s 0), (1, s 1), (5, r2)]) or2)))) := rfl
@[instance] theorem g_tree_parser_product_c1_u : UnfAt (wpB C I g_tree_parser_product.c1 (St.mk s o) Q) g_tree_parser_product_c1_sh := Unf.of _
theorem g_tree_parser_product_c2_sh : wpB C I (g_tree_parser_product.c2F R_c1) (St.mk s o) Q =
 (callK C I (St.mk (upd (upd s 21 (s 0)) 22 (s 1)) o) (some 23) 225 [(s 0), (s 1)] (fun r1 or1 =>
wpB C I R_c1 (St.mk (look [(0, s 0), (1, s 1), (5, s 5), (8, r1)]) or1) Q)) := rfl
@[instance] theorem g_tree_parser_product_c2_u : UnfAt (wpB C I g_tree_parser_product.c2 (St.mk s o) Q) g_tree_parser_product_c2_sh := Unf.of _
theorem g_tree_parser_product_l0_sh (hL : R_l0 = g_tree_parser_product.l0F R_c0 R_c2)
 (h : lstK (partsN 1 [(V.d (.str [42]))]) (fun es1 =>
callK C I (St.mk (upd (upd (look [(0, s 0), (1, s 1), (5, s 5)]) 13 (s 0)) 14 (V.d (D.sl es1))) o) (some 15) 219 [(s 0), (V.d (D.sl es1))] (fun r2 or2 =>
demand (extV r2 0) (fun x3 =>
demand (extV r2 1) (fun x4 =>
wpB C I R_c0 (St.mk (look [(0, s 0), (1, s 1), (5, s 5), (7, x4)]) or2) (seqK (fun st => wpB C I R_c2 st (blockK 1 [0, 1, 5] none (seqK (fun s => wpB C I R_l0 s Q) Q))) (blockK 1 [0, 1, 5] none (seqK (fun s => wpB C I R_l0 s Q) Q)))))))) : wpB C I R_l0 (St.mk s o) Q := w_loopC hL h
theorem g_tree_parser_product_c3_sh : wpB C I (g_tree_parser_product.c3F R_l0) (St.mk s o) Q =
 (wpB C I R_l0 (St.mk s o) (blockK 0 [4] none Q)) := rfl
@[instance] theorem g_tree_parser_product_c3_u : UnfAt (wpB C I g_tree_parser_product.c3 (St.mk s o) Q) g_tree_parser_product_c3_sh := Unf.of _
theorem g_tree_parser_product_code_sh : wpB C I (g_tree_parser_product.codeF R_c3) (St.mk s o) Q =
 (callK C I (St.mk (upd (upd (look [(0, s 0), (1, s 1)]) 9 (s 0)) 10 (s 1)) o) (some 11) 225 [(s 0), (s 1)] (fun r1 or1 =>
wpB C I R_c3 (St.mk (look [(0, s 0), (1, s 1), (5, r1)]) or1) Q)) := rfl
@[instance] theorem g_tree_parser_product_code_u : UnfAt (wpB C I g_tree_parser_product.code (St.mk s o) Q) g_tree_parser_product_code_sh := Unf.of _
theorem g_money_Text_c0_sh : wpB C I (g_money_Text.c0) (St.mk s o) Q =
 ((s 17) = V.undef ∧ (quietV o ((s 4) :: [(s 4)]) ∧
(s 18) = V.undef ∧ (quietV o ((s 0) :: [(s 0)]) ∧
(s 19) = V.undef ∧ (demand (binV BinOp.quo (s 0) (V.d (.int .i64 100))) (fun x3 => quietV o (x3 :: [(s 0), (V.d (.int .i64 100))]) ∧
(s 20) = V.undef ∧ (∃ x4, SoundAt C 68 ⟨[x3], fun _ => none⟩ ⟨x4, fun _ => none⟩ ∧ (∀ n, V.refs n x4 = false) ∧ quietV o (x4 :: [x3]) ∧
(s 21) = V.undef ∧ (demand (binV BinOp.add (s 4) x4) (fun x5 => quietV o (x5 :: [(s 4), x4]) ∧
(s 22) = V.undef ∧ (demand (binV BinOp.add x5 (V.d (.str [46]))) (fun x6 => quietV o (x6 :: [x5, (V.d (.str [46]))]) ∧
(s 23) = V.undef ∧ (quietV o ((s 5) :: [(s 5)]) ∧
(s 24) = V.undef ∧ (demand (slcSV (s 5) (some (V.d (.int .i64 1))) none) (fun x8 => quietV o (x8 :: [(s 5), (V.d (.int .i64 1))]) ∧
(s 25) = V.undef ∧ (demand (binV BinOp.add x6 x8) (fun x9 => quietV o (x9 :: [x6, x8]) ∧
(s 2) = V.undef ∧ (quietV o (x9 :: [x9]) ∧
(s 3) = V.undef ∧ (quietV o ((V.d (.int .i64 0)) :: [(V.d (.int .i64 0))]) ∧
Q .ret (St.mk (look [(2, x9), (3, (V.d (.int .i64 0)))]) (looko ([].map fun n => (n, o n))))))))))))))))))))) := rfl
@[instance] theorem g_money_Text_c0_u : UnfAt (wpB C I g_money_Text.c0 (St.mk s o) Q) g_money_Text_c0_sh := Unf.of _
theorem g_money_Text_c1_sh : wpB C I (g_money_Text.c1F R_c0) (St.mk s o) Q =
 (demand (binV BinOp.rem (s 0) (V.d (.int .i64 100))) (fun x1 =>
demand (binV BinOp.add (V.d (.int .i64 100)) x1) (fun x2 =>
callK C I (St.mk (upd (upd (upd s 13 (s 0)) 14 x1) 15 x2) o) (some 16) 68 [x2] (fun r3 or3 =>
wpB C I R_c0 (St.mk (look [(0, s 0), (4, s 4), (5, r3)]) (looko ([].map fun n => (n, or3 n)))) Q)))) := rfl
@[instance] theorem g_money_Text_c1_u : UnfAt (wpB C I g_money_Text.c1 (St.mk s o) Q) g_money_Text_c1_sh := Unf.of _
theorem g_money_Text_c2_sh : wpB C I (g_money_Text.c2F R_c1) (St.mk s o) Q =
 (demand (binV BinOp.lss (s 0) (V.d (.int .i64 0))) (fun x1 =>
condK x1
 (demand (unV UnOp.neg (s 0)) (fun x2 =>
wpB C I R_c1 (St.mk (look [(0, x2), (4, (V.d (.str [45])))]) (looko ([].map fun n => (n, o n)))) Q))
 (wpB C I R_c1 (St.mk (look [(0, s 0), (4, (V.d (.str []))), (10, x1)]) (looko ([].map fun n => (n, o n)))) Q))) := rfl
@[instance] theorem g_money_Text_c2_u : UnfAt (wpB C I g_money_Text.c2 (St.mk s o) Q) g_money_Text_c2_sh := Unf.of _
theorem g_money_Text_code_sh : wpB C I (g_money_Text.codeF R_c2) (St.mk s o) Q =
 (callK C I (St.mk (upd (look [(0, s 0)]) 6 (s 0)) (looko ([].map fun n => (n, o n)))) (some 7) 58 [(s 0)] (fun r1 or1 =>
demand (unV UnOp.not r1) (fun x2 =>
condK x2
 (Q .ret (St.mk (look [(2, (V.d (.str []))), (3, (V.d (.int .i64 3)))]) (looko ([].map fun n => (n, or1 n)))))
 (wpB C I R_c2 (St.mk (look [(0, s 0), (8, x2)]) (looko ([].map fun n => (n, or1 n)))) Q)))) := rfl
@[instance] theorem g_money_Text_code_u : UnfAt (wpB C I g_money_Text.code (St.mk s o) Q) g_money_Text_code_sh := Unf.of _
theorem g_money_Right_code_sh : wpB C I (g_money_Right.code) (St.mk s o) Q =
 (demand (binV BinOp.geq (s 0) (V.d (.int .i64 (-9223372036854775807)))) (fun x1 =>
Q .ret (St.mk (look [(2, x1)]) (looko ([].map fun n => (n, o n)))))) := rfl
@[instance] theorem g_money_Right_code_u : UnfAt (wpB C I g_money_Right.code (St.mk s o) Q) g_money_Right_code_sh := Unf.of _
theorem g_strings_CutSuffix_code_sh : wpB C I (g_strings_CutSuffix.code) (St.mk s o) Q =
 (callK C I (St.mk (upd (upd (look [(0, s 0), (1, s 1)]) 6 (s 0)) 7 (s 1)) (looko ([].map fun n => (n, o n)))) (some 8) 122 [(s 0), (s 1)] (fun r1 or1 =>
demand (extV r1 0) (fun x2 =>
demand (extV r1 1) (fun x3 =>
Q .ret (St.mk (look [(4, x2), (5, x3)]) (looko ([].map fun n => (n, or1 n)))))))) := rfl
@[instance] theorem g_strings_CutSuffix_code_u : UnfAt (wpB C I g_strings_CutSuffix.code (St.mk s o) Q) g_strings_CutSuffix_code_sh := Unf.of _
theorem g_rate_Right_o1_sh : opsB C I (g_rate_Right.o1) (St.mk s o) K =
 (demand (pickV (s 5) (s 7) (V.d (.bool false))) (fun x1 =>
K (St.mk (upd (upd s 8 x1) 2 x1) o))) := rfl
@[instance] theorem g_rate_Right_o1_u : UnfAt (opsB C I g_rate_Right.o1 (St.mk s o) K) g_rate_Right_o1_sh := Unf.of _
theorem g_rate_Right_o0_sh : opsB C I (g_rate_Right.o0F R_o1) (St.mk s o) K =
 (guardK (s 5) true
 (demand (binV BinOp.leq (s 0) (V.d (.int .i64 10000))) (fun x1 =>
opsB C I R_o1 (St.mk (look [(5, (V.d (D.bool true))), (7, x1)]) (looko ([].map fun n => (n, o n)))) K))
 (opsB C I R_o1 (St.mk (look [(5, (V.d (D.bool false))), (7, (V.tup []))]) (looko ([].map fun n => (n, o n)))) K)
 (opsB C I R_o1 (St.mk (look [(5, (V.tup [])), (7, (V.tup []))]) (looko ([].map fun n => (n, o n)))) K)) := rfl
@[instance] theorem g_rate_Right_o0_u : UnfAt (opsB C I g_rate_Right.o0 (St.mk s o) K) g_rate_Right_o0_sh := Unf.of _
theorem g_rate_Right_c0_sh : wpB C I (g_rate_Right.c0) (St.mk s o) Q =
 (Q .ret (St.mk s o)) := rfl
@[instance] theorem g_rate_Right_c0_u : UnfAt (wpB C I g_rate_Right.c0 (St.mk s o) Q) g_rate_Right_c0_sh := Unf.of _
theorem g_rate_Right_code_sh : wpB C I (g_rate_Right.codeF R_o0 R_c0) (St.mk s o) Q =
 (demand (binV BinOp.geq (s 0) (V.d (.int .i64 0))) (fun x1 =>
opsB C I R_o0 (St.mk (look [(0, s 0), (5, x1)]) (looko ([].map fun n => (n, o n)))) (fun st => (seqK (fun st => wpB C I R_c0 st Q) Q) .normal (St.trim st [2] (some []))))) := rfl
@[instance] theorem g_rate_Right_code_u : UnfAt (wpB C I g_rate_Right.code (St.mk s o) Q) g_rate_Right_code_sh := Unf.of _
theorem g_internal_stringslite_HasPrefix_o1_sh : opsB C I (g_internal_stringslite_HasPrefix.o1) (St.mk s o) K =
 (demand (pickV (s 10) (s 16) (V.d (.bool false))) (fun x1 =>
K (St.mk (upd (upd s 17 x1) 4 x1) o))) := rfl
@[instance] theorem g_internal_stringslite_HasPrefix_o1_u : UnfAt (opsB C I g_internal_stringslite_HasPrefix.o1 (St.mk s o) K) g_internal_stringslite_HasPrefix_o1_sh := Unf.of _
theorem g_internal_stringslite_HasPrefix_o0_sh : opsB C I (g_internal_stringslite_HasPrefix.o0F R_o1) (St.mk s o) K =
 (guardK (s 10) true
 (demand (lenSV (s 1)) (fun x1 =>
demand (slcSV (s 0) none (some x1)) (fun x2 =>
demand (binV BinOp.eql x2 (s 1)) (fun x3 =>
opsB C I R_o1 (St.mk (look [(10, (V.d (D.bool true))), (16, x3)]) (looko ([].map fun n => (n, o n)))) K))))
 (opsB C I R_o1 (St.mk (look [(10, (V.d (D.bool false))), (16, (V.tup []))]) (looko ([].map fun n => (n, o n)))) K)
 (opsB C I R_o1 (St.mk (look [(10, (V.tup [])), (16, (V.tup []))]) (looko ([].map fun n => (n, o n)))) K)) := rfl
@[instance] theorem g_internal_stringslite_HasPrefix_o0_u : UnfAt (opsB C I g_internal_stringslite_HasPrefix.o0 (St.mk s o) K) g_internal_stringslite_HasPrefix_o0_sh := Unf.of _
theorem g_internal_stringslite_HasPrefix_c0_sh : wpB C I (g_internal_stringslite_HasPrefix.c0) (St.mk s o) Q =
 (Q .ret (St.mk s o)) := rfl
@[instance] theorem g_internal_stringslite_HasPrefix_c0_u : UnfAt (wpB C I g_internal_stringslite_HasPrefix.c0 (St.mk s o) Q) g_internal_stringslite_HasPrefix_c0_sh := Unf.of _
theorem g_internal_stringslite_HasPrefix_code_sh : wpB C I (g_internal_stringslite_HasPrefix.codeF R_o0 R_c0) (St.mk s o) Q =
 (demand (lenSV (s 0)) (fun x1 =>
demand (lenSV (s 1)) (fun x2 =>
demand (binV BinOp.geq x1 x2) (fun x3 =>
opsB C I R_o0 (St.mk (look [(0, s 0), (1, s 1), (10, x3)]) (looko ([].map fun n => (n, o n)))) (fun st => (seqK (fun st => wpB C I R_c0 st Q) Q) .normal (St.trim st [4] (some []))))))) := rfl
@[instance] theorem g_internal_stringslite_HasPrefix_code_u : UnfAt (wpB C I g_internal_stringslite_HasPrefix.code (St.mk s o) Q) g_internal_stringslite_HasPrefix_code_sh := Unf.of _
theorem g_tree_parser_factor_c0_sh : wpB C I (g_tree_parser_factor.c0) (St.mk s o) Q =
 (condK (s 6)
 (demand (binV BinOp.add (s 1) (V.d (.int .i64 1))) (fun x1 =>
callK C I (St.mk (upd (upd (upd (upd (look [(0, s 0), (1, s 1), (27, s 6)]) 28 (s 0)) 29 (s 0)) 30 (s 1)) 31 x1) o) (some 32) 225 [(s 0), x1] (fun r2 or2 =>
demand ((buildN [V.d (.str []), V.d (.str []), V.d (.int .i64 0), V.d (.int .i64 0), V.d (.int .i64 0), V.d (.int .i64 0)] [(0, 1, (V.d (.str [110, 101, 103]))), (3, 1, r2)]).map V.agg) (fun x3 =>
callK C I (St.mk (upd (upd (upd (upd (upd (upd (look [(0, s 0), (1, s 1), (27, s 6)]) 28 (s 0)) 29 (s 0)) 30 (s 1)) 31 x1) 32 r2) 33 x3) or2) (some 34) 222 [(s 0), x3] (fun r4 or4 =>
Q .ret (St.mk (look [(4, r4)]) or4))))))
 (Q .normal (St.mk (look [(0, s 0), (1, s 1), (27, s 6)]) o))) := rfl
@[instance] theorem g_tree_parser_factor_c0_u : UnfAt (wpB C I g_tree_parser_factor.c0 (St.mk s o) Q) g_tree_parser_factor_c0_sh := Unf.of _
theorem g_tree_parser_factor_c1_sh : wpB C I (g_tree_parser_factor.c1) (St.mk s o) Q =
 (condK (s 8)
 (callK C I (St.mk (upd (upd (upd (look [(0, s 0), (1, s 1), (7, s 7), (41, s 8)]) 42 (s 0)) 43 (s 7)) 44 (s 1)) o) (some 45) 226 [(s 0), (s 7), (s 1)] (fun r1 or1 =>
Q .ret (St.mk (look [(4, r1)]) or1)))
 (Q .normal (St.mk (look [(0, s 0), (1, s 1), (7, s 7), (41, s 8)]) o))) := rfl
@[instance] theorem g_tree_parser_factor_c1_u : UnfAt (wpB C I g_tree_parser_factor.c1 (St.mk s o) Q) g_tree_parser_factor_c1_sh := Unf.of _
theorem g_tree_parser_factor_c2_sh : wpB C I (g_tree_parser_factor.c2) (St.mk s o) Q =
 (callK C I (St.mk (upd s 57 (s 0)) o) (some 58) 220 [(s 0), (V.d (.str [41]))] (fun r1 or1 =>
Q .ret (St.mk (look [(4, s 11)]) or1))) := rfl
@[instance] theorem g_tree_parser_factor_c2_u : UnfAt (wpB C I g_tree_parser_factor.c2 (St.mk s o) Q) g_tree_parser_factor_c2_sh := Unf.of _
theorem g_tree_parser_factor_c3_sh : wpB C I (g_tree_parser_factor.c3F R_c2) (St.mk s o) Q =
 (condK (s 10)
 (demand (binV BinOp.add (s 1) (V.d (.int .i64 1))) (fun x1 =>
callK C I (St.mk (upd (upd (upd (look [(0, s 0), (1, s 1), (52, s 10)]) 53 (s 0)) 54 (s 1)) 55 x1) o) (some 56) 221 [(s 0), x1] (fun r2 or2 =>
wpB C I R_c2 (St.mk (look [(0, s 0), (11, r2)]) or2) Q)))
 (Q .normal (St.mk (look [(0, s 0), (1, s 1), (52, s 10)]) o))) := rfl
@[instance] theorem g_tree_parser_factor_c3_u : UnfAt (wpB C I g_tree_parser_factor.c3 (St.mk s o) Q) g_tree_parser_factor_c3_sh := Unf.of _
theorem g_tree_parser_factor_c4_sh : wpB C I (g_tree_parser_factor.c4) (St.mk s o) Q =
 (callK C I (St.mk (upd s 60 (s 0)) o) (some 61) 227 [(s 0)] (fun r1 or1 =>
Q .ret (St.mk (look [(4, r1)]) or1))) := rfl
@[instance] theorem g_tree_parser_factor_c4_u : UnfAt (wpB C I g_tree_parser_factor.c4 (St.mk s o) Q) g_tree_parser_factor_c4_sh := Unf.of _
theorem g_tree_parser_factor_c5_sh : wpB C I (g_tree_parser_factor.c5F R_c3 R_c4) (St.mk s o) Q =
 (lstK (partsN 1 [(V.d (.str [40]))]) (fun es1 =>
callK C I (St.mk (upd (upd s 47 (s 0)) 48 (V.d (D.sl es1))) o) (some 49) 219 [(s 0), (V.d (D.sl es1))] (fun r2 or2 =>
demand (extV r2 0) (fun x3 =>
demand (extV r2 1) (fun x4 =>
wpB C I R_c3 (St.mk (look [(0, s 0), (1, s 1), (10, x4)]) or2) (seqK (fun st => wpB C I R_c4 st Q) Q)))))) := rfl
@[instance] theorem g_tree_parser_factor_c5_u : UnfAt (wpB C I g_tree_parser_factor.c5 (St.mk s o) Q) g_tree_parser_factor_c5_sh := Unf.of _
theorem g_tree_parser_factor_c6_sh : wpB C I (g_tree_parser_factor.c6F R_c1 R_c5) (St.mk s o) Q =
 (lstK (partsN 1 [(V.d (.str [109, 105, 110])), (V.d (.str [109, 97, 120]))]) (fun es1 =>
callK C I (St.mk (upd (upd s 36 (s 0)) 37 (V.d (D.sl es1))) o) (some 38) 219 [(s 0), (V.d (D.sl es1))] (fun r2 or2 =>
demand (extV r2 0) (fun x3 =>
demand (extV r2 1) (fun x4 =>
wpB C I R_c1 (St.mk (look [(0, s 0), (1, s 1), (7, x3), (8, x4)]) or2) (seqK (fun st => wpB C I R_c5 st Q) Q)))))) := rfl
@[instance] theorem g_tree_parser_factor_c6_u : UnfAt (wpB C I g_tree_parser_factor.c6 (St.mk s o) Q) g_tree_parser_factor_c6_sh := Unf.of _
theorem g_tree_parser_factor_c7_sh : wpB C I (g_tree_parser_factor.c7F R_c0 R_c6) (St.mk s o) Q =
 (lstK (partsN 1 [(V.d (.str [45]))]) (fun es1 =>
callK C I (St.mk (upd (upd s 22 (s 0)) 23 (V.d (D.sl es1))) o) (some 24) 219 [(s 0), (V.d (D.sl es1))] (fun r2 or2 =>
demand (extV r2 0) (fun x3 =>
demand (extV r2 1) (fun x4 =>
wpB C I R_c0 (St.mk (look [(0, s 0), (1, s 1), (6, x4)]) or2) (seqK (fun st => wpB C I R_c6 st Q) Q)))))) := rfl
@[instance] theorem g_tree_parser_factor_c7_u : UnfAt (wpB C I g_tree_parser_factor.c7 (St.mk s o) Q) g_tree_parser_factor_c7_sh := Unf.of _
theorem g_tree_parser_factor_c8_sh : wpB C I (g_tree_parser_factor.c8F R_c7) (St.mk s o) Q =
 (demand (nilcV (s 0)) (fun x1 =>
demand (faddrV 5 x1) (fun x2 =>
demand (loadV o none x2) (fun x3 =>
demand (binV BinOp.neq x3 (V.d (.int .i64 0))) (fun x4 =>
condK x4
 (Q .ret (St.mk (look [(4, (V.d (.int .i64 0)))]) o))
 (wpB C I R_c7 (St.mk (look [(0, s 0), (1, s 1), (20, x4)]) o) Q)))))) := rfl
@[instance] theorem g_tree_parser_factor_c8_u : UnfAt (wpB C I g_tree_parser_factor.c8 (St.mk s o) Q) g_tree_parser_factor_c8_sh := Unf.of _
theorem g_tree_parser_factor_code_sh : wpB C I (g_tree_parser_factor.codeF R_c8) (St.mk s o) Q =
 (demand (binV BinOp.gtr (s 1) (V.d (.int .i64 20))) (fun x1 =>
condK x1
 (callK C I (St.mk (upd (look [(0, s 0), (1, s 1), (13, x1)]) 14 (s 0)) o) (some 15) 218 [(s 0), (V.d (.int .i64 9))] (fun r2 or2 =>
wpB C I R_c8 (St.mk (look [(0, s 0), (1, s 1)]) or2) Q))
 (wpB C I R_c8 (St.mk (look [(0, s 0), (1, s 1), (13, x1)]) o) Q))) := rfl
@[instance] theorem g_tree_parser_factor_code_u : UnfAt (wpB C I g_tree_parser_factor.code (St.mk s o) Q) g_tree_parser_factor_code_sh := Unf.of _
theorem g_internal_stringslite_CutSuffix_c0_sh : wpB C I (g_internal_stringslite_CutSuffix.c0) (St.mk s o) Q =
 (demand (lenSV (s 0)) (fun x1 =>
demand (lenSV (s 1)) (fun x2 =>
demand (binV BinOp.sub x1 x2) (fun x3 =>
demand (slcSV (s 0) none (some x3)) (fun x4 =>
Q .ret (St.mk (look [(4, x4), (5, (V.d (.bool true)))]) (looko ([].map fun n => (n, o n))))))))) := rfl
@[instance] theorem g_internal_stringslite_CutSuffix_c0_u : UnfAt (wpB C I g_internal_stringslite_CutSuffix.c0 (St.mk s o) Q) g_internal_stringslite_CutSuffix_c0_sh := Unf.of _
theorem g_internal_stringslite_CutSuffix_code_sh : wpB C I (g_internal_stringslite_CutSuffix.codeF R_c0) (St.mk s o) Q =
 (callK C I (St.mk (upd (upd (look [(0, s 0), (1, s 1)]) 6 (s 0)) 7 (s 1)) (looko ([].map fun n => (n, o n)))) (some 8) 141 [(s 0), (s 1)] (fun r1 or1 =>
demand (unV UnOp.not r1) (fun x2 =>
condK x2
 (Q .ret (St.mk (look [(4, s 0), (5, (V.d (.bool false)))]) (looko ([].map fun n => (n, or1 n)))))
 (wpB C I R_c0 (St.mk (look [(0, s 0), (1, s 1), (9, x2)]) (looko ([].map fun n => (n, or1 n)))) Q)))) := rfl
@[instance] theorem g_internal_stringslite_CutSuffix_code_u : UnfAt (wpB C I g_internal_stringslite_CutSuffix.code (St.mk s o) Q) g_internal_stringslite_CutSuffix_code_sh := Unf.of _
theorem g_tree_parser_pair_c0_sh : wpB C I (g_tree_parser_pair.c0) (St.mk s o) Q =
 (callK C I (St.mk (upd s 21 (s 0)) o) (some 22) 220 [(s 0), (V.d (.str [41]))] (fun r1 or1 =>
demand ((buildN [V.d (.str []), V.d (.str []), V.d (.int .i64 0), V.d (.int .i64 0), V.d (.int .i64 0), V.d (.int .i64 0)] [(0, 1, (s 1)), (3, 1, (s 7)), (4, 1, (s 8))]).map V.agg) (fun x2 =>
callK C I (St.mk (upd (upd (upd (upd (upd (look [(0, s 0), (1, s 1), (7, s 7), (8, s 8)]) 23 (s 0)) 24 (s 1)) 25 (s 7)) 26 (s 8)) 27 x2) or1) (some 28) 222 [(s 0), x2] (fun r3 or3 =>
Q .ret (St.mk (look [(6, r3)]) or3))))) := rfl
@[instance] theorem g_tree_parser_pair_c0_u : UnfAt (wpB C I g_tree_parser_pair.c0 (St.mk s o) Q) g_tree_parser_pair_c0_sh := Unf.of _
theorem g_tree_parser_pair_c1_sh : wpB C I (g_tree_parser_pair.c1F R_c0) (St.mk s o) Q =
 (callK C I (St.mk (upd s 15 (s 0)) o) (some 16) 220 [(s 0), (V.d (.str [44]))] (fun r1 or1 =>
demand (binV BinOp.add (s 2) (V.d (.int .i64 1))) (fun x2 =>
callK C I (St.mk (upd (upd (upd (look [(0, s 0), (1, s 1), (2, s 2), (7, s 7)]) 17 (s 0)) 18 (s 2)) 19 x2) or1) (some 20) 221 [(s 0), x2] (fun r3 or3 =>
wpB C I R_c0 (St.mk (look [(0, s 0), (1, s 1), (7, s 7), (8, r3)]) or3) Q)))) := rfl
@[instance] theorem g_tree_parser_pair_c1_u : UnfAt (wpB C I g_tree_parser_pair.c1 (St.mk s o) Q) g_tree_parser_pair_c1_sh := Unf.of _
theorem g_tree_parser_pair_code_sh : wpB C I (g_tree_parser_pair.codeF R_c1) (St.mk s o) Q =
 (callK C I (St.mk (upd (look [(0, s 0), (1, s 1), (2, s 2)]) 9 (s 0)) o) (some 10) 220 [(s 0), (V.d (.str [40]))] (fun r1 or1 =>
demand (binV BinOp.add (s 2) (V.d (.int .i64 1))) (fun x2 =>
callK C I (St.mk (upd (upd (upd (look [(0, s 0), (1, s 1), (2, s 2)]) 11 (s 0)) 12 (s 2)) 13 x2) or1) (some 14) 221 [(s 0), x2] (fun r3 or3 =>
wpB C I R_c1 (St.mk (look [(0, s 0), (1, s 1), (2, s 2), (7, r3)]) or3) Q)))) := rfl
@[instance] theorem g_tree_parser_pair_code_u : UnfAt (wpB C I g_tree_parser_pair.code (St.mk s o) Q) g_tree_parser_pair_code_sh := Unf.of _
theorem g_tree_parser_leaf_c0_sh : wpB C I (g_tree_parser_leaf.c0) (St.mk s o) Q =
 (demand ((buildN [V.d (.str []), V.d (.str []), V.d (.int .i64 0), V.d (.int .i64 0), V.d (.int .i64 0), V.d (.int .i64 0)] [(0, 1, (V.d (.str [119, 104, 111, 108, 101]))), (2, 1, (s 5))]).map V.agg) (fun x1 =>
storeK (s 4) (cellsV x1) 6 o (fun m2 ob3 =>
Q .normal (St.mk (look [(0, s 0), (3, s 3), (4, s 4)]) (upd o m2 (some ob3)))))) := rfl
@[instance] theorem g_tree_parser_leaf_c0_u : UnfAt (wpB C I g_tree_parser_leaf.c0 (St.mk s o) Q) g_tree_parser_leaf_c0_sh := Unf.of _
theorem g_tree_parser_leaf_c1_sh : wpB C I (g_tree_parser_leaf.c1) (St.mk s o) Q =
 (demand ((buildN [V.d (.str []), V.d (.str []), V.d (.int .i64 0), V.d (.int .i64 0), V.d (.int .i64 0), V.d (.int .i64 0)] [(0, 1, (V.d (.str [97, 109, 111, 117, 110, 116]))), (2, 1, (s 7))]).map V.agg) (fun x1 =>
storeK (s 4) (cellsV x1) 6 o (fun m2 ob3 =>
Q .normal (St.mk (look [(0, s 0), (3, s 3), (4, s 4)]) (upd o m2 (some ob3)))))) := rfl
@[instance] theorem g_tree_parser_leaf_c1_u : UnfAt (wpB C I g_tree_parser_leaf.c1 (St.mk s o) Q) g_tree_parser_leaf_c1_sh := Unf.of _
theorem g_tree_parser_leaf_c2_sh : wpB C I (g_tree_parser_leaf.c2) (St.mk s o) Q =
 (demand ((buildN [V.d (.str []), V.d (.str []), V.d (.int .i64 0), V.d (.int .i64 0), V.d (.int .i64 0), V.d (.int .i64 0)] [(0, 1, (V.d (.str [114, 97, 116, 101]))), (2, 1, (s 9))]).map V.agg) (fun x1 =>
storeK (s 4) (cellsV x1) 6 o (fun m2 ob3 =>
Q .normal (St.mk (look [(0, s 0), (3, s 3), (4, s 4)]) (upd o m2 (some ob3)))))) := rfl
@[instance] theorem g_tree_parser_leaf_c2_u : UnfAt (wpB C I g_tree_parser_leaf.c2 (St.mk s o) Q) g_tree_parser_leaf_c2_sh := Unf.of _
theorem g_tree_parser_leaf_o3_sh : opsB C I (g_tree_parser_leaf.o3) (St.mk s o) K =
 (demand (pickV (s 54) (V.d (.bool true)) (s 63)) (fun x1 =>
K (St.mk (upd s 64 x1) o))) := rfl
@[instance] theorem g_tree_parser_leaf_o3_u : UnfAt (opsB C I g_tree_parser_leaf.o3 (St.mk s o) K) g_tree_parser_leaf_o3_sh := Unf.of _
theorem g_tree_parser_leaf_o2_sh : opsB C I (g_tree_parser_leaf.o2F R_o3) (St.mk s o) K =
 (guardK (s 54) false
 (demand (pickV (s 58) (s 62) (V.d (.bool false))) (fun x1 =>
opsB C I R_o3 (St.mk (look [(0, s 0), (4, s 4), (54, (V.d (D.bool false))), (63, x1)]) o) K))
 (opsB C I R_o3 (St.mk (look [(0, s 0), (4, s 4), (54, (V.d (D.bool true))), (63, (V.tup []))]) o) K)
 (opsB C I R_o3 (St.mk (look [(0, s 0), (4, s 4), (54, (V.tup [])), (63, (V.tup []))]) o) K)) := rfl
@[instance] theorem g_tree_parser_leaf_o2_u : UnfAt (opsB C I g_tree_parser_leaf.o2 (St.mk s o) K) g_tree_parser_leaf_o2_sh := Unf.of _
theorem g_tree_parser_leaf_o1_sh : opsB C I (g_tree_parser_leaf.o1F R_o2) (St.mk s o) K =
 (guardK (s 58) true
 (demand (faddrV 1 (s 3)) (fun x1 =>
demand (loadV o none x1) (fun x2 =>
callK C I (St.mk (upd (upd (upd (upd (upd s 58 (V.d (D.bool true))) 59 x1) 58 (V.d (D.bool true))) 60 x2) 58 (V.d (D.bool true))) o) (some 61) 158 [x2] (fun r3 or3 =>
demand (unV UnOp.not r3) (fun x4 =>
opsB C I R_o2 (St.mk (look [(0, s 0), (4, s 4), (54, s 54), (58, (V.d (D.bool true))), (62, x4)]) or3) K)))))
 (opsB C I R_o2 (St.mk (look [(0, s 0), (4, s 4), (54, s 54), (58, (V.d (D.bool false))), (62, (V.tup []))]) o) K)
 (opsB C I R_o2 (St.mk (look [(0, s 0), (4, s 4), (54, s 54), (58, (V.tup [])), (62, (V.tup []))]) o) K)) := rfl
@[instance] theorem g_tree_parser_leaf_o1_u : UnfAt (opsB C I g_tree_parser_leaf.o1 (St.mk s o) K) g_tree_parser_leaf_o1_sh := Unf.of _
theorem g_tree_parser_leaf_o0_sh : opsB C I (g_tree_parser_leaf.o0F R_o1) (St.mk s o) K =
 (guardK (s 54) false
 (demand (faddrV 0 (s 4)) (fun x1 =>
demand (loadV o none x1) (fun x2 =>
demand (binV BinOp.eql x2 (V.d (.str [110, 97, 109, 101]))) (fun x3 =>
opsB C I R_o1 (St.mk (look [(0, s 0), (3, s 3), (4, s 4), (54, (V.d (D.bool false))), (58, x3)]) o) K))))
 (opsB C I R_o1 (St.mk (look [(0, s 0), (3, s 3), (4, s 4), (54, (V.d (D.bool true))), (58, (V.tup []))]) o) K)
 (opsB C I R_o1 (St.mk (look [(0, s 0), (3, s 3), (4, s 4), (54, (V.tup [])), (58, (V.tup []))]) o) K)) := rfl
@[instance] theorem g_tree_parser_leaf_o0_u : UnfAt (opsB C I g_tree_parser_leaf.o0 (St.mk s o) K) g_tree_parser_leaf_o0_sh := Unf.of _
theorem g_tree_parser_leaf_c3_sh : wpB C I (g_tree_parser_leaf.c3) (St.mk s o) Q =
 (condK (s 64)
 (callK C I (St.mk (upd s 65 (s 0)) o) (some 66) 218 [(s 0), (V.d (.int .i64 2))] (fun r1 or1 =>
Q .ret (St.mk (look [(2, (V.d (.int .i64 0)))]) or1)))
 (Q .normal (St.mk s o))) := rfl
@[instance] theorem g_tree_parser_leaf_c3_u : UnfAt (wpB C I g_tree_parser_leaf.c3 (St.mk s o) Q) g_tree_parser_leaf_c3_sh := Unf.of _
theorem g_tree_parser_leaf_c4_sh : wpB C I (g_tree_parser_leaf.c4) (St.mk s o) Q =
 (demand (loadV o (some 6) (s 4)) (fun x1 =>
callK C I (St.mk (upd (upd s 74 (s 0)) 75 x1) o) (some 76) 222 [(s 0), x1] (fun r2 or2 =>
Q .ret (St.mk (look [(2, r2)]) or2)))) := rfl
@[instance] theorem g_tree_parser_leaf_c4_u : UnfAt (wpB C I g_tree_parser_leaf.c4 (St.mk s o) Q) g_tree_parser_leaf_c4_sh := Unf.of _
theorem g_tree_parser_leaf_c5_sh : wpB C I (g_tree_parser_leaf.c5F R_c4) (St.mk s o) Q =
 (demand (nilcV (s 0)) (fun x1 =>
demand (faddrV 2 x1) (fun x2 =>
demand (loadV o none x2) (fun x3 =>
demand (binV BinOp.add x3 (V.d (.int .i64 1))) (fun x4 =>
demand (nilcV (s 0)) (fun x5 =>
demand (faddrV 2 x5) (fun x6 =>
storeK x6 (cellsV x4) 1 o (fun m7 ob8 =>
wpB C I R_c4 (St.mk (look [(0, s 0), (4, s 4)]) (upd o m7 (some ob8))) Q)))))))) := rfl
@[instance] theorem g_tree_parser_leaf_c5_u : UnfAt (wpB C I g_tree_parser_leaf.c5 (St.mk s o) Q) g_tree_parser_leaf_c5_sh := Unf.of _
theorem g_tree_parser_leaf_c6_sh : wpB C I (g_tree_parser_leaf.c6F R_o0 R_c3 R_c5) (St.mk s o) Q =
 (demand (faddrV 0 (s 4)) (fun x1 =>
demand (loadV o none x1) (fun x2 =>
demand (binV BinOp.eql x2 (V.d (.str []))) (fun x3 =>
opsB C I R_o0 (St.mk (look [(0, s 0), (3, s 3), (4, s 4), (54, x3)]) o) (fun st => (seqK (fun st => wpB C I R_c3 st (seqK (fun st => wpB C I R_c5 st Q) Q)) (seqK (fun st => wpB C I R_c5 st Q) Q)) .normal (St.trim st [0, 4, 64] none)))))) := rfl
@[instance] theorem g_tree_parser_leaf_c6_u : UnfAt (wpB C I g_tree_parser_leaf.c6 (St.mk s o) Q) g_tree_parser_leaf_c6_sh := Unf.of _
theorem g_tree_parser_leaf_c7_sh : wpB C I (g_tree_parser_leaf.c7F R_c0 R_c1 R_c2 R_c6) (St.mk s o) Q =
 (demand ((buildN [V.d (.str []), V.d (.str []), V.d (.int .i64 0), V.d (.int .i64 0), V.d (.int .i64 0), V.d (.int .i64 0)] []).map V.agg) (fun x1 =>
(¬ I 4 ∧ Fresh (St.mk (upd s 13 x1) o) 4 (some 4) ∧ V.refsL 4 [V.d (.str []), V.d (.str []), V.d (.int .i64 0), V.d (.int .i64 0), V.d (.int .i64 0), V.d (.int .i64 0)] = false ∧
storeK (V.ptr 4 0) (cellsV x1) 6 (upd o 4 (some (Ob.box [V.d (.str []), V.d (.str []), V.d (.int .i64 0), V.d (.int .i64 0), V.d (.int .i64 0), V.d (.int .i64 0)]))) (fun m2 ob3 =>
demand (faddrV 0 (s 3)) (fun x4 =>
demand (loadV (upd (upd o 4 (some (Ob.box [V.d (.str []), V.d (.str []), V.d (.int .i64 0), V.d (.int .i64 0), V.d (.int .i64 0), V.d (.int .i64 0)]))) m2 (some ob3)) none x4) (fun x5 =>
demand (binV BinOp.eql x5 (V.d (.int .i64 2))) (fun x6 =>
condK x6
 (demand (faddrV 1 (s 3)) (fun x7 =>
demand (loadV (upd (upd o 4 (some (Ob.box [V.d (.str []), V.d (.str []), V.d (.int .i64 0), V.d (.int .i64 0), V.d (.int .i64 0), V.d (.int .i64 0)]))) m2 (some ob3)) none x7) (fun x8 =>
callK C I (St.mk (upd (upd (look [(0, s 0), (3, s 3), (4, (V.ptr 4 0)), (15, x5), (16, x6)]) 19 x7) 20 x8) (upd (upd o 4 (some (Ob.box [V.d (.str []), V.d (.str []), V.d (.int .i64 0), V.d (.int .i64 0), V.d (.int .i64 0), V.d (.int .i64 0)]))) m2 (some ob3))) (some 21) 70 [x8] (fun r9 or9 =>
demand (extV r9 0) (fun x10 =>
demand (extV r9 1) (fun x11 =>
wpB C I R_c0 (St.mk (look [(0, s 0), (3, s 3), (4, (V.ptr 4 0)), (5, x10)]) or9) (blockK 0 [0, 3, 4] none (seqK (fun st => wpB C I R_c6 st Q) Q))))))))
 (demand (binV BinOp.eql x5 (V.d (.int .i64 3))) (fun x12 =>
condK x12
 (demand (faddrV 1 (s 3)) (fun x13 =>
demand (loadV (upd (upd o 4 (some (Ob.box [V.d (.str []), V.d (.str []), V.d (.int .i64 0), V.d (.int .i64 0), V.d (.int .i64 0), V.d (.int .i64 0)]))) m2 (some ob3)) none x13) (fun x14 =>
callK C I (St.mk (upd (upd (look [(0, s 0), (3, s 3), (4, (V.ptr 4 0)), (15, x5), (26, x12)]) 29 x13) 30 x14) (upd (upd o 4 (some (Ob.box [V.d (.str []), V.d (.str []), V.d (.int .i64 0), V.d (.int .i64 0), V.d (.int .i64 0), V.d (.int .i64 0)]))) m2 (some ob3))) (some 31) 51 [x14] (fun r15 or15 =>
demand (extV r15 0) (fun x16 =>
demand (extV r15 1) (fun x17 =>
wpB C I R_c1 (St.mk (look [(0, s 0), (3, s 3), (4, (V.ptr 4 0)), (7, x16)]) or15) (blockK 0 [0, 3, 4] none (seqK (fun st => wpB C I R_c6 st Q) Q))))))))
 (demand (binV BinOp.eql x5 (V.d (.int .i64 4))) (fun x18 =>
condK x18
 (demand (faddrV 1 (s 3)) (fun x19 =>
demand (loadV (upd (upd o 4 (some (Ob.box [V.d (.str []), V.d (.str []), V.d (.int .i64 0), V.d (.int .i64 0), V.d (.int .i64 0), V.d (.int .i64 0)]))) m2 (some ob3)) none x19) (fun x20 =>
callK C I (St.mk (upd (upd (look [(0, s 0), (3, s 3), (4, (V.ptr 4 0)), (15, x5), (36, x18)]) 39 x19) 40 x20) (upd (upd o 4 (some (Ob.box [V.d (.str []), V.d (.str []), V.d (.int .i64 0), V.d (.int .i64 0), V.d (.int .i64 0), V.d (.int .i64 0)]))) m2 (some ob3))) (some 41) 92 [x20] (fun r21 or21 =>
demand (extV r21 0) (fun x22 =>
demand (extV r21 1) (fun x23 =>
wpB C I R_c2 (St.mk (look [(0, s 0), (3, s 3), (4, (V.ptr 4 0)), (9, x22)]) or21) (blockK 0 [0, 3, 4] none (seqK (fun st => wpB C I R_c6 st Q) Q))))))))
 (demand (binV BinOp.eql x5 (V.d (.int .i64 1))) (fun x24 =>
condK x24
 (demand (faddrV 1 (s 3)) (fun x25 =>
demand (loadV (upd (upd o 4 (some (Ob.box [V.d (.str []), V.d (.str []), V.d (.int .i64 0), V.d (.int .i64 0), V.d (.int .i64 0), V.d (.int .i64 0)]))) m2 (some ob3)) none x25) (fun x26 =>
demand ((buildN [V.d (.str []), V.d (.str []), V.d (.int .i64 0), V.d (.int .i64 0), V.d (.int .i64 0), V.d (.int .i64 0)] [(0, 1, (V.d (.str [110, 97, 109, 101]))), (1, 1, x26)]).map V.agg) (fun x27 =>
storeK (V.ptr 4 0) (cellsV x27) 6 (upd (upd o 4 (some (Ob.box [V.d (.str []), V.d (.str []), V.d (.int .i64 0), V.d (.int .i64 0), V.d (.int .i64 0), V.d (.int .i64 0)]))) m2 (some ob3)) (fun m28 ob29 =>
wpB C I R_c6 (St.mk (look [(0, s 0), (3, s 3), (4, (V.ptr 4 0))]) (upd (upd (upd o 4 (some (Ob.box [V.d (.str []), V.d (.str []), V.d (.int .i64 0), V.d (.int .i64 0), V.d (.int .i64 0), V.d (.int .i64 0)]))) m2 (some ob3)) m28 (some ob29))) Q)))))
 (wpB C I R_c6 (St.mk (look [(0, s 0), (3, s 3), (4, (V.ptr 4 0))]) (upd (upd o 4 (some (Ob.box [V.d (.str []), V.d (.str []), V.d (.int .i64 0), V.d (.int .i64 0), V.d (.int .i64 0), V.d (.int .i64 0)]))) m2 (some ob3))) Q)))))))))))))) := rfl
@[instance] theorem g_tree_parser_leaf_c7_u : UnfAt (wpB C I g_tree_parser_leaf.c7 (St.mk s o) Q) g_tree_parser_leaf_c7_sh := Unf.of _
theorem g_tree_parser_leaf_code_sh : wpB C I (g_tree_parser_leaf.codeF R_c7) (St.mk s o) Q =
 (callK C I (St.mk (upd (look [(0, s 0)]) 11 (s 0)) o) (some 12) 217 [(s 0)] (fun r1 or1 =>
(¬ I 3 ∧ Fresh (St.mk (upd (upd (look [(0, s 0)]) 11 (s 0)) 12 r1) or1) 3 (some 3) ∧ V.refsL 3 [V.d (.int .i64 0), V.d (.str []), V.d (.int .i64 0)] = false ∧
storeK (V.ptr 3 0) (cellsV r1) 3 (upd or1 3 (some (Ob.box [V.d (.int .i64 0), V.d (.str []), V.d (.int .i64 0)]))) (fun m2 ob3 =>
wpB C I R_c7 (St.mk (look [(0, s 0), (3, (V.ptr 3 0))]) (upd (upd or1 3 (some (Ob.box [V.d (.int .i64 0), V.d (.str []), V.d (.int .i64 0)]))) m2 (some ob3))) Q)))) := rfl
@[instance] theorem g_tree_parser_leaf_code_u : UnfAt (wpB C I g_tree_parser_leaf.code (St.mk s o) Q) g_tree_parser_leaf_code_sh := Unf.of _
theorem g_internal_stringslite_HasSuffix_o1_sh : opsB C I (g_internal_stringslite_HasSuffix.o1) (St.mk s o) K =
 (demand (pickV (s 10) (s 19) (V.d (.bool false))) (fun x1 =>
K (St.mk (upd (upd s 20 x1) 4 x1) o))) := rfl
@[instance] theorem g_internal_stringslite_HasSuffix_o1_u : UnfAt (opsB C I g_internal_stringslite_HasSuffix.o1 (St.mk s o) K) g_internal_stringslite_HasSuffix_o1_sh := Unf.of _
theorem g_internal_stringslite_HasSuffix_o0_sh : opsB C I (g_internal_stringslite_HasSuffix.o0F R_o1) (St.mk s o) K =
 (guardK (s 10) true
 (demand (lenSV (s 0)) (fun x1 =>
demand (lenSV (s 1)) (fun x2 =>
demand (binV BinOp.sub x1 x2) (fun x3 =>
demand (slcSV (s 0) (some x3) none) (fun x4 =>
demand (binV BinOp.eql x4 (s 1)) (fun x5 =>
opsB C I R_o1 (St.mk (look [(10, (V.d (D.bool true))), (19, x5)]) (looko ([].map fun n => (n, o n)))) K))))))
 (opsB C I R_o1 (St.mk (look [(10, (V.d (D.bool false))), (19, (V.tup []))]) (looko ([].map fun n => (n, o n)))) K)
 (opsB C I R_o1 (St.mk (look [(10, (V.tup [])), (19, (V.tup []))]) (looko ([].map fun n => (n, o n)))) K)) := rfl
@[instance] theorem g_internal_stringslite_HasSuffix_o0_u : UnfAt (opsB C I g_internal_stringslite_HasSuffix.o0 (St.mk s o) K) g_internal_stringslite_HasSuffix_o0_sh := Unf.of _
theorem g_internal_stringslite_HasSuffix_c0_sh : wpB C I (g_internal_stringslite_HasSuffix.c0) (St.mk s o) Q =
 (Q .ret (St.mk s o)) := rfl
@[instance] theorem g_internal_stringslite_HasSuffix_c0_u : UnfAt (wpB C I g_internal_stringslite_HasSuffix.c0 (St.mk s o) Q) g_internal_stringslite_HasSuffix_c0_sh := Unf.of _
theorem g_internal_stringslite_HasSuffix_code_sh : wpB C I (g_internal_stringslite_HasSuffix.codeF R_o0 R_c0) (St.mk s o) Q =
 (demand (lenSV (s 0)) (fun x1 =>
demand (lenSV (s 1)) (fun x2 =>
demand (binV BinOp.geq x1 x2) (fun x3 =>
opsB C I R_o0 (St.mk (look [(0, s 0), (1, s 1), (10, x3)]) (looko ([].map fun n => (n, o n)))) (fun st => (seqK (fun st => wpB C I R_c0 st Q) Q) .normal (St.trim st [4] (some []))))))) := rfl
@[instance] theorem g_internal_stringslite_HasSuffix_code_u : UnfAt (wpB C I g_internal_stringslite_HasSuffix.code (St.mk s o) Q) g_internal_stringslite_HasSuffix_code_sh := Unf.of _

end Pay
