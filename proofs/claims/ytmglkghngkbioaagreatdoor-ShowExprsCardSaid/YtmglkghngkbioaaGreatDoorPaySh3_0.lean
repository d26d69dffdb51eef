/- What the code of the functions comes to, without slots: an equation for each part; no condition. -/
import Derived.Test.YtmglkghngkbioaaGreatDoorPayBb0
import Derived.Test.YtmglkghngkbioaaGreatDoorPayCode3_0
set_option maxRecDepth 20000
set_option maxHeartbeats 400000
set_option linter.unusedVariables false
namespace Pay
open Go
variable {R_c0 R_c1 R_c2 R_c3 R_c4 R_c5 R_c6 R_c7 R_c8 : ACode} {R_o0 R_o1 R_o2 R_o3 R_o4 R_o5 R_o6 R_o7 R_o8 R_o9 R_o10 R_o11 R_o12 R_o13 R_o14 R_o15 : List AOper} {C : Ctx} {I : Nat → Prop} {s : Nat → V} {o : Nat → Option Ob} {K : St → Prop} {Q : Ex → St → Prop}
theorem g_law09_ShowExprs_o1_sh : opsB C I (g_law09_ShowExprs.o1) (St.mk s o) K =
 (demand (pickV (s 27) (V.d (.bool true)) (s 31)) (fun x1 =>
K (St.mk (upd s 32 x1) o))) := rfl
@[instance] theorem g_law09_ShowExprs_o1_u : UnfAt (opsB C I g_law09_ShowExprs.o1 (St.mk s o) K) g_law09_ShowExprs_o1_sh := Unf.of _
theorem g_law09_ShowExprs_o0_sh : opsB C I (g_law09_ShowExprs.o0F R_o1) (St.mk s o) K =
 (guardK (s 27) false
 (demand (faddrV 1 (s 5)) (fun x1 =>
demand (loadV o none x1) (fun x2 =>
demand (lenV o x2) (fun x3 =>
demand (binV BinOp.eql x3 (V.d (.int .i64 0))) (fun x4 =>
opsB C I R_o1 (St.mk (look [(1, s 1), (5, s 5), (27, (V.d (D.bool false))), (31, x4)]) (looko ([5].map fun n => (n, o n)))) K)))))
 (opsB C I R_o1 (St.mk (look [(1, s 1), (5, s 5), (27, (V.d (D.bool true))), (31, (V.tup []))]) (looko ([5].map fun n => (n, o n)))) K)
 (opsB C I R_o1 (St.mk (look [(1, s 1), (5, s 5), (27, (V.tup [])), (31, (V.tup []))]) (looko ([5].map fun n => (n, o n)))) K)) := rfl
@[instance] theorem g_law09_ShowExprs_o0_u : UnfAt (opsB C I g_law09_ShowExprs.o0 (St.mk s o) K) g_law09_ShowExprs_o0_sh := Unf.of _
theorem g_law09_ShowExprs_o3_sh : opsB C I (g_law09_ShowExprs.o3) (St.mk s o) K =
 (demand (pickV (s 37) (s 38) (V.d (.bool false))) (fun x1 =>
K (St.mk (upd (upd s 39 x1) 4 x1) o))) := rfl
@[instance] theorem g_law09_ShowExprs_o3_u : UnfAt (opsB C I g_law09_ShowExprs.o3 (St.mk s o) K) g_law09_ShowExprs_o3_sh := Unf.of _
theorem g_law09_ShowExprs_o2_sh : opsB C I (g_law09_ShowExprs.o2F R_o3) (St.mk s o) K =
 (guardK (s 37) true
 (callK C I (St.mk (upd s 37 (V.d (D.bool true))) o) (some 38) 172 [] (fun r1 or1 =>
opsB C I R_o3 (St.mk (look [(37, (V.d (D.bool true))), (38, r1)]) (looko ([].map fun n => (n, or1 n)))) K))
 (opsB C I R_o3 (St.mk (look [(37, (V.d (D.bool false))), (38, (V.tup []))]) (looko ([].map fun n => (n, o n)))) K)
 (opsB C I R_o3 (St.mk (look [(37, (V.tup [])), (38, (V.tup []))]) (looko ([].map fun n => (n, o n)))) K)) := rfl
@[instance] theorem g_law09_ShowExprs_o2_u : UnfAt (opsB C I g_law09_ShowExprs.o2 (St.mk s o) K) g_law09_ShowExprs_o2_sh := Unf.of _
theorem g_law09_ShowExprs_c0_sh : wpB C I (g_law09_ShowExprs.c0) (St.mk s o) Q =
 (Q .ret (St.mk s o)) := rfl
@[instance] theorem g_law09_ShowExprs_c0_u : UnfAt (wpB C I g_law09_ShowExprs.c0 (St.mk s o) Q) g_law09_ShowExprs_c0_sh := Unf.of _
theorem g_law09_ShowExprs_c1_sh : wpB C I (g_law09_ShowExprs.c1F R_o2 R_c0) (St.mk s o) Q =
 (condK (s 32)
 (demand (faddrV 1 (s 5)) (fun x1 =>
demand (loadV o none x1) (fun x2 =>
demand (lenV o x2) (fun x3 =>
demand (binV BinOp.eql x3 (V.d (.int .i64 0))) (fun x4 =>
opsB C I R_o2 (St.mk (look [(37, x4)]) (looko ([].map fun n => (n, o n)))) (fun st => (seqK (fun st => wpB C I R_c0 st Q) Q) .normal (St.trim st [4] (some []))))))))
 (Q .normal (St.mk s o))) := rfl
@[instance] theorem g_law09_ShowExprs_c1_u : UnfAt (wpB C I g_law09_ShowExprs.c1 (St.mk s o) Q) g_law09_ShowExprs_c1_sh := Unf.of _
theorem g_law09_ShowExprs_o15_sh : opsB C I (g_law09_ShowExprs.o15) (St.mk s o) K =
 (demand (pickV (s 98) (s 99) (V.d (.bool false))) (fun x1 =>
K (St.mk (upd (upd s 100 x1) 4 x1) o))) := rfl
@[instance] theorem g_law09_ShowExprs_o15_u : UnfAt (opsB C I g_law09_ShowExprs.o15 (St.mk s o) K) g_law09_ShowExprs_o15_sh := Unf.of _
theorem g_law09_ShowExprs_o14_sh : opsB C I (g_law09_ShowExprs.o14F R_o15) (St.mk s o) K =
 (guardK (s 98) true
 (callK C I (St.mk (upd s 98 (V.d (D.bool true))) o) (some 99) 172 [] (fun r1 or1 =>
opsB C I R_o15 (St.mk (look [(98, (V.d (D.bool true))), (99, r1)]) (looko ([].map fun n => (n, or1 n)))) K))
 (opsB C I R_o15 (St.mk (look [(98, (V.d (D.bool false))), (99, (V.tup []))]) (looko ([].map fun n => (n, o n)))) K)
 (opsB C I R_o15 (St.mk (look [(98, (V.tup [])), (99, (V.tup []))]) (looko ([].map fun n => (n, o n)))) K)) := rfl
@[instance] theorem g_law09_ShowExprs_o14_u : UnfAt (opsB C I g_law09_ShowExprs.o14 (St.mk s o) K) g_law09_ShowExprs_o14_sh := Unf.of _
theorem g_law09_ShowExprs_o13_sh : opsB C I (g_law09_ShowExprs.o13F R_o14) (St.mk s o) K =
 (demand (pickV (s 89) (s 96) (V.d (.bool false))) (fun x1 =>
opsB C I R_o14 (St.mk (look [(98, x1)]) (looko ([].map fun n => (n, o n)))) K)) := rfl
@[instance] theorem g_law09_ShowExprs_o13_u : UnfAt (opsB C I g_law09_ShowExprs.o13 (St.mk s o) K) g_law09_ShowExprs_o13_sh := Unf.of _
theorem g_law09_ShowExprs_o12_sh : opsB C I (g_law09_ShowExprs.o12F R_o13) (St.mk s o) K =
 (guardK (s 89) true
 (demand (faddrV 1 (s 10)) (fun x1 =>
demand (loadV o none x1) (fun x2 =>
demand (lenV o x2) (fun x3 =>
demand (faddrV 1 (s 5)) (fun x4 =>
demand (loadV o none x4) (fun x5 =>
demand (lenV o x5) (fun x6 =>
demand (binV BinOp.leq x3 x6) (fun x7 =>
opsB C I R_o13 (St.mk (look [(89, (V.d (D.bool true))), (96, x7)]) (looko ([].map fun n => (n, o n)))) K))))))))
 (opsB C I R_o13 (St.mk (look [(89, (V.d (D.bool false))), (96, (V.tup []))]) (looko ([].map fun n => (n, o n)))) K)
 (opsB C I R_o13 (St.mk (look [(89, (V.tup [])), (96, (V.tup []))]) (looko ([].map fun n => (n, o n)))) K)) := rfl
@[instance] theorem g_law09_ShowExprs_o12_u : UnfAt (opsB C I g_law09_ShowExprs.o12 (St.mk s o) K) g_law09_ShowExprs_o12_sh := Unf.of _
theorem g_law09_ShowExprs_o11_sh : opsB C I (g_law09_ShowExprs.o11F R_o12) (St.mk s o) K =
 (demand (pickV (s 83) (s 87) (V.d (.bool false))) (fun x1 =>
opsB C I R_o12 (St.mk (look [(5, s 5), (10, s 10), (89, x1)]) (looko ([5, 10].map fun n => (n, o n)))) K)) := rfl
@[instance] theorem g_law09_ShowExprs_o11_u : UnfAt (opsB C I g_law09_ShowExprs.o11 (St.mk s o) K) g_law09_ShowExprs_o11_sh := Unf.of _
theorem g_law09_ShowExprs_o10_sh : opsB C I (g_law09_ShowExprs.o10F R_o11) (St.mk s o) K =
 (guardK (s 83) true
 (demand (faddrV 0 (s 10)) (fun x1 =>
demand (loadV o none x1) (fun x2 =>
demand (lenV o x2) (fun x3 =>
demand (binV BinOp.eql x3 (V.d (.int .i64 1))) (fun x4 =>
opsB C I R_o11 (St.mk (look [(5, s 5), (10, s 10), (83, (V.d (D.bool true))), (87, x4)]) (looko ([5, 10].map fun n => (n, o n)))) K)))))
 (opsB C I R_o11 (St.mk (look [(5, s 5), (10, s 10), (83, (V.d (D.bool false))), (87, (V.tup []))]) (looko ([5, 10].map fun n => (n, o n)))) K)
 (opsB C I R_o11 (St.mk (look [(5, s 5), (10, s 10), (83, (V.tup [])), (87, (V.tup []))]) (looko ([5, 10].map fun n => (n, o n)))) K)) := rfl
@[instance] theorem g_law09_ShowExprs_o10_u : UnfAt (opsB C I g_law09_ShowExprs.o10 (St.mk s o) K) g_law09_ShowExprs_o10_sh := Unf.of _
theorem g_law09_ShowExprs_o9_sh : opsB C I (g_law09_ShowExprs.o9F R_o10) (St.mk s o) K =
 (demand (pickV (s 78) (s 81) (V.d (.bool false))) (fun x1 =>
opsB C I R_o10 (St.mk (look [(5, s 5), (10, s 10), (83, x1)]) (looko ([5, 10].map fun n => (n, o n)))) K)) := rfl
@[instance] theorem g_law09_ShowExprs_o9_u : UnfAt (opsB C I g_law09_ShowExprs.o9 (St.mk s o) K) g_law09_ShowExprs_o9_sh := Unf.of _
theorem g_law09_ShowExprs_o8_sh : opsB C I (g_law09_ShowExprs.o8F R_o9) (St.mk s o) K =
 (guardK (s 78) true
 (demand (binV BinOp.eql (s 13) (s 8)) (fun x1 =>
opsB C I R_o9 (St.mk (look [(5, s 5), (10, s 10), (78, (V.d (D.bool true))), (81, x1)]) (looko ([5, 10].map fun n => (n, o n)))) K))
 (opsB C I R_o9 (St.mk (look [(5, s 5), (10, s 10), (78, (V.d (D.bool false))), (81, (V.tup []))]) (looko ([5, 10].map fun n => (n, o n)))) K)
 (opsB C I R_o9 (St.mk (look [(5, s 5), (10, s 10), (78, (V.tup [])), (81, (V.tup []))]) (looko ([5, 10].map fun n => (n, o n)))) K)) := rfl
@[instance] theorem g_law09_ShowExprs_o8_u : UnfAt (opsB C I g_law09_ShowExprs.o8 (St.mk s o) K) g_law09_ShowExprs_o8_sh := Unf.of _
theorem g_law09_ShowExprs_o7_sh : opsB C I (g_law09_ShowExprs.o7F R_o8) (St.mk s o) K =
 (demand (pickV (s 74) (s 76) (V.d (.bool false))) (fun x1 =>
opsB C I R_o8 (St.mk (look [(5, s 5), (8, s 8), (10, s 10), (13, s 13), (78, x1)]) (looko ([5, 10].map fun n => (n, o n)))) K)) := rfl
@[instance] theorem g_law09_ShowExprs_o7_u : UnfAt (opsB C I g_law09_ShowExprs.o7 (St.mk s o) K) g_law09_ShowExprs_o7_sh := Unf.of _
theorem g_law09_ShowExprs_o6_sh : opsB C I (g_law09_ShowExprs.o6F R_o7) (St.mk s o) K =
 (guardK (s 74) true
 (demand (binV BinOp.eql (s 14) (V.d (.int .i64 0))) (fun x1 =>
opsB C I R_o7 (St.mk (look [(5, s 5), (8, s 8), (10, s 10), (13, s 13), (74, (V.d (D.bool true))), (76, x1)]) (looko ([5, 10].map fun n => (n, o n)))) K))
 (opsB C I R_o7 (St.mk (look [(5, s 5), (8, s 8), (10, s 10), (13, s 13), (74, (V.d (D.bool false))), (76, (V.tup []))]) (looko ([5, 10].map fun n => (n, o n)))) K)
 (opsB C I R_o7 (St.mk (look [(5, s 5), (8, s 8), (10, s 10), (13, s 13), (74, (V.tup [])), (76, (V.tup []))]) (looko ([5, 10].map fun n => (n, o n)))) K)) := rfl
@[instance] theorem g_law09_ShowExprs_o6_u : UnfAt (opsB C I g_law09_ShowExprs.o6 (St.mk s o) K) g_law09_ShowExprs_o6_sh := Unf.of _
theorem g_law09_ShowExprs_o5_sh : opsB C I (g_law09_ShowExprs.o5F R_o6) (St.mk s o) K =
 (demand (pickV (s 70) (s 72) (V.d (.bool false))) (fun x1 =>
opsB C I R_o6 (St.mk (look [(5, s 5), (8, s 8), (10, s 10), (13, s 13), (14, s 14), (74, x1)]) (looko ([5, 10].map fun n => (n, o n)))) K)) := rfl
@[instance] theorem g_law09_ShowExprs_o5_u : UnfAt (opsB C I g_law09_ShowExprs.o5 (St.mk s o) K) g_law09_ShowExprs_o5_sh := Unf.of _
theorem g_law09_ShowExprs_o4_sh : opsB C I (g_law09_ShowExprs.o4F R_o5) (St.mk s o) K =
 (guardK (s 70) true
 (demand (binV BinOp.eql (s 12) (V.d (.int .i64 0))) (fun x1 =>
opsB C I R_o5 (St.mk (look [(5, s 5), (8, s 8), (10, s 10), (13, s 13), (14, s 14), (70, (V.d (D.bool true))), (72, x1)]) (looko ([5, 10].map fun n => (n, o n)))) K))
 (opsB C I R_o5 (St.mk (look [(5, s 5), (8, s 8), (10, s 10), (13, s 13), (14, s 14), (70, (V.d (D.bool false))), (72, (V.tup []))]) (looko ([5, 10].map fun n => (n, o n)))) K)
 (opsB C I R_o5 (St.mk (look [(5, s 5), (8, s 8), (10, s 10), (13, s 13), (14, s 14), (70, (V.tup [])), (72, (V.tup []))]) (looko ([5, 10].map fun n => (n, o n)))) K)) := rfl
@[instance] theorem g_law09_ShowExprs_o4_u : UnfAt (opsB C I g_law09_ShowExprs.o4 (St.mk s o) K) g_law09_ShowExprs_o4_sh := Unf.of _
theorem g_law09_ShowExprs_c2_sh : wpB C I (g_law09_ShowExprs.c2) (St.mk s o) Q =
 (Q .ret (St.mk s o)) := rfl
@[instance] theorem g_law09_ShowExprs_c2_u : UnfAt (wpB C I g_law09_ShowExprs.c2 (St.mk s o) Q) g_law09_ShowExprs_c2_sh := Unf.of _
theorem g_law09_ShowExprs_c3_sh : wpB C I (g_law09_ShowExprs.c3F R_o4 R_c2) (St.mk s o) Q =
 (demand (binV BinOp.eql (s 9) (V.d (.int .i64 0))) (fun x1 =>
opsB C I R_o4 (St.mk (look [(5, s 5), (8, s 8), (10, s 10), (12, s 12), (13, s 13), (14, s 14), (70, x1)]) (looko ([5, 10].map fun n => (n, o n)))) (fun st => (seqK (fun st => wpB C I R_c2 st Q) Q) .normal (St.trim st [4] (some []))))) := rfl
@[instance] theorem g_law09_ShowExprs_c3_u : UnfAt (wpB C I g_law09_ShowExprs.c3 (St.mk s o) Q) g_law09_ShowExprs_c3_sh := Unf.of _
theorem g_law09_ShowExprs_c4_sh : wpB C I (g_law09_ShowExprs.c4F R_c3) (St.mk s o) Q =
 (demand (loadV o (some 2) (s 10)) (fun x1 =>
demand (faddrV 1 (s 10)) (fun x2 =>
demand (loadV o none x2) (fun x3 =>
demand (lenV o x3) (fun x4 =>
demand (binV BinOp.sub x4 (V.d (.int .i64 1))) (fun x5 =>
callK C I (St.mk (upd (upd (upd (upd (upd s 60 x1) 61 x2) 62 x3) 63 x4) 64 x5) o) (some 65) 175 [x1, x5] (fun r6 or6 =>
demand (extV r6 0) (fun x7 =>
demand (extV r6 1) (fun x8 =>
wpB C I R_c3 (St.mk (look [(5, s 5), (8, s 8), (9, s 9), (10, s 10), (12, s 12), (13, x7), (14, x8)]) (looko ([5, 10].map fun n => (n, or6 n)))) Q))))))))) := rfl
@[instance] theorem g_law09_ShowExprs_c4_u : UnfAt (wpB C I g_law09_ShowExprs.c4 (St.mk s o) Q) g_law09_ShowExprs_c4_sh := Unf.of _
theorem g_law09_ShowExprs_c5_sh : wpB C I (g_law09_ShowExprs.c5F R_c4) (St.mk s o) Q =
 (demand (binV BinOp.add (V.d (.str [108, 101, 116, 32, 120, 32, 61, 32])) (s 8)) (fun x1 =>
demand (binV BinOp.add x1 (V.d (.str [59]))) (fun x2 =>
callK C I (St.mk (upd (upd (upd s 52 (s 8)) 53 x1) 54 x2) o) (some 55) 144 [x2] (fun r3 or3 =>
demand (extV r3 0) (fun x4 =>
demand (extV r3 1) (fun x5 =>
demand (extV r3 2) (fun x6 =>
(¬ I 10 ∧ Fresh (St.mk (upd (upd (upd (upd (upd (upd (upd (upd s 52 (s 8)) 53 x1) 54 x2) 55 r3) 51 r3) 56 x4) 57 x5) 58 x6) or3) 10 (some 10) ∧ V.refsL 10 [V.cap0, V.cap0] = false ∧
storeK (V.ptr 10 0) (cellsV x4) 2 (upd or3 10 (some (Ob.box [V.cap0, V.cap0]))) (fun m7 ob8 =>
wpB C I R_c4 (St.mk (look [(5, s 5), (8, s 8), (9, s 9), (10, (V.ptr 10 0)), (12, x6)]) (looko ([5, 10].map fun n => (n, (upd (upd or3 10 (some (Ob.box [V.cap0, V.cap0]))) m7 (some ob8)) n)))) Q))))))))) := rfl
@[instance] theorem g_law09_ShowExprs_c5_u : UnfAt (wpB C I g_law09_ShowExprs.c5 (St.mk s o) Q) g_law09_ShowExprs_c5_sh := Unf.of _
theorem g_law09_ShowExprs_c6_sh : wpB C I (g_law09_ShowExprs.c6F R_c5) (St.mk s o) Q =
 ((s 41) = V.undef ∧ (demand (loadV o (some 2) (s 5)) (fun x1 => quietV o (x1 :: [(s 5)]) ∧
(s 42) = V.undef ∧ (quietV o ((s 1) :: [(s 1)]) ∧
(s 43) = V.undef ∧ (demand (convV IntKind.i64 (s 1)) (fun x3 => quietV o (x3 :: [(s 1)]) ∧
(s 44) = V.undef ∧ (demand (faddrV 1 (s 5)) (fun x4 => quietV o (x4 :: [(s 5)]) ∧
(s 45) = V.undef ∧ (demand (loadV o none x4) (fun x5 => quietV o (x5 :: [x4]) ∧
(s 46) = V.undef ∧ (demand (lenV o x5) (fun x6 => quietV o (x6 :: [x5]) ∧
(s 47) = V.undef ∧ (demand (binV BinOp.rem x3 x6) (fun x7 => quietV o (x7 :: [x3, x6]) ∧
(s 48) = V.undef ∧ (∃ x8, SoundAt C 175 ⟨[x1, x7], fun _ => none⟩ ⟨x8, fun _ => none⟩ ∧ (∀ n, V.refs n x8 = false) ∧ quietV o (x8 :: [x1, x7]) ∧
(s 40) = V.undef ∧ (quietV o (x8 :: [x8]) ∧
(s 49) = V.undef ∧ (demand (extV x8 0) (fun x10 => quietV o (x10 :: [x8]) ∧
(s 50) = V.undef ∧ (demand (extV x8 1) (fun x11 => quietV o (x11 :: [x8]) ∧
(s 8) = V.undef ∧ (quietV o (x10 :: [x10]) ∧
(s 9) = V.undef ∧ (quietV o (x11 :: [x11]) ∧
wpB C I R_c5 (St.mk (look [(5, s 5), (8, x10), (9, x11)]) (looko ([5].map fun n => (n, o n)))) Q)))))))))))))))))))))) := rfl
@[instance] theorem g_law09_ShowExprs_c6_u : UnfAt (wpB C I g_law09_ShowExprs.c6 (St.mk s o) Q) g_law09_ShowExprs_c6_sh := Unf.of _
theorem g_law09_ShowExprs_c7_sh : wpB C I (g_law09_ShowExprs.c7F R_o0 R_c1 R_c6) (St.mk s o) Q =
 (demand (binV BinOp.neq (s 7) (V.d (.int .i64 0))) (fun x1 =>
opsB C I R_o0 (St.mk (look [(1, s 1), (5, s 5), (27, x1)]) (looko ([5].map fun n => (n, o n)))) (fun st => (seqK (fun st => wpB C I R_c1 st (seqK (fun st => wpB C I R_c6 st Q) Q)) (seqK (fun st => wpB C I R_c6 st Q) Q)) .normal (St.trim st [1, 5, 32] (some [5]))))) := rfl
@[instance] theorem g_law09_ShowExprs_c7_u : UnfAt (wpB C I g_law09_ShowExprs.c7 (St.mk s o) Q) g_law09_ShowExprs_c7_sh := Unf.of _
theorem g_law09_ShowExprs_c8_sh : wpB C I (g_law09_ShowExprs.c8F R_c7) (St.mk s o) Q =
 (callK C I (St.mk (upd s 20 (s 0)) o) (some 21) 144 [(s 0)] (fun r1 or1 =>
demand (extV r1 0) (fun x2 =>
demand (extV r1 1) (fun x3 =>
demand (extV r1 2) (fun x4 =>
(¬ I 5 ∧ Fresh (St.mk (upd (upd (upd (upd (upd (upd s 20 (s 0)) 21 r1) 19 r1) 22 x2) 23 x3) 24 x4) or1) 5 (some 5) ∧ V.refsL 5 [V.cap0, V.cap0] = false ∧
storeK (V.ptr 5 0) (cellsV x2) 2 (upd or1 5 (some (Ob.box [V.cap0, V.cap0]))) (fun m5 ob6 =>
wpB C I R_c7 (St.mk (look [(1, s 1), (5, (V.ptr 5 0)), (7, x4)]) (looko ([5].map fun n => (n, (upd (upd or1 5 (some (Ob.box [V.cap0, V.cap0]))) m5 (some ob6)) n)))) Q))))))) := rfl
@[instance] theorem g_law09_ShowExprs_c8_u : UnfAt (wpB C I g_law09_ShowExprs.c8 (St.mk s o) Q) g_law09_ShowExprs_c8_sh := Unf.of _
theorem g_law09_ShowExprs_code_sh : wpB C I (g_law09_ShowExprs.codeF R_c8) (St.mk s o) Q =
 (demand (lenSV (s 0)) (fun x1 =>
demand (binV BinOp.gtr x1 (V.d (.int .i64 400))) (fun x2 =>
condK x2
 (callK C I (St.mk (look [(0, s 0), (1, s 1), (17, x2)]) (looko ([].map fun n => (n, o n)))) (some 18) 172 [] (fun r3 or3 =>
Q .ret (St.mk (look [(4, r3)]) (looko ([].map fun n => (n, or3 n))))))
 (wpB C I R_c8 (St.mk (look [(0, s 0), (1, s 1), (17, x2)]) (looko ([].map fun n => (n, o n)))) Q)))) := rfl
@[instance] theorem g_law09_ShowExprs_code_u : UnfAt (wpB C I g_law09_ShowExprs.code (St.mk s o) Q) g_law09_ShowExprs_code_sh := Unf.of _

end Pay
